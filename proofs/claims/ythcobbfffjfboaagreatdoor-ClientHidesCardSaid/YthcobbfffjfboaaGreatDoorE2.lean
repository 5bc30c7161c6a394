/- Loads and stores. -/
import Derived.Test.YthcobbfffjfboaaGreatDoorE1
import Derived.Laws.IdiomCopy
import Derived.IntWalk
import Derived.Orders
set_option linter.unusedVariables false
set_option linter.unusedSimpArgs false
set_option linter.unusedSectionVars false
namespace Abs
open Go
section
variable {A:zx} {D:Nat -> Prop} {G:Gh} {ρ:Nat -> Option Nat} {σ:ASt} {a:Act} {w:World} {P:Program} {rg:Nat -> Option (List AV)}
theorem zHv {w:World} {b o:Nat} {v:Value} {c:Array Value} {e:Nat} {fz:Nat×Nat} (h:w.heap[b]?=some (.cells c e fz)):
 (w.setCell ⟨b,o,none⟩ v).heap[b]?=some (.cells (c.setIfInBounds o v) e fz) /\ (∀b',b'≠b -> (w.setCell ⟨b,o,none⟩ v).heap[b']?=w.heap[b']?):=by
 constructor
 ·simp only [World.setCell,Array.getElem?_modify,if_pos rfl,h,Option.map_some];rfl
 ·intro b' hb;simp only [World.setCell,Array.getElem?_modify];rw [if_neg (fun h=>hb h.symm)]
theorem zn0 {b:Nat} {e:Nat} {fz:Nat×Nat}:∀(vs:List Value) (o:Nat) (w:World) (c:Array Value),w.heap[b]?=some (.cells c e fz) -> o+vs.length <=c.size ->
 (w.setCells b o vs).heap[b]?=some (.cells (c.toList.take o++vs++c.toList.drop (o+vs.length)).toArray e fz) /\ (∀b',b'≠b -> (w.setCells b o vs).heap[b']?=w.heap[b']?) /\ (w.setCells b o vs).heap.size=w.heap.size
 |[],o,w,c,h,hl=>by simp [World.setCells,h]
 |v::r,o,w,c,h,hl=>by
  obtain ⟨h1,h2⟩:=zHv (o:=o) (v:=v) h;simp only [List.length_cons]at hl;obtain ⟨k1,k2,k3⟩:=zn0 r (o+1) (w.setCell ⟨b,o,none⟩ v) _ h1 (by simp;omega);refine ⟨?_,fun b' hb=>by rw [World.setCells,k2 b' hb,h2 b' hb],by rw [World.setCells,k3,World.size_setCell]⟩;rw [World.setCells,k1];congr 2;simp only [Array.toList_setIfInBounds,List.length_cons];have hlt:o < c.toList.length:=by simp;omega
  have e1:(c.toList.set o v).take (o+1)=c.toList.take o++[v]:=by
   rw [List.take_set,List.take_succ_eq_append_getElem hlt,List.set_append_right _ _ (by simp;omega)];simp [Nat.min_eq_left (show o <=c.size by omega)]
  rw [e1,List.drop_set_of_lt (by omega),show o+1+r.length=o+(r.length+1) by omega];simp
theorem zqR {cs:List AV} {c sz:Nat} {agg:Bool} {v:AV} (h:yM cs c sz agg=some v):c+sz <=cs.length /\ zbJ agg ((cs.drop c).take sz)=some v:=by
 unfold yM at h;split at h
 ·exact ⟨by assumption,h⟩
 ·cases h
theorem zqH {t b off sz:Nat} {agg:Bool} {us:List Value} (hs:yJ P t=some sz) (hg:zah P t=some agg) (h1:(agg ||sz==1)=true) (hl:us.length=sz)
 (hc:∀i u,us[i]?=some u -> w.cell? ⟨b,off+i,none⟩=some u):
 (Instr.loadAt t (.pointer (some ⟨b,off,none⟩))).run P w=.ok (if agg then .agg us.toArray else us.getD 0 undef) w:=by
 cases agg with
 |true=>
  simp only [Instr.loadAt,Instr.sureAddr,loadVar,Sem.run_bind,Sem.run_pure,Result.andThen_ok,agr hg,if_true,siz hs];rw [<- hl,run_loadCells_list (P:=P) (w:=w) (⟨b,off,none⟩:Addr) us (by intro j u hu;rw [zam];exact hc j u hu)];rfl
 |false=>
  simp at h1;subst h1;cases us with
  |nil=>simp at hl
  |cons u us=>
   simp only [Instr.loadAt,Instr.sureAddr,loadVar,Sem.run_bind,Sem.run_pure,Result.andThen_ok,agr hg,Bool.false_eq_true,if_false];have:=hc 0 u rfl;simp only [Nat.add_zero]at this;rw [run_load,this];rfl
def qa (P:Program) (A:zx) (D:Nat -> Prop) (G:Gh) (σ':ASt) (a:Act) (w:World) (e:Sem Next) (v:AV):Prop:=
 ∃x w' G' ρ',(e.run P w=.ok (.value x) w' \/ (e.run P w=.ok .skip w' /\ x=undef)) /\ Fr A D G' ρ' σ' a w' /\ Ext D G w G' w' /\ yN G' ρ' σ'.rg w' v x
theorem yo.gone {e:Sem Next} {v:AV} (h:yo P A D G ρ σ a w e v):qa P A D G σ a w e v:=by
 obtain ⟨x,w',G',h1,h2,h3,h4⟩:=h;exact ⟨x,w',G',ρ,.inl h1,h2,h3,h4⟩
theorem Fr.regCells (hF:Fr A D G ρ σ a w) {r:Nat} {cs:List AV} (hr:σ.rg r=some cs):∃b us e,ρ r=some b /\ w.heap[b]?=some (.cells us e (0,0)) /\ zp G w cs us.toList:=by
 obtain ⟨b,c,e,h1,h2,h3,_⟩:=hF.reg r cs hr;exact ⟨b,c,e,h1,h2,h3⟩
theorem zot {b c sz:Nat} {us:Array Value} {e:Nat} {fz:Nat×Nat} (h:w.heap[b]?=some (.cells us e fz)):∀i u,((us.toList.drop c).take sz)[i]?=some u -> w.cell? ⟨b,c+i,none⟩=some u:=by
 intro i u hu;rw [List.getElem?_take]at hu;split at hu
 ·rw [List.getElem?_drop]at hu;simp only [World.cell?,h];simpa using hu
 ·cases hu
theorem zbn {x:Nat×Nat×Nat} {sz:Nat} {rs:List (List AV)} (ho:vn G w x (.rows sz rs)) {i:Nat} {row:List AV} (hr:rs[i]?=some row):
 0 < x.2.2 /\ ∃c e vs u,w.heap[x.1]?=some (.cells c e (0,0)) /\ c.size=x.2.2 * sz /\ zF G w sz rs vs /\ vs.flatten=c.toList.take (rs.length * sz) /\ vs[i]?=some u /\ zp G w row u /\ u.length=sz /\
  (∀j v,u[j]?=some v -> w.cell? ⟨x.1,i * sz+j,none⟩=some v) /\ i * sz+sz <=rs.length * sz:=by
 obtain ⟨h1,h2,h3,h4⟩:=ho;have hi:i < rs.length:=by
  rcases Nat.lt_or_ge i rs.length with h|h
  ·exact h
  ·rw [List.getElem?_eq_none h]at hr;cases hr
 refine ⟨by omega,?_⟩;rcases h4 with h4|⟨c,e,vs,k1,k2,k3,k4⟩
 ·omega
 ·obtain ⟨u,hu,hrep,hlen,_⟩:=k3.get i hr;obtain ⟨hl,hg⟩:=k3.flat_get i hu;have hle:i * sz+sz <=rs.length * sz:=by
   have:=Nat.mul_le_mul_right sz (show i+1 <=rs.length by omega);rw [Nat.add_mul]at this;omega
  refine ⟨c,e,vs,u,k1,k2,k3,k4,hu,hrep,hl,?_,hle⟩;intro j v hv;have hj:j < sz:=by
   rw [<- hl];rcases Nat.lt_or_ge j u.length with h|h
   ·exact h
   ·rw [List.getElem?_eq_none h]at hv;cases hv
  have:=hg j hj;rw [k4,hv,List.getElem?_take]at this;split at this
  ·simp only [World.cell?,k1];simpa using this
  ·cases this
theorem zDR (hF:Fr A D G ρ σ a w) {o:Oper} {loc:Option Nat} {sz:Nat} {agg:Bool} {xs:List zl} (hok:yH P G.K o.op (.ld loc sz agg) xs=true) {vs:List AV} (hev:evs A σ.tm xs=some vs)
 {v:AV} {ru:Option (Nat×List AV)} {S':AS} (hp:za (.ld loc sz agg) o.dst σ.rg σ.S vs=some (v,ru,S')):ru=none /\ S'=σ.S /\ yo P A D G ρ σ a w (execOp a.eval o) v:=by
 simp only [yH]at hok;split at hok
 ·rename_i t x ho;simp only [Bool.and_eq_true,beq_iff_eq]at hok;obtain ⟨⟨⟨hs,hg⟩,h1⟩,hok⟩:=hok;have hts:=yu hF hok hev;have run:∀{b off:Nat} {us:List Value},a.eval x=.pointer (some ⟨b,off,none⟩) -> us.length=sz -> (∀i u,us[i]?=some u -> w.cell? ⟨b,off+i,none⟩=some u) ->
   (execOp a.eval o).run P w=.ok (.value (if agg then .agg us.toArray else us.getD 0 undef)) w:=by
   intro b off us e1 hl hc;rw [zGP _ _ ho,e1];simp only [Sem.run_bind,zqH hs hg h1 hl hc,Result.andThen_ok,Sem.run_pure]
  have fin:∀{cs:List AV} {ws us:List Value} {c b off:Nat},zp G w cs ws -> yM cs c sz agg=some v -> a.eval x=.pointer (some ⟨b,off,none⟩) -> us=(ws.drop c).take sz ->
   (∀i u,us[i]?=some u -> w.cell? ⟨b,off+i,none⟩=some u) -> yo P A D G ρ σ a w (execOp a.eval o) v:=by
   intro cs ws us c b off hr hgc e1 hus hc;obtain ⟨hle,hv⟩:=zqR hgc;have hlen:=hr.length;have hrep:=ziB hr hle h1 hv;have hul:us.length=sz:=by rw [hus];simp;omega
   refine .same hF (run e1 hul hc) ?_;have:(if agg then Value.agg us.toArray else us.getD 0 undef)=(if agg then Value.agg ((ws.drop c).take sz).toArray else ws.getD c undef):=by
    rw [hus];cases agg with
    |true=>rfl
    |false=>
     simp at h1;subst h1;simp [List.getD_eq_getElem?_getD,List.getElem?_take,List.getElem?_drop]
   rw [this];exact hrep.trep
  unfold za at hp;split at hp<;>simp only [reduceCtorEq,AOp.ld.injEq,false_and]at *<;>try (cases hp;done)
  ·rename_i r sz' agg' r' c heq;obtain ⟨rfl,rfl,rfl⟩:=heq;split at hp
   ·rename_i hrr;subst hrr;cases hr:σ.rg r' with
    |none=>rw [hr]at hp;cases hp
    |some cs=>
     rw [hr]at hp;simp only [Option.bind_some]at hp;cases hgc:yM cs c sz agg with
     |none=>rw [hgc]at hp;cases hp
     |some v'=>
      rw [hgc]at hp;cases hp;obtain ⟨x',hx',hT⟩:=TL.one_of hts;obtain ⟨_,b,hb,e1⟩:=hT;simp only [List.map_cons,List.map_nil,List.cons.injEq,and_true]at hx';obtain ⟨b',us,e,hb',hh,hrep⟩:=hF.regCells hr;rw [hb]at hb';cases hb';exact ⟨rfl,rfl,fin hrep hgc (hx'.trans e1) rfl (zot hh)⟩
   ·cases hp
  ·rename_i sz' agg' cs heq;obtain ⟨rfl,rfl,rfl⟩:=heq;cases hgc:yM cs 0 sz agg with
   |none=>rw [hgc]at hp;cases hp
   |some v'=>
    rw [hgc]at hp;cases hp;obtain ⟨x',hx',hT⟩:=TL.one_of hts;simp only [List.map_cons,List.map_nil,List.cons.injEq,and_true]at hx';obtain ⟨b,off,us,e1,hat,hr⟩:=Rep.iptr_inv (x:=x') hT;exact ⟨rfl,rfl,fin hr hgc (hx'.trans e1) rfl fun i u hu=>by
     rw [List.drop_zero,List.getElem?_take]at hu;split at hu
     ·exact (hat i u hu).2
     ·cases hu⟩
  ·rename_i sz' agg' id row c heq;obtain ⟨rfl,rfl,rfl⟩:=heq;split at hp
   ·rename_i z rs hh;cases hrow:rs[row]? with
    |none=>rw [hrow]at hp;cases hp
    |some cs=>
     rw [hrow]at hp;simp only [Option.bind_some]at hp;cases hgc:yM cs c sz agg with
     |none=>rw [hgc]at hp;cases hp
     |some v'=>
      rw [hgc]at hp;cases hp;obtain ⟨x',hx',hT⟩:=TL.one_of hts;simp only [List.map_cons,List.map_nil,List.cons.injEq,and_true]at hx';obtain ⟨b,z',N,hi,e1⟩:=Rep.ptr_inv (x:=x') hT;obtain ⟨y,hy,ho'⟩:=hF.sim.obj id _ hh;rw [hi]at hy;cases hy;have hz:z'=z:=ho'.1;subst hz;obtain ⟨_,carr,e,vs',u,_,_,_,_,_,hrep,hul,hcell,_⟩:=zbn ho' hrow;refine ⟨rfl,rfl,fin hrep hgc (hx'.trans e1) rfl fun i u' hu=>?_⟩;rw [List.getElem?_take]at hu;split at hu
      ·rw [List.getElem?_drop]at hu;have:=hcell (c+i) u' hu;rw [<- Nat.add_assoc]at this;exact this
      ·cases hu
   ·cases hp
 ·cases hok
end
section
variable {A:zx} {D:Nat -> Prop} {G:Gh} {ρ:Nat -> Option Nat} {σ:ASt} {a:Act} {w:World} {P:Program} {rg:Nat -> Option (List AV)}
theorem zqd {t b off sz:Nat} {x:Value} {c:Array Value} {e:Nat} (hs:yJ P t=some sz) (hx:x.cells.size=sz) (h1:∀u∈x.cells.toList,u.oneCell'=true) (hh:w.heap[b]?=some (.cells c e (0,0))) (hl:off+sz <=c.size):
 (Instr.storeAt t (.pointer (some ⟨b,off,none⟩)) x).run P w=.ok () (w.setCells b off x.cells.toList):=by
 simp only [Instr.storeAt,Instr.sureAddr,storeVar,Sem.run_bind,Sem.run_pure,Result.andThen_ok,siz hs];rw [if_neg (by omega)];have:=run_storeCells_cells (P:=P) b off x.cells.toList 0 w (by
  intro j hj;simp only [Array.length_toList]at hj;simp only [World.cell?,hh,Nat.add_zero];simp [show off+j < c.size by omega]) (by
  intro j hj;simp only [World.frozen?,hh];simp) h1
 simpa using this
theorem zhY:∀(us:List Value) (w:World) (b off:Nat),Io w (w.setCells b off us)
 |[],w,_,_=>Io.refl w
 |v::r,w,b,off=>(show Io w (w.setCell ⟨b,off,none⟩ v) from ⟨rfl,rfl,rfl⟩).trans (zhY r _ b (off+1))
theorem zk7 {b off:Nat} {us:List Value} {c:Array Value} {e:Nat} (hh:w.heap[b]?=some (.cells c e (0,0))) (hl:off+us.length <=c.size):
 (w.setCells b off us).heap[b]?=some (.cells (c.toList.take off++us++c.toList.drop (off+us.length)).toArray e (0,0)) /\ (∀b',b'≠b -> (w.setCells b off us).heap[b']?=w.heap[b']?) /\ (w.setCells b off us).heap.size=w.heap.size:=
 zn0 us off w c hh hl
theorem zmS (S:AS) (id:Nat) (o:jb):(S.set id none).set id (some o)=S.set id (some o):=by
 simp only [AS.set];congr 1;funext j;by_cases h:j=id<;>simp [h]
theorem zGL {sz i c:Nat} {rs:List (List AV)} {vs:List (List Value)} {u us:List Value} (h:zF G w sz rs vs) (hu:vs[i]?=some u) (hul:u.length=sz) (hc:c+us.length <=sz):
 (vs.set i (u.take c++us++u.drop (c+us.length))).flatten=vs.flatten.take (i * sz+c)++us++vs.flatten.drop (i * sz+c+us.length):=by
 have hi:i < rs.length:=by
  rw [h.length];rcases Nat.lt_or_ge i vs.length with h'|h'
  ·exact h'
  ·rw [List.getElem?_eq_none h']at hu;cases hu
 have hlen:i * sz+sz <=vs.flatten.length:=by
  rw [h.flat_length];have:=Nat.mul_le_mul_right sz (show i+1 <=rs.length by omega);rw [Nat.add_mul]at this;omega
 have hself:vs.set i u=vs:=by
  apply List.ext_getElem?;intro j;rw [List.getElem?_set];split
  ·rename_i hj;subst hj;split
   ·exact hu.symm
   ·rename_i hn;rw [List.getElem?_eq_none (by omega)]at hu;cases hu
  ·rfl
 rw [h.flatten_set i _ hi];have hF:=h.flatten_set i u hi;rw [hself]at hF;generalize hA:vs.flatten.take (i * sz)=A' at hF ⊢;generalize hB:vs.flatten.drop (i * sz+sz)=B' at hF ⊢;have hAl:A'.length=i * sz:=by rw [<- hA,List.length_take];omega
 rw [hF];have e1:(A'++u++B').take (i * sz+c)=A'++u.take c:=by
  rw [List.append_assoc,List.take_append,List.take_of_length_le (by omega),hAl,Nat.add_sub_cancel_left,List.take_append_of_le_length (by omega)]
 have e2:(A'++u++B').drop (i * sz+c+us.length)=u.drop (c+us.length)++B':=by
  rw [List.append_assoc,List.drop_append,List.drop_eq_nil_of_le (by omega),hAl,List.nil_append,show i * sz+c+us.length - i * sz=c+us.length by omega,List.drop_append_of_le_length (by omega)]
 rw [e1,e2];simp only [List.append_assoc]
theorem zpn {l us:List Value} {p L:Nat} (h:p+us.length <=L) (hl:L <=l.length):(l.take p++us++l.drop (p+us.length)).take L=(l.take L).take p++us++(l.take L).drop (p+us.length):=by
 rw [List.take_append,List.take_of_length_le (by simp;omega),List.take_take,Nat.min_eq_left (by omega),List.drop_take];congr 2;simp;omega
theorem Fr.writeRow (hF:Fr A D G ρ σ a w) {id:Nat} {sz:Nat} {rs:List (List AV)} {x:Nat×Nat×Nat} (hid:σ.S.ro <=id) (hh:σ.S.heap id=some (.rows sz rs)) (hx:G.ι id=some x) {i c:Nat} {row cs:List AV} (hrow:rs[i]?=some row)
 {us:List Value} (hrep:zp G w cs us) (hone:∀u∈us,u.oneCell'=true) (hc:c+cs.length <=row.length):
 Fr A D G ρ {σ with S:=σ.S.set id (some (.rows sz (rs.set i (setCells row c cs))))} a (w.setCells x.1 (i * sz+c) us) /\ Ext D G w G (w.setCells x.1 (i * sz+c) us):=by
 obtain ⟨y,hy,ho⟩:=hF.sim.obj id _ hh;rw [hx]at hy;cases hy;have hrow_len:row.length=sz:=by
  obtain ⟨_,c0,e0,vs0,u0,_,_,k3,_,_⟩:=zbn ho hrow;obtain ⟨_,_,_,hl,_⟩:=k3.get i hrow;exact hl
 obtain ⟨h0,carr,e,vs,u,k1,k2,k3,k4,hu,hru,hul,hcell,hle⟩:=zbn ho hrow;have hul':=hrep.length;have hsz:=ho.2.1;have hN:rs.length <=x.2.2:=ho.2.2.1;have hNs:rs.length * sz <=carr.size:=by rw [k2];exact Nat.mul_le_mul_right sz hN
 have hfit:i * sz+c+us.length <=carr.size:=by omega
 obtain ⟨m1,m2,m3⟩:=zk7 (w:=w) (off:=i * sz+c) (us:=us) k1 hfit;have hF1:=hF.less (hp:=(σ.S.set id none).heap) (by intro j o e';simp only [AS.set]at e';split at e'<;>simp_all);have hfree:=hF.free_kill hid hh hx h0;obtain ⟨hF2,hx2⟩:=Fr.write (b:=x.1) hF1 hfree (Nat.le_of_eq m3.symm) m2 (zhY _ _ _ _);refine ⟨?_,hx2⟩;have hnew:vn G (w.setCells x.1 (i * sz+c) us) x (.rows sz (rs.set i (setCells row c cs))):=by
  refine ⟨ho.1,hsz,by simpa using hN,.inr ⟨_,e,vs.set i (u.take c++us++u.drop (c+us.length)),m1,?_,?_,?_⟩⟩
  ·simp only [List.size_toArray,List.length_append,List.length_take,List.length_drop,Array.length_toList];omega
  ·have hr':zp G w (setCells row c cs) (u.take c++us++u.drop (c+us.length)):=by
    unfold setCells;rw [hul'];exact ((hru.take c).append hrep).append (hru.drop _)
   have hl':(setCells row c cs).length=sz:=by unfold setCells;simp;omega
   obtain ⟨_,hvu,_,_,hone'⟩:=k3.get i hrow;rw [hu]at hvu;cases hvu;exact (k3.set hr' hl' (by
    intro v hv;simp only [List.mem_append]at hv;rcases hv with (hv|hv)|hv
    ·exact hone' v (List.mem_of_mem_take hv)
    ·exact hone v hv
    ·exact hone' v (List.mem_of_mem_drop hv)) i).mono hx2.toLe
  ·have hlen:(rs.set i (setCells row c cs)).length=rs.length:=by simp
   rw [hlen,zGL k3 hu hul (by omega),k4];have:=zpn (l:=carr.toList) (us:=us) (p:=i * sz+c) (L:=rs.length * sz) (by omega) (by simpa using hNs);simp only [List.toList_toArray];rw [this]
 have hlt:id < σ.S.n:=by
  rcases Nat.lt_or_ge id σ.S.n with h|h
  ·exact h
  ·rw [(hF.sim.fresh id h).1]at hh;cases hh
 have this:Fr A D G ρ {σ with S:=(σ.S.set id none).set id (some (.rows sz (rs.set i (setCells row c cs))))} a (w.setCells x.1 (i * sz+c) us):=
  hF2.take (id:=id) hx (by simp [AS.set]) hlt (fun _=>hfree) hnew
 rw [zmS]at this;exact this
theorem zHq (hF:Fr A D G ρ σ a w) {o:Oper} {loc:Option Nat} {sz:Nat} {xs:List zl} (hok:yH P G.K o.op (.st loc sz) xs=true) {vs:List AV} (hev:evs A σ.tm xs=some vs)
 {v:AV} {ru:Option (Nat×List AV)} {S':AS} (hp:za (.st loc sz) o.dst σ.rg σ.S vs=some (v,ru,S')):qa P A D G ({σ with S:=S'}.regs ru) a w (execOp a.eval o) v:=by
 simp only [yH]at hok;split at hok
 ·rename_i t x y ho;simp only [Bool.and_eq_true,beq_iff_eq]at hok;obtain ⟨hs,hok⟩:=hok;have hts:=yu hF hok hev;unfold za at hp;split at hp<;>simp only [reduceCtorEq,AOp.st.injEq,false_and]at *<;>try (cases hp;done)
  ·rename_i r sz' r' c u heq;obtain ⟨rfl,rfl⟩:=heq;split at hp
   ·rename_i hc;obtain ⟨rfl,hcell,hlen⟩:=hc;cases hr:σ.rg r' with
    |none=>rw [hr]at hp;cases hp
    |some cs=>
     rw [hr]at hp;simp only [Option.bind_some]at hp;split at hp
     ·rename_i hle;cases hp;obtain ⟨x',y',hx',hT,hV⟩:=TL.two_of hts;simp only [List.map_cons,List.map_nil,List.cons.injEq,and_true]at hx';obtain ⟨ex,ey⟩:=hx';obtain ⟨_,b,hb,e1⟩:=hT;have hrep:=(hV.rep (zbP hcell)).cells hcell;have hone:=hrep.oneCell hcell;have hl:=hrep.length;obtain ⟨b',us,e,hb',hh,hru⟩:=hF.regCells hr;rw [hb]at hb';cases hb';have hul:=hru.length;simp only [Array.length_toList]at hl hul;have hsz:y'.cells.size=sz:=by omega
      have hst:=zqd (P:=P) (w:=w) (off:=c) (x:=y') hs hsz hone hh (by omega);obtain ⟨m1,m2,m3⟩:=zk7 (w:=w) (off:=c) (us:=y'.cells.toList) hh (by simp only [Array.length_toList];omega);have hwr:=hF.writeReg hr hb (c':=(us.toList.take c++y'.cells.toList++us.toList.drop (c+y'.cells.toList.length)).toArray) (e:=e) (cs':=setCells cs c u.cells) (Nat.le_of_eq m3.symm) m2 m1 (by
       unfold setCells;simp only [List.toList_toArray];rw [hrep.length];exact ((hru.take c).append hrep).append (hru.drop _)) (zhY _ _ _ _)
      refine ⟨undef,_,G,ρ,.inr ⟨?_,rfl⟩,hwr.1,hwr.2,Rep.trep .junk⟩;rw [zoi _ _ ho,ex,ey,e1];simp only [Sem.run_bind,hst,Result.andThen_ok,Sem.run_pure]
     ·cases hp
   ·cases hp
  ·rename_i sz' id row c u heq;obtain ⟨rfl,rfl⟩:=heq;split at hp
   ·rename_i hc;obtain ⟨hid,hcell,hlen⟩:=hc;split at hp
    ·rename_i z rs hh;cases hrow:rs[row]? with
     |none=>rw [hrow]at hp;cases hp
     |some cs=>
      rw [hrow]at hp;simp only [Option.bind_some]at hp;split at hp
      ·rename_i hle;cases hp;obtain ⟨x',y',hx',hT,hV⟩:=TL.two_of hts;simp only [List.map_cons,List.map_nil,List.cons.injEq,and_true]at hx';obtain ⟨ex,ey⟩:=hx';obtain ⟨b,z',N,hi,e1⟩:=Rep.ptr_inv (x:=x') hT;have hrep:=(hV.rep (zbP hcell)).cells hcell;have hone:=hrep.oneCell hcell;have hl:=hrep.length;simp only [Array.length_toList]at hl;obtain ⟨yy,hy,ho'⟩:=hF.sim.obj id _ hh;rw [hi]at hy;cases hy;have hz:z'=z:=ho'.1;subst hz;obtain ⟨h0,carr,e,vs',u',k1,k2,k3,k4,hu,hru,hul,hcl,hle'⟩:=zbn ho' hrow;have hrl:cs.length=z':=by obtain ⟨_,_,_,hl',_⟩:=k3.get row hrow;exact hl'
       have hNs:rs.length * z' <=carr.size:=by rw [k2];exact Nat.mul_le_mul_right z' ho'.2.2.1
       have hst:=zqd (P:=P) (w:=w) (off:=row * z'+c) (x:=y') hs (by omega) hone k1 (by omega);have hwr:=hF.writeRow hid hh hi hrow (c:=c) hrep hone (by omega);refine ⟨undef,_,G,ρ,.inr ⟨?_,rfl⟩,hwr.1,hwr.2,Rep.trep .junk⟩;rw [zoi _ _ ho,ex,ey,e1];simp only [Sem.run_bind,hst,Result.andThen_ok,Sem.run_pure]
      ·cases hp
    ·cases hp
   ·cases hp
 ·cases hok
theorem zuO {t:TypeId} {i:TypeInfo} {z:Value} (hi:P.info? t=some i) (hz:i.zero=some z):(Instr.alloc t true (.tuple #[])).run P w=.ok (.pointer (some ⟨w.heap.size,0,none⟩)) (w.alloc (.cells z.cells t)):=by
 simp only [Instr.alloc,Sem.run_bind,zer hi hz,Result.andThen_ok,newVar,newRow,run_newObj,Sem.run_pure];rfl
theorem zGh {t:TypeId} {x:Value}:(Instr.box t x).run P w=.ok (.pointer (some ⟨w.heap.size,0,none⟩)) (w.alloc (.cells x.cells t)):=by
 simp only [Instr.box,Sem.run_bind,newVar,newRow,run_newObj,Result.andThen_ok,Sem.run_pure];rfl
theorem Fr.newVar (hF:Fr A D G ρ σ a w) {cs:List AV} {us:Array Value} {t:Nat} (hr:zp G w cs us.toList) (h0:0 < cs.length) (h1:∀u∈us.toList,u.oneCell'=true):
 ∃G',Fr A D G' ρ {σ with S:=σ.S.new (.rows cs.length [cs])} a (w.alloc (.cells us t)) /\ Ext D G w G' (w.alloc (.cells us t)) /\ Rep G' (w.alloc (.cells us t)) (.ptr σ.S.n 0 0) (.pointer (some ⟨w.heap.size,0,none⟩)):=by
 have hlen:=hr.length;simp only [Array.length_toList]at hlen;have hi:=(hF.sim.fresh σ.S.n (Nat.le_refl _)).2;have hle:Le G w (G.made σ.S.n (w.heap.size,cs.length,1)) (w.alloc (.cells us t)):=zfz hi hF.sim.lt;obtain ⟨k1,k2⟩:=hF.made (.cells us t) (sz:=cs.length) (N:=1) (ao:=.rows cs.length [cs]) (by
  refine ⟨rfl,h0,by simp,.inr ⟨us,t,[us.toList],zd1,by simp [hlen],.cons (hr.mono hle) rfl h1 .nil,?_⟩⟩;simp [<- hlen,List.take_of_length_le])
 refine ⟨_,k1,k2,?_⟩;have:(G.made σ.S.n (w.heap.size,cs.length,1)).ι σ.S.n=some (w.heap.size,cs.length,1):=by simp [Gh.made]
 simpa using Rep.ptr (w:=w.alloc (.cells us t)) (r:=0) (c:=0) this
theorem zy2 (hF:Fr A D G ρ σ a w) {o:Oper} {k:zdE} {zero:List AV} {xs:List zl} (hok:yH P G.K o.op (.alloc k zero) xs=true) {vs:List AV} (hev:evs A σ.tm xs=some vs)
 {v:AV} {ru:Option (Nat×List AV)} {S':AS} (hp:za (.alloc k zero) o.dst σ.rg σ.S vs=some (v,ru,S')):qa P A D G ({σ with S:=S'}.regs ru) a w (execOp a.eval o) v:=by
 simp only [yH]at hok;split at hok
 ·rename_i t ho;simp only [Bool.and_eq_true]at hok;obtain ⟨hz,hok⟩:=hok;obtain ⟨i,z,hi,hz,hcst⟩:=zdL hz;have hc:zp G w zero z.cells.toList:=zaT hcst;have run:(execOp a.eval o).run P w=.ok (.value (.pointer (some ⟨w.heap.size,0,none⟩))) (w.alloc (.cells z.cells t)):=by
   rw [zGc _ _ ho];simp only [Sem.run_bind,zuO hi hz,Result.andThen_ok,Sem.run_pure]
  unfold za at hp;split at hp<;>simp only [reduceCtorEq,AOp.alloc.injEq,false_and]at *<;>try (cases hp;done)
  ·rename_i zero' heq;obtain ⟨rfl,rfl⟩:=heq;cases hd:o.dst with
   |none=>rw [hd]at hp;cases hp
   |some d=>
    rw [hd]at hp;simp only [Option.bind_some]at hp;split at hp
    ·rename_i hn;cases hp;have hn:σ.rg d=none:=by simpa using hn
     obtain ⟨k1,k2,k3⟩:=hF.newReg (vs:=z.cells.toList) hc t d hn;simp only [Array.toArray_toList]at k1 k2 k3;exact ⟨_,_,G,_,.inl run,k1,k2,k3⟩
    ·cases hp
  ·rename_i zero' heq;obtain ⟨rfl,rfl⟩:=heq;split at hp
   ·rename_i hcc;cases hp;obtain ⟨G',k1,k2,k3⟩:=hF.newVar (t:=t) hc hcc.2 (zdd hcst);exact ⟨_,_,G',ρ,.inl run,k1,k2,k3.trep⟩
   ·cases hp
 ·cases hok
theorem zIo (hF:Fr A D G ρ σ a w) {o:Oper} {k:zdE} {xs:List zl} (hok:yH P G.K o.op (.box k) xs=true) {vs:List AV} (hev:evs A σ.tm xs=some vs)
 {v:AV} {ru:Option (Nat×List AV)} {S':AS} (hp:za (.box k) o.dst σ.rg σ.S vs=some (v,ru,S')):qa P A D G ({σ with S:=S'}.regs ru) a w (execOp a.eval o) v:=by
 simp only [yH]at hok;split at hok
 ·rename_i t x ho;have hts:=yu hF hok hev;have run:(execOp a.eval o).run P w=.ok (.value (.pointer (some ⟨w.heap.size,0,none⟩))) (w.alloc (.cells (a.eval x).cells t)):=by
   rw [zou _ _ ho];simp only [Sem.run_bind,zGh,Result.andThen_ok,Sem.run_pure]
  unfold za at hp;split at hp<;>simp only [reduceCtorEq,AOp.box.injEq,false_and]at *<;>try (cases hp;done)
  ·rename_i u heq;subst heq;obtain ⟨x',hx',hT⟩:=TL.one_of hts;simp only [List.map_cons,List.map_nil,List.cons.injEq,and_true]at hx';subst hx';split at hp
   ·rename_i hcc;have hrep:=(hT.rep (zbP hcc)).cells hcc;cases hd:o.dst with
    |none=>rw [hd]at hp;cases hp
    |some d=>
     rw [hd]at hp;simp only [Option.bind_some]at hp;split at hp
     ·rename_i hn;cases hp;have hn:σ.rg d=none:=by simpa using hn
      obtain ⟨k1,k2,k3⟩:=hF.newReg hrep t d hn;simp only [Array.toArray_toList]at k1 k2 k3;exact ⟨_,_,G,_,.inl run,k1,k2,k3⟩
     ·cases hp
   ·cases hp
  ·rename_i u heq;subst heq;obtain ⟨x',hx',hT⟩:=TL.one_of hts;simp only [List.map_cons,List.map_nil,List.cons.injEq,and_true]at hx';subst hx';split at hp
   ·rename_i hcc;cases hp;have hrep:=(hT.rep (zbP hcc.1)).cells hcc.1;obtain ⟨G',k1,k2,k3⟩:=hF.newVar (t:=t) hrep hcc.2 (hrep.oneCell hcc.1);exact ⟨_,_,G',ρ,.inl run,k1,k2,k3.trep⟩
   ·cases hp
 ·cases hok
end
section
variable {A:zx} {D:Nat -> Prop} {G:Gh} {ρ:Nat -> Option Nat} {σ:ASt} {a:Act} {w:World} {P:Program} {rg:Nat -> Option (List AV)}
structure zp8 (P:Program) (t:TypeId) (str:Bool) (kt et:TypeId) (d:TypeDesc):Prop where
 map:P.underlying t=some (.map kt et)
 key:P.underlying kt=some d
 kind:(str=true /\ d=.string) \/ (str=false /\ ∃k,d=.int k)
theorem zl0 {t:TypeId} {str:Bool} (h:zem P t=some str):∃kt et d,zp8 P t str kt et d:=by
 unfold zem at h;split at h
 ·rename_i kt et hm;split at h
  ·rename_i hk;cases h;exact ⟨kt,et,_,hm,hk,.inl ⟨rfl,rfl⟩⟩
  ·rename_i k hk;cases h;exact ⟨kt,et,_,hm,hk,.inr ⟨rfl,k,rfl⟩⟩
  ·cases h
 ·cases h
theorem zbg {t:TypeId} {str:Bool} {kt et:TypeId} {d:TypeDesc} (h:zp8 P t str kt et d) (e:Bool) (n:Nat) (v:Value):(Instr.checkKey e (n+1) kt v).run P w=.ok () w:=by
 rcases h.kind with ⟨_,rfl⟩|⟨_,k,rfl⟩<;>simp only [Instr.checkKey,Sem.run_bind,und h.key,Result.andThen_ok,Sem.run_pure]
theorem zrV {str:Bool} {d:TypeDesc} {k x:Value} (h:(str=true /\ d=.string) \/ (str=false /\ ∃k,d=.int k)) (hk:qm k=str) {b:Bool} (hs:vh k x=some b):Instr.sameNow d k x=some b:=by
 unfold vh at hs;split at hs
 ·rcases h with ⟨rfl,rfl⟩|⟨rfl,kk,rfl⟩
  ·simp [qm]at hk
  ·split at hs
   ·rename_i hkk;cases hs;simp [Instr.sameNow,hkk]
   ·cases hs
 ·rcases h with ⟨rfl,rfl⟩|⟨rfl,kk,rfl⟩
  ·simpa [Instr.sameNow] using hs
  ·simp [qm]at hk
 ·cases hs
theorem zbQ {a b:ByteArray}:(a==b)=true↔a=b:=by
 rw [beq_toListBytes,ByteArray.toList_eq,ByteArray.toList_eq];obtain ⟨⟨x⟩⟩:=a;obtain ⟨⟨y⟩⟩:=b;simp
theorem zHK {k x:Value} (hs:vh k x=some true):x=k /\ ∀n,Instr.sameBits n x k=true:=by
 unfold vh at hs;split at hs
 ·rename_i k1 a1 k2 a2;split at hs
  ·rename_i hk;subst hk;have:a1=a2:=by simpa using hs
   subst this;exact ⟨rfl,fun n=>by cases n<;>simp [Instr.sameBits]⟩
  ·cases hs
 ·rename_i a1 a2;have:a1=a2:=zbQ.1 (by simpa using hs);subst this;exact ⟨rfl,fun n=>by cases n<;>simp [Instr.sameBits,zbQ.2 rfl]⟩
 ·cases hs
theorem zhA {str:Bool} {d:TypeDesc} {k:Value} (h:(str=true /\ d=.string) \/ (str=false /\ ∃k,d=.int k)) (hk:qm k=str):
 ∀{aes:List (Value×AV)} {ms:List MapEntry} {i:Nat} {r:Option (Nat×AV)},aes.map (·.1)=ms.map (·.key) -> zp G w (aes.map (·.2)) (ms.map (·.val)) -> jq k aes i=some r ->
  (r=none /\ Instr.findNow d k ms i=some none) \/ ∃j av v,r=some (j,av) /\ Instr.findNow d k ms i=some (some (j,v)) /\ Rep G w av v /\ i <=j /\ (ms[j - i]?).map (·.key)=some k /\ (∀n,Instr.sameBits n k k=true)
 |[],ms,i,r,he,hr,hf=>by
  cases ms with
  |nil=>simp [jq]at hf;exact .inl ⟨hf.symm,rfl⟩
  |cons _ _=>simp at he
 |(x,av)::aes,ms,i,r,he,hr,hf=>by
  cases ms with
  |nil=>simp at he
  |cons m ms=>
   simp only [List.map_cons,List.cons.injEq]at he;simp only [List.map_cons]at hr;cases hr with
   |cons h1 h2=>
    rw [jq]at hf;have he1:x=m.key:=he.1;split at hf
    ·rename_i hs;cases hf;obtain ⟨hxk,hb⟩:=zHK hs;subst hxk;right;refine ⟨i,av,m.val,rfl,?_,h1,Nat.le_refl _,by simp [he1],hb⟩;have:=zrV h hk hs;rw [he1]at this;simp [Instr.findNow,he1,this]
    ·rename_i hs;have hsn:=zrV h hk hs;rw [he1]at hsn;rcases zhA h hk (i:=i+1) he.2 h2 hf with ⟨rfl,hn⟩|⟨j,av',v,rfl,hn,hrep,hij,hkey,hb⟩
     ·left;exact ⟨rfl,by simp [Instr.findNow,hsn,hn]⟩
     ·right;refine ⟨j,av',v,rfl,by simp [Instr.findNow,hsn,hn],hrep,by omega,?_,hb⟩;rw [show j - i=(j - (i+1))+1 by omega];simpa using hkey
    ·cases hf
theorem zbB {b:Nat} {ms:Array MapEntry} {c:Nat} (h:w.heap[b]?=some (.map ms c)):(getObj b).run P w=.ok (.map ms c) w:=by
 simp only [getObj,Sem.run,h]
theorem zeD {b:Nat} {ms:Array MapEntry} {c:Nat} {o:Obj} (h:w.heap[b]?=some (.map ms c)):(setObj b o).run P w=.ok () {w with heap:=w.heap.setIfInBounds b o}:=by
 simp only [setObj,Sem.run,h]
theorem zDV {b:Nat} {o o':Obj} (h:w.heap[b]?=some o'):({w with heap:=w.heap.setIfInBounds b o}:World).heap[b]?=some o /\ (∀b',b'≠b -> ({w with heap:=w.heap.setIfInBounds b o}:World).heap[b']?=w.heap[b']?) /\ ({w with heap:=w.heap.setIfInBounds b o}:World).heap.size=w.heap.size:=by
 have hlt:=zdk h;refine ⟨?_,?_,by simp⟩
 ·simp [Array.getElem?_setIfInBounds,hlt]
 ·intro b' hb;simp only [Array.getElem?_setIfInBounds];rw [if_neg (fun h=>hb h.symm)]
theorem zbb {kt:TypeId} {d:TypeDesc} {k:Value} {ms:List MapEntry} {r:Option (Nat×Value)} (hu:P.underlying kt=some d) (h:Instr.findNow d k ms 0=some r):(Instr.findKey kt k ms).run P w=.ok r w:=by
 simp only [Instr.findKey,Sem.run_bind,und hu,Result.andThen_ok,h,Sem.run_pure]
theorem zu0 (hF:Fr A D G ρ σ a w) {o:Oper} {str ok:Bool} {zero:AV} {xs:List zl} (hok:yH P G.K o.op (.lookup str zero ok) xs=true) {vs:List AV} (hev:evs A σ.tm xs=some vs)
 {v:AV} {ru:Option (Nat×List AV)} {S':AS} (hp:za (.lookup str zero ok) o.dst σ.rg σ.S vs=some (v,ru,S')):ru=none /\ S'=σ.S /\ yo P A D G ρ σ a w (execOp a.eval o) v:=by
 simp only [yH]at hok;split at hok
 ·rename_i t x y ok' ho;simp only [Bool.and_eq_true,beq_iff_eq]at hok;obtain ⟨⟨⟨rfl,hks⟩,hz⟩,hok⟩:=hok;obtain ⟨kt,et,d,hK⟩:=zl0 hks;rw [hK.map]at hz;have hz:∃i z,P.info? et=some i /\ i.zero=some z /\ ze0 zero z=true:=by
   cases hi:P.info? et with
   |none=>simp only [hi,Option.bind_none]at hz;cases hz
   |some i=>
    simp only [hi,Option.bind_some]at hz;split at hz
    ·rename_i z hz';exact ⟨i,z,rfl,hz',hz⟩
    ·cases hz
  obtain ⟨i,z,hi,hz,hcst⟩:=hz;have hts:=yu hF hok hev;unfold za at hp;split at hp<;>simp only [reduceCtorEq,AOp.lookup.injEq,false_and]at *<;>try (cases hp;done)
  rename_i str' zero' ok'' m k heq;obtain ⟨rfl,rfl,rfl⟩:=heq;split at hp
  ·cases hp
  ·rename_i hstr;have hstr:qm k=str:=by simpa using hstr
   obtain ⟨x',y',hx',hM,hV⟩:=TL.two_of hts;simp only [List.map_cons,List.map_nil,List.cons.injEq,and_true]at hx';obtain ⟨ex,ey⟩:=hx';have ek:=hV.sc;have fin:∀{aes:List (Value×AV)} {ms:Array MapEntry} {f:Option (Nat×AV)},
    ((x'=.map none /\ ms=#[]) \/ ∃b cl,x'=.map (some b) /\ w.heap[b]?=some (.map ms cl)) -> aes.map (·.1)=ms.toList.map (·.key) -> zp G w (aes.map (·.2)) (ms.toList.map (·.val)) -> jq k aes 0=some f ->
    v=(if ok' then .tup [wb zero f,.b f.isSome] else wb zero f) -> yo P A D G ρ σ a w (execOp a.eval o) v:=by
    intro aes ms f hrun he hr hf hv;have key:∃u,Rep G w (wb zero f) u /\ (Instr.lookup t (a.eval x) (a.eval y) ok').run P w=.ok (if ok' then .tuple #[u,.bool f.isSome] else u) w:=by
     rcases zhA hK.kind hstr he hr hf with ⟨rfl,hn⟩|⟨j,av,u,rfl,hn,hrep,_⟩
     ·refine ⟨z,zrB hcst,?_⟩;rcases hrun with ⟨e1,rfl⟩|⟨b,cl,e1,m1⟩
      ·simp only [Instr.lookup,Sem.run_bind,und hK.map,Result.andThen_ok,ex,ey,ek,e1,zbg hK _ 9999,zbb hK.key hn,zer hi hz,Sem.run_pure];rfl
      ·simp only [Instr.lookup,Sem.run_bind,und hK.map,Result.andThen_ok,ex,ey,ek,e1,zbB m1,zbg hK _ 9999,zbb hK.key hn,zer hi hz,Sem.run_pure];rfl
     ·refine ⟨u,hrep,?_⟩;rcases hrun with ⟨e1,rfl⟩|⟨b,cl,e1,m1⟩
      ·simp only [Instr.lookup,Sem.run_bind,und hK.map,Result.andThen_ok,ex,ey,ek,e1,zbg hK _ 9999,zbb hK.key hn,Sem.run_pure];rfl
      ·simp only [Instr.lookup,Sem.run_bind,und hK.map,Result.andThen_ok,ex,ey,ek,e1,zbB m1,zbg hK _ 9999,zbb hK.key hn,Sem.run_pure];rfl
    obtain ⟨u,hu,hl⟩:=key;subst hv;refine .same hF (x:=if ok' then .tuple #[u,.bool f.isSome] else u) ?_ ?_
    ·rw [zvW _ _ ho];simp only [Sem.run_bind,hl,Result.andThen_ok,Sem.run_pure]
    ·cases ok' with
     |true=>
      have:Rep G w (.tup [wb zero f,.b f.isSome]) (.tuple [u,.bool f.isSome].toArray):=.tup (.cons hu (.cons (.sc rfl) .nil));exact this.trep
     |false=>exact hu.trep
   split at hp
   ·rename_i id;split at hp
    ·rename_i aes hh;simp only [Option.bind_some]at hp;cases hf:jq k aes 0 with
     |none=>rw [hf]at hp;cases hp
     |some f=>
      rw [hf]at hp;cases hp;obtain ⟨b,sz,N,hi',e1⟩:=Rep.mp_inv (x:=x') hM;obtain ⟨yy,hy,ho'⟩:=hF.sim.obj id _ hh;rw [hi']at hy;cases hy;obtain ⟨_,ms,cl,m1,m2,m3,_⟩:=ho';refine ⟨rfl,rfl,fin (aes:=aes) (ms:=ms) (.inr ⟨_,_,e1,m1⟩) m2 m3 hf ?_⟩;cases ok'<;>rfl
    ·cases hp
   ·simp only [Option.bind_some]at hp;cases hf:jq k [] 0 with
    |none=>rw [hf]at hp;cases hp
    |some f=>
     rw [hf]at hp;cases hp;have e1:=hM.sc;refine ⟨rfl,rfl,fin (aes:=[]) (ms:=#[]) (.inl ⟨e1,rfl⟩) rfl .nil hf ?_⟩;cases ok'<;>rfl
   ·cases hp
 ·cases hok
theorem zvI (hF:Fr A D G ρ σ a w) {o:Oper} {xs:List zl} (hok:yH P G.K o.op .lenM xs=true) {vs:List AV} (hev:evs A σ.tm xs=some vs)
 {v:AV} {ru:Option (Nat×List AV)} {S':AS} (hp:za .lenM o.dst σ.rg σ.S vs=some (v,ru,S')):ru=none /\ S'=σ.S /\ yo P A D G ρ σ a w (execOp a.eval o) v:=by
 simp only [yH]at hok;split at hok
 ·rename_i as ts ho;simp only [Bool.and_eq_true]at hok;obtain ⟨ht,hok⟩:=hok;have hts:=yu hF hok hev;unfold zf1 at ht;split at ht
  ·rename_i t ht0;obtain ⟨kt,et,hu⟩:∃kt et,P.underlying t=some (.map kt et):=by split at ht<;>simp_all
   unfold za at hp;split at hp<;>simp only [reduceCtorEq]at *<;>try (cases hp;done)
   rename_i id heq;split at hp
   ·rename_i aes hh;cases hp;obtain ⟨x',hx',hM⟩:=TL.one_of hts;obtain ⟨b,sz,N,hi',e1⟩:=Rep.mp_inv (x:=x') hM;obtain ⟨yy,hy,ho'⟩:=hF.sim.obj id _ hh;rw [hi']at hy;cases hy;obtain ⟨_,ms,cl,m1,m2,m3,_⟩:=ho';have hl:ms.size=aes.length:=by
     have:=congrArg List.length m2;simp at this;omega
    refine ⟨rfl,rfl,.same hF (x:=goInt aes.length) ?_ (Rep.sc rfl).trep⟩;rw [vz ho,zct hx',e1];simp only [builtin,Builtin.len_,ht0,List.getElem?_toArray,List.getElem?_cons_zero,Sem.run_bind,und hu,zbB m1,Result.andThen_ok,Sem.run_pure,hl]
   ·cases hp
  ·cases ht
 ·cases hok
theorem zCk (hF:Fr A D G ρ σ a w) {o:Oper} {xs:List zl} (hok:yH P G.K o.op .mkmap xs=true) {vs:List AV}
 {v:AV} {ru:Option (Nat×List AV)} {S':AS} (hp:za .mkmap o.dst σ.rg σ.S vs=some (v,ru,S')):qa P A D G ({σ with S:=S'}.regs ru) a w (execOp a.eval o) v:=by
 simp only [yH]at hok;split at hok
 ·rename_i t ho;unfold za at hp;split at hp<;>simp only [reduceCtorEq]at *<;>try (cases hp;done)
  cases hp;have hi:=(hF.sim.fresh σ.S.n (Nat.le_refl _)).2;obtain ⟨k1,k2⟩:=hF.made (.map #[] 0) (sz:=0) (N:=1) (ao:=.map []) ⟨by simp,#[],0,zd1,rfl,.nil,rfl,vi.nil 0⟩;refine ⟨.map (some w.heap.size),_,_,ρ,.inl ?_,k1,k2,(Rep.mp (sz:=0) (N:=1) (by simp [Gh.made])).trep⟩;rw [zCe _ _ ho];simp only [Instr.makeMap,Option.map_none,Sem.run_bind,run_newObj,Result.andThen_ok,Sem.run_pure];rfl
 ·cases hok
theorem zxb {k:Value} {x:Value} (h:vh k x=some false):x≠k:=by
 rintro rfl;cases x with
 |string s=>simp only [vh,Option.some.injEq]at h;rw [zbQ.2 rfl]at h;cases h
 |int k n=>simp [vh]at h
 |_=>simp [vh]at h
theorem zud {k:Value}:∀{l:List (Value×AV)} {i:Nat},jq k l i=some none -> k∉l.map (·.1)
 |[],_,_=>by simp
 |(x,v)::l,i,h=>by
  simp only [jq]at h;split at h
  ·cases h
  ·rename_i hs;have h1:=zxb hs;have h2:=zud h;simp only [List.map_cons,List.mem_cons,not_or];exact ⟨fun e=>h1 e.symm,h2⟩
  ·cases h
theorem Fr.writeMap (hF:Fr A D G ρ σ a w) {id:Nat} {es es':List (Value×AV)} {x:Nat×Nat×Nat} (hid:σ.S.ro <=id) (hh:σ.S.heap id=some (.map es)) (hx:G.ι id=some x) {ms':Array MapEntry} {c':Nat}
 (he:es'.map (·.1)=ms'.toList.map (·.key)) (hr:zp G w (es'.map (·.2)) (ms'.toList.map (·.val))) (hs:(es'.all fun e=>qB e.1)=true) (hbn:vi ms' c'):
 Fr A D G ρ {σ with S:=σ.S.set id (some (.map es'))} a {w with heap:=w.heap.setIfInBounds x.1 (.map ms' c')} /\ Ext D G w G {w with heap:=w.heap.setIfInBounds x.1 (.map ms' c')}:=by
 obtain ⟨y,hy,ho⟩:=hF.sim.obj id _ hh;rw [hx]at hy;cases hy;obtain ⟨h0,ms,cl,k1,_⟩:=ho;obtain ⟨m1,m2,m3⟩:=zDV (o:=.map ms' c') k1;have hF1:=hF.less (hp:=(σ.S.set id none).heap) (by intro j o e';simp only [AS.set]at e';split at e'<;>simp_all);have hfree:=hF.free_kill hid hh hx h0;obtain ⟨hF2,hx2⟩:=Fr.write (b:=x.1) hF1 hfree (Nat.le_of_eq m3.symm) m2 ⟨rfl,rfl,rfl⟩;refine ⟨?_,hx2⟩;have hlt:id < σ.S.n:=by
  rcases Nat.lt_or_ge id σ.S.n with h|h
  ·exact h
  ·rw [(hF.sim.fresh id h).1]at hh;cases hh
 have this:Fr A D G ρ {σ with S:=(σ.S.set id none).set id (some (.map es'))} a _:=
  hF2.take (id:=id) hx (by simp [AS.set]) hlt (fun _=>hfree) ⟨h0,ms',c',m1,he,hr.mono hx2.toLe,hs,hbn⟩
 rw [zmS]at this;exact this
theorem zu9 (hF:Fr A D G ρ σ a w) {o:Oper} {str:Bool} {xs:List zl} (hok:yH P G.K o.op (.mapset str) xs=true) {vs:List AV} (hev:evs A σ.tm xs=some vs)
 {v:AV} {ru:Option (Nat×List AV)} {S':AS} (hp:za (.mapset str) o.dst σ.rg σ.S vs=some (v,ru,S')):qa P A D G ({σ with S:=S'}.regs ru) a w (execOp a.eval o) v:=by
 have main:∀{t m k x},zem P t=some str -> zR G.K xs [m,k,x]=true -> (execOp a.eval o=(do Instr.mapUpdate t (a.eval m) (a.eval k) (a.eval x);Pure.pure .skip)) -> qa P A D G ({σ with S:=S'}.regs ru) a w (execOp a.eval o) v:=by
  intro t m k x hks hok hex;obtain ⟨kt,et,d,hK⟩:=zl0 hks;have hts:=yu hF hok hev;unfold za at hp;split at hp<;>simp only [reduceCtorEq,AOp.mapset.injEq]at *<;>try (cases hp;done)
  rename_i str' id kv u heq;subst heq;split at hp
  ·rename_i hc;obtain ⟨hid,hreg,hstr⟩:=hc;split at hp
   ·rename_i aes hh;cases hf:jq kv aes 0 with
    |none=>rw [hf]at hp;cases hp
    |some f=>
     rw [hf]at hp;simp only [Option.map_some,Option.some.injEq,Prod.mk.injEq]at hp;obtain ⟨rfl,rfl,rfl⟩:=hp;generalize hys:List.map a.eval [m,k,x]=ys at hts;cases hts with
     |cons hM ht=>
      cases ht with
      |cons hKv ht=>
       cases ht with
       |cons hV ht=>
        cases ht;rename_i xm xk xv;simp only [List.map_cons,List.map_nil,List.cons.injEq,and_true]at hys;obtain ⟨em,ek,ev⟩:=hys;have ekk:=hKv.sc;have hsc:qB kv=true:=by have h':Rep G w (.sc kv) _:=hKv;cases h';assumption
        have hVr:=hV.rep hreg;obtain ⟨b,sz,N,hi',e1⟩:=Rep.mp_inv (x:=xm) hM;obtain ⟨yy,hy,ho'⟩:=hF.sim.obj id _ hh;rw [hi']at hy;cases hy;obtain ⟨_,ms,cl,m1,m2,m3,m4,m5⟩:=ho';rcases zhA hK.kind hstr m2 m3 hf with ⟨rfl,hn⟩|⟨j,av,uu,rfl,hn,hrep,_,hkey,hb⟩
        ·obtain ⟨k1,k2⟩:=hF.writeMap (es':=aes++[(kv,u)]) (ms':=ms.push {key:=kv,val:=xv,born:=cl}) (c':=cl+1) hid hh hi' (by simp [m2]) (by
          simp only [List.map_append,List.map_cons,List.map_nil,Array.toList_push];exact m3.append (.cons hVr .nil)) (by simpa [hsc] using m4) (m5.push (by rw [<- m2];exact zud hf))
         refine ⟨undef,_,G,ρ,.inr ⟨?_,rfl⟩,k1,k2,Rep.trep .junk⟩;rw [hex,em,ek,ev,e1,ekk];simp only [Instr.mapUpdate,Sem.run_bind,und hK.map,Result.andThen_ok,zbB m1,zbg hK _ 9999,zbb hK.key hn,zeD m1,Sem.run_pure]
        ·have hj:(ms.toList[j]?).map (·.key)=some kv:=by simpa using hkey
         have hjlt:j < ms.size:=by
          rcases Nat.lt_or_ge j ms.size with h|h
          ·exact h
          ·rw [List.getElem?_eq_none (by simpa using h)]at hj;cases hj
         obtain ⟨k1,k2⟩:=hF.writeMap (es':=aes.set j (kv,u)) (ms':=ms.modify j fun e=>{e with key:=kv,val:=xv}) (c':=cl) hid hh hi' (by
          rw [List.map_set,m2];apply List.ext_getElem?;intro q;rw [List.getElem?_set,List.getElem?_map,List.getElem?_map,Array.toList_modify];by_cases hq:j=q
          ·subst hq;simp [hjlt]
          ·simp [hq,List.getElem?_modify]) (by
          rw [List.map_set];have e2:List.map (fun x=>x.val) (ms.modify j fun e=>{e with key:=kv,val:=xv}).toList=(ms.toList.map (·.val)).set j xv:=by
           apply List.ext_getElem?;intro q;rw [List.getElem?_set,List.getElem?_map,Array.toList_modify];by_cases hq:j=q
           ·subst hq;simp [hjlt]
           ·simp [hq,List.getElem?_modify]
          rw [e2];exact m3.set hVr j) (by
          rw [List.all_eq_true]at m4 ⊢;intro e' he';rcases List.mem_or_eq_of_mem_set he' with h|rfl
          ·exact m4 e' h
          ·exact hsc) (m5.same (by
          apply List.ext_getElem?;intro q;rw [List.getElem?_map,List.getElem?_map,Array.toList_modify];by_cases hq:j=q
          ·subst hq;simp [hjlt]
          ·simp [hq,List.getElem?_modify]) (by
          apply List.ext_getElem?;intro q;rw [List.getElem?_map,List.getElem?_map,Array.toList_modify];by_cases hq:j=q
          ·subst hq;rw [List.getElem?_modify_eq,hj];cases hms:ms.toList[j]? with
           |none=>rw [hms]at hj;cases hj
           |some e=>rfl
          ·simp [hq,List.getElem?_modify]))
         refine ⟨undef,_,G,ρ,.inr ⟨?_,rfl⟩,k1,k2,Rep.trep .junk⟩;rw [hex,em,ek,ev,e1,ekk];have hstay:(Instr.keyThatStays (((ms[j]?).map (·.key)).getD kv) kv).run P w=.ok kv w:=by
          have:(ms[j]?).map (·.key)=some kv:=by simpa using hj
          rw [this];simp only [Instr.keyThatStays,Option.getD_some,hb,if_true,Sem.run_pure]
         simp only [Instr.mapUpdate,Sem.run_bind,und hK.map,Result.andThen_ok,zbB m1,zbg hK _ 9999,zbb hK.key hn,hstay,zeD m1,Sem.run_pure]
   ·cases hp
  ·cases hp
 simp only [yH]at hok;split at hok
 ·rename_i t m k x ho;simp only [Bool.and_eq_true,beq_iff_eq]at hok;exact main hok.1 hok.2 (zIA _ _ ho)
 ·rename_i t m k x ho;simp only [Bool.and_eq_true,beq_iff_eq]at hok;exact main hok.1 hok.2 (zyW _ _ ho)
 ·cases hok
theorem zwM (hF:Fr A D G ρ σ a w) {o:Oper} {xs:List zl} (hok:yH P G.K o.op .clearM xs=true) {vs:List AV} (hev:evs A σ.tm xs=some vs)
 {v:AV} {ru:Option (Nat×List AV)} {S':AS} (hp:za .clearM o.dst σ.rg σ.S vs=some (v,ru,S')):qa P A D G ({σ with S:=S'}.regs ru) a w (execOp a.eval o) v:=by
 simp only [yH]at hok;split at hok
 ·rename_i as ts ho;simp only [Bool.and_eq_true]at hok;obtain ⟨ht,hok⟩:=hok;have hts:=yu hF hok hev;unfold zf1 at ht;split at ht
  ·rename_i t ht0;obtain ⟨kt,et,hu⟩:∃kt et,P.underlying t=some (.map kt et):=by split at ht<;>simp_all
   unfold za at hp;split at hp<;>simp only [reduceCtorEq]at *<;>try (cases hp;done)
   rename_i id heq;split at hp
   ·rename_i hid;split at hp
    ·rename_i aes hh;cases hp;obtain ⟨x',hx',hM⟩:=TL.one_of hts;obtain ⟨b,sz,N,hi',e1⟩:=Rep.mp_inv (x:=x') hM;obtain ⟨yy,hy,ho'⟩:=hF.sim.obj id _ hh;rw [hi']at hy;cases hy;obtain ⟨_,ms,cl,m1,_⟩:=ho';obtain ⟨k1,k2⟩:=hF.writeMap (es':=[]) (ms':=#[]) (c':=cl) hid hh hi' rfl .nil rfl (vi.nil cl);refine ⟨.tuple #[],_,G,ρ,.inl ?_,k1,k2,(Rep.tup .nil).trep⟩;rw [vz ho,zct hx',e1];simp only [builtin,Builtin.clear_,ht0,List.getElem?_toArray,List.getElem?_cons_zero,Sem.run_bind,und hu,zbB m1,zeD m1,Result.andThen_ok,Sem.run_pure]
    ·cases hp
   ·cases hp
  ·cases ht
 ·cases hok
theorem zkU {ms:Array MapEntry} {j:Nat}:(ms.eraseIdxIfInBounds j).toList=ms.toList.eraseIdx j:=by
 unfold Array.eraseIdxIfInBounds;split
 ·simp
 ·rename_i h;rw [List.eraseIdx_of_length_le (by simpa using Nat.le_of_not_lt h)]
theorem zfT {α β:Type} (f:α -> β):∀(l:List α) (j:Nat),(l.eraseIdx j).map f=(l.map f).eraseIdx j
 |[],_=>rfl
 |_::_,0=>rfl
 |a::l,j+1=>by simp only [List.eraseIdx_cons_succ,List.map_cons,zfT f l j]
theorem zuf {G:Gh} {w:World}:∀{l:List AV} {m:List Value} (j:Nat),zp G w l m -> zp G w (l.eraseIdx j) (m.eraseIdx j)
 |_,_,_,.nil=>.nil
 |_,_,0,.cons _ t=>t
 |_,_,j+1,.cons h t=>.cons h (zuf j t)
theorem zAW (hF:Fr A D G ρ σ a w) {o:Oper} {str:Bool} {xs:List zl} (hok:yH P G.K o.op (.mapdel str) xs=true) {vs:List AV} (hev:evs A σ.tm xs=some vs)
 {v:AV} {ru:Option (Nat×List AV)} {S':AS} (hp:za (.mapdel str) o.dst σ.rg σ.S vs=some (v,ru,S')):qa P A D G ({σ with S:=S'}.regs ru) a w (execOp a.eval o) v:=by
 simp only [yH]at hok;split at hok
 ·rename_i as ts ho;simp only [Bool.and_eq_true]at hok;obtain ⟨ht,hok⟩:=hok;split at ht
  ·rename_i t ht0;simp only [beq_iff_eq]at ht;obtain ⟨kt,et,d,hK⟩:=zl0 ht;have hts:=yu hF hok hev;unfold za at hp;split at hp<;>simp only [reduceCtorEq,AOp.mapdel.injEq]at *<;>try (cases hp;done)
   rename_i str' id kv heq;subst heq;split at hp
   ·rename_i hc;obtain ⟨hid,hstr⟩:=hc;split at hp
    ·rename_i aes hh;cases hf:jq kv aes 0 with
     |none=>rw [hf]at hp;cases hp
     |some f=>
      rw [hf]at hp;simp only [Option.map_some,Option.some.injEq,Prod.mk.injEq]at hp;obtain ⟨rfl,rfl,rfl⟩:=hp;generalize hys:List.map a.eval as.toList=ys at hts;cases hts with
      |cons hM ht=>
       cases ht with
       |cons hKv ht=>
        cases ht;rename_i xm xk;have ekk:=hKv.sc;obtain ⟨b,sz,N,hi',e1⟩:=Rep.mp_inv (x:=xm) hM;obtain ⟨yy,hy,ho'⟩:=hF.sim.obj id _ hh;rw [hi']at hy;cases hy;obtain ⟨_,ms,cl,m1,m2,m3,m4,m5⟩:=ho';have harr:as.map a.eval=#[xm,xk]:=by
         apply Array.toList_inj.1;rw [Array.toList_map,hys]
        rcases zhA hK.kind hstr m2 m3 hf with ⟨rfl,hn⟩|⟨j,av,uu,rfl,hn,hrep,_,hkey,hb⟩
        ·obtain ⟨k1,k2⟩:=hF.writeMap (es':=aes) (ms':=ms) (c':=cl) hid hh hi' m2 m3 m4 m5;refine ⟨.tuple #[],_,G,ρ,.inl ?_,k1,k2,(Rep.tup .nil).trep⟩;rw [vz ho,harr,e1,ekk];simp only [builtin,Builtin.delete_,ht0,List.getElem?_toArray,List.getElem?_cons_zero,List.getElem?_cons_succ,Sem.run_bind,und hK.map,zbB m1,zbg hK _ 9999,zbb hK.key hn,zeD m1,Result.andThen_ok,Sem.run_pure]
        ·obtain ⟨k1,k2⟩:=hF.writeMap (es':=aes.eraseIdx j) (ms':=ms.eraseIdxIfInBounds j) (c':=cl) hid hh hi' (by rw [zkU,zfT,zfT,m2])
          (by rw [zkU,zfT,zfT];exact zuf j m3) (by
           rw [List.all_eq_true]at m4 ⊢;intro e he;exact m4 e (List.mem_of_mem_eraseIdx he)) (m5.sub (by rw [zkU];exact List.eraseIdx_sublist _ _))
         refine ⟨.tuple #[],_,G,ρ,.inl ?_,k1,k2,(Rep.tup .nil).trep⟩;rw [vz ho,harr,e1,ekk];simp only [builtin,Builtin.delete_,ht0,List.getElem?_toArray,List.getElem?_cons_zero,List.getElem?_cons_succ,Sem.run_bind,und hK.map,zbB m1,zbg hK _ 9999,zbb hK.key hn,zeD m1,Result.andThen_ok,Sem.run_pure]
    ·cases hp
   ·cases hp
  ·cases ht
 ·cases hok
end
section
variable {A:zx} {D:Nat -> Prop} {G:Gh} {ρ:Nat -> Option Nat} {σ:ASt} {a:Act} {w:World} {P:Program} {rg:Nat -> Option (List AV)}
theorem zF.flat_take {sz:Nat} {rs:List (List AV)} {vs:List (List Value)} (h:zF G w sz rs vs) (p:Nat):(vs.take p).flatten=vs.flatten.take (p * sz):=by
 induction p generalizing rs vs with
 |zero=>simp
 |succ p ih=>
  cases h with
  |nil=>simp
  |cons h e c t=>
   rename_i r rs v vs;have hl:=h.length;simp only [List.take_succ_cons,List.flatten_cons,ih t];rw [show (p+1) * sz=v.length+p * sz by rw [<- hl,e,Nat.add_mul];omega];rw [List.take_append,List.take_of_length_le (show v.length <=v.length+p * sz by omega),Nat.add_sub_cancel_left]
theorem zF.flat_drop {sz:Nat} {rs:List (List AV)} {vs:List (List Value)} (h:zF G w sz rs vs) (p:Nat):(vs.drop p).flatten=vs.flatten.drop (p * sz):=by
 induction p generalizing rs vs with
 |zero=>simp
 |succ p ih=>
  cases h with
  |nil=>simp
  |cons h e c t=>
   rename_i r rs v vs;have hl:=h.length;simp only [List.drop_succ_cons,List.flatten_cons,ih t];rw [show (p+1) * sz=v.length+p * sz by rw [<- hl,e,Nat.add_mul];omega];rw [List.drop_append,List.drop_eq_nil_of_le (show v.length <=v.length+p * sz by omega),Nat.add_sub_cancel_left,List.nil_append]
theorem zF.oneCells {sz:Nat} {rs:List (List AV)} {vs:List (List Value)} (h:zF G w sz rs vs):∀u∈vs.flatten,u.oneCell'=true:=by
 intro u hu;obtain ⟨l,hl,hul⟩:=List.mem_flatten.1 hu;clear hu
 induction vs generalizing rs with
 |nil=>simp at hl
 |cons v vs ih=>
  cases h with
  |cons h e c t=>
   rcases List.mem_cons.1 hl with rfl|hl
   ·exact c u hul
   ·exact ih t hl
theorem zCa {sz N p:Nat} {rs ys:List (List AV)} {vs us:List (List Value)} {c:Array Value} (hv:zF G w sz rs vs) (hfl:vs.flatten=c.toList.take (rs.length * sz)) (hu:zF G w sz ys us) (hc:c.size=N * sz) (hR:rs.length <=N) (hp:p <=rs.length) (hN:p+ys.length <=N):
 ∃vs',zF G w sz (qF rs p ys) vs' /\ vs'.flatten=(c.toList.take (p * sz)++us.flatten++c.toList.drop (p * sz+us.flatten.length)).take ((qF rs p ys).length * sz) /\ (qF rs p ys).length <=N /\ p * sz+us.flatten.length <=c.size:=by
 have hul:us.flatten.length=ys.length * sz:=hu.flat_length;have hpN:(p+ys.length) * sz <=N * sz:=Nat.mul_le_mul_right sz hN;have hRN:rs.length * sz <=N * sz:=Nat.mul_le_mul_right sz hR;have hpR:p * sz <=rs.length * sz:=Nat.mul_le_mul_right sz hp;rw [Nat.add_mul]at hpN;have hlen:(qF rs p ys).length=max rs.length (p+ys.length):=by
  unfold qF;simp only [List.length_append,List.length_take,List.length_drop];simp only [Nat.max_def];split<;>omega
 refine ⟨vs.take p++us++vs.drop (p+ys.length),((hv.take p).append hu).append (hv.drop _),?_,by rw [hlen];exact Nat.max_le.2 ⟨hR,hN⟩,by omega⟩;rw [List.flatten_append,List.flatten_append,hv.flat_take,hv.flat_drop,hfl,hlen,hul,Nat.add_mul];have hcl:c.toList.length=N * sz:=by simpa using hc
 by_cases hle:p+ys.length <=rs.length
 ·rw [Nat.max_eq_left hle];have hmul:(p+ys.length) * sz <=rs.length * sz:=Nat.mul_le_mul_right sz hle;rw [Nat.add_mul]at hmul;have:=zpn (l:=c.toList) (us:=us.flatten) (p:=p * sz) (L:=rs.length * sz) (by omega) (by omega);rw [hul]at this;rw [this]
 ·rw [Nat.max_eq_right (by omega),Nat.add_mul];have hmul:rs.length * sz <=(p+ys.length) * sz:=Nat.mul_le_mul_right sz (by omega);rw [Nat.add_mul]at hmul;rw [List.take_take,Nat.min_eq_left hpR,List.drop_eq_nil_of_le (as:=c.toList.take (rs.length * sz)) (by rw [List.length_take];omega),List.append_nil];have hlenL:(c.toList.take (p * sz)++us.flatten).length=p * sz+ys.length * sz:=by rw [List.length_append,List.length_take];omega
  rw [<- hlenL,List.take_left]
theorem zjQ (hS:Sim G σ.S w) {sz:Nat} {v:AV} {x:Value} (hr:Rep G w v x) {ys:List (List AV)} (hy:zv sz σ.S v=some ys):
 ∃ad c us,x=.slice ad ys.length c /\ zF G w sz ys us /\ (ys=[] \/ ∃b off,ad=some ⟨b,off,none⟩ /\ ∀j u,us.flatten[j]?=some u -> w.cell? ⟨b,off+j,none⟩=some u):=by
 unfold zv at hy;split at hy
 ·rename_i z full xs;split at hy
  ·rename_i hz;cases hy;obtain ⟨ad,c,e1,hc,hf,hcase⟩:=hr.lst_inv;rcases hcase with rfl|⟨b,off,us,rfl,hat,hrr⟩
   ·exact ⟨ad,c,[],e1,.nil,.inl rfl⟩
   ·simp only [Bool.or_eq_true,decide_eq_true_eq,List.isEmpty_iff]at hz;rcases hz with rfl|rfl
    ·exact ⟨_,c,us,e1,hrr,.inr ⟨b,off,rfl,fun j u hj=>(hat j u hj).2⟩⟩
    ·exact ⟨_,c,[],e1,.nil,.inl rfl⟩
  ·cases hy
 ·rename_i id z off n lim;split at hy
  ·rename_i hz;subst hz;unfold AS.slice at hy;rw [if_pos (Nat.zero_le _)]at hy;split at hy
   ·rename_i sz' rs hh;split at hy
    ·rename_i hc;obtain ⟨rfl,hle⟩:=hc;cases hy;obtain ⟨b,N,ad,hi,hl,hN,ha,e1⟩:=hr.arr_inv;obtain ⟨y,hy',ho⟩:=hS.obj id _ hh;rw [hi]at hy';cases hy';have hlen:((rs.drop off).take n).length=n:=by simp;omega
     rw [hlen];by_cases h0:n=0
     ·subst h0;exact ⟨ad,_,[],e1,by simpa using .nil,.inl (by simp)⟩
     ·rcases ha with ha|rfl
      ·omega
      ·have hn0:(rs[off]?).isSome:=by simp;omega
       obtain ⟨row,hrow⟩:=Option.isSome_iff_exists.1 hn0;obtain ⟨_,carr,e,vs,u,k1,k2,k3,k4,_⟩:=zbn ho hrow;refine ⟨_,_,(vs.drop off).take n,e1,(k3.drop off).take n,.inr ⟨b,off * sz',rfl,?_⟩⟩;intro j u hj;rw [(k3.drop off).flat_take,k3.flat_drop,k4,List.getElem?_take]at hj;split at hj
       ·rw [List.getElem?_drop,List.getElem?_take]at hj;split at hj
        ·simp only [World.cell?,k1];simpa using hj
        ·cases hj
       ·cases hj
    ·cases hy
   ·cases hy
  ·cases hy
 ·cases hy
theorem zdB {sz n:Nat} {ad:Option Addr} {c:Nat} {us:List Value} (hl:us.length=n * sz) (h:n=0 \/ ∃b off,ad=some ⟨b,off,none⟩ /\ ∀j u,us[j]?=some u -> w.cell? ⟨b,off+j,none⟩=some u):
 (Builtin.firstCells sz n (.slice ad n c)).run P w=.ok us.toArray w:=by
 cases ad with
 |none=>
  rcases h with rfl|⟨b,off,e,_⟩
  ·simp at hl;subst hl;rfl
  ·cases e
 |some ad=>
  simp only [Builtin.firstCells];rw [<- hl];apply run_loadCells_list;intro j u hj;rcases h with rfl|⟨b,off,e,hc⟩
  ·simp at hl;subst hl;simp at hj
  ·cases e;rw [zam];exact hc j u hj
structure ziO (P:Program) (ts:Array TypeId) (sz bytes:Nat) (t0 t1 e:TypeId) (d1:TypeDesc) (i:TypeInfo) (z:Value):Prop where
 ht0:ts[0]?=some t0
 ht1:ts[1]?=some t1
 hu0:P.underlying t0=some (.slice e)
 hu1:P.underlying t1=some d1
 hn1:zan d1=false
 hinf:P.info? e=some i
 hsize:i.size=sz
 hpos:0 < sz
 hbytes:i.bytes=bytes
 hbpos:0 < bytes
 hzero:i.zero=some z
 hzsize:z.cells.size=sz
theorem zsi (need cap:Nat) (h:cap < need):Builtin.nextslicecap need cap <=2 * need:=by
 unfold Builtin.nextslicecap;split
 ·omega
 ·split
  ·omega
  ·rename_i h1 h2;have hgrow:∀rounds c:Nat,c <=2 * need -> Builtin.growBy need rounds c <=2 * need:=by
    intro rounds
    induction rounds with
    |zero=>intro c hc;simpa [Builtin.growBy] using hc
    |succ n ih=>
     intro c hc;simp only [Builtin.growBy];split
     ·exact hc
     ·exact ih _ (by omega)
   exact hgrow 4 cap (by omega)
theorem zr5 {ts:Array TypeId} {sz bytes:Nat} {t0 t1 e:TypeId} {d1:TypeDesc} {i:TypeInfo} {z:Value} (hT:ziO P ts sz bytes t0 t1 e d1 i z) {ty:TypeId} {xad:Option Addr} {sLen sCap n xc b off:Nat} {us:List Value} {w':World}
 (hl:us.length=n * sz) (hx:n=0 \/ ∃b off,xad=some ⟨b,off,none⟩ /\ ∀j u,us[j]?=some u -> w.cell? ⟨b,off+j,none⟩=some u) (hroom:sLen+n <=sCap)
 (hst:(storeCells (⟨b,off+sLen * sz,none⟩:Addr) us).run P w=.ok () w'):
 (Builtin.append_ ts ty #[.slice (some ⟨b,off,none⟩) sLen sCap,.slice xad n xc]).run P w=.ok (.slice (some ⟨b,off,none⟩) (sLen+n) sCap) w':=by
 have hs:yJ P e=some sz:=by unfold yJ;rw [hT.hinf];simp [hT.hsize]
 have hu1:=hT.hu1;have hn1:=hT.hn1;cases d1<;>first
  |(simp [zan]at hn1;done)
  |simp only [Builtin.append_,hT.ht0,hT.ht1,List.getElem?_toArray,List.getElem?_cons_zero,List.getElem?_cons_succ,Sem.run_bind,und hT.hu0,und hu1,Result.andThen_ok,siz hs,Sem.run_pure,Bool.false_eq_true,if_false,Builtin.lenOf,
   if_pos hroom,Bool.not_false,if_true,zdB (P:=P) hl hx,zam,hst]
theorem zlD {ts:Array TypeId} {sz bytes:Nat} {t0 t1 e:TypeId} {d1:TypeDesc} {i:TypeInfo} {z:Value} (hT:ziO P ts sz bytes t0 t1 e d1 i z) {ty:TypeId} {base xad:Option Addr} {sLen sCap xc:Nat} (hroom:sLen <=sCap):
 (Builtin.append_ ts ty #[.slice base sLen sCap,.slice xad 0 xc]).run P w=.ok (.slice base sLen sCap) w:=by
 have hs:yJ P e=some sz:=by unfold yJ;rw [hT.hinf];simp [hT.hsize]
 have hf:(Builtin.firstCells sz 0 (.slice xad 0 xc)).run P w=.ok #[] w:=zdB (P:=P) (us:=[]) (by simp) (.inl rfl);have hu1:=hT.hu1;have hn1:=hT.hn1;cases base<;>cases d1<;>first
  |(simp [zan]at hn1;done)
  |simp only [Builtin.append_,hT.ht0,hT.ht1,List.getElem?_toArray,List.getElem?_cons_zero,List.getElem?_cons_succ,Sem.run_bind,und hT.hu0,und hu1,Result.andThen_ok,siz hs,Sem.run_pure,Bool.false_eq_true,if_false,Builtin.lenOf,
   Nat.add_zero,if_pos hroom,Bool.not_false,if_true,hf,storeCells]
theorem zlO {ts:Array TypeId} {sz bytes:Nat} {t0 t1 e:TypeId} {d1:TypeDesc} {i:TypeInfo} {z:Value} (hT:ziO P ts sz bytes t0 t1 e d1 i z) {ty:TypeId} {base xad:Option Addr} {sLen sCap n xc:Nat} {os us:List Value}
 (hl:us.length=n * sz) (hx:n=0 \/ ∃b off,xad=some ⟨b,off,none⟩ /\ ∀j u,us[j]?=some u -> w.cell? ⟨b,off+j,none⟩=some u)
 (hlo:os.length=sLen * sz) (ho:sLen=0 \/ ∃b off,base=some ⟨b,off,none⟩ /\ ∀j u,os[j]?=some u -> w.cell? ⟨b,off+j,none⟩=some u)
 (hgrow:sCap < sLen+n) (hfit:(sLen+n) * bytes <=140737488355328):
 ∃newCap rest,sLen+n <=newCap /\ rest.length=(newCap - (sLen+n)) * sz /\
  (Builtin.append_ ts ty #[.slice base sLen sCap,.slice xad n xc]).run P w=.ok (.slice (some ⟨w.heap.size,0,none⟩) (sLen+n) newCap) (w.drew.alloc (.cells (os++us++rest).toArray e)):=by
 have hs:yJ P e=some sz:=by unfold yJ;rw [hT.hinf];simp [hT.hsize]
 have hnc:=zsi (sLen+n) sCap hgrow;have hfit':¬(Builtin.nextslicecap (sLen+n) sCap * bytes > 2 ^ 48):=by
  have h1:=Nat.mul_le_mul_right bytes hnc;have h2:(2:Nat) ^ 48=281474976710656:=by decide
  have h3:2 * (sLen+n) * bytes=2 * ((sLen+n) * bytes):=Nat.mul_assoc _ _ _;omega
 have hb0:¬bytes=0:=by have:=hT.hbpos;omega
 refine ⟨Question.cut (.appendCap (sLen+n) sCap e) (w.tape w.drawn (.appendCap (sLen+n) sCap e)),(Builtin.zeroCells z.cells (Question.cut (.appendCap (sLen+n) sCap e) (w.tape w.drawn (.appendCap (sLen+n) sCap e)) - (sLen+n))).toList,?_,?_,?_⟩
 ·simp only [Question.cut];omega
 ·simp [Builtin.zeroCells,hT.hzsize]
 ·have hx':n=0 \/ ∃b off,xad=some ⟨b,off,none⟩ /\ ∀j u,us[j]?=some u -> w.drew.cell? ⟨b,off+j,none⟩=some u:=hx;have ho':sLen=0 \/ ∃b off,base=some ⟨b,off,none⟩ /\ ∀j u,os[j]?=some u -> w.drew.cell? ⟨b,off+j,none⟩=some u:=ho;have hb:(typeInfo e).run P w=.ok i w:=inf hT.hinf;have hb':(zeroValue e).run P w.drew=.ok z w.drew:=zer hT.hinf hT.hzero;have hu1:=hT.hu1;have hn1:=hT.hn1;have hby:=hT.hbytes;have e3:∀Z:Array Value,os.toArray++us.toArray++Z=(os++us++Z.toList).toArray:=by intro Z;apply Array.toList_inj.1;simp
  have hfz:(Question.appendCap (sLen+n) sCap e).forced=false:=rfl;cases d1<;>first
   |(simp [zan]at hn1;done)
   |(simp only [Builtin.append_,hT.ht0,hT.ht1,List.getElem?_toArray,List.getElem?_cons_zero,List.getElem?_cons_succ,Sem.run_bind,und hT.hu0,und hu1,Result.andThen_ok,siz hs,Sem.run_pure,Bool.false_eq_true,if_false,Builtin.lenOf,
    if_neg (show ¬(sLen+n <=sCap) by omega),hb,hby,hb0,or_false,and_false,if_neg hfit',run_choose,hfz,run_askRoom,Bool.not_false,if_true,World.drew_eq,inf hT.hinf,zdB (P:=P) hlo ho',zdB (P:=P) hl hx',hb',newRow,run_newObj,World.size_drew,e3]
     rfl)
end
section
variable {A:zx} {D:Nat -> Prop} {G:Gh} {ρ:Nat -> Option Nat} {σ:ASt} {a:Act} {w:World} {P:Program} {rg:Nat -> Option (List AV)}
theorem Fr.overRows (hF:Fr A D G ρ σ a w) {id sz b N p:Nat} {rs ys:List (List AV)} {us:List (List Value)} (hid:σ.S.ro <=id) (hh:σ.S.heap id=some (.rows sz rs)) (hx:G.ι id=some (b,sz,N)) (hu:zF G w sz ys us) (hp:p <=rs.length) (hN:p+ys.length <=N) (h0:0 < N):
 Fr A D G ρ {σ with S:=σ.S.set id none} a (w.setCells b (p * sz) us.flatten) /\ Ext D G w G (w.setCells b (p * sz) us.flatten) /\ zfm D G ρ {σ with S:=σ.S.set id none} b /\
  (∀G',Le G w G' (w.setCells b (p * sz) us.flatten) -> vn G' (w.setCells b (p * sz) us.flatten) (b,sz,N) (.rows sz (qF rs p ys))) /\
  (∀P:Program,(storeCells (⟨b,p * sz,none⟩:Addr) us.flatten).run P w=.ok () (w.setCells b (p * sz) us.flatten)):=by
 obtain ⟨y,hy,ho⟩:=hF.sim.obj id _ hh;rw [hx]at hy;cases hy;obtain ⟨_,hsz,hR,h4⟩:=ho;simp only at hR h4;rcases h4 with h4|⟨c,e,vs,k1,k2,k3,k4⟩
 ·omega
 ·obtain ⟨vs',r1,r2,r3,r4⟩:=zCa k3 k4 hu k2 hR hp hN;obtain ⟨m1,m2,m3⟩:=zk7 (w:=w) (b:=b) (off:=p * sz) (us:=us.flatten) k1 r4;have hF1:=hF.less (hp:=(σ.S.set id none).heap) (by intro j o e';simp only [AS.set]at e';split at e'<;>simp_all);have hfree:=hF.free_kill hid hh hx h0;obtain ⟨hF2,hx2⟩:=Fr.write (b:=b) hF1 hfree (Nat.le_of_eq m3.symm) m2 (zhY _ _ _ _);refine ⟨hF2,hx2,hfree,?_,?_⟩
  ·intro G' hle;refine ⟨rfl,hsz,r3,.inr ⟨_,e,vs',m1,?_,r1.mono hle,?_⟩⟩
   ·simp only [List.size_toArray,List.length_append,List.length_take,List.length_drop,Array.length_toList];omega
   ·rw [r2]
  ·intro P;have:=run_storeCells_cells (P:=P) b (p * sz) us.flatten 0 w (by
    intro j hj;simp only [World.cell?,k1,Nat.add_zero];simp [show p * sz+j < c.size by omega]) (by
    intro j hj;simp only [World.frozen?,k1];simp) hu.oneCells
   simpa using this
theorem zuN (hF:Fr A D G ρ σ a w) {id:Nat} {o:jb} (hh:σ.S.heap id=some o):id < σ.S.n:=by
 rcases Nat.lt_or_ge id σ.S.n with h|h
 ·exact h
 ·rw [(hF.sim.fresh id h).1]at hh;cases hh
theorem Fr.setRows' (hF:Fr A D G ρ σ a w) {id sz b N p:Nat} {rs ys:List (List AV)} {us:List (List Value)} (hid:σ.S.ro <=id) (hh:σ.S.heap id=some (.rows sz rs)) (hx:G.ι id=some (b,sz,N)) (hu:zF G w sz ys us) (hp:p <=rs.length) (hN:p+ys.length <=N) (h0:0 < N):
 Fr A D G ρ {σ with S:=σ.S.set id (some (.rows sz (qF rs p ys)))} a (w.setCells b (p * sz) us.flatten) /\ Ext D G w G (w.setCells b (p * sz) us.flatten) /\ (∀P:Program,(storeCells (⟨b,p * sz,none⟩:Addr) us.flatten).run P w=.ok () (w.setCells b (p * sz) us.flatten)):=by
 obtain ⟨h1,h2,h3,h4,h5⟩:=hF.overRows hid hh hx hu hp hN h0;refine ⟨?_,h2,h5⟩;have this:Fr A D G ρ {σ with S:=(σ.S.set id none).set id (some (.rows sz (qF rs p ys)))} a _:=h1.take (id:=id) hx (by simp [AS.set]) (zuN hF hh) (fun _=>h3) (h4 G h2.toLe);rw [zmS]at this;exact this
theorem Fr.grown (hF:Fr A D G ρ σ a w) {sz newCap:Nat} {rs:List (List AV)} {us:List (List Value)} {rest:List Value} {e:Nat} (hr:zF G w sz rs us) (hsz:0 < sz) (hN:rs.length <=newCap) (hrest:rest.length=(newCap - rs.length) * sz):
 ∃G',Fr A D G' ρ {σ with S:=σ.S.new (.rows sz rs)} a (w.drew.alloc (.cells (us.flatten++rest).toArray e)) /\ Ext D G w G' (w.drew.alloc (.cells (us.flatten++rest).toArray e)) /\
  Rep G' (w.drew.alloc (.cells (us.flatten++rest).toArray e)) (.arr σ.S.n sz 0 rs.length none) (.slice (some ⟨w.heap.size,0,none⟩) rs.length newCap):=by
 obtain ⟨hd,hxd⟩:=hF.same (w':=w.drew) rfl;have hi:=(hd.sim.fresh σ.S.n (Nat.le_refl _)).2;have hle:Le G w.drew (G.made σ.S.n (w.drew.heap.size,sz,newCap)) (w.drew.alloc (.cells (us.flatten++rest).toArray e)):=zfz hi hd.sim.lt;have hfl:=hr.flat_length;obtain ⟨k1,k2⟩:=hd.made (.cells (us.flatten++rest).toArray e) (sz:=sz) (N:=newCap) (ao:=.rows sz rs) (by
  refine ⟨rfl,hsz,hN,?_⟩;right;refine ⟨_,e,us,zd1,?_,(hr.mono hxd.toLe).mono hle,?_⟩
  ·simp only [List.size_toArray,List.length_append,hfl,hrest];rw [<- Nat.add_mul];congr 1;omega
  ·simp only [List.toList_toArray];rw [<- hfl,List.take_left])
 refine ⟨_,k1,hxd.trans k2,?_⟩;have:(G.made σ.S.n (w.drew.heap.size,sz,newCap)).ι σ.S.n=some (w.heap.size,sz,newCap):=by simp [Gh.made]
 exact .arr (off:=0) (lim:=none) this (by simpa using hN) (Nat.le_refl _) (by simp) (.inr (by simp))
theorem zwK {ts:Array TypeId} {sz bytes:Nat} (h:((match zar P ts with|some e=>(match P.info? e with|some i=>i.size==sz && decide (0 < sz) && i.bytes==bytes && decide (0 < bytes) && (match i.zero with|some z=>z.cells.size==sz|none=>false)|none=>false)|none=>false) &&
 (match ts[1]? with|some t=>(match P.underlying t with|some d=>!zan d|none=>false)|none=>false))=true):∃t0 t1 e d1 i z,ziO P ts sz bytes t0 t1 e d1 i z:=by
 simp only [Bool.and_eq_true]at h;obtain ⟨h1,h2⟩:=h;split at h1
 ·rename_i e he;split at h1
  ·rename_i i hi;simp only [Bool.and_eq_true,beq_iff_eq,decide_eq_true_eq]at h1;obtain ⟨⟨⟨⟨a1,a2⟩,a3⟩,a4⟩,a5⟩:=h1;split at a5
   ·rename_i z hz;split at h2
    ·rename_i t1 ht1;split at h2
     ·rename_i d hd;obtain ⟨t0,ht0,hu0⟩:=zdo he;exact ⟨t0,t1,e,d,i,z,ht0,ht1,hu0,hd,by simpa using h2,hi,a1,a2,a3,a4,hz,by simpa using a5⟩
     ·cases h2
    ·cases h2
   ·cases a5
  ·cases h1
 ·cases h1
theorem mem_append (hF:Fr A D G ρ σ a w) {o:Oper} {sz bytes:Nat} {xs:List zl} (hok:yH P G.K o.op (.append sz bytes) xs=true) {vs:List AV} (hev:evs A σ.tm xs=some vs)
 {v:AV} {ru:Option (Nat×List AV)} {S':AS} (hp:za (.append sz bytes) o.dst σ.rg σ.S vs=some (v,ru,S')):qa P A D G ({σ with S:=S'}.regs ru) a w (execOp a.eval o) v:=by
 simp only [yH]at hok;split at hok
 ·rename_i as ts ho;rw [Bool.and_eq_true]at hok;obtain ⟨hT,hok⟩:=hok;obtain ⟨t0,t1,e,d1,i,z,hT⟩:=zwK hT;have hts:=yu hF hok hev;unfold za at hp;split at hp<;>simp only [reduceCtorEq,AOp.append.injEq]at *<;>try (cases hp;done)
  rename_i sz' bytes' s x heq;obtain ⟨rfl,rfl⟩:=heq;cases hy:zv sz σ.S x with
  |none=>rw [hy]at hp;cases hp
  |some ys=>
   rw [hy]at hp;simp only [Option.bind_some]at hp;cases hap:jd sz bytes σ.S s ys with
   |none=>rw [hap]at hp;cases hp
   |some r=>
    rw [hap]at hp;simp only [Option.map_some,Option.some.injEq,Prod.mk.injEq]at hp;obtain ⟨rfl,rfl,rfl⟩:=hp;obtain ⟨xs',xx,hxs,hSv,hXv⟩:=hts.two_of;have earr:=zlC hxs;have hXr:x.isReg=false:=by unfold zv at hy;cases x<;>simp_all [AV.isReg]
    obtain ⟨xad,xc,us,ex,hru,hrd⟩:=zjQ hF.sim (hXv.rep hXr) hy;have hfl:=hru.flat_length;have hrd':ys.length=0 \/ ∃b off,xad=some ⟨b,off,none⟩ /\ ∀j u,us.flatten[j]?=some u -> w.cell? ⟨b,off+j,none⟩=some u:=by
     rcases hrd with rfl|h
     ·exact .inl rfl
     ·exact .inr h
    have zA:∀{ad len c q w'},xs'=.slice ad len c -> (Builtin.append_ ts o.type #[.slice ad len c,.slice xad ys.length xc]).run P w=.ok q w' -> (execOp a.eval o).run P w=.ok (.value q) w':=by
     intro ad len c q w' e1 hrun;rw [vz ho,earr,e1,ex];simp only [builtin,Sem.run_bind,hrun,Result.andThen_ok,Sem.run_pure]
    show qa P A D G {σ with S:=r.2} a w (execOp a.eval o) r.1;unfold jd at hap;split at hap
    ·
     rename_i hys;have hys:ys=[]:=by simpa using hys
     subst hys;split at hap
     ·rename_i z';cases hap;obtain ⟨ad,c,e1,hc,hf,_⟩:=Rep.lst_inv (x:=xs') hSv;have hc0:c=0:=hf rfl;subst hc0;obtain ⟨k1,k2⟩:=hF.adopt (x:=(0,sz,0)) (o:=.rows sz []) (fun h=>absurd h (by simp)) ⟨rfl,hT.hpos,by simp,.inl rfl⟩;refine ⟨.slice ad 0 0,w,_,ρ,.inl (zA e1 (zlD hT (Nat.le_refl _))),k1,k2,?_⟩;have:(G.made σ.S.n (0,sz,0)).ι σ.S.n=some (0,sz,0):=by simp [Gh.made]
      exact (Rep.arr (off:=0) (lim:=none) this (Nat.le_refl _) (Nat.le_refl _) rfl (.inl rfl)).trep
     ·cases hap;obtain ⟨ad,c,e1,hc,hf,_⟩:=Rep.lst_inv (x:=xs') hSv;exact ⟨xs',w,G,ρ,.inl (by rw [e1];exact zA e1 (zlD hT hc)),hF,Ext.refl _ _ _,hSv⟩
     ·cases hap;obtain ⟨b,N,ad,hi',hl',hN,ha,e1⟩:=Rep.arr_inv (x:=xs') hSv;exact ⟨xs',w,G,ρ,.inl (by rw [e1];exact zA e1 (zlD hT (by omega))),hF,Ext.refl _ _ _,hSv⟩
     ·cases hap
    ·rename_i hys;have hys:ys≠[]:=by simpa using hys
     have hpos:0 < ys.length:=List.length_pos_iff.2 hys;split at hap
     ·
      rename_i z' xs0;split at hap
      ·rename_i hc;simp only [Bool.and_eq_true,Bool.or_eq_true,List.isEmpty_iff,beq_iff_eq,decide_eq_true_eq]at hc;obtain ⟨hz,hfit⟩:=hc;cases hap;obtain ⟨ad,c,e1,hc,hf,hcase⟩:=Rep.lst_inv (x:=xs') hSv;have hc0:c=xs0.length:=hf rfl;subst hc0;obtain ⟨os,hro,hord⟩:∃os,zF G w sz xs0 os /\ (xs0.length=0 \/ ∃b off,ad=some ⟨b,off,none⟩ /\ ∀j u,os.flatten[j]?=some u -> w.cell? ⟨b,off+j,none⟩=some u):=by
        rcases hcase with rfl|⟨b,off,os,rfl,hat,hrr⟩
        ·exact ⟨[],.nil,.inl rfl⟩
        ·rcases hz with rfl|rfl
         ·exact ⟨[],.nil,.inl rfl⟩
         ·exact ⟨os,hrr,.inr ⟨b,off,rfl,fun j u hj=>(hat j u hj).2⟩⟩
       obtain ⟨newCap,rest,hnc,hrl,hrun⟩:=zlO (ty:=o.type) (w:=w) (base:=ad) (sCap:=xs0.length) (xc:=xc) hT (os:=os.flatten) (us:=us.flatten) (sLen:=xs0.length) (n:=ys.length) hfl hrd' hro.flat_length hord (by omega) hfit;obtain ⟨G',k1,k2,k3⟩:=hF.grown (rs:=xs0++ys) (us:=os++us) (rest:=rest) (e:=e) (newCap:=newCap) (hro.append hru) hT.hpos (by simpa using hnc) (by simpa using hrl);simp only [List.flatten_append,List.length_append]at k1 k2 k3;exact ⟨_,_,G',ρ,.inl (zA e1 hrun),k1,k2,k3.trep⟩
      ·cases hap
     ·rename_i id z' off len lim;split at hap
      ·rename_i zz rs hh;split at hap
       ·cases hap
       ·rename_i hc;simp only [ne_eq,not_or,Decidable.not_not,Nat.not_lt]at hc;obtain ⟨rfl,rfl,hid,hle⟩:=hc;obtain ⟨b,N,ad,hi',hl',hN,ha,e1⟩:=Rep.arr_inv (x:=xs') hSv;obtain ⟨y,hy',ho'⟩:=hF.sim.obj id _ hh;rw [hi']at hy';cases hy';have hR:rs.length <=N:=ho'.2.2.1;have old:∃os,zF G w z' ((rs.drop off).take len) os /\ (len=0 \/ ∃b off,ad=some ⟨b,off,none⟩ /\ ∀j u,os.flatten[j]?=some u -> w.cell? ⟨b,off+j,none⟩=some u):=by
         by_cases h0:len=0
         ·subst h0;exact ⟨[],by simpa using .nil,.inl rfl⟩
         ·rcases ha with ha|rfl
          ·omega
          ·have hn0:(rs[off]?).isSome:=by simp;omega
           obtain ⟨row,hrow⟩:=Option.isSome_iff_exists.1 hn0;obtain ⟨_,carr,el,vs',u,k1,k2,k3,k4,_⟩:=zbn ho' hrow;refine ⟨(vs'.drop off).take len,(k3.drop off).take len,.inr ⟨b,off * z',rfl,?_⟩⟩;intro j u hj;rw [(k3.drop off).flat_take,k3.flat_drop,k4,List.getElem?_take]at hj;split at hj
           ·rw [List.getElem?_drop,List.getElem?_take]at hj;split at hj
            ·simp only [World.cell?,k1];simpa using hj
            ·cases hj
           ·cases hj
        have hlen:((rs.drop off).take len).length=len:=by simp;omega
        obtain ⟨os,hro,hord⟩:=old;have hof:os.flatten.length=len * z':=by rw [hro.flat_length,hlen]
        have place:∀{sC},sC=lim.getD N - off -> off+len+ys.length <=lim.getD N -> off+len+ys.length <=rs.length ->
         qa P A D G {σ with S:=σ.S.set id (some (.rows z' (qF rs (off+len) ys)))} a w (execOp a.eval o) (.arr id z' off (len+ys.length) lim):=by
         intro sC hsC hroom hin;rcases ha with ha|rfl
         ·omega
         ·obtain ⟨k1,k2,k3⟩:=hF.setRows' (p:=off+len) hid hh hi' hru hle (by omega) (by omega);have hrun:=zr5 (ty:=o.type) (P:=P) (w:=w) (b:=b) (off:=off * z') (sLen:=len) (sCap:=lim.getD N - off) (n:=ys.length) (xc:=xc) hT hfl hrd' (by omega) (by rw [<- Nat.add_mul];exact k3 P);exact ⟨_,_,G,ρ,.inl (zA e1 hrun),k1,k2,(Rep.arr hi' (by omega) hN rfl (.inr rfl)).trep⟩
        split at hap
        ·rename_i el;split at hap
         ·rename_i hc;cases hap;exact place rfl (by simpa using hc.1) (by omega)
         ·split at hap
          ·rename_i hc;cases hap;obtain ⟨newCap,rest,hnc,hrl,hrun⟩:=zlO (ty:=o.type) (w:=w) (base:=ad) (sCap:=el - off) (xc:=xc) hT (os:=os.flatten) (us:=us.flatten) (sLen:=len) (n:=ys.length) hfl hrd' hof hord (by omega) hc.2;obtain ⟨G',k1,k2,k3⟩:=hF.grown (rs:=(rs.drop off).take len++ys) (us:=os++us) (rest:=rest) (e:=e) (newCap:=newCap) (hro.append hru) hT.hpos (by rw [List.length_append,hlen];exact hnc) (by rw [List.length_append,hlen];exact hrl);simp only [List.flatten_append,List.length_append,hlen]at k1 k2 k3;exact ⟨_,_,G',ρ,.inl (zA e1 hrun),k1,k2,k3.trep⟩
          ·cases hap
        ·split at hap
         ·rename_i hc;cases hap;exact place rfl (by simp only [Option.getD_none];omega) hc
         ·rename_i hc;split at hap
          ·rename_i hc2;cases hap;obtain ⟨rfl,hfit⟩:=hc2;simp only [Option.getD_none,Nat.sub_zero,Nat.zero_add,Nat.zero_mul,List.drop_zero]at *;by_cases hroom:len+ys.length <=N
           ·
            obtain ⟨k1,k2,k3,k4,k5⟩:=hF.overRows (p:=len) hid hh hi' hru (by omega) hroom (by omega);rcases ha with ha|rfl
            ·omega
            ·have hrun:=zr5 (ty:=o.type) (P:=P) (w:=w) (b:=b) (off:=0) (sLen:=len) (sCap:=N) (n:=ys.length) (xc:=xc) hT hfl hrd' hroom (by rw [Nat.zero_add];exact k5 P);have hle2:Le G (w.setCells b (len * z') us.flatten) (G.made σ.S.n (b,z',N)) (w.setCells b (len * z') us.flatten):=
              ⟨fun j y h=>by simp only [Gh.made];rw [if_neg (by rintro rfl;rw [(hF.sim.fresh σ.S.n (Nat.le_refl _)).2]at h;cases h)];exact h,fun _ _ h=>h,rfl,fun _ _ _ _ hc=>hc⟩
             have hset:qF rs len ys=rs.take len++ys:=by unfold qF;rw [List.drop_eq_nil_of_le (by omega),List.append_nil]
             have hobj:=k4 (G.made σ.S.n (b,z',N)) (k2.toLe.trans hle2);rw [hset]at hobj;obtain ⟨j1,j2⟩:=Fr.adopt k1 (x:=(b,z',N)) (fun _=>k3) hobj;refine ⟨_,_,_,ρ,.inl (zA e1 hrun),j1,k2.trans j2,?_⟩;have:(G.made σ.S.n (b,z',N)).ι σ.S.n=some (b,z',N):=by simp [Gh.made]
             exact (Rep.arr (off:=0) (lim:=none) this (by simpa using hroom) (Nat.le_refl _) (by simp) (.inr (by simp))).trep
           ·
            obtain ⟨newCap,rest,hnc,hrl,hrun⟩:=zlO (ty:=o.type) (w:=w) (base:=ad) (sCap:=N) (xc:=xc) hT (os:=os.flatten) (us:=us.flatten) (sLen:=len) (n:=ys.length) hfl hrd' hof hord (by omega) hfit;have hF1:=hF.less (hp:=(σ.S.set id none).heap) (by intro j o' e';simp only [AS.set]at e';split at e'<;>simp_all);have hlt:(rs.take len).length=len:=by simp;omega
            obtain ⟨G',k1,k2,k3⟩:=Fr.grown hF1 (rs:=rs.take len++ys) (us:=os++us) (rest:=rest) (e:=e) (newCap:=newCap) (hro.append hru) hT.hpos (by rw [List.length_append,hlt];exact hnc) (by rw [List.length_append,hlt];exact hrl);simp only [List.flatten_append,List.length_append,hlt]at k1 k2 k3;exact ⟨_,_,G',ρ,.inl (zA e1 hrun),k1,k2,k3.trep⟩
          ·cases hap
      ·cases hap
     ·cases hap
 ·cases hok
end
section
variable {A:zx} {D:Nat -> Prop} {G:Gh} {ρ:Nat -> Option Nat} {σ:ASt} {a:Act} {w:World} {P:Program} {rg:Nat -> Option (List AV)}
theorem zwq (hF:Fr A D G ρ σ a w) {o:Oper} {sz:Nat} {xs:List zl} (hok:yH P G.K o.op (.copy sz) xs=true) {vs:List AV} (hev:evs A σ.tm xs=some vs)
 {v:AV} {ru:Option (Nat×List AV)} {S':AS} (hp:za (.copy sz) o.dst σ.rg σ.S vs=some (v,ru,S')):qa P A D G ({σ with S:=S'}.regs ru) a w (execOp a.eval o) v:=by
 simp only [yH]at hok;split at hok
 ·rename_i as ts ho;simp only [Bool.and_eq_true,decide_eq_true_eq]at hok;obtain ⟨⟨hs,hpos⟩,hok⟩:=hok;obtain ⟨e,he,hs⟩:=zmD hs;obtain ⟨t,ht0,hu⟩:=zdo he;have hts:=yu hF hok hev;unfold za at hp;split at hp<;>simp only [reduceCtorEq,AOp.copy.injEq]at *<;>try (cases hp;done)
  rename_i sz2 id sz' off len lim x heq;subst heq;cases hy:zv sz σ.S x with
  |none=>rw [hy]at hp;cases hp
  |some ys=>
   rw [hy]at hp;simp only [Option.bind_some]at hp;obtain ⟨xs',xx,hxs,hSv,hXv⟩:=hts.two_of;have earr:=zlC hxs;have hXr:x.isReg=false:=by unfold zv at hy;cases x<;>simp_all [AV.isReg]
   obtain ⟨xad,xc,us,ex,hru,hrd⟩:=zjQ hF.sim (hXv.rep hXr) hy;obtain ⟨b,N,ad,hi',hl',hN,ha,e1⟩:=Rep.arr_inv (x:=xs') hSv;have hfl:=(hru.take (Nat.min ys.length len)).flat_length;have hmin:(ys.take (Nat.min ys.length len)).length=Nat.min ys.length len:=by simp only [List.length_take];exact Nat.min_eq_left (Nat.min_le_left _ _)
   rw [hmin]at hfl;have hrd':Nat.min ys.length len=0 \/ ∃b off,xad=some ⟨b,off,none⟩ /\ ∀j u,(us.take (Nat.min ys.length len)).flatten[j]?=some u -> w.cell? ⟨b,off+j,none⟩=some u:=by
    rcases hrd with rfl|⟨b,off,e,hc⟩
    ·left;simp
    ·right;refine ⟨b,off,e,fun j u hj=>?_⟩;rw [hru.flat_take,List.getElem?_take]at hj;split at hj
     ·exact hc j u hj
     ·cases hj
   have hfc:(Builtin.firstCells sz (Nat.min ys.length len) (.slice xad ys.length xc)).run P w=.ok (us.take (Nat.min ys.length len)).flatten.toArray w:=by
    have h:=zdB (P:=P) (w:=w) (ad:=xad) (c:=xc) hfl hrd';cases xad<;>exact h
   have zA:∀{w'},(match ad with|some ad=>(storeCells ad (us.take (Nat.min ys.length len)).flatten).run P w=.ok () w'|none=>w'=w) -> (execOp a.eval o).run P w=.ok (.value (goInt (Nat.min ys.length len))) w':=by
    intro w' hst;rw [vz ho,earr,e1,ex];cases ad with
    |none=>
     simp only at hst;subst hst;simp only [builtin,Builtin.copy_,ht0,List.getElem?_toArray,List.getElem?_cons_zero,List.getElem?_cons_succ,Sem.run_bind,und hu,Result.andThen_ok,Builtin.lenOf,siz hs,hfc,Sem.run_pure]
    |some ad=>
     simp only at hst;simp only [builtin,Builtin.copy_,ht0,List.getElem?_toArray,List.getElem?_cons_zero,List.getElem?_cons_succ,Sem.run_bind,und hu,Result.andThen_ok,Builtin.lenOf,siz hs,hfc,hst,Sem.run_pure]
   split at hp
   ·rename_i h0;cases hp;rw [h0]at zA;refine ⟨_,w,G,ρ,.inl (zA ?_),hF,Ext.refl _ _ _,(Rep.sc rfl).trep⟩;cases ad with
    |none=>rfl
    |some ad=>simp only [List.take_zero,List.flatten_nil,storeCells,Sem.run_pure]
   ·rename_i h0;split at hp
    ·rename_i zz rs hh;split at hp
     ·rename_i hc;obtain ⟨rfl,rfl,hid,hle⟩:=hc;cases hp;obtain ⟨y,hy',ho'⟩:=hF.sim.obj id _ hh;rw [hi']at hy';cases hy';have hR:rs.length <=N:=ho'.2.2.1;have hmle:Nat.min ys.length len <=len:=Nat.min_le_right _ _;obtain ⟨k1,k2,k3⟩:=hF.setRows' (p:=off) (ys:=ys.take (Nat.min ys.length len)) (us:=us.take (Nat.min ys.length len)) hid hh hi' (hru.take _) (by omega) (by rw [hmin];omega) (by omega);rcases ha with ha|rfl
      ·omega
      ·exact ⟨_,_,G,ρ,.inl (zA (k3 P)),k1,k2,(Rep.sc rfl).trep⟩
     ·cases hp
    ·cases hp
 ·cases hok
theorem zHS (hF:Fr A D G ρ σ a w) {o:Oper} {sz:Nat} {zero:List AV} {xs:List zl} (hok:yH P G.K o.op (.clearS sz zero) xs=true) {vs:List AV} (hev:evs A σ.tm xs=some vs)
 {v:AV} {ru:Option (Nat×List AV)} {S':AS} (hp:za (.clearS sz zero) o.dst σ.rg σ.S vs=some (v,ru,S')):qa P A D G ({σ with S:=S'}.regs ru) a w (execOp a.eval o) v:=by
 simp only [yH]at hok;split at hok
 ·rename_i as ts ho;simp only [Bool.and_eq_true]at hok;obtain ⟨he,hok⟩:=hok;split at he
  ·rename_i e hel;simp only [Bool.and_eq_true,beq_iff_eq]at he;obtain ⟨hs,hz⟩:=he;obtain ⟨t,ht0,hu⟩:=zdo hel;obtain ⟨i,z,hi,hz,hcst⟩:=zdL hz;have hc:zp G w zero z.cells.toList:=zaT hcst;have hts:=yu hF hok hev;unfold za at hp;split at hp<;>simp only [reduceCtorEq,AOp.clearS.injEq]at *<;>try (cases hp;done)
   rename_i sz2 zero2 id sz' off len lim heq;obtain ⟨rfl,rfl⟩:=heq;obtain ⟨xs',hxs,hSv⟩:=hts.one_of;have earr:=zct hxs;obtain ⟨b,N,ad,hi',hl',hN,ha,e1⟩:=Rep.arr_inv (x:=xs') hSv;split at hp
   ·rename_i h0;subst h0;cases hp;refine ⟨.tuple #[],w,G,ρ,.inl ?_,hF,Ext.refl _ _ _,(Rep.tup .nil).trep⟩;rw [vz ho,earr,e1];cases ad<;>simp only [builtin,Builtin.clear_,ht0,List.getElem?_toArray,List.getElem?_cons_zero,Sem.run_bind,und hu,Result.andThen_ok,Sem.run_pure]
   ·rename_i h0;split at hp
    ·rename_i zz rs hh;split at hp
     ·rename_i hcond;obtain ⟨rfl,rfl,hid,hle,hcell,hzl⟩:=hcond;cases hp;obtain ⟨y,hy',ho'⟩:=hF.sim.obj id _ hh;rw [hi']at hy';cases hy';have hR:rs.length <=N:=ho'.2.2.1;have hpos:=ho'.2.1;have hcl:=hc.length;have hzs:z.cells.size=sz':=by rw [<- hzl,hcl,Array.length_toList]
      obtain ⟨k1,k2,k3⟩:=hF.setRows' (p:=off) (ys:=List.replicate len zero) (us:=List.replicate len z.cells.toList) hid hh hi' (zF.replicate hc hzl (zdd hcst) len) (by omega) (by simp;omega) (by omega);rcases ha with ha|rfl
      ·omega
      ·refine ⟨.tuple #[],_,G,ρ,.inl ?_,k1,k2,(Rep.tup .nil).trep⟩;rw [vz ho,earr,e1];obtain ⟨n',rfl⟩:∃n',len=n'+1:=⟨len - 1,by omega⟩;have hzc:(Builtin.zeroCells z.cells (n'+1)).toList=(List.replicate (n'+1) z.cells.toList).flatten:=by
        unfold Builtin.zeroCells;rw [hzs,<- hzs];have:=zh4 (n:=n'+1) hzs hpos;rw [<- hzs]at this;rw [this]
       simp only [builtin,Builtin.clear_,ht0,List.getElem?_toArray,List.getElem?_cons_zero,Sem.run_bind,und hu,Result.andThen_ok,zer hi hz,hzc,k3 P,Sem.run_pure]
     ·cases hp
    ·cases hp
  ·cases he
 ·cases hok
theorem zFf (hF:Fr A D G ρ σ a w) {o:Oper} {sz bytes:Nat} {zero:List AV} {xs:List zl} (hok:yH P G.K o.op (.mkslice sz bytes zero) xs=true) {vs:List AV} (hev:evs A σ.tm xs=some vs)
 {v:AV} {ru:Option (Nat×List AV)} {S':AS} (hp:za (.mkslice sz bytes zero) o.dst σ.rg σ.S vs=some (v,ru,S')):qa P A D G ({σ with S:=S'}.regs ru) a w (execOp a.eval o) v:=by
 simp only [yH]at hok;split at hok
 ·rename_i t l c ho;simp only [Bool.and_eq_true]at hok;obtain ⟨he,hok⟩:=hok;split at he
  ·rename_i e hel;simp only [Bool.and_eq_true,beq_iff_eq]at he;obtain ⟨⟨hs,hb⟩,hz⟩:=he;have hu:=zeq hel;obtain ⟨i,z,hi,hz,hcst⟩:=zdL hz;have hc:zp G w zero z.cells.toList:=zaT hcst;have hts:=yu hF hok hev;unfold za at hp;split at hp<;>simp only [reduceCtorEq,AOp.mkslice.injEq]at *<;>try (cases hp;done)
   rename_i sz2 b2 zero2 ln cn heq;obtain ⟨rfl,rfl,rfl⟩:=heq;split at hp
   ·rename_i hcond;obtain ⟨h0,hlc,hfit,hbp,hcell,hzl,hpos⟩:=hcond;cases hp;obtain ⟨x1,x2,hxs,hL,hC⟩:=hts.two_of;simp only [List.map_cons,List.map_nil,List.cons.injEq,and_true]at hxs;obtain ⟨el,ec⟩:=hxs;have e1:=hL.sc;have e2:=hC.sc;have hcl:=hc.length;have hzs:z.cells.size=sz:=by rw [<- hzl,hcl,Array.length_toList]
    have hcle:cn <=140737488355328:=by
     have:cn * 1 <=cn * bytes:=Int.mul_le_mul_of_nonneg_left (by omega) (by omega);omega
    have hby:i.bytes=bytes:=by unfold ziI at hb;rw [hi]at hb;simpa using hb
    have hrows:zF G w sz (List.replicate cn.toNat zero) (List.replicate cn.toNat z.cells.toList):=zF.replicate hc hzl (zdd hcst) cn.toNat;have hi0:=(hF.sim.fresh σ.S.n (Nat.le_refl _)).2;have hle:Le G w (G.made σ.S.n (w.heap.size,sz,cn.toNat)) (w.alloc (.cells (List.replicate cn.toNat z.cells.toList).flatten.toArray e)):=zfz hi0 hF.sim.lt;obtain ⟨k1,k2⟩:=hF.made (.cells (List.replicate cn.toNat z.cells.toList).flatten.toArray e) (sz:=sz) (N:=cn.toNat) (ao:=.rows sz (List.replicate cn.toNat zero)) (by
     refine ⟨rfl,hpos,by simp,.inr ⟨_,e,_,zd1,?_,hrows.mono hle,?_⟩⟩
     ·simp only [List.size_toArray,hrows.flat_length,List.length_replicate]
     ·simp only [List.length_replicate];rw [List.take_of_length_le];rw [hrows.flat_length,List.length_replicate];exact Nat.le_refl _)
    have hrep:(G.made σ.S.n (w.heap.size,sz,cn.toNat)).ι σ.S.n=some (w.heap.size,sz,cn.toNat):=by simp [Gh.made]
    refine ⟨.slice (some ⟨w.heap.size,0,none⟩) ln.toNat cn.toNat,_,_,ρ,.inl ?_,k1,k2,(Rep.arr (off:=0) (lim:=none) hrep (by simp;omega) (Nat.le_refl _) (by simp) (.inr (by simp))).trep⟩;rw [zyj _ _ ho,el,ec,e1,e2];have hwl:IntKind.i64.wrap ln=ln:=IntWalk.i64_in ln (by omega);have hwc:IntKind.i64.wrap cn=cn:=IntWalk.i64_in cn (by omega);have htl:(decide (cn < 0) ||decide ((bytes:Int) * cn > 2 ^ 48))=false:=by
     have h2:(2:Int) ^ 48=281474976710656:=by decide
     have h3:(bytes:Int) * cn=cn * bytes:=Int.mul_comm _ _;simp only [Bool.or_eq_false_iff,decide_eq_false_iff_not];omega
    have hl0:decide (ln < 0)=false:=by simp;omega
    have hlc':decide (ln > cn)=false:=by simp;omega
    simp only [Instr.makeSlice,Sem.run_bind,und hu,Result.andThen_ok,Go.asInt,Go.asIntOf,Sem.run_pure,inf hi,hby,hwl,hwc,htl,hl0,hlc',Bool.or_false,Bool.false_eq_true,if_false,run_askRoom,siz hs];by_cases hn:cn.toNat * sz=0
    ·have hc0:cn.toNat=0:=by rcases Nat.mul_eq_zero.1 hn with h|h;exact h;omega
     rw [hc0];have hr0:((Array.range 0).map fun x=>(#[]:Array Value)[x % (#[]:Array Value).size]!)=#[]:=by simp
     simp only [Nat.zero_mul,if_true,Sem.run_bind,Sem.run_pure,Result.andThen_ok,newRow,run_newObj,List.replicate_zero,List.flatten_nil,hr0];rfl
    ·simp only [hn,if_false,Sem.run_bind,zer hi hz,Sem.run_pure,Result.andThen_ok,newRow,run_newObj];rw [zh4 hzs hpos];rfl
   ·cases hp
  ·cases he
 ·cases hok
theorem zF0 {ts:Array TypeId} {sz bytes:Nat} {t0 t1 e:TypeId} {d1:TypeDesc} {i:TypeInfo} {z:Value} (ht0:ts[0]?=some t0) (ht1:ts[1]?=some t1) (hu0:P.underlying t0=some (.slice e)) (hu1:P.underlying t1=some d1) (hn1:zan d1=true)
 (hinf:P.info? e=some i) (hsize:i.size=sz) (hpos:0 < sz) (hbytes:i.bytes=bytes) (hbpos:0 < bytes) (hzero:i.zero=some z) (hzsize:z.cells.size=sz) {ty:TypeId} {base:Option Addr} {n:Nat} (hn:0 < n) (hfit:n * bytes <=140737488355328):
 ∃newCap rest,n <=newCap /\ rest.length=(newCap - n) * sz /\
  (Builtin.append_ ts ty #[.slice base 0 0,.int .i64 n]).run P w=.ok (.slice (some ⟨w.heap.size,0,none⟩) n newCap) (w.drew.alloc (.cells ((List.replicate n z.cells.toList).flatten++rest).toArray e)):=by
 have hs:yJ P e=some sz:=by unfold yJ;rw [hinf];simp [hsize]
 have hnc:=zsi (0+n) 0 (by omega);have hfit':¬(Builtin.nextslicecap (0+n) 0 * bytes > 2 ^ 48):=by
  have h1:=Nat.mul_le_mul_right bytes hnc;have h2:(2:Nat) ^ 48=281474976710656:=by decide
  have h3:2 * (0+n) * bytes=2 * (n * bytes):=by rw [Nat.zero_add];exact Nat.mul_assoc _ _ _
  omega
 have hnle:n <=140737488355328:=by
  have:=Nat.mul_le_mul_left n hbpos;omega
 have hw:IntKind.i64.wrap (n:Int)=n:=IntWalk.i64_in _ (by omega);have hb0:¬bytes=0:=by omega
 have hl0:¬((n:Int) < 0):=by omega
 have hbig:¬((n:Int) * (bytes:Int) > 2 ^ 48):=by
  have:((n * bytes:Nat):Int) <=140737488355328:=by omega
  rw [Int.natCast_mul]at this;have h2:(2:Int) ^ 48=281474976710656:=by decide
  omega
 have hmax:¬(((0+n:Nat):Int) > IntKind.i64.max):=by
  have:IntKind.i64.max=9223372036854775807:=by decide
  omega
 have hn0:¬n * sz=0:=by
  intro h;rcases Nat.mul_eq_zero.1 h with h|h<;>omega
 refine ⟨Question.cut (.appendCap (0+n) 0 e) (w.tape w.drawn (.appendCap (0+n) 0 e)),(Builtin.zeroCells z.cells (Question.cut (.appendCap (0+n) 0 e) (w.tape w.drawn (.appendCap (0+n) 0 e)) - (0+n))).toList,?_,?_,?_⟩
 ·simp only [Question.cut];omega
 ·simp [Builtin.zeroCells,hzsize]
 ·have hb:(typeInfo e).run P w=.ok i w:=inf hinf;have hb':(zeroValue e).run P w.drew=.ok z w.drew:=zer hinf hzero;have hfz:(Question.appendCap (0+n) 0 e).forced=false:=rfl;have hz:(Builtin.zeroCells z.cells n).toList=(List.replicate n z.cells.toList).flatten:=by
   have:=zh4 (z:=z.cells) (n:=n) hzsize hpos;unfold Builtin.zeroCells;rw [<- hzsize]at this;rw [this]
  have e3:∀Z:Array Value,#[]++Builtin.zeroCells z.cells n++Z=((List.replicate n z.cells.toList).flatten++Z.toList).toArray:=by
   intro Z;apply Array.toList_inj.1;simp [hz]
  have hfc:(Builtin.firstCells sz 0 (.slice base 0 0)).run P w.drew=.ok #[] w.drew:=by
   have:=zdB (P:=P) (w:=w.drew) (sz:=sz) (n:=0) (ad:=base) (c:=0) (us:=[]) (by simp) (.inl rfl);simpa using this
  cases d1<;>first
   |(simp [zan]at hn1;done)
   |(simp only [Builtin.append_,ht0,ht1,List.getElem?_toArray,List.getElem?_cons_zero,List.getElem?_cons_succ,Sem.run_bind,und hu0,und hu1,Result.andThen_ok,siz hs,Sem.run_pure,Bool.false_eq_true,if_false,Go.asInt,Go.asIntOf,hw,hl0,hbig,Int.toNat_natCast,
    if_neg (show ¬(0+n <=0) by omega),hb,hbytes,hb0,or_true,and_true,hmax,or_false,and_false,if_neg hfit',run_choose,hfz,run_askRoom,Bool.not_false,Bool.not_true,if_true,World.drew_eq,inf hinf,hfc,hn0,hb',newRow,run_newObj,World.size_drew,e3]
     simp only [Nat.zero_add];rfl)
theorem zy8 (hF:Fr A D G ρ σ a w) {o:Oper} {sz bytes:Nat} {zero:List AV} {xs:List zl} (hok:yH P G.K o.op (.appendZ sz bytes zero) xs=true) {vs:List AV} (hev:evs A σ.tm xs=some vs)
 {v:AV} {ru:Option (Nat×List AV)} {S':AS} (hp:za (.appendZ sz bytes zero) o.dst σ.rg σ.S vs=some (v,ru,S')):qa P A D G ({σ with S:=S'}.regs ru) a w (execOp a.eval o) v:=by
 simp only [yH]at hok;split at hok
 ·rename_i as ts ho;simp only [Bool.and_eq_true]at hok;obtain ⟨⟨he,h1⟩,hok⟩:=hok;split at he
  ·rename_i e hel;simp only [Bool.and_eq_true,beq_iff_eq]at he;obtain ⟨⟨hs,hb⟩,hz⟩:=he;obtain ⟨t0,ht0,hu0⟩:=zdo hel;obtain ⟨i,z,hi,hz,hcst⟩:=zdL hz;split at h1
   ·rename_i t1 ht1;split at h1
    ·rename_i d hd;have hc:zp G w zero z.cells.toList:=zaT hcst;have hts:=yu hF hok hev;unfold za at hp;split at hp<;>simp only [reduceCtorEq,AOp.appendZ.injEq]at *<;>try (cases hp;done)
     rename_i sz2 b2 zero2 z' n heq;obtain ⟨rfl,rfl,rfl⟩:=heq;split at hp
     ·rename_i hcond;obtain ⟨h0,hfit,hbp,hcell,hzl,hpos⟩:=hcond;cases hp;obtain ⟨x1,x2,hxs,hL,hC⟩:=hts.two_of;have earr:=zlC hxs;have e2:=hC.sc;obtain ⟨ad,c,e1,_,hf,_⟩:=Rep.lst_inv (x:=x1) hL;have hc0:c=0:=hf rfl;subst hc0;have hcl:=hc.length;have hzs:z.cells.size=sz:=by rw [<- hzl,hcl,Array.length_toList]
      have hby:i.bytes=bytes:=by unfold ziI at hb;rw [hi]at hb;simpa using hb
      have hsi:i.size=sz:=by unfold yJ at hs;rw [hi]at hs;simpa using hs
      obtain ⟨m,rfl⟩:∃m:Nat,n=m:=⟨n.toNat,by omega⟩;have hrows:zF G w sz (List.replicate m zero) (List.replicate m z.cells.toList):=zF.replicate hc hzl (zdd hcst) m;obtain ⟨newCap,rest,hnc,hrl,hrun⟩:=zF0 (ty:=o.type) (w:=w) (base:=ad) ht0 ht1 hu0 hd h1 hi hsi hpos hby hbp hz hzs (n:=m) (by omega) (by
       have:((m * bytes:Nat):Int) <=140737488355328:=by rw [Int.natCast_mul];exact hfit
       omega)
      obtain ⟨G',k1,k2,k3⟩:=hF.grown (rs:=List.replicate m zero) (us:=List.replicate m z.cells.toList) (rest:=rest) (e:=e) (newCap:=newCap) hrows hpos (by simpa using hnc) (by simpa using hrl);simp only [List.length_replicate]at k3;refine ⟨_,_,G',ρ,.inl ?_,k1,k2,k3.trep⟩;rw [vz ho,earr,e1,e2];simp only [builtin,Sem.run_bind,hrun,Result.andThen_ok,Sem.run_pure,List.length_nil]
     ·cases hp
    ·cases h1
   ·cases h1
  ·cases he
 ·cases hok
end
section
variable {A:zx} {D:Nat -> Prop} {G:Gh} {ρ:Nat -> Option Nat} {σ:ASt} {a:Act} {w:World} {P:Program} {rg:Nat -> Option (List AV)}
mutual
theorem Rep.toldG {G G':Gh} {w:World} (hP:∀b o,G.P b o -> G'.P b o) (hK:G'.K=G.K) {v:AV} {x:Value}:Rep G w v x -> v.pure=true -> Rep G' w v x
 | .sc e,_=>.sc e
 | .junk,_=>.junk
 | .opq,_=>.opq
 | .ptr _,h=>by simp [AV.pure]at h
 | .iptr e r,h=>.iptr (fun i v hv=>⟨hP _ _ (e i v hv).1,(e i v hv).2⟩) (r.toldG hP hK (by simpa [AV.pure] using h))
 | .nil e,_=>.nil e
 | .lst a b c e r,h=>.lst a b c (fun i v hv=>⟨hP _ _ (e i v hv).1,(e i v hv).2⟩) (r.toldG hP hK (by simpa [AV.pure] using h))
 | .arr _ _ _ _ _,h=>by simp [AV.pure]at h
 | .agg r,h=>.agg (r.toldG hP hK (by simpa [AV.pure] using h))
 | .tup r,h=>.tup (r.toldG hP hK (by simpa [AV.pure] using h))
 | .fn k a b,h=>by
   simp [AV.pure]at h;exact .fn (by rw [hK];exact k) (a.toldG hP hK h.1) (b.toldG hP hK h.2)
 | .mp _,h=>by simp [AV.pure]at h
theorem zp.toldG {G G':Gh} {w:World} (hP:∀b o,G.P b o -> G'.P b o) (hK:G'.K=G.K) {v:List AV} {x:List Value}:zp G w v x -> jR v=true -> zp G' w v x
 | .nil,_=>.nil
 | .cons a l,h=>by
   simp [jR]at h;exact .cons (a.toldG hP hK h.1) (l.toldG hP hK h.2)
theorem zF.toldG {G G':Gh} {w:World} (hP:∀b o,G.P b o -> G'.P b o) (hK:G'.K=G.K) {sz:Nat} {v:List (List AV)} {x:List (List Value)}:zF G w sz v x -> qS v=true -> zF G' w sz v x
 | .nil,_=>.nil
 | .cons a e c l,h=>by
   simp [qS]at h;exact .cons (a.toldG hP hK h.1) e c (l.toldG hP hK h.2)
end
def OkO (G G':Gh) (w:World) (o:Nat -> Nat -> Nat -> Nat -> Option (List (List AV))):Prop:=
 ∀id sz off n lim r x,o id sz off n=some r -> Rep G w (.arr id sz off n lim) x -> Rep G' w (lstN sz r) x
mutual
theorem zjg {G G':Gh} {w:World} (hl:Le G w G' w) {o:Nat -> Nat -> Nat -> Nat -> Option (List (List AV))} (ho:OkO G G' w o):∀{v v':AV} {x:Value},Rep G w v x -> v.frz o=some v' -> Rep G' w v' x
 |_,v',_,.sc e,h=>by simp [AV.frz]at h;subst h;exact .sc e
 |_,v',_,.junk,h=>by simp [AV.frz]at h;subst h;exact .junk
 |_,v',_,.opq,h=>by simp [AV.frz]at h;subst h;exact .opq
 |_,v',_,.ptr e,h=>by simp [AV.frz]at h;subst h;exact .ptr (hl.ι _ _ e)
 |_,v',_,.iptr e r,h=>by
  simp only [AV.frz,Option.map_eq_some_iff]at h;obtain ⟨cs,hc,rfl⟩:=h;exact .iptr (e.mono hl) (zcw hl ho r hc)
 |_,v',_,.nil e,h=>by
  simp only [AV.frz,qe,Option.map_some,Option.some.injEq]at h;subst h;exact Rep.lstN (.nil e)
 |_,v',_,.lst a b c e r,h=>by
  simp only [AV.frz,Option.map_eq_some_iff]at h;obtain ⟨cs,hc,rfl⟩:=h;obtain ⟨hr,hlen⟩:=zor hl ho r hc;exact Rep.lstN (.lst (by rw [hlen];exact a) (by rw [hlen];exact b) (by rw [hlen];exact c) (e.mono hl) hr)
 |_,v',_,.arr a b c d e,h=>by
  simp only [AV.frz,Option.map_eq_some_iff]at h;obtain ⟨r,hr,rfl⟩:=h;exact ho _ _ _ _ _ _ _ hr (.arr a b c d e)
 |_,v',_,.agg r,h=>by
  simp only [AV.frz,Option.map_eq_some_iff]at h;obtain ⟨cs,hc,rfl⟩:=h;exact .agg (zcw hl ho r hc)
 |_,v',_,.tup r,h=>by
  simp only [AV.frz,Option.map_eq_some_iff]at h;obtain ⟨cs,hc,rfl⟩:=h;exact .tup (zcw hl ho r hc)
 |_,v',_,.fn k a b,h=>by
  simp only [AV.frz,Option.bind_eq_some_iff,Option.map_eq_some_iff]at h;obtain ⟨ca,ha,cb,hb,rfl⟩:=h;exact .fn (by rw [hl.K];exact k) (zcw hl ho a ha) (zcw hl ho b hb)
 |_,v',_,.mp e,h=>by simp [AV.frz]at h;subst h;exact .mp (hl.ι _ _ e)
theorem zcw {G G':Gh} {w:World} (hl:Le G w G' w) {o:Nat -> Nat -> Nat -> Nat -> Option (List (List AV))} (ho:OkO G G' w o):∀{v v':List AV} {x:List Value},zp G w v x -> jZ o v=some v' -> zp G' w v' x
 |_,v',_,.nil,h=>by simp [jZ]at h;subst h;exact .nil
 |_,v',_,.cons a l,h=>by
  simp only [jZ,Option.bind_eq_some_iff,Option.map_eq_some_iff]at h;obtain ⟨a',ha,l',hl',rfl⟩:=h;exact .cons (zjg hl ho a ha) (zcw hl ho l hl')
theorem zor {G G':Gh} {w:World} (hl:Le G w G' w) {o:Nat -> Nat -> Nat -> Nat -> Option (List (List AV))} (ho:OkO G G' w o):∀{sz:Nat} {v v':List (List AV)} {x:List (List Value)},zF G w sz v x -> qe o v=some v' -> zF G' w sz v' x /\ v'.length=v.length
 |_,_,v',_,.nil,h=>by simp [qe]at h;subst h;exact ⟨.nil,rfl⟩
 |_,_,v',_,.cons a e c l,h=>by
  simp only [qe,Option.bind_eq_some_iff,Option.map_eq_some_iff]at h;obtain ⟨a',ha,l',hl',rfl⟩:=h;obtain ⟨h1,h2⟩:=zor hl ho l hl';have hr:=zcw hl ho a ha;refine ⟨.cons hr ?_ c h1,by simp [h2]⟩;rw [hr.length,<- a.length,e]
end
theorem zkP {α β:Type} {f:α -> Option β}:∀{l:List α} {m:List β},zE f l=some m -> m.length=l.length
 |[],m,h=>by simp [zE]at h;subst h;rfl
 |a::l,m,h=>by
  simp only [zE,Option.bind_eq_some_iff,Option.map_eq_some_iff]at h;obtain ⟨b,hb,m',hm,rfl⟩:=h;simp [zkP hm]
theorem zlx {G G':Gh} {w:World} {f:AV -> Option AV} (hf:∀v v' x,Rep G w v x -> f v=some v' -> Rep G' w v' x):∀{l m:List AV} {xs:List Value},zp G w l xs -> zE f l=some m -> zp G' w m xs
 |_,m,_,.nil,h=>by simp [zE]at h;subst h;exact .nil
 |_,m,_,.cons a l,h=>by
  simp only [zE,Option.bind_eq_some_iff,Option.map_eq_some_iff]at h;obtain ⟨b,hb,m',hm,rfl⟩:=h;exact .cons (hf _ _ _ a hb) (zlx hf l hm)
theorem znX {G G':Gh} {w:World} {f:AV -> Option AV} (hf:∀v v' x,Rep G w v x -> f v=some v' -> Rep G' w v' x) {sz:Nat}:∀{l m:List (List AV)} {xs:List (List Value)},zF G w sz l xs -> zE (zE f) l=some m -> zF G' w sz m xs
 |_,m,_,.nil,h=>by simp [zE]at h;subst h;exact .nil
 |_,m,_,.cons a e c l,h=>by
  simp only [zE,Option.bind_eq_some_iff,Option.map_eq_some_iff]at h;obtain ⟨b,hb,m',hm,rfl⟩:=h;exact .cons (zlx hf a hb) (by rw [zkP hb];exact e) c (znX hf l hm)
theorem zrk {G G':Gh} {S:AS} {w:World} {least:Nat} (hS:Sim G S w) (hl:Le G w G' w) {id sz off n:Nat} {lim:Option Nat} {rows r:List (List AV)} {x:Value} (hrows:S.slice least id sz off n=some rows)
 (hp:∀o x off,least <=id -> S.heap id=some o -> G.ι id=some x -> 0 < x.2.2 -> G'.P x.1 off) {f:AV -> Option AV} (hf:∀v v' x,Rep G w v x -> f v=some v' -> Rep G' w v' x) (hm:zE (zE f) rows=some r)
 (ha:Rep G w (.arr id sz off n lim) x):Rep G' w (lstN sz r) x:=by
 refine Rep.lstN (f:=false) ?_;have hlen:=zkP hm;unfold AS.slice at hrows;split at hrows
 ·rename_i hid;split at hrows
  ·rename_i sz' rs hh;split at hrows
   ·rename_i hc;obtain ⟨rfl,hle⟩:=hc;cases hrows;obtain ⟨b,N,ad,hi,hl',hN,had,e1⟩:=ha.arr_inv;obtain ⟨y,hy',ho'⟩:=hS.obj id _ hh;rw [hi]at hy';cases hy';have hrl:r.length=n:=by rw [hlen];simp;omega
    subst e1;by_cases h0:n=0
    ·subst h0;have:r=[]:=List.eq_nil_of_length_eq_zero hrl;subst this;exact .nil (by simp)
    ·rcases had with had|rfl
     ·omega
     ·have hn0:(rs[off]?).isSome:=by simp;omega
      obtain ⟨row,hrow⟩:=Option.isSome_iff_exists.1 hn0;obtain ⟨hN0,carr,el,vs',u,k1,k2,k3,k4,_⟩:=zbn ho' hrow;have hrr:=znX (G':=G') hf ((k3.drop off).take n) hm;refine .lst hrl.symm (by omega) (by simp) ?_ hrr;intro j u hj;rw [(k3.drop off).flat_take,k3.flat_drop,k4,List.getElem?_take]at hj;split at hj
      ·rw [List.getElem?_drop,List.getElem?_take]at hj;split at hj
       ·refine ⟨hp _ _ _ hid hh hi hN0,?_⟩;simp only [World.cell?,k1];simpa using hj
       ·cases hj
      ·cases hj
   ·cases hrows
  ·cases hrows
 ·cases hrows
theorem zeM {G G':Gh} {S:AS} {w:World} {least:Nat} (hS:Sim G S w) (hl:Le G w G' w) (hp:∀id o x off,least <=id -> S.heap id=some o -> G.ι id=some x -> 0 < x.2.2 -> G'.P x.1 off):
 ∀(d:Nat) (v v':AV) (x:Value),Rep G w v x -> S.frzTo least d v=some v' -> Rep G' w v' x
 |0,v,v',x,hr,h=>by
  refine zjg hl ?_ hr h;intro id sz off n lim r x e _;cases e
 |d+1,v,v',x,hr,h=>by
  refine zjg hl ?_ hr h;intro id sz off n lim r x e ha;simp only [Option.bind_eq_some_iff]at e;obtain ⟨rows,hrows,hm⟩:=e;exact zrk hS hl hrows (hp id) (fun v v' x=>zeM hS hl hp d v v' x) hm ha
theorem zoF:∀l:List AV,(yU l).length=l.length
 |[]=>rfl
 |a::l=>by simp only [yU,List.length_cons,zoF l]
mutual
theorem zHB {G:Gh} {w:World}:∀{v:AV} {x:Value},Rep G w v x -> Rep G w v.nrm x
 |_,_,.sc e=>.sc e
 |_,_,.junk=>.junk
 |_,_,.opq=>.opq
 |_,_,.ptr e=>.ptr e
 |_,_,.iptr e r=>by rw [AV.nrm];exact .iptr e (zay r)
 |_,_,.nil e=>by rw [AV.nrm];exact Rep.lstN (.nil e)
 |_,_,.lst a b c e r=>by
  obtain ⟨hr,hlen⟩:=zo5 r;rw [AV.nrm];exact Rep.lstN (.lst (by rw [hlen];exact a) (by rw [hlen];exact b) (by rw [hlen];exact c) e hr)
 |_,_,.arr a b c d e=>.arr a b c d e
 |_,_,.agg r=>by rw [AV.nrm];exact .agg (zay r)
 |_,_,.tup r=>by rw [AV.nrm];exact .tup (zay r)
 |_,_,.fn k a b=>by rw [AV.nrm];exact .fn k (zay a) (zay b)
 |_,_,.mp e=>.mp e
theorem zay {G:Gh} {w:World}:∀{v:List AV} {x:List Value},zp G w v x -> zp G w (yU v) x
 |_,_,.nil=>.nil
 |_,_,.cons a l=>by rw [yU];exact .cons (zHB a) (zay l)
theorem zo5 {G:Gh} {w:World} {sz:Nat}:∀{v:List (List AV)} {x:List (List Value)},zF G w sz v x -> zF G w sz (kq v) x /\ (kq v).length=v.length
 |_,_,.nil=>⟨.nil,rfl⟩
 |_,_,.cons a e c l=>by
  obtain ⟨h1,h2⟩:=zo5 l;rw [kq];exact ⟨.cons (zay a) (by rw [zoF];exact e) c h1,by simp only [List.length_cons,h2]⟩
end
section
variable {o o':Nat -> Nat -> Nat -> Nat -> Option (List (List AV))}
mutual
theorem zth:∀v:AV,(∀id sz off n,id∈v.arrs -> o id sz off n=o' id sz off n) -> v.frz o=v.frz o'
 | .sc _,_=>rfl
 | .junk,_=>rfl
 | .opq,_=>rfl
 | .reg _ _,_=>rfl
 | .ptr _ _ _,_=>rfl
 | .iptr cs,h=>by simp only [AV.frz,zcQ cs (by simpa only [AV.arrs] using h)]
 | .lst _ _ xs,h=>by simp only [AV.frz,zoy xs (by simpa only [AV.arrs] using h)]
 | .arr id _ _ _ _,h=>by simp only [AV.frz,h id _ _ _ (by simp [AV.arrs])]
 | .agg cs,h=>by simp only [AV.frz,zcQ cs (by simpa only [AV.arrs] using h)]
 | .tup cs,h=>by simp only [AV.frz,zcQ cs (by simpa only [AV.arrs] using h)]
 | .fn _ a b,h=>by
   simp only [AV.arrs,List.mem_append]at h;simp only [AV.frz,zcQ a fun id _ _ _ e=>h id _ _ _ (.inl e),zcQ b fun id _ _ _ e=>h id _ _ _ (.inr e)]
 | .mp _,_=>rfl
theorem zcQ:∀v:List AV,(∀id sz off n,id∈qs v -> o id sz off n=o' id sz off n) -> jZ o v=jZ o' v
 |[],_=>rfl
 |a::l,h=>by
  simp only [qs,List.mem_append]at h;simp only [jZ,zth a fun id _ _ _ e=>h id _ _ _ (.inl e),zcQ l fun id _ _ _ e=>h id _ _ _ (.inr e)]
theorem zoy:∀v:List (List AV),(∀id sz off n,id∈ziT v -> o id sz off n=o' id sz off n) -> qe o v=qe o' v
 |[],_=>rfl
 |a::l,h=>by
  simp only [ziT,List.mem_append]at h;simp only [qe,zcQ a fun id _ _ _ e=>h id _ _ _ (.inl e),zoy l fun id _ _ _ e=>h id _ _ _ (.inr e)]
end
end
theorem zlq {G G':Gh} {S:AS} {w:World} {least:Nat} (hS:Sim G S w) (hl:Le G w G' w) {ids:List Nat} (hp:∀id o x off,ids.contains id=true -> S.heap id=some o -> G.ι id=some x -> 0 < x.2.2 -> G'.P x.1 off):
 ∀{l m:List AV} {xs:List Value},(∀id∈qs l,ids.contains id=true) -> zp G w l xs -> zE (S.frzTo least 1) l=some m -> zp G' w m xs
 |_,m,_,_,.nil,h=>by simp [zE]at h;subst h;exact .nil
 |a::l,m,_,hi,.cons r rs,h=>by
  simp only [zE,Option.bind_eq_some_iff,Option.map_eq_some_iff]at h;obtain ⟨b,hb,m',hm,rfl⟩:=h;simp only [qs,List.mem_append]at hi;refine .cons ?_ (zlq hS hl hp (fun id e=>hi id (.inr e)) rs hm);simp only [AS.frzTo]at hb;rw [zth (o':=fun id sz off n=>if ids.contains id then (S.slice least id sz off n).bind fun r=>zE (zE (S.frzTo least 0)) r else none) a fun id sz off n e=>by rw [if_pos (hi id (.inl e))];rfl]at hb;refine zjg hl ?_ r hb;intro id sz off n lim r x e ha;dsimp only at e;split at e
  ·rename_i hid;simp only [Option.bind_eq_some_iff]at e;obtain ⟨rows,hrows,hm⟩:=e;exact zrk hS hl hrows (fun o x off _=>hp id o x off hid) (fun v v' x=>zeM (least:=S.n) hS hl (fun id o x off h1 h2=>by have:=(hS.fresh id h1).1;rw [this]at h2;cases h2) 0 v v' x) hm ha
  ·cases e
def DW (G:Gh) (S:AS) (w:World) (b:Nat):Prop:=w.heap.size <=b \/ Wr G S b
structure Low (S S':AS):Prop where
 ro:S'.ro=S.ro
 n:S.n <=S'.n
 heap:∀id,id < S.ro -> S'.heap id=S.heap id
theorem Low.refl (S:AS):Low S S:=⟨rfl,Nat.le_refl _,fun _ _=>rfl⟩
theorem Low.trans {S S' S'':AS} (h:Low S S') (h':Low S' S''):Low S S'':=⟨h'.ro.trans h.ro,Nat.le_trans h.n h'.n,fun id e=>(h'.heap id (by rw [h.ro];exact e)).trans (h.heap id e)⟩
def qA (A:zx) (G:Gh) (w:World):Prop:=∀g v,A.glob g=some v -> ∀m,G.K (10000+g)=some m -> kV G w v m
def kE (G:Gh) (S:AS) (w:World) (r:AV) (S':AS) (e:Ending) (w':World):Prop:=
 ∃v G',e=.returned v /\ Rep G' w' r v /\ Sim G' S' w' /\ Ext (DW G S w) G w G' w' /\ ∀b,Wr G' S' b -> DW G S w b
def zbf (P:Program) (A:zx) (K:Nat -> Option Nat) (f:Nat) (g:List AV -> AS -> Option (AV×AS)):Prop:=
 ∀args S r S' G w vargs,G.K=K -> g args S=some (r,S') -> Sim G S w -> zp G w args vargs -> qA A G w -> Calls P f vargs.toArray w (kE G S w r S') /\ Low S S'
theorem Fr.called (hF:Fr A D G ρ σ a w) {r:AV} {S':AS} {v:Value} {G':Gh} {w':World} (hr:Rep G' w' r v) (hs:Sim G' S' w') (hx:Ext (DW G σ.S w) G w G' w') (hw:∀b,Wr G' S' b -> DW G σ.S w b) (hlow:Low σ.S S'):
 Fr A D G' ρ {σ with S:=S'} a w' /\ Ext D G w G' w':=by
 have hD:∀b,DW G σ.S w b -> D b:=fun b h=>h.elim (hF.dnew b) (hF.dwr b);have hx':=hx.weak hD;refine ⟨hF.keep hx' hs ?_ fun b h=>hD b (hw b h),hx'⟩;intro q cs b e hb;have hlt:=hF.reg_lt e hb;have hn:¬DW G σ.S w b:=by
  rintro (h|⟨id,o,x,_,ho,hx,h0,hxb⟩)
  ·omega
  ·exact hF.rhp q cs b id o x e hb ho hx h0 hxb
 refine ⟨hx.keep b hlt hn,fun off hp=>(hx.new b off hp).resolve_right hn,?_⟩;intro id o x ho hxi h0 hxb;by_cases hid:id < σ.S.ro
 ·rw [hlow.heap id hid]at ho;obtain ⟨y,hy,_⟩:=hF.sim.obj id o ho;have:=hx.ι _ _ hy;rw [hxi]at this;cases this;exact hF.rhp q cs b id o _ e hb ho hy h0 hxb
 ·exact hn (hw b ⟨id,o,x,by rw [hlow.ro];omega,ho,hxi,h0,hxb⟩)
end
def zH.ex:zH -> Exit
 | .normal=>.normal
 | .ret=>.ret
 | .exit i=>.exit i
 | .goto l=>.goto l
def zcP (A:zx) (D:Nat -> Prop) (G:Gh) (w:World) (e:zH) (σ':ASt) (x:Exit) (a':Act) (w':World):Prop:=
 x=e.ex /\ ∃G' ρ',Fr A D G' ρ' σ' a' w' /\ Ext D G w G' w'
def zY (A:zx) (k:Nat):Bool:=(A.ext k).isSome
def qk (P:Program) (A:zx) (K:Nat -> Option Nat) (R:ACode -> ASt -> Option (zH×ASt)):Prop:=
 ∀(code:Code) (c:ACode) (σ:ASt) (e:zH) (σ':ASt) (D:Nat -> Prop) (G:Gh) (ρ:Nat -> Option Nat) (a:Act) (w:World),G.K=K -> yR P K A.mode (zY A) code c=true -> R c σ=some (e,σ') -> Fr A D G ρ σ a w ->
  code.wp P (zcP A D G w e σ') a w /\ Low σ.S σ'.S
structure Ok (P:Program) (A:zx) (K:Nat -> Option Nat):Prop where
 fn:∀key f af,K key=some f -> A.ext key=none -> A.funcs key=some af -> vY P f=true /\ ∃fn,P.funcs[f]?=some fn /\ vF P K A.mode (zY A) fn af=true
 ext:∀key f g,K key=some f -> A.ext key=some g -> vY P f=true /\ zbf P A K f g
 low:∀key g,A.ext key=some g -> ∀args S r S',g args S=some (r,S') -> S.ro <=S.n -> Low S S'
 frm:∀key g cols,A.ext key=some g -> A.mode key=.keepF cols -> ∀args S r S',g args S=some (r,S') -> Frm cols S S'
 gpure:∀g v,A.glob g=some v -> v.pure=true
section
variable {A:zx} {D:Nat -> Prop} {G:Gh} {ρ:Nat -> Option Nat} {σ:ASt} {a:Act} {w:World} {P:Program} {K:Nat -> Option Nat}
theorem zuV {x:Addr}:(Go.asAddr (.pointer (some x))).run P w=.ok x w:=rfl
def zhv (tm:Array Value):ResultVar -> Sem Value
 | .tmp t=>Pure.pure (tm.getD t undef)
 | .cell p t=>do loadVar t (<- Go.asAddr (tm.getD p undef))
theorem zoI (hF:Fr A D G ρ σ a w):∀{rs:List ResultVar} {as:List qN},kg P rs as=true -> ∀{vs:List AV},zaE σ.tm σ.rg σ.S as=some vs ->
 ∃xs,(rs.mapM (zhv a.tmps)).run P w=.ok xs w /\ zp G w vs xs
 |[],[],_,vs,h=>by simp [zaE]at h;subst h;exact ⟨[],by simp,.nil⟩
 |[],_::_,h,_,_=>by simp [kg]at h
 |r::rs,[],h,_,_=>by cases r<;>simp [kg]at h
 |r::rs,s::as,h,vs,hv=>by
  simp only [zaE,Option.bind_eq_some_iff,Option.map_eq_some_iff]at hv;obtain ⟨v,hv1,vs',hv2,rfl⟩:=hv;have one:∃x,(zhv a.tmps r).run P w=.ok x w /\ Rep G w v x /\ kg P rs as=true:=by
   cases r with
   |tmp t=>
    cases s with
    |cell _ _ _=>simp [kg]at h
    |tmp t'=>
     simp only [kg,Bool.and_eq_true,beq_iff_eq]at h;obtain ⟨rfl,h⟩:=h;refine ⟨_,rfl,?_,h⟩;simp only [zc8]at hv1;split at hv1
     ·cases hv1
     ·rename_i u hu;cases hv1;have:=zhj hF (x:=.t t) (y:=.tmp t) (by simp [za1]) (v:=σ.tm.getD t .junk) rfl;refine this.rep ?_;generalize hg:σ.tm.getD t .junk=q at hu;cases q<;>first|rfl|(rename_i r c;exact absurd rfl (hu r c))
   |cell p ty=>
    cases s with
    |tmp _=>simp [kg]at h
    |cell p' sz agg=>
     simp only [kg,Bool.and_eq_true,beq_iff_eq]at h;obtain ⟨⟨⟨⟨rfl,hs⟩,hg⟩,h1⟩,h⟩:=h;have hT:=zhj hF (x:=.t p) (y:=.tmp p) (by simp [za1]) (v:=σ.tm.getD p .junk) rfl;have hT:yN G ρ σ.rg w (σ.tm.getD p .junk) (a.tmps.getD p undef):=hT;have fin:∀{cs:List AV} {ws us:List Value} {c b off:Nat},zp G w cs ws -> yM cs c sz agg=some v -> a.tmps.getD p undef=.pointer (some ⟨b,off,none⟩) -> us=(ws.drop c).take sz ->
      (∀i u,us[i]?=some u -> w.cell? ⟨b,off+i,none⟩=some u) -> ∃x,(do loadVar ty (<- Go.asAddr (a.tmps.getD p undef)):Sem Value).run P w=.ok x w /\ Rep G w v x /\ kg P rs as=true:=by
      intro cs ws us c b off hr hgc e1 hus hc;obtain ⟨hle,hv⟩:=zqR hgc;have hlen:=hr.length;have hrep:=ziB hr hle h1 hv;have hul:us.length=sz:=by rw [hus];simp;omega
      have hrun:=zqH (P:=P) hs hg h1 hul hc;have hrun:(loadVar ty ⟨b,off,none⟩).run P w=_:=hrun;refine ⟨if agg=true then Value.agg us.toArray else us.getD 0 undef,by rw [e1];simp only [Sem.run_bind,zuV,Result.andThen_ok];exact hrun,?_,h⟩;have:(if agg then Value.agg us.toArray else us.getD 0 undef)=(if agg then Value.agg ((ws.drop c).take sz).toArray else ws.getD c undef):=by
       rw [hus];cases agg with
       |true=>rfl
       |false=>
        simp at h1;subst h1;simp [List.getD_eq_getElem?_getD,List.getElem?_take,List.getElem?_drop]
      rw [this];exact hrep
     simp only [zc8]at hv1;split at hv1
     ·rename_i r c hq;simp only [Option.bind_eq_some_iff]at hv1;obtain ⟨cs,hr,hgc⟩:=hv1;rw [hq]at hT;obtain ⟨_,b,hb,e1⟩:=hT;obtain ⟨b',us,e,hb',hh,hrep⟩:=hF.regCells hr;rw [hb]at hb';cases hb';exact fin hrep hgc e1 rfl (zot hh)
     ·rename_i cs hq;rw [hq]at hT;obtain ⟨b,off,us,e1,hat,hr⟩:=Rep.iptr_inv (x:=a.tmps.getD p undef) hT;exact fin hr hv1 e1 rfl fun i u hu=>by
       rw [List.drop_zero,List.getElem?_take]at hu;split at hu
       ·exact (hat i u hu).2
       ·cases hu
     ·rename_i id row c hq;rw [hq]at hT;split at hv1
      ·rename_i z rs' hh;simp only [Option.bind_eq_some_iff]at hv1;obtain ⟨cs,hrow,hgc⟩:=hv1;obtain ⟨b,z',N,hi,e1⟩:=Rep.ptr_inv (x:=a.tmps.getD p undef) hT;obtain ⟨y,hy,ho'⟩:=hF.sim.obj id _ hh;rw [hi]at hy;cases hy;have hz:z'=z:=ho'.1;subst hz;obtain ⟨_,carr,e,vs',u,_,_,_,_,_,hrep,hul,hcell,_⟩:=zbn ho' hrow;refine fin hrep hgc e1 rfl fun i u' hu=>?_;rw [List.getElem?_take]at hu;split at hu
       ·rw [List.getElem?_drop]at hu;have:=hcell (c+i) u' hu;rw [<- Nat.add_assoc]at this;exact this
       ·cases hu
      ·cases hv1
     ·cases hv1
  obtain ⟨x,hx,hrep,h'⟩:=one;obtain ⟨xs,hxs,hreps⟩:=zoI hF h' hv2;refine ⟨x::xs,?_,.cons hrep hreps⟩;rw [List.mapM_cons];simp only [Sem.run_bind,hx,Result.andThen_ok,hxs,Sem.run_pure]
theorem zmI (hF:Fr A D G ρ σ a w) {fn:Func} {af:zd} (hok:kg P fn.results.toList af.res=true) {r:AV} {S':AS} (hd:af.done σ=some (r,S')):
 S'=σ.S /\ ∃v,(results fn a.tmps).run P w=.ok v w /\ Rep G w r v:=by
 simp only [zd.done,Option.map_eq_some_iff,Prod.mk.injEq]at hd;obtain ⟨vs,hvs,rfl,rfl⟩:=hd;obtain ⟨xs,hxs,hrep⟩:=zoI hF hok hvs;refine ⟨rfl,if h:xs.toArray.size=1 then xs.toArray[0] else .tuple xs.toArray,?_,?_⟩
 ·have hm:(fn.results.mapM (zhv a.tmps)).run P w=.ok xs.toArray w:=by
   rw [<- Array.toArray_toList (xs:=fn.results),List.mapM_toArray];simp only [Sem.run_map,hxs,Result.andThen_ok]
  have e0:results fn a.tmps=(do
   let vs <- fn.results.mapM (zhv a.tmps)
   Pure.pure (if h:vs.size=1 then vs[0] else .tuple vs)):=by
   unfold results;congr 2
  rw [e0];simp only [Sem.run_bind,hm,Result.andThen_ok,Sem.run_pure]
 ·cases hrep with
  |nil=>exact .tup .nil
  |cons h t=>
   cases t with
   |nil=>exact h
   |cons h2 t2=>
    rw [dif_neg (by simp)];exact .tup (.cons h (.cons h2 t2))
theorem znC {S:AS} (hS:Sim G S w) (hg:qA A G w) {args:List AV} {vargs:List Value} (hr:zp G w args vargs) {fn:Func} {af:zd} (hn:fn.ntmps=af.ntmps):
 Fr A (DW G S w) G ρ (af.start args S) {tmps:=vargs.toArray++Array.replicate (fn.ntmps - vargs.toArray.size) undef,defers:=[]} w:=by
 have hl:=hr.length;refine ⟨rfl,?_,?_,?_,?_,?_,hS,fun b h=>.inr h,fun b h=>.inl h,hg⟩
 ·simp only [zd.start,Array.size_append,List.size_toArray,Array.size_replicate,List.length_append,List.length_replicate,hn,hl]
 ·intro p v e;simp only [zd.start]at e;by_cases hp:p < args.length
  ·rw [List.getElem?_append_left hp]at e;obtain ⟨x,hx,hrep⟩:=hr.get p e;have:(vargs.toArray++Array.replicate (fn.ntmps - vargs.toArray.size) undef).getD p undef=x:=by
    rw [Array.getD_eq_getD_getElem?,Array.getElem?_append_left (by simp;omega)];simp [hx]
   rw [this];exact hrep.trep
  ·rw [List.getElem?_append_right (by omega),List.getElem?_replicate]at e;split at e
   ·cases e;exact Rep.trep .junk
   ·cases e
 ·intro r cs e;cases e
 ·intro r r' cs cs' b e;cases e
 ·intro r cs b id o x e;cases e
theorem zfp {R:ACode -> ASt -> Option (zH×ASt)} (hR:qk P A K R) (hK:G.K=K) {f:Nat} {fn:Func} {af:zd} (hf:P.funcs[f]?=some fn) (hok:vF P K A.mode (zY A) fn af=true) {S:AS} (hS:Sim G S w) (hg:qA A G w)
 {args:List AV} {vargs:List Value} (hr:zp G w args vargs) {r:AV} {S':AS} (he:enter R af args S=some (r,S')):Calls P f vargs.toArray w (kE G S w r S') /\ Low S S':=by
 simp only [vF,Bool.and_eq_true,beq_iff_eq]at hok;obtain ⟨⟨hn,hres⟩,hb⟩:=hok;split at hb
 ·rename_i code hbody;have hFr:=znC (ρ:=fun _=>none) (A:=A) hS hg hr (fn:=fn) (af:=af) hn;have key:∃e σ',R af.body (af.start args S)=some (e,σ') /\ (e=.normal \/ e=.ret) /\ af.done σ'=some (r,S'):=by
   unfold enter at he;split at he
   ·rename_i σ' h;exact ⟨_,σ',h,.inl rfl,he⟩
   ·rename_i σ' h;exact ⟨_,σ',h,.inr rfl,he⟩
   ·cases he
  obtain ⟨e,σ',hrun,hex,hd⟩:=key;obtain ⟨hwp,hlow⟩:=hR code af.body _ e σ' _ G _ _ w hK hb hrun hFr;have hfin:∀x a' w',zcP A (DW G S w) G w e σ' x a' w' -> bodyPost P fn (kE G S w r S') x a' w':=by
   rintro x a' w' ⟨rfl,G',ρ',hF',hx'⟩;obtain ⟨hS',v,hv,hrep⟩:=zmI hF' hres hd;have hpost:kE G S w r S' (.returned v) w':=⟨v,G',rfl,hrep,by rw [hS'];exact hF'.sim,hx',by rw [hS'];exact hF'.dwr⟩;rcases hex with rfl|rfl
   ·exact ⟨hF'.defers,v,hv,hpost⟩
   ·exact ⟨hF'.defers,v,hv,hpost⟩
  refine ⟨calls_of_wp hf hbody (wp_mono hwp hfin),?_⟩;have:S'=σ'.S:=by
   simp only [zd.done,Option.map_eq_some_iff,Prod.mk.injEq]at hd;obtain ⟨_,_,_,h⟩:=hd;exact h.symm
  rw [this];exact hlow
 ·cases hb
theorem ztF {S:AS} (hS:Sim G S w) {P':Nat -> Nat -> Prop} (hP:∀b o,P' b o -> b < w.heap.size) (hle:∀b o,G.P b o -> P' b o):Sim {G with P:=P'} {S with ro:=S.n} w where
 obj:=fun id o e=>by
  obtain ⟨x,hx,ho⟩:=hS.obj id o e;exact ⟨x,hx,ho.keep (show Le G w {G with P:=P'} w from ⟨fun _ _ h=>h,hle,rfl,fun _ _ _ _ h=>h⟩) fun _=>rfl⟩
 fresh:=hS.fresh
 inj:=hS.inj
 own:=fun id o x off hr e=>by
  have:=(hS.fresh id hr).1;rw [this]at e;cases e
 lt:=hP
 ro:=Nat.le_refl _
theorem zm5 {S:AS} (hS:Sim G S w) {P':Nat -> Nat -> Prop} {b:Nat}:¬Wr {G with P:=P'} {S with ro:=S.n} b:=by
 rintro ⟨id,o,x,hr,e,_⟩;have:=(hS.fresh id hr).1;rw [this]at e;cases e
theorem zt2 {R:ACode -> ASt -> Option (zH×ASt)} (hR:qk P A K R) (hK:G.K=K) {f:Nat} {fn:Func} {af:zd} (hf:P.funcs[f]?=some fn) (hok:vF P K A.mode (zY A) fn af=true) {S:AS} (hS:Sim G S w) (hg:qA A G w)
 {args':List AV} {vargs:List Value} {ids:List Nat} (hids:∀id,ids.contains id=true -> S.ro <=id)
 (hrp:zp {G with P:=fun b o=>G.P b o \/ ∃id ob x,ids.contains id=true /\ S.heap id=some ob /\ G.ι id=some x /\ 0 < x.2.2 /\ x.1=b} w args' vargs)
 {r r':AV} {S1:AS} (he:enter R af args' {jp S ids with ro:=S.n}=some (r,S1)) (hfz:S1.frzTo S.n 2 r=some r') (hp:r'.pure=true):
 Calls P f vargs.toArray w (kE G S w r' (jp S ids)) /\ Low S (jp S ids):=by
 let Pp:Nat -> Nat -> Prop:=fun b o=>G.P b o \/ ∃id ob x,ids.contains id=true /\ S.heap id=some ob /\ G.ι id=some x /\ 0 < x.2.2 /\ x.1=b
 let Gp:Gh:={G with P:=Pp}
 have hkill:∀id o,(jp S ids).heap id=some o -> S.heap id=some o /\ ids.contains id=false:=by
  intro id o e;simp only [jp]at e;split at e
  ·cases e
  ·rename_i h;exact ⟨e,by simpa using h⟩
 have hSk:Sim G (jp S ids) w:=hS.less fun id o e=>(hkill id o e).1;have hPlt:∀b o,Pp b o -> b < w.heap.size:=by
  rintro b o (h|⟨id,ob,x,_,e,hx,h0,rfl⟩)
  ·exact hS.lt b o h
  ·obtain ⟨y,hy,ho⟩:=hS.obj id ob e;rw [hx]at hy;cases hy;exact ho.lt h0
 have hleP:∀b o,G.P b o -> Pp b o:=fun b o h=>.inl h;have hle:Le G w Gp w:=⟨fun _ _ h=>h,hleP,rfl,fun _ _ _ _ h=>h⟩;have hSc:Sim Gp {jp S ids with ro:=S.n} w:=ztF hSk hPlt hleP;have hgp:qA A Gp w:=fun g v e m k=>(hg g v e m (by rw [<- hle.K];exact k)).le hle;obtain ⟨hc,hlow1⟩:=zfp (G:=Gp) hR hK hf hok hSc hgp hrp he;have hlowk:Low S (jp S ids):=by
  refine ⟨rfl,Nat.le_refl _,fun id e=>?_⟩;simp only [jp];split
  ·rename_i h;have:=hids id h;omega
  ·rfl
 refine ⟨hc.mono ?_,hlowk⟩;rintro e w' ⟨v,G1,rfl,hrep,hS1,hx1,hdw1⟩;have hno:∀b,¬Wr Gp {jp S ids with ro:=S.n} b:=fun b=>zm5 (G:=G) (S:=jp S ids) hSk;have hfresh:∀b,DW Gp {jp S ids with ro:=S.n} w b -> w.heap.size <=b:=fun b h=>h.elim id fun h=>absurd h (hno b);have hold:∀b,b < w.heap.size -> w'.heap[b]?=w.heap[b]?:=fun b hb=>hx1.keep b hb fun h=>by have:=hfresh b h;omega
 let P2:Nat -> Nat -> Prop:=fun b o=>Pp b o \/ (w.heap.size <=b /\ b < w'.heap.size)
 let G1':Gh:={G1 with P:=fun b o=>G1.P b o \/ (w.heap.size <=b /\ b < w'.heap.size)}
 let G2:Gh:={G with P:=P2}
 have hle1:Le G1 w' G1' w':=⟨fun _ _ h=>h,fun _ _ h=>.inl h,rfl,fun _ _ _ _ h=>h⟩;have hrep1:Rep G1' w' r' v:=by
  refine zeM hS1 hle1 ?_ 2 r r' v hrep hfz;intro id o x off hid ho hx h0;right;obtain ⟨y,hy,hob⟩:=hS1.obj id o ho;rw [hx]at hy;cases hy;refine ⟨?_,hob.lt h0⟩;exact hfresh _ (hdw1 _ ⟨id,o,x,by rw [hlow1.ro];exact hid,ho,hx,h0,rfl⟩)
 have hG1P:∀b o,G1'.P b o -> P2 b o:=by
  rintro b o (h|h)
  ·rcases hx1.new b o h with h'|h'
   ·exact .inl h'
   ·exact .inr ⟨hfresh b h',hS1.lt b o h⟩
  ·exact .inr h
 have hrep2:Rep G2 w' r' v:=hrep1.toldG (G':=G2) hG1P hx1.K.symm hp;have hxt:Ext (DW G S w) G w G2 w':=by
  refine {ι:=fun _ _ h=>h,P:=fun b o h=>.inl (.inl h),K:=rfl,cell:=?_,size:=hx1.size,keep:=fun b hb _=>hold b hb,stay:=fun b o hp=>hold b (hS.lt b o hp),new:=?_,io:=hx1.io}
  ·intro b o u hp' hc';rw [zaq (hold b (hS.lt b o hp'))];exact hc'
  ·rintro b o ((h|⟨id,ob,x,h1,h2,h3,h4,rfl⟩)|h)
   ·exact .inl h
   ·exact .inr (.inr ⟨id,ob,x,hids id h1,h2,h3,h4,rfl⟩)
   ·exact .inr (.inl h.1)
 have hS2:Sim G2 (jp S ids) w':=by
  refine hSk.keep hxt.toLe (fun id _ hn=>(hS.fresh id hn).2) ?_ ?_ ?_
  ·intro id o x e hx h0;obtain ⟨y,hy,hob⟩:=hSk.obj id o e;rw [hx]at hy;cases hy;exact hold _ (hob.lt h0)
  ·rintro id o x off hr' e hx h0 ((h|⟨id2,ob,x2,h1,h2,h3,h4,h5⟩)|h)
   ·exact h
   ·obtain ⟨e1,e2⟩:=hkill id o e;have:=hS.inj id2 id ob o x2 x h2 e1 h3 hx h4 h0 h5;subst this;rw [h1]at e2;cases e2
   ·obtain ⟨y,hy,hob⟩:=hSk.obj id o e;rw [hx]at hy;cases hy;have:=hob.lt h0;omega
  ·rintro b o (h|h)
   ·exact Nat.lt_of_lt_of_le (hPlt b o h) hx1.size
   ·exact h.2
 refine ⟨v,G2,rfl,hrep2,hS2,hxt,?_⟩;rintro b ⟨id,o,x,hr',e,hx,h0,hb⟩;exact .inr ⟨id,o,x,hr',(hkill id o e).1,hx,h0,hb⟩
theorem zHJ {R:ACode -> ASt -> Option (zH×ASt)} (hR:qk P A K R) (hK:G.K=K) {f:Nat} {fn:Func} {af:zd} (hf:P.funcs[f]?=some fn) (hok:vF P K A.mode (zY A) fn af=true) {S:AS} (hS:Sim G S w) (hg:qA A G w)
 {args args':List AV} {vargs:List Value} (hr:zp G w args vargs) {ids:List Nat} (hids:∀id,ids.contains id=true -> S.ro <=id) (hargs:zE (S.frzTo S.ro 1) args=some args')
 (hin:∀id∈qs args,ids.contains id=true)
 {r r':AV} {S1:AS} (he:enter R af args' {jp S ids with ro:=S.n}=some (r,S1)) (hfz:S1.frzTo S.n 2 r=some r') (hp:r'.pure=true):
 Calls P f vargs.toArray w (kE G S w r' (jp S ids)) /\ Low S (jp S ids):=
 zt2 hR hK hf hok hS hg hids (zlq (G':={G with P:=fun b o=>G.P b o \/ ∃id ob x,ids.contains id=true /\ S.heap id=some ob /\ G.ι id=some x /\ 0 < x.2.2 /\ x.1=b}) hS ⟨fun _ _ h=>h,fun _ _ h=>.inl h,rfl,fun _ _ _ _ h=>h⟩ (fun id o x off h1 h2 h3 h4=>.inr ⟨id,o,x,h1,h2,h3,h4,rfl⟩) hin hr hargs) he hfz hp
theorem zxd {R:ACode -> ASt -> Option (zH×ASt)} (hR:qk P A K R) (hK:G.K=K) {f:Nat} {fn:Func} {af:zd} (hf:P.funcs[f]?=some fn) (hok:vF P K A.mode (zY A) fn af=true) {S:AS} (hS:Sim G S w) (hg:qA A G w)
 {args:List AV} {vargs:List Value} (hr:zp G w args vargs)
 {r r':AV} {S1:AS} (he:enter R af (yU args) {S with ro:=S.n}=some (r,S1)) (hfz:S1.frzTo S.n 2 r=some r') (hp:r'.pure=true):
 Calls P f vargs.toArray w (kE G S w r' S) /\ Low S S:=
 zt2 hR hK hf hok hS hg (ids:=[]) (fun _ h=>by simp at h) ((zay hr).mono (⟨fun _ _ h=>h,fun _ _ h=>Or.inl h,rfl,fun _ _ _ _ h=>h⟩:Le G w {G with P:=fun b o=>G.P b o \/ ∃id ob x,([]:List Nat).contains id=true /\ S.heap id=some ob /\ G.ι id=some x /\ 0 < x.2.2 /\ x.1=b} w)) he hfz hp
theorem zDE {S:AS} (hS:Sim G S w) {ids:List Nat} (hids:∀id,ids.contains id=true -> S.ro <=id):
 ∃Gp:Gh,Le G w Gp w /\ (∀id o x off,ids.contains id=true -> S.heap id=some o -> G.ι id=some x -> 0 < x.2.2 -> Gp.P x.1 off) /\ Sim Gp (jp S ids) w /\ Ext (DW G S w) G w Gp w /\ (∀b,Wr Gp (jp S ids) b -> DW G S w b) /\ Low S (jp S ids):=by
 let Pp:Nat -> Nat -> Prop:=fun b o=>G.P b o \/ ∃id ob x,ids.contains id=true /\ S.heap id=some ob /\ G.ι id=some x /\ 0 < x.2.2 /\ x.1=b
 let Gp:Gh:={G with P:=Pp}
 have hkill:∀id o,(jp S ids).heap id=some o -> S.heap id=some o /\ ids.contains id=false:=by
  intro id o e;simp only [jp]at e;split at e
  ·cases e
  ·rename_i h;exact ⟨e,by simpa using h⟩
 have hSk:Sim G (jp S ids) w:=hS.less fun id o e=>(hkill id o e).1;have hPlt:∀b o,Pp b o -> b < w.heap.size:=by
  rintro b o (h|⟨id,ob,x,_,e,hx,h0,rfl⟩)
  ·exact hS.lt b o h
  ·obtain ⟨y,hy,ho⟩:=hS.obj id ob e;rw [hx]at hy;cases hy;exact ho.lt h0
 have hle:Le G w Gp w:=⟨fun _ _ h=>h,fun b o h=>.inl h,rfl,fun _ _ _ _ h=>h⟩;have hxt:Ext (DW G S w) G w Gp w:=by
  refine {ι:=fun _ _ h=>h,P:=fun b o h=>.inl h,K:=rfl,cell:=fun _ _ _ _ h=>h,size:=Nat.le_refl _,keep:=fun b hb _=>rfl,stay:=fun b o hp=>rfl,new:=?_,io:=Io.refl w};rintro b o (h|⟨id,ob,x,h1,h2,h3,h4,rfl⟩)
  ·exact .inl h
  ·exact .inr (.inr ⟨id,ob,x,hids id h1,h2,h3,h4,rfl⟩)
 refine ⟨Gp,hle,fun id o x off h1 h2 h3 h4=>.inr ⟨id,o,x,h1,h2,h3,h4,rfl⟩,?_,hxt,?_,?_⟩
 ·refine hSk.keep hle (fun id _ hn=>(hS.fresh id hn).2) (fun _ _ _ _ _ _=>rfl) ?_ hPlt;rintro id o x off hr' e hx h0 (h|⟨id2,ob,x2,h1,h2,h3,h4,h5⟩)
  ·exact h
  ·obtain ⟨e1,e2⟩:=hkill id o e;have:=hS.inj id2 id ob o x2 x h2 e1 h3 hx h4 h0 h5;subst this;rw [h1]at e2;cases e2
 ·rintro b ⟨id,o,x,hr',e,hx,h0,hb⟩;exact .inr ⟨id,o,x,hr',(hkill id o e).1,hx,h0,hb⟩
 ·refine ⟨rfl,Nat.le_refl _,fun id e=>?_⟩;simp only [jp];split
  ·rename_i h;have:=hids id h;omega
  ·rfl
theorem zDJ (hF:Fr A D G ρ σ a w) {o:Oper} {xs:List zl} (hok:yH P G.K o.op .tell xs=true) {vs:List AV} (hev:evs A σ.tm xs=some vs)
 {v:AV} {ru:Option (Nat×List AV)} {S':AS} (hp:za .tell o.dst σ.rg σ.S vs=some (v,ru,S')):qa P A D G ({σ with S:=S'}.regs ru) a w (execOp a.eval o) v:=by
 have core:∀x:Operand,(execOp a.eval o).run P w=.ok (.value (a.eval x)) w -> TL G ρ σ.rg w vs [a.eval x] -> qa P A D G ({σ with S:=S'}.regs ru) a w (execOp a.eval o) v:=by
  intro x hrun hT;obtain _|⟨h,t⟩:=hT;cases t;rename_i u;simp only [za]at hp;split at hp
  ·rename_i hids;simp only [Option.map_eq_some_iff,Prod.mk.injEq]at hp;obtain ⟨v',hfz,rfl,rfl,rfl⟩:=hp;have hur:u.isReg=false:=by
    cases u with
    |reg _ _=>simp [AS.frzTo,AV.frz]at hfz
    |_=>rfl
   obtain ⟨Gp,hle,hP,hSk,hx,hw,hlow⟩:=zDE hF.sim (ids:=qs [u]) (fun id hid=>by
    rw [List.all_eq_true]at hids;simpa using hids id (by simpa using hid))
   have hrep:zp Gp w [v'] [a.eval x]:=zlq hF.sim hle hP (ids:=qs [u]) (l:=[u]) (fun id hid=>by simpa using hid) (.cons (h.rep hur) .nil) (by simp only [zE];rw [hfz];rfl);cases hrep with
   |cons h1 _=>
    obtain ⟨k1,k2⟩:=hF.called h1 hSk hx hw hlow;exact ⟨_,_,Gp,ρ,.inl hrun,k1,k2,h1.trep⟩
  ·cases hp
 simp only [yH]at hok;split at hok
 ·rename_i x ho;exact core x (by rw [zo3 _ _ ho];rfl) (yu hF hok hev)
 ·rename_i x ho;exact core x (by rw [zoP _ _ ho];rfl) (yu hF hok hev)
 ·cases hok
theorem zFe (hF:Fr A D G ρ σ a w) {o:Oper} {op:AOp} {xs:List zl} (hok:yH P G.K o.op op xs=true) {vs:List AV} (hev:evs A σ.tm xs=some vs)
 {v:AV} {ru:Option (Nat×List AV)} {S':AS} (hp:za op o.dst σ.rg σ.S vs=some (v,ru,S')):qa P A D G ({σ with S:=S'}.regs ru) a w (execOp a.eval o) v:=by
 have quiet:∀{G1:ru=none /\ S'=σ.S /\ yo P A D G ρ σ a w (execOp a.eval o) v},qa P A D G ({σ with S:=S'}.regs ru) a w (execOp a.eval o) v:=by
  rintro ⟨rfl,rfl,h⟩;exact h.gone
 cases op with
 |pur p=>
  simp only [za]at hp;cases hpv:pev p vs with
  |none=>rw [hpv]at hp;cases hp
  |some u=>
   rw [hpv]at hp;cases hp;exact (zA0 hF hok hev hpv).gone
 |ld loc sz agg=>exact quiet (G1:=zDR hF hok hev hp)
 |st loc sz=>exact zHq hF hok hev hp
 |alloc k zero=>exact zy2 hF hok hev hp
 |box k=>exact zIo hF hok hev hp
 |lookup str zero ok=>exact quiet (G1:=zu0 hF hok hev hp)
 |lenM=>exact quiet (G1:=zvI hF hok hev hp)
 |mkmap=>exact zCk hF hok hp
 |mapset str=>exact zu9 hF hok hev hp
 |clearM=>exact zwM hF hok hev hp
 |mapdel str=>exact zAW hF hok hev hp
 |append sz bytes=>exact mem_append hF hok hev hp
 |mkslice sz bytes zero=>exact zFf hF hok hev hp
 |appendZ sz bytes zero=>exact zy8 hF hok hev hp
 |copy sz=>exact zwq hF hok hev hp
 |clearS sz zero=>exact zHS hF hok hev hp
 |call key=>simp [za]at hp
 |callv=>simp [za]at hp
 |rangeM=>simp [za]at hp
 |nextM=>simp [za]at hp
 |entryM=>simp [za]at hp
 |nilSl=>simp [za]at hp
 |tell=>exact zDJ hF hok hev hp
 |bad=>simp [za]at hp
theorem zCQ {R:ACode -> ASt -> Option (zH×ASt)} (hR:qk P A K R) (hK:G.K=K) {f:Nat} {fn:Func} {af:zd} (hf:P.funcs[f]?=some fn) (hok:vF P K A.mode (zY A) fn af=true) {S:AS} (hS:Sim G S w) (hg:qA A G w) (hgp:∀g v,A.glob g=some v -> v.pure=true)
 {args:List AV} {vargs:List Value} (hr:zp G w args vargs) (hpu:jR (yU args)=true)
 {r r':AV} {S1:AS} (he:enter R af (yU args) ⟨fun _=>none,0,0⟩=some (r,S1)) (hfz:S1.frzTo 0 2 r=some r') (hp:r'.pure=true):
 Calls P f vargs.toArray w (kE G S w r' S) /\ Low S S:=by
 let G0:Gh:={G with ι:=fun _=>none}
 let S0:AS:=⟨fun _=>none,0,0⟩
 have hS0:Sim G0 S0 w:={
  obj:=fun _ _ h=>by cases h
  fresh:=fun _ _=>⟨rfl,rfl⟩
  inj:=fun _ _ _ _ _ _ h=>by cases h
  own:=fun _ _ _ _ _ h=>by cases h
  lt:=hS.lt
  ro:=Nat.le_refl _}
 have hr0:zp G0 w (yU args) vargs:=(zay hr).toldG (G:=G) (G':=G0) (fun _ _ h=>h) rfl hpu;have hg0:qA A G0 w:=fun g v e m k=>by
  have:=hg g v e m k;exact ⟨this.1.toldG (G:=G) (G':=G0) (fun _ _ h=>h) rfl (hgp g v e),this.2⟩
 obtain ⟨hc,hlow1⟩:=zfp (G:=G0) hR hK hf hok hS0 hg0 hr0 he;refine ⟨hc.mono ?_,Low.refl _⟩;rintro e w' ⟨v,G1,rfl,hrep,hS1,hx1,hdw1⟩;have hno:∀b,¬Wr G0 S0 b:=by rintro b ⟨_,_,_,_,h,_⟩;cases h
 have hfresh:∀b,DW G0 S0 w b -> w.heap.size <=b:=fun b h=>h.elim id fun h=>absurd h (hno b);have hold:∀b,b < w.heap.size -> w'.heap[b]?=w.heap[b]?:=fun b hb=>hx1.keep b hb fun h=>by have:=hfresh b h;omega
 let P2:Nat -> Nat -> Prop:=fun b o=>G.P b o \/ (w.heap.size <=b /\ b < w'.heap.size)
 let G1':Gh:={G1 with P:=fun b o=>G1.P b o \/ (w.heap.size <=b /\ b < w'.heap.size)}
 let G2:Gh:={G with P:=P2}
 have hle1:Le G1 w' G1' w':=⟨fun _ _ h=>h,fun _ _ h=>.inl h,rfl,fun _ _ _ _ h=>h⟩;have hrep1:Rep G1' w' r' v:=by
  refine zeM hS1 hle1 ?_ 2 r r' v hrep hfz;intro id o x off hid ho hx h0;right;obtain ⟨y,hy,hob⟩:=hS1.obj id o ho;rw [hx]at hy;cases hy;exact ⟨hfresh _ (hdw1 _ ⟨id,o,x,by rw [hlow1.ro];exact hid,ho,hx,h0,rfl⟩),hob.lt h0⟩
 have hG1P:∀b o,G1'.P b o -> P2 b o:=by
  rintro b o (h|h)
  ·rcases hx1.new b o h with h'|h'
   ·exact .inl h'
   ·exact .inr ⟨hfresh b h',hS1.lt b o h⟩
  ·exact .inr h
 have hrep2:Rep G2 w' r' v:=hrep1.toldG (G':=G2) hG1P hx1.K.symm hp;have hxt:Ext (DW G S w) G w G2 w':=by
  refine {ι:=fun _ _ h=>h,P:=fun b o h=>.inl h,K:=rfl,cell:=?_,size:=hx1.size,keep:=fun b hb _=>hold b hb,stay:=fun b o hp=>hold b (hS.lt b o hp),new:=?_,io:=hx1.io}
  ·intro b o u hp' hc';rw [zaq (hold b (hS.lt b o hp'))];exact hc'
  ·rintro b o (h|h)
   ·exact .inl h
   ·exact .inr (.inl h.1)
 have hS2:Sim G2 S w':=by
  refine hS.keep hxt.toLe (fun id _ hn=>(hS.fresh id hn).2) ?_ ?_ ?_
  ·intro id o x e hx h0;obtain ⟨y,hy,hob⟩:=hS.obj id o e;rw [hx]at hy;cases hy;exact hold _ (hob.lt h0)
  ·rintro id o x off hr' e hx h0 (h|h)
   ·exact h
   ·obtain ⟨y,hy,hob⟩:=hS.obj id o e;rw [hx]at hy;cases hy;have:=hob.lt h0;omega
  ·rintro b o (h|h)
   ·exact Nat.lt_of_lt_of_le (hS.lt b o h) hx1.size
   ·exact h.2
 exact ⟨v,G2,rfl,hrep2,hS2,hxt,fun b h=>.inr h⟩
end
theorem zaj {S:AS} {id:Nat} {o:Option jb} (h:S.ro <=id):Low S (S.set id o):=by
 refine ⟨rfl,Nat.le_refl _,fun j hj=>?_⟩;have:j≠id:=by omega
 simp only [AS.set,if_neg this]
theorem zaP {S:AS} {o:jb} (h:S.ro <=S.n):Low S (S.new o):=by
 refine ⟨rfl,Nat.le_succ _,fun j hj=>?_⟩;have:j≠S.n:=by omega
 simp only [AS.new,if_neg this]
theorem zyU {S:AS} (hn:S.ro <=S.n) {sz bytes:Nat} {s:AV} {ys:List (List AV)} {r:AV×AS} (h:jd sz bytes S s ys=some r):Low S r.2:=by
 unfold jd at h;split at h
 ·split at h
  ·cases h;exact zaP hn
  ·cases h;exact Low.refl _
  ·cases h;exact Low.refl _
  ·cases h
 ·split at h
  ·split at h
   ·cases h;exact zaP hn
   ·cases h
  ·split at h
   ·split at h
    ·cases h
    ·rename_i hc;split at h
     ·split at h
      ·cases h;exact zaj (by omega)
      ·split at h
       ·cases h;exact zaP hn
       ·cases h
     ·split at h
      ·cases h;exact zaj (by omega)
      ·split at h
       ·cases h;exact (zaj (by omega)).trans (zaP hn)
       ·cases h
   ·cases h
  ·cases h
theorem zoT {S:AS} (hn:S.ro <=S.n) {op:AOp} {dst:Option Nat} {rg:Nat -> Option (List AV)} {vs:List AV} {v:AV} {ru:Option (Nat×List AV)} {S':AS} (h:za op dst rg S vs=some (v,ru,S')):Low S S':=by
 unfold za at h;split at h
 all_goals
  try simp only [Option.bind_eq_some_iff,Option.map_eq_some_iff,Prod.mk.injEq]at h
 case h_1=>obtain ⟨_,_,_,_,rfl⟩:=h;exact Low.refl _
 case h_2=>
  split at h
  ·simp only [Option.bind_eq_some_iff,Option.map_eq_some_iff,Prod.mk.injEq]at h;obtain ⟨_,_,_,_,_,_,rfl⟩:=h;exact Low.refl _
  ·cases h
 case h_3=>obtain ⟨_,_,_,_,rfl⟩:=h;exact Low.refl _
 case h_4=>
  split at h
  ·simp only [Option.bind_eq_some_iff,Option.map_eq_some_iff,Prod.mk.injEq]at h;obtain ⟨_,_,_,_,_,_,rfl⟩:=h;exact Low.refl _
  ·cases h
 case h_5=>
  split at h
  ·simp only [Option.bind_eq_some_iff]at h;obtain ⟨_,_,h⟩:=h;split at h
   ·cases h;exact Low.refl _
   ·cases h
  ·cases h
 case h_6=>
  split at h
  ·rename_i hc;split at h
   ·simp only [Option.bind_eq_some_iff]at h;obtain ⟨_,_,h⟩:=h;split at h
    ·cases h;exact zaj hc.1
    ·cases h
   ·cases h
  ·cases h
 case h_7=>
  obtain ⟨_,_,h⟩:=h;split at h
  ·cases h;exact Low.refl _
  ·cases h
 case h_8=>
  split at h
  ·cases h;exact zaP hn
  ·cases h
 case h_9=>
  split at h
  ·simp only [Option.bind_eq_some_iff]at h;obtain ⟨_,_,h⟩:=h;split at h
   ·cases h;exact Low.refl _
   ·cases h
  ·cases h
 case h_10=>
  split at h
  ·cases h;exact zaP hn
  ·cases h
 case h_11=>
  split at h
  ·cases h
  ·simp only [Option.bind_eq_some_iff,Option.map_eq_some_iff,Prod.mk.injEq]at h;obtain ⟨_,_,_,_,_,_,rfl⟩:=h;exact Low.refl _
 case h_12=>
  split at h
  ·cases h;exact Low.refl _
  ·cases h
 case h_13=>cases h;exact zaP hn
 case h_14=>
  split at h
  ·rename_i hc;split at h
   ·simp only [Option.map_eq_some_iff,Prod.mk.injEq]at h;obtain ⟨_,_,_,_,rfl⟩:=h;exact zaj hc.1
   ·cases h
  ·cases h
 case h_15=>
  split at h
  ·rename_i hc;split at h
   ·cases h;exact zaj hc
   ·cases h
  ·cases h
 case h_16=>
  obtain ⟨_,_,r,hr,_,_,rfl⟩:=h;exact zyU hn hr
 case h_17=>
  split at h
  ·cases h;exact zaP hn
  ·cases h
 case h_18=>
  split at h
  ·cases h;exact zaP hn
  ·cases h
 case h_19=>
  obtain ⟨_,_,h⟩:=h;split at h
  ·cases h;exact Low.refl _
  ·split at h
   ·split at h
    ·rename_i hc;cases h;exact zaj hc.2.2.1
    ·cases h
   ·cases h
 case h_20=>
  split at h
  ·cases h;exact Low.refl _
  ·split at h
   ·split at h
    ·rename_i hc;cases h;exact zaj hc.2.2.1
    ·cases h
   ·cases h
 case h_21=>
  split at h
  ·rename_i hc;split at h
   ·simp only [Option.map_eq_some_iff,Prod.mk.injEq]at h;obtain ⟨_,_,_,_,rfl⟩:=h;exact zaj hc.1
   ·cases h
  ·cases h
 case h_22=>
  split at h
  ·rename_i hids;simp only [Option.map_eq_some_iff,Prod.mk.injEq]at h;obtain ⟨_,_,_,_,rfl⟩:=h;refine ⟨rfl,Nat.le_refl _,fun id e=>?_⟩;simp only [jp];split
   ·rename_i hc;rw [List.all_eq_true]at hids;have:=hids id (by simpa using hc);simp at this;omega
   ·rfl
  ·cases h
 case h_23=>cases h
section
variable {A:zx} {D:Nat -> Prop} {G:Gh} {ρ:Nat -> Option Nat} {σ:ASt} {a:Act} {w:World} {P:Program} {K:Nat -> Option Nat}
theorem zs0 {G G':Gh} {w w':World}:∀{vs:List AV} {xs:List Value},zp G w vs xs -> (vs.all fun| .sc _| .opq=>true|_=>false)=true -> zp G' w' vs xs
 |_,_,.nil,_=>.nil
 |v::l,_,.cons hv hl,hs=>by
  simp only [List.all_cons,Bool.and_eq_true]at hs;refine .cons ?_ (zs0 hl hs.2);cases v with
  |sc _=>cases hv with|sc e=>exact .sc e
  |opq=>cases hv;exact .opq
  |_=>simp at hs
theorem Rep.scalar {G G':Gh} {w w':World} {v:AV} {x:Value} (h:Rep G w v x) (hs:v.scalar=true):Rep G' w' v x:=by
 cases v with
 |sc _=>cases h with|sc e=>exact .sc e
 |opq=>cases h;exact .opq
 |tup vs=>
  cases h with
  |tup hr=>exact .tup (zs0 hr hs)
 |_=>simp [AV.scalar]at hs
theorem zzm {R:ACode -> ASt -> Option (zH×ASt)} (hR:qk P A K R) (hK:G.K=K) {f:Nat} {fn:Func} {af:zd} (hf:P.funcs[f]?=some fn) (hok:vF P K A.mode (zY A) fn af=true) {S:AS} (hS:Sim G S w) (hg:qA A G w)
 {args args':List AV} {vargs:List Value} (hr:zp G w args vargs) (hargs:zE (S.frzTo 0 2) args=some args')
 {r:AV} {S1:AS} (he:enter R af args' {S with ro:=S.n}=some (r,S1)) (hsc:r.scalar=true):
 Calls P f vargs.toArray w (kE G S w r S) /\ Low S S:=by
 let Pp:Nat -> Nat -> Prop:=fun b o=>G.P b o \/ ∃id ob x,S.heap id=some ob /\ G.ι id=some x /\ 0 < x.2.2 /\ x.1=b
 let Gp:Gh:={G with P:=Pp}
 have hPlt:∀b o,Pp b o -> b < w.heap.size:=by
  rintro b o (h|⟨id,ob,x,e,hx,h0,rfl⟩)
  ·exact hS.lt b o h
  ·obtain ⟨y,hy,ho⟩:=hS.obj id ob e;rw [hx]at hy;cases hy;exact ho.lt h0
 have hleP:∀b o,G.P b o -> Pp b o:=fun b o h=>.inl h;have hle:Le G w Gp w:=⟨fun _ _ h=>h,hleP,rfl,fun _ _ _ _ h=>h⟩;have hSc:Sim Gp {S with ro:=S.n} w:=ztF hS hPlt hleP;have hrp:zp Gp w args' vargs:=zlx (zeM hS hle (fun id o x off _ h1 h2 h3=>.inr ⟨id,o,x,h1,h2,h3,rfl⟩) 2) hr hargs;have hgp:qA A Gp w:=fun g v e m k=>(hg g v e m (by rw [<- hle.K];exact k)).le hle;obtain ⟨hc,hlow1⟩:=zfp (G:=Gp) hR hK hf hok hSc hgp hrp he;refine ⟨hc.mono ?_,Low.refl _⟩;rintro e w' ⟨v,G1,rfl,hrep,hS1,hx1,hdw1⟩;have hno:∀b,¬Wr Gp {S with ro:=S.n} b:=fun b=>zm5 (G:=G) (S:=S) hS;have hfresh:∀b,DW Gp {S with ro:=S.n} w b -> w.heap.size <=b:=fun b h=>h.elim id fun h=>absurd h (hno b);have hold:∀b,b < w.heap.size -> w'.heap[b]?=w.heap[b]?:=fun b hb=>hx1.keep b hb fun h=>by have:=hfresh b h;omega
 have hxt:Ext (DW G S w) G w G w':=by
  refine {ι:=fun _ _ h=>h,P:=fun b o h=>h,K:=rfl,cell:=?_,size:=hx1.size,keep:=fun b hb _=>hold b hb,stay:=fun b o hp=>hold b (hS.lt b o hp),new:=fun b o h=>.inl h,io:=hx1.io};intro b o u hp' hc';rw [zaq (hold b (hS.lt b o hp'))];exact hc'
 have hS2:Sim G S w':=by
  refine hS.keep hxt.toLe (fun id _ hn=>(hS.fresh id hn).2) ?_ (fun _ _ _ _ _ _ _ _ h=>h) ?_
  ·intro id o x e hx h0;obtain ⟨y,hy,hob⟩:=hS.obj id o e;rw [hx]at hy;cases hy;exact hold _ (hob.lt h0)
  ·intro b o h;exact Nat.lt_of_lt_of_le (hS.lt b o h) hx1.size
 exact ⟨v,G,rfl,hrep.scalar hsc,hS2,hxt,fun b h=>.inr h⟩
theorem znY {R:ACode -> ASt -> Option (zH×ASt)} (hA:Ok P A K) (hR:qk P A K R) (hK:G.K=K) {key f:Nat} (hk:K key=some f) {S:AS} (hS:Sim G S w) (hg:qA A G w)
 {args:List AV} {vargs:List Value} (hr:zp G w args vargs) {r:AV} {S':AS} (he:yn A R key args S=some (r,S')):
 vY P f=true /\ Calls P f vargs.toArray w (kE G S w r S') /\ Low S S':=by
 unfold yn at he;split at he
 ·cases he
 ·split at he
  ·rename_i g hx;obtain ⟨he',hc⟩:=hA.ext key f g hk hx;exact ⟨he',hc _ _ _ _ _ _ _ hK he hS hr hg⟩
  ·rename_i hx;simp only [Option.bind_eq_some_iff]at he;obtain ⟨af,haf,he⟩:=he;obtain ⟨hen,fn,hf,hok⟩:=hA.fn key f af hk hx haf;refine ⟨hen,?_⟩;split at he
   ·exact zfp hR hK hf hok hS hg hr he
   ·split at he
    ·rename_i hids;simp only [Option.bind_eq_some_iff]at he;obtain ⟨args',hargs,⟨r1,S1⟩,hent,v,hfz,he⟩:=he;split at he
     ·rename_i hp;cases he;refine zHJ hR hK hf hok hS hg hr (ids:=qs args) ?_ hargs ?_ hent hfz hp
      ·intro id hid;rw [List.all_eq_true]at hids;simpa using hids id (by simpa using hid)
      ·intro id hid;simpa using hid
     ·cases he
    ·cases he
   ·simp only [Option.bind_eq_some_iff]at he;obtain ⟨⟨r1,S1⟩,hent,v,hfz,he⟩:=he;split at he
    ·rename_i hp;cases he;exact zxd hR hK hf hok hS hg hr hent hfz hp
    ·cases he
   ·simp only [Option.bind_eq_some_iff]at he;obtain ⟨args',hargs,⟨r1,S1⟩,hent,he⟩:=he;split at he
    ·rename_i hp;cases he;exact zzm hR hK hf hok hS hg hr hargs hent hp
    ·cases he
   ·simp only [Option.bind_eq_some_iff]at he;obtain ⟨⟨r1,S1⟩,hent,he⟩:=he;split at he
    ·cases he;exact zfp hR hK hf hok hS hg hr hent
    ·cases he
   ·split at he
    ·rename_i hpu;simp only [Option.bind_eq_some_iff]at he;obtain ⟨⟨r1,S1⟩,hent,v,hfz,he⟩:=he;split at he
     ·rename_i hp;cases he;exact zCQ hR hK hf hok hS hg hA.gpure hr hpu hent hfz hp
     ·cases he
    ·cases he
end
section
variable {A:zx} {D:Nat -> Prop} {G:Gh} {ρ:Nat -> Option Nat} {σ:ASt} {a:Act} {w:World} {P:Program} {K:Nat -> Option Nat}
theorem zG0 {f:Nat} (he:vY P f=true) {args:Array Value} {w:World}:(callFunc f args).run P w=.ok (.enter f args) w:=by
 unfold vY at he;split at he
 ·rename_i fn hf;simp only [Bool.and_eq_true,Bool.not_eq_true',Option.isSome_iff_exists]at he;obtain ⟨h1,c,h2⟩:=he;unfold callFunc;simp only [Sem.run_bind,Go.run_program,hf,h1,h2,Result.andThen_ok,Option.isNone_some];rfl
 ·cases he
theorem zuW {ev:Operand -> Value} {o:Oper} {c:Call} {x:Operand} {f:Nat} {first cap:Array Value} (ho:o.op=.call c) (hc:c.callee=.value x) (hx:ev x=.func (.func f) first cap) (he:vY P f=true):
 (execOp ev o).run P w=.ok (.enter f (first++c.args.map ev++cap)) w:=by
 rw [zpj ev o ho];unfold resolve;simp only [hc,hx,Deferred.ofValue,Sem.run_bind,Sem.run_pure,Result.andThen_ok,invoke];exact zG0 he
theorem zlM {σ:ASt} {S':AS} {ru:Option (Nat×List AV)}:(({σ with S:=S'}:ASt).regs ru).S=S':=by
 unfold ASt.regs;split<;>rfl
theorem zEb (hF:Fr A D G ρ σ a w) {R:ACode -> ASt -> Option (zH×ASt)} (hA:Ok P A K) (hR:qk P A K R) (hK:G.K=K) {key f:Nat} (hk:K key=some f) {args:List AV} {vargs:List Value} (hr:zp G w args vargs)
 {r:AV} {S':AS} (he:yn A R key args σ.S=some (r,S')):vY P f=true /\ Low σ.S S' /\ Calls P f vargs.toArray w (fun e w'=>∃v G',e=.returned v /\ Fr A D G' ρ {σ with S:=S'} a w' /\ Ext D G w G' w' /\ Rep G' w' r v):=by
 obtain ⟨h1,h2,h3⟩:=znY hA hR hK hk hF.sim hF.glob hr he;refine ⟨h1,h3,h2.mono ?_⟩;rintro e w' ⟨v,G',rfl,hrep,hs,hx,hw⟩;obtain ⟨hF',hx'⟩:=hF.called hrep hs hx hw h3;exact ⟨v,G',rfl,hF',hx',hrep⟩
theorem zsj {A:zx} {R:ACode -> ASt -> Option (zH×ASt)} {key:Nat} {args:List AV} {S:AS} {r:AV×AS} (h:yn A R key args S=some r):args.any AV.isReg=false:=by
 unfold yn at h;split at h
 ·cases h
 ·rename_i h';simpa using h'
theorem zD4 (hF:Fr A D G ρ σ a w) {R:ACode -> ASt -> Option (zH×ASt)} (hA:Ok P A K) (hR:qk P A K R) (hK:G.K=K) {o:Oper} {op:AOp} {xs:List zl} {dst:Option Nat} (hd:o.dst=dst) (hok:yH P K o.op op xs=true)
 {vs:List AV} (hev:evs A σ.tm xs=some vs) {σ':ASt}
 (hs:jh A R op dst vs σ=some σ'):
 Low σ.S σ'.S /\ ∀(N:Act -> World -> Prop) (Q:Exit -> Act -> World -> Prop),(∀G' ρ' a' w',Fr A D G' ρ' σ' a' w' -> Ext D G w G' w' -> N a' w') -> o.wp P a w N Q:=by
 subst hK;have plain:(za op dst σ.rg σ.S vs).map (fun r=>({σ with S:=r.2.2}.regs r.2.1).put dst r.1)=some σ' -> Low σ.S σ'.S /\ ∀(N:Act -> World -> Prop) (Q:Exit -> Act -> World -> Prop),(∀G' ρ' a' w',Fr A D G' ρ' σ' a' w' -> Ext D G w G' w' -> N a' w') -> o.wp P a w N Q:=by
  intro h;simp only [Option.map_eq_some_iff]at h;obtain ⟨⟨v,ru,S'⟩,h,rfl⟩:=h;refine ⟨?_,?_⟩
  ·have:=zoT (hF.sim.ro) h;cases dst with
   |none=>simp only [ASt.put,zlM];exact this
   |some d=>simp only [ASt.put,zlM];exact this
  ·intro N Q hN;rw [<- hd]at h;obtain ⟨x,w',G',ρ',hrun,hF',hx',hT⟩:=zFe hF (o:=o) hok hev h;unfold Oper.wp;have:=hN G' ρ' (a.put o.dst x) w' (by rw [<- hd];exact hF'.put o.dst hT) hx';rcases hrun with hrun|⟨hrun,rfl⟩
   ·rw [hrun];exact this
   ·rw [hrun];exact this
 have call:∀{c:Call} {x:Operand} {f:Nat} {first cap:Array Value} {key:Nat} {args:List AV} {vargs:List Value},o.op=.call c -> c.callee=.value x -> a.eval x=.func (.func f) first cap -> G.K key=some f ->
  zp G w args vargs -> vargs.toArray=first++c.args.map a.eval++cap ->
  (yn A R key args σ.S).map (fun r=>({σ with S:=r.2}:ASt).put dst r.1)=some σ' -> Low σ.S σ'.S /\ ∀(N:Act -> World -> Prop) (Q:Exit -> Act -> World -> Prop),(∀G' ρ' a' w',Fr A D G' ρ' σ' a' w' -> Ext D G w G' w' -> N a' w') -> o.wp P a w N Q:=by
  intro c x f first cap key args vargs ho hc hx hk hr hva h
  simp only [Option.map_eq_some_iff]at h;obtain ⟨⟨r,S'⟩,h,rfl⟩:=h;obtain ⟨hen,hlow,hcall⟩:=zEb hF hA hR rfl hk hr h;refine ⟨?_,?_⟩
  ·cases dst<;>exact hlow
  ·intro N Q hN;unfold Oper.wp;rw [zuW ho hc hx hen,Oper.upon_enter,<- hva];refine hcall.mono ?_;rintro e w' ⟨v,G',rfl,hF',hx',hrep⟩;exact hN G' ρ _ w' (by rw [<- hd];exact hF'.put o.dst hrep.trep) hx'
 have hargs:=fun {xs:List zl} {ys:List Operand} (h:zR G.K xs ys=true) {vs:List AV} (h':evs A σ.tm xs=some vs)=>yu hF h h';have harr:∀xs:Array Operand,(xs.toList.map a.eval).toArray=xs.map a.eval:=fun xs=>by rw [<- List.map_toArray,Array.toArray_toList]
 cases op with
 |call key=>
  simp only [jh]at hs;simp only [yH]at hok;split at hok
  ·rename_i f xs' ts' ho;simp only [Bool.and_eq_true,beq_iff_eq]at hok;obtain ⟨⟨hk,hen⟩,hok⟩:=hok;have hT:=hargs hok hev;have hs':=hs;simp only [Option.map_eq_some_iff]at hs';obtain ⟨r,hr,_⟩:=hs';have hrep:=hT.rep (zsj hr);exact call ho rfl (x:=.func f) (first:=#[]) (cap:=#[]) rfl hk hrep (by rw [harr];simp) hs
  ·cases hok
 |callv=>
  simp only [jh]at hs;simp only [yH]at hok;split at hok
  ·rename_i x xs' ts' ho;have hT:=hargs hok hev;split at hs
   ·rename_i key first cap rest
    have hs':=hs;simp only [Option.map_eq_some_iff]at hs';obtain ⟨r,hr,_⟩:=hs';have hany:=zsj hr;rw [List.map_cons]at hT;generalize hq:a.eval x=q at hT;cases hT with
    |cons hf ht=>
     have hf:Rep G w (.fn key first cap) q:=hf;cases hf with
     |fn hk ha hb=>
      rename_i f va vb;have hrest:rest.any AV.isReg=false:=by
       simp only [List.any_append,Bool.or_eq_false_iff]at hany;exact hany.1.2
      refine call ho rfl hq hk ((ha.append (ht.rep hrest)).append hb) ?_ hs;simp only [<- List.append_toArray,harr,Array.append_assoc]
   ·cases hs
  ·cases hok
 |_=>exact plain hs
end
section
variable {A:zx} {D:Nat -> Prop} {G:Gh} {ρ:Nat -> Option Nat} {σ:ASt} {a:Act} {w:World} {P:Program} {K:Nat -> Option Nat}
theorem zpL {tm:List AV} {t:Nat} {v:AV} (h:tm.getD t .junk=v) (hv:v≠.junk):tm[t]?=some v:=by
 rw [List.getD_eq_getElem?_getD]at h;cases ht:tm[t]? with
 |none=>rw [ht]at h;exact absurd h.symm hv
 |some u=>rw [ht]at h;simp at h;rw [h]
theorem zqp (hF:Fr A D G ρ σ a w) {t:Nat} {v:AV} (h:σ.tm[t]?=some v):∃x,a.tmps[t]?=some x /\ yN G ρ σ.rg w v x:=by
 have hr:=hF.tmp t v h;have hlt:t < σ.tm.length:=by
  by_cases hlt:t < σ.tm.length
  ·exact hlt
  ·rw [List.getElem?_eq_none (by omega)]at h;cases h
 have hlt':t < a.tmps.size:=by rw [hF.size];exact hlt
 refine ⟨a.tmps[t],by simp [hlt'],?_⟩;rw [Array.getD_eq_getD_getElem?,Array.getElem?_eq_getElem hlt']at hr;exact hr
theorem zui (hF:Fr A D G ρ σ a w) {ops:Array Oper} {o:Oper} {i:zn} (hok:we P K ops o i=true) {c:Bool} (hg:vl σ.tm i.guard=some c):Region.wanted o (yielded ops a.tmps)=c:=by
 simp only [we,Bool.and_eq_true]at hok;obtain ⟨_,hok⟩:=hok;unfold Region.wanted;split at hok
 ·rename_i h1 h2;rw [h2]at hg;rw [h1];simp only [vl]at hg;cases hg;rfl
 ·rename_i j b t b' h1 h2;rw [h2]at hg;rw [h1];simp only [Bool.and_eq_true,beq_iff_eq]at hok;obtain ⟨rfl,hdst⟩:=hok;simp only [vl]at hg;simp only [yielded,hdst,Option.bind_some];split at hg
  ·rename_i d hq;obtain ⟨x,hx,hr⟩:=zqp hF (zpL hq (by simp));have hr:Rep G w (.sc (.bool d)) x:=hr;cases hr;cases hg;rw [hx];cases d<;>cases b<;>rfl
  ·rename_i vs hq;obtain ⟨x,hx,hr⟩:=zqp hF (zpL hq (by simp));have hr:Rep G w (.tup vs) x:=hr;cases hr;cases hg;rw [hx];simp
  ·cases hg
 ·cases hok
theorem zkQ (hF:Fr A D G ρ σ a w) {R:ACode -> ASt -> Option (zH×ASt)} (hA:Ok P A K) (hR:qk P A K R) (hK:G.K=K) {ops:Array Oper} {o:Oper} {i:zn} (hok:we P K ops o i=true) {σ':ASt} (hs:step A R i σ=some σ'):
 Low σ.S σ'.S /\ ∀(N:Act -> World -> Prop) (Q:Exit -> Act -> World -> Prop),(∀G' ρ' a' w',Fr A D G' ρ' σ' a' w' -> Ext D G w G' w' -> N a' w') ->
  (if Region.wanted o (yielded ops a.tmps) then o.wp P a w N Q \/ (o.asks P a w /\ LetsOut Q) else N (a.put o.dst undef) w):=by
 unfold step at hs;have hok':=hok;simp only [we,Bool.and_eq_true,beq_iff_eq]at hok';obtain ⟨⟨hd,hop⟩,_⟩:=hok';split at hs
 ·cases hs
 ·rename_i hg;have hw:=zui hF hok hg;cases hs;refine ⟨?_,?_⟩
  ·cases i.dst<;>exact Low.refl _
  ·intro N Q hN;rw [hw,hd];exact hN G ρ _ w (hF.put i.dst (Rep.trep (Rep.tup (.nil)))) (Ext.refl D G w)
 ·rename_i hg;have hw:=zui hF hok hg;simp only [Option.bind_eq_some_iff]at hs;obtain ⟨vs,hev,hs⟩:=hs;obtain ⟨h1,h2⟩:=zD4 hF hA hR hK hd hop hev hs;refine ⟨h1,fun N Q hN=>?_⟩;rw [hw];exact .inl (h2 N Q hN)
theorem zeg {ops:Array Oper}:∀{os:List Oper} {is:List zn},wi P K ops os is=true -> os.length=is.length /\ ∀(j:Nat) (o:Oper),os[j]?=some o -> ∃i,is[j]?=some i /\ we P K ops o i=true
 |[],[],_=>⟨rfl,fun j o h=>by simp at h⟩
 |[],_::_,h=>by simp [wi]at h
 |_::_,[],h=>by simp [wi]at h
 |o::os,i::is,h=>by
  simp only [wi,Bool.and_eq_true]at h;obtain ⟨h1,h2⟩:=zeg h.2;refine ⟨by simp [h1],?_⟩;intro j o' hj;cases j with
  |zero=>simp at hj;subst hj;exact ⟨i,by simp,h.1⟩
  |succ j=>simp at hj;obtain ⟨i',h3,h4⟩:=h2 j o' hj;exact ⟨i',by simp [h3],h4⟩
def zfG (R:ACode -> ASt -> Option (zH×ASt)):Prop:=∀c σ e σ',R c σ=some (e,σ') -> σ.S.ro <=σ.S.n -> Low σ.S σ'.S
theorem Low.le {S S':AS} (h:Low S S') (hn:S.ro <=S.n):S'.ro <=S'.n:=by have:=h.ro;have:=h.n;omega
theorem zoE {R:ACode -> ASt -> Option (zH×ASt)} (hR:zfG R) {f:zd} {args:List AV} {S:AS} {r:AV×AS} (h:enter R f args S=some r) (hn:S.ro <=S.n):Low S r.2:=by
 have key:∃e σ',R f.body (f.start args S)=some (e,σ') /\ f.done σ'=some r:=by
  unfold enter at h;split at h
  ·rename_i σ' h';exact ⟨_,σ',h',h⟩
  ·rename_i σ' h';exact ⟨_,σ',h',h⟩
  ·cases h
 obtain ⟨e,σ',hrun,hd⟩:=key;have:=hR _ _ _ _ hrun hn;simp only [zd.done,Option.map_eq_some_iff]at hd;obtain ⟨_,_,rfl⟩:=hd;exact this
theorem zrb {R:ACode -> ASt -> Option (zH×ASt)} (hA:Ok P A K) (hR:zfG R) {key:Nat} {args:List AV} {S:AS} {r:AV×AS} (h:yn A R key args S=some r) (hn:S.ro <=S.n):Low S r.2:=by
 unfold yn at h;split at h
 ·cases h
 ·split at h
  ·rename_i g hx;exact hA.low key g hx args S r.1 r.2 h hn
  ·simp only [Option.bind_eq_some_iff]at h;obtain ⟨af,haf,h⟩:=h;split at h
   ·exact zoE hR h hn
   ·split at h
    ·rename_i hids;simp only [Option.bind_eq_some_iff]at h;obtain ⟨_,_,_,_,_,_,h⟩:=h;split at h
     ·cases h;refine ⟨rfl,Nat.le_refl _,fun id e=>?_⟩;simp only [jp];split
      ·rename_i hc;rw [List.all_eq_true]at hids;have:=hids id (by simpa using hc);simp at this;omega
      ·rfl
     ·cases h
    ·cases h
   ·simp only [Option.bind_eq_some_iff]at h;obtain ⟨_,_,_,_,h⟩:=h;split at h
    ·cases h;exact Low.refl _
    ·cases h
   ·simp only [Option.bind_eq_some_iff]at h;obtain ⟨_,_,_,_,h⟩:=h;split at h
    ·cases h;exact Low.refl _
    ·cases h
   ·simp only [Option.bind_eq_some_iff]at h;obtain ⟨r1,h1,h⟩:=h;split at h
    ·cases h;exact zoE hR h1 hn
    ·cases h
   ·split at h
    ·simp only [Option.bind_eq_some_iff]at h;obtain ⟨_,_,_,_,h⟩:=h;split at h
     ·cases h;exact Low.refl _
     ·cases h
    ·cases h
theorem zc5 {σ:ASt} {dst:Option Nat} {v:AV}:(σ.put dst v).S=σ.S:=by cases dst<;>rfl
theorem zIi {R:ACode -> ASt -> Option (zH×ASt)} (hA:Ok P A K) (hR:zfG R) {i:zn} {σ σ':ASt} (h:step A R i σ=some σ') (hn:σ.S.ro <=σ.S.n):Low σ.S σ'.S:=by
 unfold step at h;split at h
 ·cases h
 ·cases h;rw [zc5];exact Low.refl _
 ·simp only [Option.bind_eq_some_iff]at h;obtain ⟨vs,_,h⟩:=h;unfold jh at h;split at h
  ·simp only [Option.map_eq_some_iff]at h;obtain ⟨r,hr,rfl⟩:=h;rw [zc5];exact zrb hA hR hr hn
  ·split at h
   ·simp only [Option.map_eq_some_iff]at h;obtain ⟨r,hr,rfl⟩:=h;rw [zc5];exact zrb hA hR hr hn
   ·cases h
  ·simp only [Option.map_eq_some_iff]at h;obtain ⟨⟨v,ru,S'⟩,hr,rfl⟩:=h;rw [zc5,zlM];exact zoT hn hr
theorem zmq {R:ACode -> ASt -> Option (zH×ASt)} (hA:Ok P A K) (hR:zfG R):∀{l:List zn} {σ σ':ASt},y7 A R l σ=some σ' -> σ.S.ro <=σ.S.n -> Low σ.S σ'.S
 |[],σ,σ',h,_=>by simp only [y7]at h;cases h;exact Low.refl _
 |i::l,σ,σ',h,hn=>by
  simp only [y7,Option.bind_eq_some_iff]at h;obtain ⟨σ1,h1,h2⟩:=h;have l1:=zIi hA hR h1 hn;exact l1.trans (zmq hA hR h2 (l1.le hn))
theorem zrs (hA:Ok P A K):∀n,zfG (zt A n)
 |0=>fun c σ e σ' h _=>by simp [zt]at h
 |n+1=>fun c σ e σ' h hn=>by
  have ih:=zrs hA n;cases c with
  |skip=>simp only [zt]at h;cases h;exact Low.refl _
  |ops l=>
   simp only [zt,Option.map_eq_some_iff]at h;obtain ⟨σ1,h1,h2⟩:=h;cases h2;exact zmq hA ih h1 hn
  |opsC l c=>
   simp only [zt,Option.bind_eq_some_iff]at h;obtain ⟨σ1,h1,h2⟩:=h;split at h2
   ·cases h2;exact zmq hA ih h1 hn
   ·cases h2
  |seq a b=>
   simp only [zt]at h;split at h
   ·rename_i σ1 h1;have l1:=ih _ _ _ _ h1 hn;exact l1.trans (ih _ _ _ _ h (l1.le hn))
   ·exact ih _ _ _ _ h hn
  |cond c a b=>
   simp only [zt]at h;split at h
   ·exact ih _ _ _ _ h hn
   ·cases h
  |block id c=>
   simp only [zt]at h;split at h
   ·rename_i j σ1 h1;cases h;exact ih _ _ _ _ h1 hn
   ·exact ih _ _ _ _ h hn
  |loop tm rg c=>
   simp only [zt,Option.bind_eq_some_iff]at h;obtain ⟨σ0,h0,h⟩:=h;have e0:σ0.S=σ.S:=by
    unfold wg at h0;dsimp only at h0;split at h0
    ·cases h0
    ·cases h0;rfl
   rw [<- e0]at hn ⊢;split at h
   ·rename_i σ1 h1;have l1:=ih _ _ _ _ h1 hn;exact l1.trans (ih _ _ _ _ h (l1.le hn))
   ·exact ih _ _ _ _ h hn
  |exit i=>simp only [zt]at h;cases h;exact Low.refl _
  |ret=>simp only [zt]at h;cases h;exact Low.refl _
  |label i=>simp only [zt]at h;cases h;exact Low.refl _
  |goto i=>simp only [zt]at h;cases h;exact Low.refl _
  |scope b c=>
   simp only [zt]at h;split at h
   ·rename_i l σ1 h1;have l1:=ih _ _ _ _ h1 hn;split at h
    ·exact l1.trans (ih _ _ _ _ h (l1.le hn))
    ·cases h;exact l1
   ·exact ih _ _ _ _ h hn
theorem zmN {R:ACode -> ASt -> Option (zH×ASt)} (hA:Ok P A K) (hR:qk P A K R) {ops:Array Oper} {Q:Exit -> Act -> World -> Prop} {rest:List Nat}:∀(n k:Nat) (is:List zn) (σ σ':ASt) (G:Gh) (ρ:Nat -> Option Nat) (a:Act) (w:World),
 G.K=K -> Fr A D G ρ σ a w -> (∀j,j < n -> ∃o i,ops[k+j]?=some o /\ is[j]?=some i /\ we P K ops o i=true) -> is.length=n -> y7 A R is σ=some σ' ->
 (∀G' ρ' a' w',Fr A D G' ρ' σ' a' w' -> Ext D G w G' w' -> wpOps P ops Q rest a' w') -> wpOps P ops Q (List.range' k n++rest) a w
 |0,k,is,σ,σ',G,ρ,a,w,hK,hF,hj,hl,hs,hQ=>by
  cases is with
  |nil=>simp only [y7]at hs;cases hs;exact hQ G ρ a w hF (Ext.refl D G w)
  |cons _ _=>simp at hl
 |n+1,k,is,σ,σ',G,ρ,a,w,hK,hF,hj,hl,hs,hQ=>by
  cases is with
  |nil=>simp at hl
  |cons i is=>
   simp only [y7,Option.bind_eq_some_iff]at hs;obtain ⟨σ1,hs1,hs2⟩:=hs;obtain ⟨o,i',ho,hi,hok⟩:=hj 0 (by omega);simp at hi;subst hi;rw [List.range'_succ,List.cons_append,wpOps_cons];unfold wpOp;have ho':ops[k]?=some o:=ho;rw [ho'];refine (zkQ hF hA hR hK hok hs1).2 _ Q fun G1 ρ1 a1 w1 hF1 hx1=>?_;exact zmN hA hR (Q:=Q) n (k+1) is σ1 σ' G1 ρ1 a1 w1 (by rw [hx1.K,hK]) hF1 (fun j hj'=>by
    obtain ⟨o,i,h1,h2,h3⟩:=hj (j+1) (by omega);exact ⟨o,i,by rw [<- h1];congr 1;omega,by simpa using h2,h3⟩) (by simpa using hl) hs2
    (fun G' ρ' a' w' hF' hx'=>hQ G' ρ' a' w' hF' (hx1.trans hx'))
theorem zDN {R:ACode -> ASt -> Option (zH×ASt)} (hA:Ok P A K) (hR:qk P A K R) {ops:Array Oper} {Q:Exit -> Act -> World -> Prop} (n k:Nat) (is:List zn) (σ σ':ASt) (G:Gh) (ρ:Nat -> Option Nat) (a:Act) (w:World)
 (hK:G.K=K) (hF:Fr A D G ρ σ a w) (hj:∀j,j < n -> ∃o i,ops[k+j]?=some o /\ is[j]?=some i /\ we P K ops o i=true) (hl:is.length=n) (hs:y7 A R is σ=some σ')
 (hQ:∀G' ρ' a' w',Fr A D G' ρ' σ' a' w' -> Ext D G w G' w' -> Q .normal a' w'):wpOps P ops Q (List.range' k n) a w:=by
 have:=zmN hA hR (Q:=Q) (rest:=[]) n k is σ σ' G ρ a w hK hF hj hl hs (fun G' ρ' a' w' h1 h2=>hQ G' ρ' a' w' h1 h2)
 rwa [List.append_nil]at this
end
def App (d:Option Nat) (v:AV) (ru:Option (Nat×List AV)) (Su:Option AS) (τ:ASt):ASt:=(({τ with S:=Su.getD τ.S}:ASt).regs ru).put d v
structure Agr (f:vf) (σ τ:ASt):Prop where
 tm:∀t∈f.reads,τ.tm.getD t .junk=σ.tm.getD t .junk
 rg:∀r,f.rr=some r -> τ.rg r=σ.rg r
 S:f.hr=true -> τ.S=σ.S
section
variable {A:zx} {R:ACode -> ASt -> Option (zH×ASt)} {P:Program} {K:Nat -> Option Nat}
theorem zq5 {m:Nat -> jM} {ext:Nat -> Bool} {i:zn}:(zX m ext i).reads=zd3 i:=by
 unfold zX;split<;>try rfl
 split<;>try rfl
 split<;>rfl
theorem zby {m:Nat -> jM} {ext:Nat -> Bool} {i:zn}:(zX m ext i).writes=i.dst.toList:=by
 unfold zX;split<;>try rfl
 split<;>try rfl
 split<;>rfl
theorem zwA {m:Nat -> jM} {ext:Nat -> Bool} {i:zn}:(zX m ext i).hw=true -> (zX m ext i).hr=true:=by
 unfold zX;split<;>try simp
 split<;>try simp
 split<;>simp
theorem zeG {tm tm':List AV}:∀{xs:List zl},(∀t∈zfs xs,tm'.getD t .junk=tm.getD t .junk) -> evs A tm' xs=evs A tm xs
 |[],_=>rfl
 | .t n::l,h=>by
   simp only [zfs,List.mem_cons]at h;simp only [evs,zl.ev,h n (.inl rfl),zeG fun t ht=>h t (.inr ht)]
 | .k v::l,h=>by simp only [evs,zl.ev,zeG (xs:=l) h]
 | .g v::l,h=>by simp only [evs,zl.ev,zeG (xs:=l) h]
theorem zrn {tm tm':List AV} {g:Option (Nat×Bool)} (h:∀t∈(match g with|some (t,_)=>[t]|none=>[]),tm'.getD t .junk=tm.getD t .junk):vl tm' g=vl tm g:=by
 cases g with
 |none=>rfl
 |some p=>obtain ⟨t,b⟩:=p;simp only [vl,h t (by simp)]
theorem zFW {m:Nat -> jM} {ext:Nat -> Bool} {op:AOp} {dst:Option Nat} {args:List zl} {guard:Option (Nat×Bool)} {rg:Nat -> Option (List AV)} {S:AS} {vs:List AV} {v:AV} {ru:Option (Nat×List AV)} {S':AS}
 (hc:∀k,op≠.call k) (hp:∀p,op≠.pur p) (h:za op dst rg S vs=some (v,ru,S')):
 (∀r cs,ru=some (r,cs) -> (zX m ext ⟨dst,op,args,guard⟩).rw=some r) /\ ((zX m ext ⟨dst,op,args,guard⟩).hw=false -> S'=S) /\
 ∀rg2 S2,(∀r,(zX m ext ⟨dst,op,args,guard⟩).rr=some r -> rg2 r=rg r) -> ((zX m ext ⟨dst,op,args,guard⟩).hr=true -> S2=S) ->
  za op dst rg2 S2 vs=some (v,ru,if (zX m ext ⟨dst,op,args,guard⟩).hw then S' else S2):=by
 have h0:=h;unfold za at h;split at h
 case h_1=>exact absurd rfl (hp _)
 case h_2=>
  split at h
  ·rename_i hr;simp only [Option.bind_eq_some_iff,Option.map_eq_some_iff,Prod.mk.injEq]at h;obtain ⟨cs,h1,v',h2,rfl,rfl,rfl⟩:=h;refine ⟨by simp,fun _=>rfl,fun rg2 S2 h3 _=>?_⟩;have:=h3 _ rfl;simp only [za,hr,if_true,this,h1,Option.bind_some,h2,Option.map_some];rfl
  ·cases h
 case h_3=>
  simp only [Option.map_eq_some_iff,Prod.mk.injEq]at h;obtain ⟨v',h2,rfl,rfl,rfl⟩:=h;refine ⟨by simp,fun _=>rfl,fun rg2 S2 _ h3=>?_⟩;obtain rfl:=h3 rfl;exact h0
 case h_4=>
  split at h
  ·simp only [Option.bind_eq_some_iff,Option.map_eq_some_iff,Prod.mk.injEq]at h;obtain ⟨cs,h1,v',h2,rfl,rfl,rfl⟩:=h;refine ⟨by simp,fun _=>rfl,fun rg2 S2 _ h3=>?_⟩;obtain rfl:=h3 rfl;exact h0
  ·cases h
 case h_5=>
  split at h
  ·rename_i hr;simp only [Option.bind_eq_some_iff]at h;obtain ⟨cs,h1,h⟩:=h;split at h
   ·rename_i hle;cases h;refine ⟨by rintro r cs ⟨⟩;rfl,fun _=>rfl,fun rg2 S2 h3 _=>?_⟩;have:=h3 _ rfl;simp only [za];rw [if_pos hr,this,h1];simp only [Option.bind_some];rw [if_pos hle];rfl
   ·cases h
  ·cases h
 case h_7=>
  simp only [Option.bind_eq_some_iff]at h;obtain ⟨t,rfl,h⟩:=h;split at h
  ·rename_i hn;cases h;refine ⟨by rintro r cs ⟨⟩;rfl,fun _=>rfl,fun rg2 S2 h3 _=>?_⟩;have:=h3 t rfl;simp only [za,Option.bind_some,this,hn,if_true];rfl
  ·cases h
 case h_9=>
  split at h
  ·rename_i hcell;simp only [Option.bind_eq_some_iff]at h;obtain ⟨t,rfl,h⟩:=h;split at h
   ·rename_i hn;cases h;refine ⟨by rintro r cs ⟨⟩;rfl,fun _=>rfl,fun rg2 S2 h3 _=>?_⟩;have:=h3 t rfl;simp only [za,Option.bind_some,this,hn,hcell,if_true];rfl
   ·cases h
  ·cases h
 case h_23=>cases h
 case h_22=>
  have hru:ru=none:=by
   split at h
   ·simp only [Option.map_eq_some_iff,Prod.mk.injEq]at h;obtain ⟨_,_,_,rfl,_⟩:=h;rfl
   ·cases h
  subst hru;exact ⟨by simp,(fun e=>by cases e),fun rg2 S2 _ h3=>by obtain rfl:=h3 rfl;exact h0⟩
 case h_6=>
  have hru:ru=none:=by
   split at h
   ·split at h
    ·simp only [Option.bind_eq_some_iff]at h;obtain ⟨_,_,h⟩:=h;split at h
     ·cases h;rfl
     ·cases h
    ·cases h
   ·cases h
  subst hru;exact ⟨by simp,(fun e=>by cases e),fun rg2 S2 _ h3=>by obtain rfl:=h3 rfl;exact h0⟩
 case h_8=>
  have hru:ru=none:=by
   split at h
   ·cases h;rfl
   ·cases h
  subst hru;exact ⟨by simp,(fun e=>by cases e),fun rg2 S2 _ h3=>by obtain rfl:=h3 rfl;exact h0⟩
 case h_10=>
  have hru:ru=none:=by
   split at h
   ·cases h;rfl
   ·cases h
  subst hru;exact ⟨by simp,(fun e=>by cases e),fun rg2 S2 _ h3=>by obtain rfl:=h3 rfl;exact h0⟩
 case h_11=>
  have hru:ru=none /\ S'=S:=by
   split at h
   ·cases h
   ·simp only [Option.bind_eq_some_iff,Option.map_eq_some_iff,Prod.mk.injEq]at h;obtain ⟨_,_,_,_,_,rfl,rfl⟩:=h;exact ⟨rfl,rfl⟩
  obtain ⟨rfl,rfl⟩:=hru;exact ⟨by simp,fun _=>rfl,fun rg2 S2 _ h3=>by obtain rfl:=h3 rfl;exact h0⟩
 case h_12=>
  have hru:ru=none /\ S'=S:=by
   split at h
   ·cases h;exact ⟨rfl,rfl⟩
   ·cases h
  obtain ⟨rfl,rfl⟩:=hru;exact ⟨by simp,fun _=>rfl,fun rg2 S2 _ h3=>by obtain rfl:=h3 rfl;exact h0⟩
 case h_13=>
  cases h;exact ⟨by simp,(fun e=>by cases e),fun rg2 S2 _ h3=>by obtain rfl:=h3 rfl;exact h0⟩
 case h_14=>
  have hru:ru=none:=by
   split at h
   ·split at h
    ·simp only [Option.map_eq_some_iff,Prod.mk.injEq]at h;obtain ⟨_,_,_,rfl,_⟩:=h;rfl
    ·cases h
   ·cases h
  subst hru;exact ⟨by simp,(fun e=>by cases e),fun rg2 S2 _ h3=>by obtain rfl:=h3 rfl;exact h0⟩
 case h_21=>
  have hru:ru=none:=by
   split at h
   ·split at h
    ·simp only [Option.map_eq_some_iff,Prod.mk.injEq]at h;obtain ⟨_,_,_,rfl,_⟩:=h;rfl
    ·cases h
   ·cases h
  subst hru;exact ⟨by simp,(fun e=>by cases e),fun rg2 S2 _ h3=>by obtain rfl:=h3 rfl;exact h0⟩
 case h_15=>
  have hru:ru=none:=by
   split at h
   ·split at h
    ·cases h;rfl
    ·cases h
   ·cases h
  subst hru;exact ⟨by simp,(fun e=>by cases e),fun rg2 S2 _ h3=>by obtain rfl:=h3 rfl;exact h0⟩
 case h_16=>
  have hru:ru=none:=by
   simp only [Option.bind_eq_some_iff,Option.map_eq_some_iff,Prod.mk.injEq]at h;obtain ⟨_,_,_,_,_,rfl,_⟩:=h;rfl
  subst hru;exact ⟨by simp,(fun e=>by cases e),fun rg2 S2 _ h3=>by obtain rfl:=h3 rfl;exact h0⟩
 case h_17=>
  have hru:ru=none:=by
   split at h
   ·cases h;rfl
   ·cases h
  subst hru;exact ⟨by simp,(fun e=>by cases e),fun rg2 S2 _ h3=>by obtain rfl:=h3 rfl;exact h0⟩
 case h_18=>
  have hru:ru=none:=by
   split at h
   ·cases h;rfl
   ·cases h
  subst hru;exact ⟨by simp,(fun e=>by cases e),fun rg2 S2 _ h3=>by obtain rfl:=h3 rfl;exact h0⟩
 case h_19=>
  have hru:ru=none:=by
   simp only [Option.bind_eq_some_iff]at h;obtain ⟨_,_,h⟩:=h;split at h
   ·cases h;rfl
   ·split at h
    ·split at h
     ·cases h;rfl
     ·cases h
    ·cases h
  subst hru;exact ⟨by simp,(fun e=>by cases e),fun rg2 S2 _ h3=>by obtain rfl:=h3 rfl;exact h0⟩
 case h_20=>
  have hru:ru=none:=by
   split at h
   ·cases h;rfl
   ·split at h
    ·split at h
     ·cases h;rfl
     ·cases h
    ·cases h
  subst hru;exact ⟨by simp,(fun e=>by cases e),fun rg2 S2 _ h3=>by obtain rfl:=h3 rfl;exact h0⟩
theorem zk0 {op:AOp} {dst:Option Nat} {vs:List AV} {τ:ASt} (h1:∀k,op≠.call k) (h2:op≠.callv):jh A R op dst vs τ=(za op dst τ.rg τ.S vs).map fun r=>({τ with S:=r.2.2}.regs r.2.1).put dst r.1:=by
 cases op with
 |call k=>exact absurd rfl (h1 k)
 |callv=>exact absurd rfl h2
 |_=>rfl
theorem zf8 {i:zn} {σ σ':ASt} (h:step A R i σ=some σ'):∃v ru Su,(∀r cs,ru=some (r,cs) -> (zX A.mode (zY A) i).rw=some r) /\ (∀S,Su=some S -> (zX A.mode (zY A) i).hw=true) /\
 ∀τ,Agr (zX A.mode (zY A) i) σ τ -> step A R i τ=some (App i.dst v ru Su τ):=by
 have hreads:∀τ,Agr (zX A.mode (zY A) i) σ τ -> vl τ.tm i.guard=vl σ.tm i.guard /\ evs A τ.tm i.args=evs A σ.tm i.args:=by
  intro τ ht;have:=ht.tm;rw [zq5,zd3]at this;exact ⟨zrn fun t h=>this t (List.mem_append_right _ h),zeG fun t h=>this t (List.mem_append_left _ h)⟩
 unfold step at h;split at h
 ·cases h
 ·rename_i hg;refine ⟨.tup [],none,none,by simp,by simp,fun τ ht=>?_⟩;unfold step;rw [(hreads τ ht).1,hg];rfl
 ·rename_i hg;simp only [Option.bind_eq_some_iff]at h;obtain ⟨vs,hev,h⟩:=h
  suffices hh:∃v ru Su,(∀r cs,ru=some (r,cs) -> (zX A.mode (zY A) i).rw=some r) /\ (∀S,Su=some S -> (zX A.mode (zY A) i).hw=true) /\
   ∀τ:ASt,(∀r,(zX A.mode (zY A) i).rr=some r -> τ.rg r=σ.rg r) -> ((zX A.mode (zY A) i).hr=true -> τ.S=σ.S) -> jh A R i.op i.dst vs τ=some (App i.dst v ru Su τ) by
   obtain ⟨v,ru,Su,h1,h2,h3⟩:=hh;refine ⟨v,ru,Su,h1,h2,fun τ ht=>?_⟩;unfold step;rw [(hreads τ ht).1,hg];simp only [(hreads τ ht).2,hev,Option.bind_some];exact h3 τ ht.rg ht.S
  clear hreads hg hev;obtain ⟨dst,op,args,guard⟩:=i;have call:∀{key:Nat} {xs:List AV} {σ':ASt},(yn A R key xs σ.S).map (fun r=>({σ with S:=r.2}:ASt).put dst r.1)=some σ' ->
   ∃v Su,∀τ:ASt,τ.S=σ.S -> (yn A R key xs τ.S).map (fun r=>({τ with S:=r.2}:ASt).put dst r.1)=some (App dst v none (some Su) τ):=by
   intro key xs σ' h;simp only [Option.map_eq_some_iff]at h;obtain ⟨r,hr,_⟩:=h;refine ⟨r.1,r.2,fun τ hS=>?_⟩;rw [hS,hr];rfl
  have plain:(∀k,op≠.call k) -> (∀p,op≠.pur p) -> op≠.callv -> jh A R op dst vs σ=some σ' -> ∃v ru Su,(∀r cs,ru=some (r,cs) -> (zX A.mode (zY A) ⟨dst,op,args,guard⟩).rw=some r) /\ (∀S,Su=some S -> (zX A.mode (zY A) ⟨dst,op,args,guard⟩).hw=true) /\
   ∀τ:ASt,(∀r,(zX A.mode (zY A) ⟨dst,op,args,guard⟩).rr=some r -> τ.rg r=σ.rg r) -> ((zX A.mode (zY A) ⟨dst,op,args,guard⟩).hr=true -> τ.S=σ.S) -> jh A R op dst vs τ=some (App dst v ru Su τ):=by
   intro k1 k2 k3 h;rw [zk0 k1 k3]at h;simp only [Option.map_eq_some_iff]at h;obtain ⟨⟨v,ru,S'⟩,hop,_⟩:=h;obtain ⟨h1,h2,h3⟩:=zFW (m:=A.mode) (ext:=zY A) (args:=args) (guard:=guard) k1 k2 hop;refine ⟨v,ru,if (zX A.mode (zY A) ⟨dst,op,args,guard⟩).hw then some S' else none,h1,?_,fun τ ha hb=>?_⟩
   ·intro S e;split at e
    ·assumption
    ·cases e
   ·rw [zk0 k1 k3,h3 τ.rg τ.S ha hb];simp only [Option.map_some,App];split<;>rfl
  cases op with
  |call key=>
   simp only [jh]at h ⊢;simp only [zX];split
   ·rename_i hc;simp only [Option.map_eq_some_iff]at h;obtain ⟨r,hr,rfl⟩:=h;have hS:r.2=σ.S:=by
     unfold yn at hr;split at hr
     ·cases hr
     ·split at hr
      ·rename_i g hx;simp [zY,hx]at hc
      ·simp only [Option.bind_eq_some_iff]at hr;obtain ⟨af,haf,hr⟩:=hr;rcases hc.2 with hm|hm
       ·rw [hm]at hr;dsimp only at hr;simp only [Option.bind_eq_some_iff]at hr;obtain ⟨_,_,_,_,hr⟩:=hr;split at hr
        ·cases hr;rfl
        ·cases hr
       ·rw [hm]at hr;simp only [Option.bind_eq_some_iff]at hr;obtain ⟨_,_,_,_,hr⟩:=hr;split at hr
        ·cases hr;rfl
        ·cases hr
    refine ⟨r.1,none,none,by simp,by simp,fun τ _ ht=>?_⟩;have ht:=ht rfl;rw [ht,hr];simp only [Option.map_some,App,hS,Option.getD_none,ASt.regs,ht]
   ·split
    ·rename_i _ hc;obtain ⟨hx,hm⟩:=hc;simp only [Option.map_eq_some_iff]at h;obtain ⟨r,hr,rfl⟩:=h;have hall:∀S:AS,yn A R key vs S=some (r.1,S):=by
      intro S;unfold yn at hr ⊢;split at hr
      ·cases hr
      ·rename_i hn;rw [if_neg hn];split at hr
       ·rename_i g hg;simp [zY,hg]at hx
       ·simp only [Option.bind_eq_some_iff]at hr ⊢;obtain ⟨af,haf,hr⟩:=hr;refine ⟨af,haf,?_⟩;rw [hm]at hr;dsimp only at hr ⊢;rw [hm];dsimp only;split at hr
        ·rename_i hpu;rw [if_pos hpu];simp only [Option.bind_eq_some_iff]at hr ⊢;obtain ⟨r1,h1,v,h2,hr⟩:=hr;refine ⟨r1,h1,v,h2,?_⟩;split at hr
         ·rename_i hv;rw [if_pos hv];cases hr;rfl
         ·cases hr
        ·cases hr
     refine ⟨r.1,none,none,by simp,by simp,fun τ _ _=>?_⟩;rw [hall τ.S];rfl
    ·obtain ⟨v,Su,hc⟩:=call h;exact ⟨v,none,some Su,by simp,by simp,fun τ _ ht=>hc τ (ht rfl)⟩
  |callv=>
   simp only [jh]at h ⊢;split at h
   ·obtain ⟨v,Su,hc⟩:=call h;exact ⟨v,none,some Su,by simp,by simp [zX],fun τ _ ht=>hc τ (ht rfl)⟩
   ·cases h
  |pur p=>
   simp only [jh,za,Option.map_map,Option.map_eq_some_iff]at h;obtain ⟨v,hv,_⟩:=h;refine ⟨v,none,none,by simp,by simp,fun τ _ _=>?_⟩;simp only [jh,za,hv];rfl
  |_=>exact plain (by simp) (by simp) (by simp) h
end
end Abs
