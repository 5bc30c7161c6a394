/- Loads and stores. -/
import Derived.Test.YtdiebjbepfjjfaaGreatDoorE1
import Derived.Laws.IdiomCopy
import Derived.IntWalk
import Derived.Orders
set_option linter.unusedVariables false
set_option linter.unusedSimpArgs false
set_option linter.unusedSectionVars false
namespace Abs
open Go
section
variable{A:zA}{D:Nat->Prop}{G:Gh}{ρ:Nat->Option Nat}{σ:ASt}{a:Act}{w:World}{P:Program}{rg:Nat->Option (List AV)}
theorem zAS{w:World}{b o:Nat}{v:Value}{c:Array Value}{e:Nat}{fz:Nat×Nat}(h:w.heap[b]?=some (.cells c e fz)):
 (w.setCell ⟨b,o,none⟩ v).heap[b]?=some (.cells (c.setIfInBounds o v) e fz)/\(∀b',b'≠b->(w.setCell ⟨b,o,none⟩ v).heap[b']?=w.heap[b']?):=by
 constructor
 ·simp only[World.setCell,Array.getElem?_modify,if_pos rfl,h,xam];rfl
 ·intro b' d;simp only[World.setCell,Array.getElem?_modify];rw[if_neg (fun h=>d h.symm)]
theorem zrz{b:Nat}{e:Nat}{fz:Nat×Nat}:∀(vs:List Value) (o:Nat) (w:World) (c:Array Value),w.heap[b]?=some (.cells c e fz)->o+vs.length<=c.size->
 (w.setCells b o vs).heap[b]?=some (.cells (c.toList.take o++vs++c.toList.drop (o+vs.length)).toArray e fz)/\(∀b',b'≠b->(w.setCells b o vs).heap[b']?=w.heap[b']?)/\(w.setCells b o vs).heap.size=w.heap.size
 |[],o,w,c,h,hl=>by simp[World.setCells,h]
 |v::r,o,w,c,h,hl=>by
  obtain⟨g,i⟩:=zAS (o:=o) (v:=v) h;simp only[xaI]at hl;obtain⟨j,k,l⟩:=zrz r (o+1) (w.setCell ⟨b,o,none⟩ v) _ g (by simp;omega);refine⟨?_,fun b' f=>by rw[World.setCells,k b' f,i b' f],by rw[World.setCells,l,World.size_setCell]⟩;rw[World.setCells,j];congr 2;simp only[Array.toList_setIfInBounds,xaI];have d:o<c.toList.length:=by simp;omega
  have m:(c.toList.set o v).take (o+1)=c.toList.take o++[v]:=by
   rw[List.take_set,List.take_succ_eq_append_getElem d,List.set_append_right _ _ (by simp;omega)];simp[Nat.min_eq_left (show o<=c.size by omega)]
  rw[m,List.drop_set_of_lt (by omega),show o+1+r.length=o+(r.length+1)by omega];simp
theorem zrr{cs:List AV}{c sz:Nat}{agg:Bool}{v:AV}(h:yW cs c sz agg=some v):c+sz<=cs.length/\zaU agg ((cs.drop c).take sz)=some v:=by
 unfold yW at h;split at h
 ·exact⟨by assumption,h⟩
 ·cases h
theorem ztV{t b off sz:Nat}{agg:Bool}{us:List Value}(g:yS P t=some sz)(c:zap P t=some agg)(d:(agg||sz==1)=true)(e:us.length=sz)
 (f:∀i u,us[i]?=some u->w.cell? ⟨b,off+i,none⟩=some u):
 (Instr.loadAt t (.pointer (some ⟨b,off,none⟩))).run P w=.ok (if agg then .agg us.toArray else us.getD 0 undef) w:=by
 cases agg with
 |true=>
  simp only[Instr.loadAt,Instr.sureAddr,loadVar,xag,xah,xac,agr c,if_true,siz g];rw[<-e,run_loadCells_list (P:=P) (w:=w) (⟨b,off,none⟩:Addr) us (by intro j u h;rw[zao];exact f j u h)];rfl
 |false=>
  simp at d;subst d;cases us with
  |nil=>simp at e
  |cons u us=>
   simp only[Instr.loadAt,Instr.sureAddr,loadVar,xag,xah,xac,agr c,xau,if_false];have:=f 0 u rfl;simp only[Nat.add_zero]at this;rw[run_load,this];rfl
def qh(P:Program)(A:zA)(D:Nat->Prop)(G:Gh)(σ':ASt)(a:Act)(w:World)(e:Sem Next)(v:AV):Prop:=
 ∃x w' G' ρ',(e.run P w=.ok (.value x) w'\/(e.run P w=.ok .skip w'/\x=undef))/\Fr A D G' ρ' σ' a w'/\Ext D G w G' w'/\yP G' ρ' σ'.rg w' v x
theorem yr.gone{e:Sem Next}{v:AV}(h:yr P A D G ρ σ a w e v):qh P A D G σ a w e v:=by
 obtain⟨x,w',G',b,c,d,f⟩:=h;exact⟨x,w',G',ρ,.inl b,c,d,f⟩
theorem Fr.regCells(d:Fr A D G ρ σ a w){r:Nat}{cs:List AV}(f:σ.rg r=some cs):∃b us e,ρ r=some b/\w.heap[b]?=some (.cells us e (0,0))/\zx G w cs us.toList:=by
 obtain⟨b,c,e,g,h,i,_⟩:=d.reg r cs f;exact⟨b,c,e,g,h,i⟩
theorem zoi{b c sz:Nat}{us:Array Value}{e:Nat}{fz:Nat×Nat}(h:w.heap[b]?=some (.cells us e fz)):∀i u,((us.toList.drop c).take sz)[i]?=some u->w.cell? ⟨b,c+i,none⟩=some u:=by
 intro i u d;rw[xaq]at d;split at d
 ·rw[List.getElem?_drop]at d;simp only[World.cell?,h];simpa using d
 ·cases d
theorem zbG{x:Nat×Nat×Nat}{sz:Nat}{rs:List (List AV)}(s:vl G w x (.rows sz rs)){i:Nat}{row:List AV}(d:rs[i]?=some row):
 0<x.2.2/\∃c e vs u,w.heap[x.1]?=some (.cells c e (0,0))/\c.size=x.2.2*sz/\zK G w sz rs vs/\vs.flatten=c.toList.take (rs.length*sz)/\vs[i]?=some u/\zx G w row u/\u.length=sz/\
  (∀j v,u[j]?=some v->w.cell? ⟨x.1,i*sz+j,none⟩=some v)/\i*sz+sz<=rs.length*sz:=by
 obtain⟨B,C,E,l⟩:=s;have F:i<rs.length:=by
  rcases Nat.lt_or_ge i rs.length with h|h
  ·exact h
  ·rw[xap h]at d;cases d
 refine⟨by omega,?_⟩;rcases l with l|⟨c,e,vs,m,t,f,n⟩
 ·omega
 ·obtain⟨u,p,b,q,_⟩:=f.get i d;obtain⟨r,y⟩:=f.flat_get i p;have g:i*sz+sz<=rs.length*sz:=by
   have:=Nat.mul_le_mul_right sz (show i+1<=rs.length by omega);rw[Nat.add_mul]at this;omega
  refine⟨c,e,vs,u,m,t,f,n,p,b,r,?_,g⟩;intro j v k;have z:j<sz:=by
   rw[<-r];rcases Nat.lt_or_ge j u.length with h|h
   ·exact h
   ·rw[xap h]at k;cases k
  have:=y j z;rw[n,k,xaq]at this;split at this
  ·simp only[World.cell?,m];simpa using this
  ·cases this
theorem zCm(I:Fr A D G ρ σ a w){o:Oper}{loc:Option Nat}{sz:Nat}{agg:Bool}{xs:List zo}(h:yw P G.K o.op (.ld loc sz agg) xs=true){vs:List AV}(M:evs A σ.tm xs=some vs)
 {v:AV} {W:Option (Nat×List AV)} {S':AS} (hp:ze (.ld loc sz agg) o.dst σ.rg σ.S vs=some (v,W,S')):W=none/\S'=σ.S/\yr P A D G ρ σ a w (execOp a.eval o) v:=by
 simp only[yw]at h;split at h
 ·rename_i t x ho;simp only[xab,beq_iff_eq]at h;obtain⟨⟨⟨hs,hg⟩,J⟩,h⟩:=h;have q:=yv I h M;have run:∀{b off:Nat} {us:List Value},a.eval x=.pointer (some ⟨b,off,none⟩)->us.length=sz->(∀i u,us[i]?=some u->w.cell? ⟨b,off+i,none⟩=some u)->
   (execOp a.eval o).run P w=.ok (.value (if agg then .agg us.toArray else us.getD 0 undef)) w:=by
   intro b off us m hl O;rw[zAm _ _ ho,m];simp only[xag,ztV hs hg J hl O,xac,xah]
  have fin:∀{cs:List AV} {B us:List Value} {c b off:Nat},zx G w cs B->yW cs c sz agg=some v->a.eval x=.pointer (some ⟨b,off,none⟩)->us=(B.drop c).take sz->
   (∀i u,us[i]?=some u->w.cell? ⟨b,off+i,none⟩=some u)->yr P A D G ρ σ a w (execOp a.eval o) v:=by
   intro cs B us c b off n d m C O;obtain⟨Q,hv⟩:=zrr d;have X:=n.length;have f:=zjl n Q J hv;have E:us.length=sz:=by rw[C];simp;omega
   refine .same I (run m E O) ?_;have:(if agg then Value.agg us.toArray else us.getD 0 undef)=(if agg then Value.agg ((B.drop c).take sz).toArray else B.getD c undef):=by
    rw[C];cases agg with
    |true=>rfl
    |false=>
     simp at J;subst J;simp[xar,xaq,List.getElem?_drop]
   rw[this];exact f.trep
  unfold ze at hp;split at hp<;>simp only[reduceCtorEq,AOp.ld.injEq,false_and]at *<;>try (cases hp;done)
  ·rename_i r sz' p r' c j;obtain⟨rfl,rfl,rfl⟩:=j;split at hp
   ·rename_i T;subst T;cases n:σ.rg r' with
    |none=>rw[n]at hp;cases hp
    |some cs=>
     rw[n]at hp;simp only[xae]at hp;cases d:yW cs c sz agg with
     |none=>rw[d]at hp;cases hp
     |some v'=>
      rw[d]at hp;cases hp;obtain⟨L,g,hT⟩:=TL.one_of q;obtain⟨_,b,hb,m⟩:=hT;simp only[xao,List.map_nil,xak,and_true]at g;obtain⟨b',us,e,F,U,f⟩:=I.regCells n;rw[hb]at F;cases F;exact⟨rfl,rfl,fin f d (g.trans m) rfl (zoi U)⟩
   ·cases hp
  ·rename_i sz' p cs j;obtain⟨rfl,rfl,rfl⟩:=j;cases d:yW cs 0 sz agg with
   |none=>rw[d]at hp;cases hp
   |some v'=>
    rw[d]at hp;cases hp;obtain⟨L,g,hT⟩:=TL.one_of q;simp only[xao,List.map_nil,xak,and_true]at g;obtain⟨b,off,us,m,V,n⟩:=Rep.iptr_inv (x:=L) hT;exact⟨rfl,rfl,fin n d (g.trans m) rfl fun i u l=>by
     rw[List.drop_zero,xaq]at l;split at l
     ·exact(V i u l).2
     ·cases l⟩
  ·rename_i sz' p id row c j;obtain⟨rfl,rfl,rfl⟩:=j;split at hp
   ·rename_i z rs U;cases k:rs[row]? with
    |none=>rw[k]at hp;cases hp
    |some cs=>
     rw[k]at hp;simp only[xae]at hp;cases d:yW cs c sz agg with
     |none=>rw[d]at hp;cases hp
     |some v'=>
      rw[d]at hp;cases hp;obtain⟨L,g,hT⟩:=TL.one_of q;simp only[xao,List.map_nil,xak,and_true]at g;obtain⟨b,z',N,hi,m⟩:=Rep.ptr_inv (x:=L) hT;obtain⟨y,Y,H⟩:=I.sim.obj id _ U;rw[hi]at Y;cases Y;have hz:z'=z:=H.1;subst hz;obtain⟨_,Z,e,vs',u,_,_,_,_,_,f,E,s,_⟩:=zbG H k;refine⟨rfl,rfl,fin f d (g.trans m) rfl fun i u' l=>?_⟩;rw[xaq]at l;split at l
      ·rw[List.getElem?_drop]at l;have:=s (c+i) u' l;rw[<-Nat.add_assoc]at this;exact this
      ·cases l
   ·cases hp
 ·cases h
end
section
variable{A:zA}{D:Nat->Prop}{G:Gh}{ρ:Nat->Option Nat}{σ:ASt}{a:Act}{w:World}{P:Program}{rg:Nat->Option (List AV)}
theorem zt1{t b off sz:Nat}{x:Value}{c:Array Value}{e:Nat}(g:yS P t=some sz)(i:x.cells.size=sz)(h:∀u∈x.cells.toList,u.oneCell'=true)(d:w.heap[b]?=some (.cells c e (0,0)))(k:off+sz<=c.size):
 (Instr.storeAt t (.pointer (some ⟨b,off,none⟩)) x).run P w=.ok () (w.setCells b off x.cells.toList):=by
 simp only[Instr.storeAt,Instr.sureAddr,storeVar,xag,xah,xac,siz g];rw[if_neg (by omega)];have:=run_storeCells_cells (P:=P) b off x.cells.toList 0 w (by
  intro j f;simp only[Array.length_toList]at f;simp only[World.cell?,d,Nat.add_zero];simp[show off+j<c.size by omega]) (by
  intro j f;simp only[World.frozen?,d];simp) h
 simpa using this
theorem zi2:∀(us:List Value) (w:World) (b off:Nat),Io w (w.setCells b off us)
 |[],w,_,_=>Io.refl w
 |v::r,w,b,off=>(show Io w (w.setCell ⟨b,off,none⟩ v)from⟨rfl,rfl,rfl⟩).trans (zi2 r _ b (off+1))
theorem znk{b off:Nat}{us:List Value}{c:Array Value}{e:Nat}(d:w.heap[b]?=some (.cells c e (0,0)))(f:off+us.length<=c.size):
 (w.setCells b off us).heap[b]?=some (.cells (c.toList.take off++us++c.toList.drop (off+us.length)).toArray e (0,0))/\(∀b',b'≠b->(w.setCells b off us).heap[b']?=w.heap[b']?)/\(w.setCells b off us).heap.size=w.heap.size:=
 zrz us off w c d f
theorem set_set(S:AS)(id:Nat)(o:yX):(S.set id none).set id (some o)=S.set id (some o):=by
 simp only[AS.set];congr 1;funext j;by_cases h:j=id<;>simp[h]
theorem zHY{sz i c:Nat}{rs:List (List AV)}{vs:List (List Value)}{u us:List Value}(h:zK G w sz rs vs)(d:vs[i]?=some u)(p:u.length=sz)(v:c+us.length<=sz):
 (vs.set i (u.take c++us++u.drop (c+us.length))).flatten=vs.flatten.take (i*sz+c)++us++vs.flatten.drop (i*sz+c+us.length):=by
 have m:i<rs.length:=by
  rw[h.length];rcases Nat.lt_or_ge i vs.length with k|k
  ·exact k
  ·rw[xap k]at d;cases d
 have n:i*sz+sz<=vs.flatten.length:=by
  rw[h.flat_length];have:=Nat.mul_le_mul_right sz (show i+1<=rs.length by omega);rw[Nat.add_mul]at this;omega
 have b:vs.set i u=vs:=by
  apply List.ext_getElem?;intro j;rw[xaw];split
  ·rename_i q;subst q;split
   ·exact d.symm
   ·rename_i x;rw[xap (by omega)]at d;cases d
  ·rfl
 rw[h.flatten_set i _ m];have f:=h.flatten_set i u m;rw[b]at f;generalize r:vs.flatten.take (i*sz)=g at f ⊢;generalize y:vs.flatten.drop (i*sz+sz)=l at f ⊢;have e:g.length=i*sz:=by rw[<-r,List.length_take];omega
 rw[f];have s:(g++u++l).take (i*sz+c)=g++u.take c:=by
  rw[List.append_assoc,List.take_append,List.take_of_length_le (by omega),e,Nat.add_sub_cancel_left,List.take_append_of_le_length (by omega)]
 have t:(g++u++l).drop (i*sz+c+us.length)=u.drop (c+us.length)++l:=by
  rw[List.append_assoc,List.drop_append,xaB (by omega),e,List.nil_append,show i*sz+c+us.length-i*sz=c+us.length by omega,List.drop_append_of_le_length (by omega)]
 rw[s,t];simp only[List.append_assoc]
theorem zuV{l us:List Value}{p L:Nat}(h:p+us.length<=L)(b:L<=l.length):(l.take p++us++l.drop (p+us.length)).take L=(l.take L).take p++us++(l.take L).drop (p+us.length):=by
 rw[List.take_append,List.take_of_length_le (by simp;omega),List.take_take,Nat.min_eq_left (by omega),List.drop_take];congr 2;simp;omega
theorem Fr.writeRow(M:Fr A D G ρ σ a w){id:Nat}{sz:Nat}{rs:List (List AV)}{x:Nat×Nat×Nat}(O:σ.S.ro<=id)(N:σ.S.heap id=some (.rows sz rs))(Q:G.ι id=some x){i c:Nat}{row cs:List AV}(d:rs[i]?=some row)
 {us:List Value} (m:zx G w cs us) (s:∀u∈us,u.oneCell'=true) (hc:c+cs.length<=row.length):
 Fr A D G ρ {σ with S:=σ.S.set id (some (.rows sz (rs.set i (setCells row c cs))))} a (w.setCells x.1 (i*sz+c) us)/\Ext D G w G (w.setCells x.1 (i*sz+c) us):=by
 obtain⟨y,hy,t⟩:=M.sim.obj id _ N;rw[Q]at hy;cases hy;have r:row.length=sz:=by
  obtain⟨_,c0,e0,ac,u0,_,_,z,_,_⟩:=zbG t d;obtain⟨_,_,_,hl,_⟩:=z.get i d;exact hl
 obtain⟨h0,f,e,vs,u,k1,k2,z,k4,hu,B,T,U,ad⟩:=zbG t d;have C:=m.length;have V:=t.2.1;have hN:rs.length<=x.2.2:=t.2.2.1;have W:rs.length*sz<=f.size:=by rw[k2];exact Nat.mul_le_mul_right sz hN
 have E:i*sz+c+us.length<=f.size:=by omega
 obtain⟨m1,m2,m3⟩:=znk (w:=w) (off:=i*sz+c) (us:=us) k1 E;have X:=M.less (hp:=(σ.S.set id none).heap) (by intro j o e';simp only[AS.set]at e';split at e'<;>simp_all);have g:=M.free_kill O N Q h0;obtain⟨Y,F⟩:=Fr.write (b:=x.1) X g (Nat.le_of_eq m3.symm) m2 (zi2 _ _ _ _);refine⟨?_,F⟩;have H:vl G (w.setCells x.1 (i*sz+c) us) x (.rows sz (rs.set i (setCells row c cs))):=by
  refine⟨t.1,V,by simpa using hN,.inr ⟨_,e,vs.set i (u.take c++us++u.drop (c+us.length)),m1,?_,?_,?_⟩⟩
  ·simp only[List.size_toArray,xaC,List.length_take,List.length_drop,Array.length_toList];omega
  ·have Z:zx G w (setCells row c cs) (u.take c++us++u.drop (c+us.length)):=by
    unfold setCells;rw[C];exact((B.take c).append m).append (B.drop _)
   have aa:(setCells row c cs).length=sz:=by unfold setCells;simp;omega
   obtain⟨_,I,_,_,k⟩:=z.get i d;rw[hu]at I;cases I;exact(z.set Z aa (by
    intro v q;simp only[xaE]at q;rcases q with(q|q)|q
    ·exact k v (List.mem_of_mem_take q)
    ·exact s v q
    ·exact k v (List.mem_of_mem_drop q)) i).mono F.toLe
  ·have J:(rs.set i (setCells row c cs)).length=rs.length:=by simp
   rw[J,zHY z hu T (by omega),k4];have:=zuV (l:=f.toList) (us:=us) (p:=i*sz+c) (L:=rs.length*sz) (by omega) (by simpa using W);simp only[List.toList_toArray];rw[this]
 have ab:id<σ.S.n:=by
  rcases Nat.lt_or_ge id σ.S.n with h|h
  ·exact h
  ·rw[(M.sim.fresh id h).1]at N;cases N
 have this:Fr A D G ρ {σ with S:=(σ.S.set id none).set id (some (.rows sz (rs.set i (setCells row c cs))))} a (w.setCells x.1 (i*sz+c) us):=
  Y.take (id:=id) Q (by simp[AS.set]) ab (fun _=>g) H
 rw[set_set]at this;exact this
theorem zCt(s:Fr A D G ρ σ a w){o:Oper}{loc:Option Nat}{sz:Nat}{xs:List zo}(h:yw P G.K o.op (.st loc sz) xs=true){vs:List AV}(M:evs A σ.tm xs=some vs)
 {v:AV} {ru:Option (Nat×List AV)} {S':AS} (hp:ze (.st loc sz) o.dst σ.rg σ.S vs=some (v,ru,S')):qh P A D G ({σ with S:=S'}.regs ru) a w (execOp a.eval o) v:=by
 simp only[yw]at h;split at h
 ·rename_i t x y ho;simp only[xab,beq_iff_eq]at h;obtain⟨hs,h⟩:=h;have B:=yv s h M;unfold ze at hp;split at hp<;>simp only[reduceCtorEq,AOp.st.injEq,false_and]at *<;>try (cases hp;done)
  ·rename_i r sz' r' c u m;obtain⟨rfl,rfl⟩:=m;split at hp
   ·rename_i O;obtain⟨rfl,d,C⟩:=O;cases L:σ.rg r' with
    |none=>rw[L]at hp;cases hp
    |some cs=>
     rw[L]at hp;simp only[xae]at hp;split at hp
     ·rename_i Q;cases hp;obtain⟨x',n,j,hT,T⟩:=TL.two_of B;simp only[xao,List.map_nil,xak,and_true]at j;obtain⟨ex,U⟩:=j;obtain⟨_,b,hb,V⟩:=hT;have f:=(T.rep (zbZ d)).cells d;have i:=f.oneCell d;have W:=f.length;obtain⟨b',us,e,E,F,l⟩:=s.regCells L;rw[hb]at E;cases E;have H:=l.length;simp only[Array.length_toList]at W H;have X:n.cells.size=sz:=by omega
      have p:=zt1 (P:=P) (w:=w) (off:=c) (x:=n) hs X i F (by omega);obtain⟨m1,m2,m3⟩:=znk (w:=w) (off:=c) (us:=n.cells.toList) F (by simp only[Array.length_toList];omega);have k:=s.writeReg L hb (c':=(us.toList.take c++n.cells.toList++us.toList.drop (c+n.cells.toList.length)).toArray) (e:=e) (cs':=setCells cs c u.cells) (Nat.le_of_eq m3.symm) m2 m1 (by
       unfold setCells;simp only[List.toList_toArray];rw[f.length];exact((l.take c).append f).append (l.drop _)) (zi2 _ _ _ _)
      refine⟨undef,_,G,ρ,.inr ⟨?_,rfl⟩,k.1,k.2,Rep.trep .junk⟩;rw[zo8 _ _ ho,ex,U,V];simp only[xag,p,xac,xah]
     ·cases hp
   ·cases hp
  ·rename_i sz' id row c u m;obtain⟨rfl,rfl⟩:=m;split at hp
   ·rename_i O;obtain⟨Y,d,C⟩:=O;split at hp
    ·rename_i z rs F;cases g:rs[row]? with
     |none=>rw[g]at hp;cases hp
     |some cs=>
      rw[g]at hp;simp only[xae]at hp;split at hp
      ·rename_i Q;cases hp;obtain⟨x',n,j,hT,T⟩:=TL.two_of B;simp only[xao,List.map_nil,xak,and_true]at j;obtain⟨ex,U⟩:=j;obtain⟨b,I,N,hi,V⟩:=Rep.ptr_inv (x:=x') hT;have f:=(T.rep (zbZ d)).cells d;have i:=f.oneCell d;have W:=f.length;simp only[Array.length_toList]at W;obtain⟨yy,hy,q⟩:=s.sim.obj id _ F;rw[hi]at hy;cases hy;have hz:I=z:=q.1;subst hz;obtain⟨h0,J,e,vs',u',k1,k2,k3,k4,hu,l,H,ab,aa⟩:=zbG q g;have ac:cs.length=I:=by obtain⟨_,_,_,Z,_⟩:=k3.get row g;exact Z
       have ad:rs.length*I<=J.size:=by rw[k2];exact Nat.mul_le_mul_right I q.2.2.1
       have p:=zt1 (P:=P) (w:=w) (off:=row*I+c) (x:=n) hs (by omega) i k1 (by omega);have k:=s.writeRow Y F hi g (c:=c) f i (by omega);refine⟨undef,_,G,ρ,.inr ⟨?_,rfl⟩,k.1,k.2,Rep.trep .junk⟩;rw[zo8 _ _ ho,ex,U,V];simp only[xag,p,xac,xah]
      ·cases hp
    ·cases hp
   ·cases hp
 ·cases h
theorem zHZ{t:TypeId}{i:TypeInfo}{z:Value}(b:P.info? t=some i)(c:i.zero=some z):(Instr.alloc t true (.tuple #[])).run P w=.ok (.pointer (some ⟨w.heap.size,0,none⟩)) (w.alloc (.cells z.cells t)):=by
 simp only[Instr.alloc,xag,zer b c,xac,newVar,newRow,run_newObj,xah];rfl
theorem zH5{t:TypeId}{x:Value}:(Instr.box t x).run P w=.ok (.pointer (some ⟨w.heap.size,0,none⟩)) (w.alloc (.cells x.cells t)):=by
 simp only[Instr.box,xag,newVar,newRow,run_newObj,xac,xah];rfl
theorem Fr.newVar(d:Fr A D G ρ σ a w){cs:List AV}{us:Array Value}{t:Nat}(f:zx G w cs us.toList)(g:0<cs.length)(h:∀u∈us.toList,u.oneCell'=true):
 ∃G',Fr A D G' ρ {σ with S:=σ.S.new (.rows cs.length [cs])} a (w.alloc (.cells us t))/\Ext D G w G' (w.alloc (.cells us t))/\Rep G' (w.alloc (.cells us t)) (.ptr σ.S.n 0 0) (.pointer (some ⟨w.heap.size,0,none⟩)):=by
 have b:=f.length;simp only[Array.length_toList]at b;have i:=(d.sim.fresh σ.S.n (xad _)).2;have e:Le G w (G.made σ.S.n (w.heap.size,cs.length,1)) (w.alloc (.cells us t)):=zfv i d.sim.lt;obtain⟨j,k⟩:=d.made (.cells us t) (sz:=cs.length) (N:=1) (ao:=.rows cs.length [cs]) (by
  refine⟨rfl,g,by simp,.inr ⟨us,t,[us.toList],zcu,by simp[b],.cons (f.mono e) rfl h .nil,?_⟩⟩;simp[<-b,List.take_of_length_le])
 refine⟨_,j,k,?_⟩;have:(G.made σ.S.n (w.heap.size,cs.length,1)).ι σ.S.n=some (w.heap.size,cs.length,1):=by simp[Gh.made]
 simpa using Rep.ptr (w:=w.alloc (.cells us t)) (r:=0) (c:=0) this
theorem zCg(p:Fr A D G ρ σ a w){o:Oper}{k:zcL}{zero:List AV}{xs:List zo}(b:yw P G.K o.op (.alloc k zero) xs=true){vs:List AV}(u:evs A σ.tm xs=some vs)
 {v:AV} {q:Option (Nat×List AV)} {S':AS} (hp:ze (.alloc k zero) o.dst σ.rg σ.S vs=some (v,q,S')):qh P A D G ({σ with S:=S'}.regs q) a w (execOp a.eval o) v:=by
 simp only[yw]at b;split at b
 ·rename_i t x;simp only[xab]at b;obtain⟨l,b⟩:=b;obtain⟨i,z,y,l,c⟩:=zdC l;have r:zx G w zero z.cells.toList:=zav c;have run:(execOp a.eval o).run P w=.ok (.value (.pointer (some ⟨w.heap.size,0,none⟩))) (w.alloc (.cells z.cells t)):=by
   rw[zAg _ _ x];simp only[xag,zHZ y l,xac,xah]
  unfold ze at hp;split at hp<;>simp only[reduceCtorEq,AOp.alloc.injEq,false_and]at *<;>try (cases hp;done)
  ·rename_i e f;obtain⟨rfl,rfl⟩:=f;cases s:o.dst with
   |none=>rw[s]at hp;cases hp
   |some d=>
    rw[s]at hp;simp only[xae]at hp;split at hp
    ·rename_i m;cases hp;have m:σ.rg d=none:=by simpa using m
     obtain⟨g,h,j⟩:=p.newReg (vs:=z.cells.toList) r t d m;simp only[Array.toArray_toList]at g h j;exact⟨_,_,G,_,.inl run,g,h,j⟩
    ·cases hp
  ·rename_i e f;obtain⟨rfl,rfl⟩:=f;split at hp
   ·rename_i n;cases hp;obtain⟨G',g,h,j⟩:=p.newVar (t:=t) r n.2 (zc1 c);exact⟨_,_,G',ρ,.inl run,g,h,j.trep⟩
   ·cases hp
 ·cases b
theorem zCi(m:Fr A D G ρ σ a w){o:Oper}{k:zcL}{xs:List zo}(f:yw P G.K o.op (.box k) xs=true){vs:List AV}(n:evs A σ.tm xs=some vs)
 {v:AV} {q:Option (Nat×List AV)} {S':AS} (hp:ze (.box k) o.dst σ.rg σ.S vs=some (v,q,S')):qh P A D G ({σ with S:=S'}.regs q) a w (execOp a.eval o) v:=by
 simp only[yw]at f;split at f
 ·rename_i t x s;have h:=yv m f n;have run:(execOp a.eval o).run P w=.ok (.value (.pointer (some ⟨w.heap.size,0,none⟩))) (w.alloc (.cells (a.eval x).cells t)):=by
   rw[zo2 _ _ s];simp only[xag,zH5,xac,xah]
  unfold ze at hp;split at hp<;>simp only[reduceCtorEq,AOp.box.injEq,false_and]at *<;>try (cases hp;done)
  ·rename_i u g;subst g;obtain⟨y,e,hT⟩:=TL.one_of h;simp only[xao,List.map_nil,xak,and_true]at e;subst e;split at hp
   ·rename_i b;have c:=(hT.rep (zbZ b)).cells b;cases r:o.dst with
    |none=>rw[r]at hp;cases hp
    |some d=>
     rw[r]at hp;simp only[xae]at hp;split at hp
     ·rename_i p;cases hp;have p:σ.rg d=none:=by simpa using p
      obtain⟨i,j,l⟩:=m.newReg c t d p;simp only[Array.toArray_toList]at i j l;exact⟨_,_,G,_,.inl run,i,j,l⟩
     ·cases hp
   ·cases hp
  ·rename_i u g;subst g;obtain⟨y,e,hT⟩:=TL.one_of h;simp only[xao,List.map_nil,xak,and_true]at e;subst e;split at hp
   ·rename_i b;cases hp;have c:=(hT.rep (zbZ b.1)).cells b.1;obtain⟨G',i,j,l⟩:=m.newVar (t:=t) c b.2 (c.oneCell b.1);exact⟨_,_,G',ρ,.inl run,i,j,l.trep⟩
   ·cases hp
 ·cases f
end
section
variable{A:zA}{D:Nat->Prop}{G:Gh}{ρ:Nat->Option Nat}{σ:ASt}{a:Act}{w:World}{P:Program}{rg:Nat->Option (List AV)}
structure zj3(P:Program)(t:TypeId)(str:Bool)(kt et:TypeId)(d:TypeDesc):Prop where
 map:P.underlying t=some (.map kt et)
 key:P.underlying kt=some d
 kind:(str=true/\d=.string)\/(str=false/\∃k,d=.int k)
theorem zi9{t:TypeId}{str:Bool}(h:zdF P t=some str):∃kt b d,zj3 P t str kt b d:=by
 unfold zdF at h;split at h
 ·rename_i kt b e;split at h
  ·rename_i c;cases h;exact⟨kt,b,_,e,c,.inl ⟨rfl,rfl⟩⟩
  ·rename_i k c;cases h;exact⟨kt,b,_,e,c,.inr ⟨rfl,k,rfl⟩⟩
  ·cases h
 ·cases h
theorem za1{t:TypeId}{str:Bool}{kt b:TypeId}{d:TypeDesc}(h:zj3 P t str kt b d)(e:Bool)(n:Nat)(v:Value):(Instr.checkKey e (n+1) kt v).run P w=.ok () w:=by
 rcases h.kind with⟨_,rfl⟩|⟨_,k,rfl⟩<;>simp only[Instr.checkKey,xag,und h.key,xac,xah]
theorem zm5{str:Bool}{d:TypeDesc}{k x:Value}(h:(str=true/\d=.string)\/(str=false/\∃k,d=.int k))(f:qM k=str){b:Bool}(c:qO k x=some b):Instr.sameNow d k x=some b:=by
 unfold qO at c;split at c
 ·rcases h with⟨rfl,rfl⟩|⟨rfl,g,rfl⟩
  ·simp[qM]at f
  ·split at c
   ·rename_i e;cases c;simp[Instr.sameNow,e]
   ·cases c
 ·rcases h with⟨rfl,rfl⟩|⟨rfl,g,rfl⟩
  ·simpa[Instr.sameNow]using c
  ·simp[qM]at f
 ·cases c
theorem zbf{a b:ByteArray}:(a==b)=true↔a=b:=by
 rw[beq_toListBytes,ByteArray.toList_eq,ByteArray.toList_eq];obtain⟨⟨x⟩⟩:=a;obtain⟨⟨y⟩⟩:=b;simp
theorem zJC{k x:Value}(b:qO k x=some true):x=k/\∀n,Instr.sameBits n x k=true:=by
 unfold qO at b;split at b
 ·rename_i f c g d;split at b
  ·rename_i e;subst e;have:c=d:=by simpa using b
   subst this;exact⟨rfl,fun n=>by cases n<;>simp[Instr.sameBits]⟩
  ·cases b
 ·rename_i c d;have:c=d:=zbf.1 (by simpa using b);subst this;exact⟨rfl,fun n=>by cases n<;>simp[Instr.sameBits,zbf.2 rfl]⟩
 ·cases b
theorem ziK{str:Bool}{d:TypeDesc}{k:Value}(h:(str=true/\d=.string)\/(str=false/\∃k,d=.int k))(p:qM k=str):
 ∀{aes:List (Value×AV)} {ms:List MapEntry} {i:Nat} {r:Option (Nat×AV)},aes.map (·.1)=ms.map (·.key)->zx G w (aes.map (·.2)) (ms.map (·.val))->qy k aes i=some r->
  (r=none/\Instr.findNow d k ms i=some none)\/∃j g v,r=some (j,g)/\Instr.findNow d k ms i=some (some (j,v))/\Rep G w g v/\i<=j/\(ms[j-i]?).map (·.key)=some k/\(∀n,Instr.sameBits n k k=true)
 |[],ms,i,r,he,hr,hf=>by
  cases ms with
  |nil=>simp[qy]at hf;exact .inl ⟨hf.symm,rfl⟩
  |cons _ _=>simp at he
 |(x,g)::aes,ms,i,r,he,hr,hf=>by
  cases ms with
  |nil=>simp at he
  |cons m ms=>
   simp only[xao,xak]at he;simp only[xao]at hr;cases hr with
   |cons h1 h2=>
    rw[qy]at hf;have b:x=m.key:=he.1;split at hf
    ·rename_i l;cases hf;obtain⟨q,s⟩:=zJC l;subst q;right;refine⟨i,g,m.val,rfl,?_,h1,xad _,by simp[b],s⟩;have:=zm5 h p l;rw[b]at this;simp[Instr.findNow,b,this]
    ·rename_i l;have c:=zm5 h p l;rw[b]at c;rcases ziK h p (i:=i+1) he.2 h2 hf with⟨rfl,t⟩|⟨j,u,v,rfl,t,e,y,f,s⟩
     ·left;exact⟨rfl,by simp[Instr.findNow,c,t]⟩
     ·right;refine⟨j,u,v,rfl,by simp[Instr.findNow,c,t],e,by omega,?_,s⟩;rw[show j-i=(j-(i+1))+1 by omega];simpa using f
    ·cases hf
theorem zaf{b:Nat}{ms:Array MapEntry}{c:Nat}(h:w.heap[b]?=some (.map ms c)):(getObj b).run P w=.ok (.map ms c) w:=by
 simp only[getObj,Sem.run,h]
theorem zeb{b:Nat}{ms:Array MapEntry}{c:Nat}{o:Obj}(h:w.heap[b]?=some (.map ms c)):(setObj b o).run P w=.ok () {w with heap:=w.heap.setIfInBounds b o}:=by
 simp only[setObj,Sem.run,h]
theorem zrA{b:Nat}{o o':Obj}(h:w.heap[b]?=some o'):({w with heap:=w.heap.setIfInBounds b o}:World).heap[b]?=some o/\(∀b',b'≠b->({w with heap:=w.heap.setIfInBounds b o}:World).heap[b']?=w.heap[b']?)/\({w with heap:=w.heap.setIfInBounds b o}:World).heap.size=w.heap.size:=by
 have c:=j0 h;refine⟨?_,?_,by simp⟩
 ·simp[Array.getElem?_setIfInBounds,c]
 ·intro b' d;simp only[Array.getElem?_setIfInBounds];rw[if_neg (fun h=>d h.symm)]
theorem za3{kt:TypeId}{d:TypeDesc}{k:Value}{ms:List MapEntry}{r:Option (Nat×Value)}(b:P.underlying kt=some d)(h:Instr.findNow d k ms 0=some r):(Instr.findKey kt k ms).run P w=.ok r w:=by
 simp only[Instr.findKey,xag,und b,xac,h,xah]
theorem zCo(J:Fr A D G ρ σ a w){o:Oper}{str ok:Bool}{zero:AV}{xs:List zo}(c:yw P G.K o.op (.lookup str zero ok) xs=true){vs:List AV}(L:evs A σ.tm xs=some vs)
 {v:AV} {Y:Option (Nat×List AV)} {S':AS} (hp:ze (.lookup str zero ok) o.dst σ.rg σ.S vs=some (v,Y,S')):Y=none/\S'=σ.S/\yr P A D G ρ σ a w (execOp a.eval o) v:=by
 simp only[yw]at c;split at c
 ·rename_i t x y ok' ho;simp only[xab,beq_iff_eq]at c;obtain⟨⟨⟨rfl,M⟩,g⟩,c⟩:=c;obtain⟨kt,Z,d,e⟩:=zi9 M;rw[e.map]at g;have g:∃i z,P.info? Z=some i/\i.zero=some z/\zfr zero z=true:=by
   cases q:P.info? Z with
   |none=>simp only[q,Option.bind_none]at g;cases g
   |some i=>
    simp only[q,xae]at g;split at g
    ·rename_i z O;exact⟨i,z,rfl,O,g⟩
    ·cases g
  obtain⟨i,z,q,g,r⟩:=g;have Q:=yv J c L;unfold ze at hp;split at hp<;>simp only[reduceCtorEq,AOp.lookup.injEq,false_and]at *<;>try (cases hp;done)
  rename_i aa T ab m k U;obtain⟨rfl,rfl,rfl⟩:=U;split at hp
  ·cases hp
  ·rename_i h;have h:qM k=str:=by simpa using h
   obtain⟨V,y',s,hM,hV⟩:=TL.two_of Q;simp only[xao,List.map_nil,xak,and_true]at s;obtain⟨ex,F⟩:=s;have H:=hV.sc;have fin:∀{aes:List (Value×AV)} {ms:Array MapEntry} {f:Option (Nat×AV)},
    ((V=.map none/\ms=#[])\/∃b I,V=.map (some b)/\w.heap[b]?=some (.map ms I))->aes.map (·.1)=ms.toList.map (·.key)->zx G w (aes.map (·.2)) (ms.toList.map (·.val))->qy k aes 0=some f->
    v=(if ok' then .tup [zbB zero f,.b f.isSome]else zbB zero f)->yr P A D G ρ σ a w (execOp a.eval o) v:=by
    intro aes ms f p he hr n hv;have key:∃u,Rep G w (zbB zero f) u/\(Instr.lookup t (a.eval x) (a.eval y) ok').run P w=.ok (if ok' then .tuple #[u,.bool f.isSome]else u) w:=by
     rcases ziK e.kind h he hr n with⟨rfl,B⟩|⟨j,av,u,rfl,B,C,_⟩
     ·refine⟨z,zov r,?_⟩;rcases p with⟨l,rfl⟩|⟨b,I,l,E⟩
      ·simp only[Instr.lookup,xag,und e.map,xac,ex,F,H,l,za1 e _ 9999,za3 e.key B,zer q g,xah];rfl
      ·simp only[Instr.lookup,xag,und e.map,xac,ex,F,H,l,zaf E,za1 e _ 9999,za3 e.key B,zer q g,xah];rfl
     ·refine⟨u,C,?_⟩;rcases p with⟨l,rfl⟩|⟨b,I,l,E⟩
      ·simp only[Instr.lookup,xag,und e.map,xac,ex,F,H,l,za1 e _ 9999,za3 e.key B,xah];rfl
      ·simp only[Instr.lookup,xag,und e.map,xac,ex,F,H,l,zaf E,za1 e _ 9999,za3 e.key B,xah];rfl
    obtain⟨u,hu,hl⟩:=key;subst hv;refine .same J (x:=if ok' then .tuple #[u,.bool f.isSome]else u) ?_ ?_
    ·rw[zAn _ _ ho];simp only[xag,hl,xac,xah]
    ·cases ok' with
     |true=>
      have:Rep G w (.tup [zbB zero f,.b f.isSome]) (.tuple [u,.bool f.isSome].toArray):=.tup (.cons hu (.cons (.sc rfl) .nil));exact this.trep
     |false=>exact hu.trep
   split at hp
   ·rename_i id;split at hp
    ·rename_i aes hh;simp only[xae]at hp;cases n:qy k aes 0 with
     |none=>rw[n]at hp;cases hp
     |some f=>
      rw[n]at hp;cases hp;obtain⟨b,sz,N,W,l⟩:=Rep.mp_inv (x:=V) hM;obtain⟨yy,hy,X⟩:=J.sim.obj id _ hh;rw[W]at hy;cases hy;obtain⟨_,ms,I,E,m2,m3,_⟩:=X;refine⟨rfl,rfl,fin (aes:=aes) (ms:=ms) (.inr ⟨_,_,l,E⟩) m2 m3 n ?_⟩;cases ok'<;>rfl
    ·cases hp
   ·simp only[xae]at hp;cases n:qy k [] 0 with
    |none=>rw[n]at hp;cases hp
    |some f=>
     rw[n]at hp;cases hp;have l:=hM.sc;refine⟨rfl,rfl,fin (aes:=[]) (ms:=#[]) (.inl ⟨l,rfl⟩) rfl .nil n ?_⟩;cases ok'<;>rfl
   ·cases hp
 ·cases c
theorem zCn(e:Fr A D G ρ σ a w){o:Oper}{xs:List zo}(c:yw P G.K o.op .lenM xs=true){vs:List AV}(f:evs A σ.tm xs=some vs)
 {v:AV} {l:Option (Nat×List AV)} {S':AS} (hp:ze .lenM o.dst σ.rg σ.S vs=some (v,l,S')):l=none/\S'=σ.S/\yr P A D G ρ σ a w (execOp a.eval o) v:=by
 simp only[yw]at c;split at c
 ·rename_i as ts p;simp only[xab]at c;obtain⟨d,c⟩:=c;have g:=yv e c f;unfold zdB at d;split at d
  ·rename_i t h;obtain⟨kt,m,q⟩:∃kt m,P.underlying t=some (.map kt m):=by split at d<;>simp_all
   unfold ze at hp;split at hp<;>simp only[reduceCtorEq]at *<;>try (cases hp;done)
   rename_i id r;split at hp
   ·rename_i aes s;cases hp;obtain⟨u,i,y⟩:=TL.one_of g;obtain⟨b,sz,N,j,z⟩:=Rep.mp_inv (x:=u) y;obtain⟨F,n,k⟩:=e.sim.obj id _ s;rw[j]at n;cases n;obtain⟨_,ms,H,B,C,I,_⟩:=k;have E:ms.size=aes.length:=by
     have:=congrArg List.length C;simp at this;omega
    refine⟨rfl,rfl,.same e (x:=goInt aes.length) ?_ (Rep.sc rfl).trep⟩;rw[vI p,zcA i,z];simp only[builtin,Builtin.len_,h,List.getElem?_toArray,xas,xag,und q,zaf B,xac,xah,E]
   ·cases hp
  ·cases d
 ·cases c
theorem zCr(c:Fr A D G ρ σ a w){o:Oper}{xs:List zo}(b:yw P G.K o.op .mkmap xs=true){vs:List AV}
 {v:AV} {d:Option (Nat×List AV)} {S':AS} (hp:ze .mkmap o.dst σ.rg σ.S vs=some (v,d,S')):qh P A D G ({σ with S:=S'}.regs d) a w (execOp a.eval o) v:=by
 simp only[yw]at b;split at b
 ·rename_i t e;unfold ze at hp;split at hp<;>simp only[reduceCtorEq]at *<;>try (cases hp;done)
  cases hp;have h:=(c.sim.fresh σ.S.n (xad _)).2;obtain⟨f,g⟩:=c.made (.map #[] 0) (sz:=0) (N:=1) (ao:=.map []) ⟨by simp,#[],0,zcu,rfl,.nil,rfl,qV.nil 0⟩;refine⟨.map (some w.heap.size),_,_,ρ,.inl ?_,f,g,(Rep.mp (sz:=0) (N:=1) (by simp[Gh.made])).trep⟩;rw[zAp _ _ e];simp only[Instr.makeMap,Option.map_none,xag,run_newObj,xac,xah];rfl
 ·cases b
theorem zuu{k:Value}{x:Value}(h:qO k x=some false):x≠k:=by
 rintro rfl;cases x with
 |string s=>simp only[qO,Option.some.injEq]at h;rw[zbf.2 rfl]at h;cases h
 |int k n=>simp[qO]at h
 |_=>simp[qO]at h
theorem zrf{k:Value}:∀{l:List (Value×AV)} {i:Nat},qy k l i=some none->k∉l.map (·.1)
 |[],_,_=>by simp
 |(x,v)::l,i,h=>by
  simp only[qy]at h;split at h
  ·cases h
  ·rename_i b;have c:=zuu b;have d:=zrf h;simp only[xao,xaz,not_or];exact⟨fun e=>c e.symm,d⟩
  ·cases h
theorem Fr.writeMap(f:Fr A D G ρ σ a w){id:Nat}{es es':List (Value×AV)}{x:Nat×Nat×Nat}(i:σ.S.ro<=id)(g:σ.S.heap id=some (.map es))(k:G.ι id=some x){ms':Array MapEntry}{c':Nat}
 (u:es'.map (·.1)=ms'.toList.map (·.key)) (v:zx G w (es'.map (·.2)) (ms'.toList.map (·.val))) (z:(es'.all fun e=>jw e.1)=true) (l:qV ms' c'):
 Fr A D G ρ {σ with S:=σ.S.set id (some (.map es'))} a {w with heap:=w.heap.setIfInBounds x.1 (.map ms' c')}/\Ext D G w G {w with heap:=w.heap.setIfInBounds x.1 (.map ms' c')}:=by
 obtain⟨y,r,B⟩:=f.sim.obj id _ g;rw[k]at r;cases r;obtain⟨s,ms,I,C,_⟩:=B;obtain⟨E,F,H⟩:=zrA (o:=.map ms' c') C;have m:=f.less (hp:=(σ.S.set id none).heap) (by intro j o t;simp only[AS.set]at t;split at t<;>simp_all);have c:=f.free_kill i g k s;obtain⟨p,d⟩:=Fr.write (b:=x.1) m c (Nat.le_of_eq H.symm) F ⟨rfl,rfl,rfl⟩;refine⟨?_,d⟩;have q:id<σ.S.n:=by
  rcases Nat.lt_or_ge id σ.S.n with h|h
  ·exact h
  ·rw[(f.sim.fresh id h).1]at g;cases g
 have this:Fr A D G ρ {σ with S:=(σ.S.set id none).set id (some (.map es'))} a _:=
  p.take (id:=id) k (by simp[AS.set]) q (fun _=>c) ⟨s,ms',c',E,u,v.mono d.toLe,z,l⟩
 rw[set_set]at this;exact this
theorem zCq(O:Fr A D G ρ σ a w){o:Oper}{str:Bool}{xs:List zo}(c:yw P G.K o.op (.mapset str) xs=true){vs:List AV}(W:evs A σ.tm xs=some vs)
 {v:AV} {X:Option (Nat×List AV)} {S':AS} (hp:ze (.mapset str) o.dst σ.rg σ.S vs=some (v,X,S')):qh P A D G ({σ with S:=S'}.regs X) a w (execOp a.eval o) v:=by
 have n:∀{t m k x},zdF P t=some str->zO G.K xs [m,k,x]=true->(execOp a.eval o=(do Instr.mapUpdate t (a.eval m) (a.eval k) (a.eval x);Pure.pure .skip))->qh P A D G ({σ with S:=S'}.regs X) a w (execOp a.eval o) v:=by
  intro t m k x Y c z;obtain⟨kt,et,d,p⟩:=zi9 Y;have B:=yv O c W;unfold ze at hp;split at hp<;>simp only[reduceCtorEq,AOp.mapset.injEq]at *<;>try (cases hp;done)
  rename_i ad id g u Z;subst Z;split at hp
  ·rename_i hc;obtain⟨C,E,F⟩:=hc;split at hp
   ·rename_i aes hh;cases Q:qy g aes 0 with
    |none=>rw[Q]at hp;cases hp
    |some f=>
     rw[Q]at hp;simp only[xam,Option.some.injEq,Prod.mk.injEq]at hp;obtain⟨rfl,rfl,rfl⟩:=hp;generalize H:List.map a.eval [m,k,x]=ys at B;cases B with
     |cons hM ht=>
      cases ht with
      |cons hKv ht=>
       cases ht with
       |cons hV ht=>
        cases ht;rename_i xm xk T;simp only[xao,List.map_nil,xak,and_true]at H;obtain⟨em,ek,ev⟩:=H;have I:=hKv.sc;have J:jw g=true:=by have h':Rep G w (.sc g) _:=hKv;cases h';assumption
        have L:=hV.rep E;obtain⟨b,sz,N,r,e1⟩:=Rep.mp_inv (x:=xm) hM;obtain⟨yy,hy,aa⟩:=O.sim.obj id _ hh;rw[r]at hy;cases hy;obtain⟨_,ms,cl,U,V,m3,m4,m5⟩:=aa;rcases ziK p.kind F V m3 Q with⟨rfl,hn⟩|⟨j,av,uu,rfl,hn,ae,_,M,hb⟩
        ·obtain⟨k1,k2⟩:=O.writeMap (es':=aes++[(g,u)]) (ms':=ms.push {key:=g,val:=T,born:=cl}) (c':=cl+1) C hh r (by simp[V]) (by
          simp only[List.map_append,xao,List.map_nil,Array.toList_push];exact m3.append (.cons L .nil)) (by simpa[J]using m4) (m5.push (by rw[<-V];exact zrf Q))
         refine⟨undef,_,G,ρ,.inr ⟨?_,rfl⟩,k1,k2,Rep.trep .junk⟩;rw[z,em,ek,ev,e1,I];simp only[Instr.mapUpdate,xag,und p.map,xac,zaf U,za1 p _ 9999,za3 p.key hn,zeb U,xah]
        ·have y:(ms.toList[j]?).map (·.key)=some g:=by simpa using M
         have i:j<ms.size:=by
          rcases Nat.lt_or_ge j ms.size with h|h
          ·exact h
          ·rw[xap (by simpa using h)]at y;cases y
         obtain⟨k1,k2⟩:=O.writeMap (es':=aes.set j (g,u)) (ms':=ms.modify j fun e=>{e with key:=g,val:=T}) (c':=cl) C hh r (by
          rw[List.map_set,V];apply List.ext_getElem?;intro q;rw[xaw,xat,xat,Array.toList_modify];by_cases l:j=q
          ·subst l;simp[i]
          ·simp[l,List.getElem?_modify]) (by
          rw[List.map_set];have e2:List.map (fun x=>x.val) (ms.modify j fun e=>{e with key:=g,val:=T}).toList=(ms.toList.map (·.val)).set j T:=by
           apply List.ext_getElem?;intro q;rw[xaw,xat,Array.toList_modify];by_cases l:j=q
           ·subst l;simp[i]
           ·simp[l,List.getElem?_modify]
          rw[e2];exact m3.set L j) (by
          rw[List.all_eq_true]at m4 ⊢;intro e' ab;rcases List.mem_or_eq_of_mem_set ab with h|rfl
          ·exact m4 e' h
          ·exact J) (m5.same (by
          apply List.ext_getElem?;intro q;rw[xat,xat,Array.toList_modify];by_cases l:j=q
          ·subst l;simp[i]
          ·simp[l,List.getElem?_modify]) (by
          apply List.ext_getElem?;intro q;rw[xat,xat,Array.toList_modify];by_cases l:j=q
          ·subst l;rw[List.getElem?_modify_eq,y];cases ac:ms.toList[j]? with
           |none=>rw[ac]at y;cases y
           |some e=>rfl
          ·simp[l,List.getElem?_modify]))
         refine⟨undef,_,G,ρ,.inr ⟨?_,rfl⟩,k1,k2,Rep.trep .junk⟩;rw[z,em,ek,ev,e1,I];have s:(Instr.keyThatStays (((ms[j]?).map (·.key)).getD g) g).run P w=.ok g w:=by
          have:(ms[j]?).map (·.key)=some g:=by simpa using y
          rw[this];simp only[Instr.keyThatStays,Option.getD_some,hb,if_true,xah]
         simp only[Instr.mapUpdate,xag,und p.map,xac,zaf U,za1 p _ 9999,za3 p.key hn,s,zeb U,xah]
   ·cases hp
  ·cases hp
 simp only[yw]at c;split at c
 ·rename_i t m k x ho;simp only[xab,beq_iff_eq]at c;exact n c.1 c.2 (zAr _ _ ho)
 ·rename_i t m k x ho;simp only[xab,beq_iff_eq]at c;exact n c.1 c.2 (zAl _ _ ho)
 ·cases c
theorem zCj(f:Fr A D G ρ σ a w){o:Oper}{xs:List zo}(c:yw P G.K o.op .clearM xs=true){vs:List AV}(g:evs A σ.tm xs=some vs)
 {v:AV} {m:Option (Nat×List AV)} {S':AS} (hp:ze .clearM o.dst σ.rg σ.S vs=some (v,m,S')):qh P A D G ({σ with S:=S'}.regs m) a w (execOp a.eval o) v:=by
 simp only[yw]at c;split at c
 ·rename_i as ts u;simp only[xab]at c;obtain⟨e,c⟩:=c;have h:=yv f c g;unfold zdB at e;split at e
  ·rename_i t i;obtain⟨kt,n,y⟩:∃kt n,P.underlying t=some (.map kt n):=by split at e<;>simp_all
   unfold ze at hp;split at hp<;>simp only[reduceCtorEq]at *<;>try (cases hp;done)
   rename_i id z;split at hp
   ·rename_i j;split at hp
    ·rename_i aes p;cases hp;obtain⟨B,k,C⟩:=TL.one_of h;obtain⟨b,sz,N,d,E⟩:=Rep.mp_inv (x:=B) C;obtain⟨I,q,l⟩:=f.sim.obj id _ p;rw[d]at q;cases q;obtain⟨_,ms,r,s,_⟩:=l;obtain⟨F,H⟩:=f.writeMap (es':=[]) (ms':=#[]) (c':=r) j p d rfl .nil rfl (qV.nil r);refine⟨.tuple #[],_,G,ρ,.inl ?_,F,H,(Rep.tup .nil).trep⟩;rw[vI u,zcA k,E];simp only[builtin,Builtin.clear_,i,List.getElem?_toArray,xas,xag,und y,zaf s,zeb s,xac,xah]
    ·cases hp
   ·cases hp
  ·cases e
 ·cases c
theorem zb2{ms:Array MapEntry}{j:Nat}:(ms.eraseIdxIfInBounds j).toList=ms.toList.eraseIdx j:=by
 unfold Array.eraseIdxIfInBounds;split
 ·simp
 ·rename_i h;rw[List.eraseIdx_of_length_le (by simpa using Nat.le_of_not_lt h)]
theorem zfD{α β:Type}(f:α->β):∀(l:List α) (j:Nat),(l.eraseIdx j).map f=(l.map f).eraseIdx j
 |[],_=>rfl
 |_::_,0=>rfl
 |a::l,j+1=>by simp only[List.eraseIdx_cons_succ,xao,zfD f l j]
theorem ztp{G:Gh}{w:World}:∀{l:List AV} {m:List Value} (j:Nat),zx G w l m->zx G w (l.eraseIdx j) (m.eraseIdx j)
 |_,_,_,.nil=>.nil
 |_,_,0,.cons _ t=>t
 |_,_,j+1,.cons h t=>.cons h (ztp j t)
theorem zCp(r:Fr A D G ρ σ a w){o:Oper}{str:Bool}{xs:List zo}(c:yw P G.K o.op (.mapdel str) xs=true){vs:List AV}(u:evs A σ.tm xs=some vs)
 {v:AV} {O:Option (Nat×List AV)} {S':AS} (hp:ze (.mapdel str) o.dst σ.rg σ.S vs=some (v,O,S')):qh P A D G ({σ with S:=S'}.regs O) a w (execOp a.eval o) v:=by
 simp only[yw]at c;split at c
 ·rename_i as ts Q;simp only[xab]at c;obtain⟨g,c⟩:=c;split at g
  ·rename_i t l;simp only[beq_iff_eq]at g;obtain⟨kt,et,d,i⟩:=zi9 g;have m:=yv r c u;unfold ze at hp;split at hp<;>simp only[reduceCtorEq,AOp.mapdel.injEq]at *<;>try (cases hp;done)
   rename_i T id kv y;subst y;split at hp
   ·rename_i hc;obtain⟨n,p⟩:=hc;split at hp
    ·rename_i aes z;cases B:qy kv aes 0 with
     |none=>rw[B]at hp;cases hp
     |some f=>
      rw[B]at hp;simp only[xam,Option.some.injEq,Prod.mk.injEq]at hp;obtain⟨rfl,rfl,rfl⟩:=hp;generalize C:List.map a.eval as.toList=ys at m;cases m with
      |cons hM g=>
       cases g with
       |cons hKv g=>
        cases g;rename_i U xk;have q:=hKv.sc;obtain⟨b,sz,N,k,V⟩:=Rep.mp_inv (x:=U) hM;obtain⟨yy,W,E⟩:=r.sim.obj id _ z;rw[k]at W;cases W;obtain⟨_,ms,X,s,F,H,I,Y⟩:=E;have h:as.map a.eval=#[U,xk]:=by
         apply Array.toList_inj.1;rw[Array.toList_map,C]
        rcases ziK i.kind p F H B with⟨rfl,J⟩|⟨j,av,uu,rfl,J,Z,_,aa,hb⟩
        ·obtain⟨L,M⟩:=r.writeMap (es':=aes) (ms':=ms) (c':=X) n z k F H I Y;refine⟨.tuple #[],_,G,ρ,.inl ?_,L,M,(Rep.tup .nil).trep⟩;rw[vI Q,h,V,q];simp only[builtin,Builtin.delete_,l,List.getElem?_toArray,xas,List.getElem?_cons_succ,xag,und i.map,zaf s,za1 i _ 9999,za3 i.key J,zeb s,xac,xah]
        ·obtain⟨L,M⟩:=r.writeMap (es':=aes.eraseIdx j) (ms':=ms.eraseIdxIfInBounds j) (c':=X) n z k (by rw[zb2,zfD,zfD,F])
          (by rw[zb2,zfD,zfD];exact ztp j H) (by
           rw[List.all_eq_true]at I ⊢;intro e he;exact I e (List.mem_of_mem_eraseIdx he)) (Y.sub (by rw[zb2];exact List.eraseIdx_sublist _ _))
         refine⟨.tuple #[],_,G,ρ,.inl ?_,L,M,(Rep.tup .nil).trep⟩;rw[vI Q,h,V,q];simp only[builtin,Builtin.delete_,l,List.getElem?_toArray,xas,List.getElem?_cons_succ,xag,und i.map,zaf s,za1 i _ 9999,za3 i.key J,zeb s,xac,xah]
    ·cases hp
   ·cases hp
  ·cases g
 ·cases c
end
section
variable{A:zA}{D:Nat->Prop}{G:Gh}{ρ:Nat->Option Nat}{σ:ASt}{a:Act}{w:World}{P:Program}{rg:Nat->Option (List AV)}
theorem zK.flat_take{sz:Nat}{rs:List (List AV)}{vs:List (List Value)}(h:zK G w sz rs vs)(p:Nat):(vs.take p).flatten=vs.flatten.take (p*sz):=by
 induction p generalizing rs vs with
 |zero=>simp
 |succ p ih=>
  cases h with
  |nil=>simp
  |cons h e c t=>
   rename_i r rs v vs;have b:=h.length;simp only[List.take_succ_cons,List.flatten_cons,ih t];rw[show(p+1)*sz=v.length+p*sz by rw[<-b,e,Nat.add_mul];omega];rw[List.take_append,List.take_of_length_le (show v.length<=v.length+p*sz by omega),Nat.add_sub_cancel_left]
theorem zK.flat_drop{sz:Nat}{rs:List (List AV)}{vs:List (List Value)}(h:zK G w sz rs vs)(p:Nat):(vs.drop p).flatten=vs.flatten.drop (p*sz):=by
 induction p generalizing rs vs with
 |zero=>simp
 |succ p ih=>
  cases h with
  |nil=>simp
  |cons h e c t=>
   rename_i r rs v vs;have b:=h.length;simp only[List.drop_succ_cons,List.flatten_cons,ih t];rw[show(p+1)*sz=v.length+p*sz by rw[<-b,e,Nat.add_mul];omega];rw[List.drop_append,xaB (show v.length<=v.length+p*sz by omega),Nat.add_sub_cancel_left,List.nil_append]
theorem zK.oneCells{sz:Nat}{rs:List (List AV)}{vs:List (List Value)}(h:zK G w sz rs vs):∀u∈vs.flatten,u.oneCell'=true:=by
 intro u f;obtain⟨l,b,d⟩:=List.mem_flatten.1 f;clear f
 induction vs generalizing rs with
 |nil=>simp at b
 |cons v vs ih=>
  cases h with
  |cons h e c t=>
   rcases xaz.1 b with rfl|b
   ·exact c u d
   ·exact ih t b
theorem zHV{sz N p:Nat}{rs ys:List (List AV)}{vs us:List (List Value)}{c:Array Value}(h:zK G w sz rs vs)(i:vs.flatten=c.toList.take (rs.length*sz))(m:zK G w sz ys us)(r:c.size=N*sz)(n:rs.length<=N)(hp:p<=rs.length)(q:p+ys.length<=N):
 ∃vs',zK G w sz (qF rs p ys) vs'/\vs'.flatten=(c.toList.take (p*sz)++us.flatten++c.toList.drop (p*sz+us.flatten.length)).take ((qF rs p ys).length*sz)/\(qF rs p ys).length<=N/\p*sz+us.flatten.length<=c.size:=by
 have f:us.flatten.length=ys.length*sz:=m.flat_length;have j:(p+ys.length)*sz<=N*sz:=Nat.mul_le_mul_right sz q;have s:rs.length*sz<=N*sz:=Nat.mul_le_mul_right sz n;have k:p*sz<=rs.length*sz:=Nat.mul_le_mul_right sz hp;rw[Nat.add_mul]at j;have d:(qF rs p ys).length=max rs.length (p+ys.length):=by
  unfold qF;simp only[xaC,List.length_take,List.length_drop];simp only[Nat.max_def];split<;>omega
 refine⟨vs.take p++us++vs.drop (p+ys.length),((h.take p).append m).append (h.drop _),?_,by rw[d];exact Nat.max_le.2 ⟨n,q⟩,by omega⟩;rw[List.flatten_append,List.flatten_append,h.flat_take,h.flat_drop,i,d,f,Nat.add_mul];have t:c.toList.length=N*sz:=by simpa using r
 by_cases g:p+ys.length<=rs.length
 ·rw[Nat.max_eq_left g];have b:(p+ys.length)*sz<=rs.length*sz:=Nat.mul_le_mul_right sz g;rw[Nat.add_mul]at b;have:=zuV (l:=c.toList) (us:=us.flatten) (p:=p*sz) (L:=rs.length*sz) (by omega) (by omega);rw[f]at this;rw[this]
 ·rw[Nat.max_eq_right (by omega),Nat.add_mul];have b:rs.length*sz<=(p+ys.length)*sz:=Nat.mul_le_mul_right sz (by omega);rw[Nat.add_mul]at b;rw[List.take_take,Nat.min_eq_left k,xaB (as:=c.toList.take (rs.length*sz)) (by rw[List.length_take];omega),List.append_nil];have e:(c.toList.take (p*sz)++us.flatten).length=p*sz+ys.length*sz:=by rw[xaC,List.length_take];omega
  rw[<-e,List.take_left]
theorem zmF(hS:Sim G σ.S w){sz:Nat}{v:AV}{x:Value}(t:Rep G w v x){ys:List (List AV)}(d:zD sz σ.S v=some ys):
 ∃ad c us,x=.slice ad ys.length c/\zK G w sz ys us/\(ys=[]\/∃b off,ad=some ⟨b,off,none⟩/\∀j u,us.flatten[j]?=some u->w.cell? ⟨b,off+j,none⟩=some u):=by
 unfold zD at d;split at d
 ·rename_i z full xs;split at d
  ·rename_i m;cases d;obtain⟨ad,c,h,B,Q,g⟩:=t.lst_inv;rcases g with rfl|⟨b,off,us,rfl,p,q⟩
   ·exact⟨ad,c,[],h,.nil,.inl rfl⟩
   ·simp only[Bool.or_eq_true,decide_eq_true_eq,List.isEmpty_iff]at m;rcases m with rfl|rfl
    ·exact⟨_,c,us,h,q,.inr ⟨b,off,rfl,fun j u f=>(p j u f).2⟩⟩
    ·exact⟨_,c,[],h,.nil,.inl rfl⟩
  ·cases d
 ·rename_i id z off n lim;split at d
  ·rename_i m;subst m;unfold AS.slice at d;rw[if_pos (Nat.zero_le _)]at d;split at d
   ·rename_i sz' rs F;split at d
    ·rename_i B;obtain⟨rfl,H⟩:=B;cases d;obtain⟨b,N,ad,I,T,U,C,h⟩:=t.arr_inv;obtain⟨y,i,J⟩:=hS.obj id _ F;rw[I]at i;cases i;have k:((rs.drop off).take n).length=n:=by simp;omega
     rw[k];by_cases L:n=0
     ·subst L;exact⟨ad,_,[],h,by simpa using .nil,.inl (by simp)⟩
     ·rcases C with C|rfl
      ·omega
      ·have r:(rs[off]?).isSome:=by simp;omega
       obtain⟨row,l⟩:=Option.isSome_iff_exists.1 r;obtain⟨_,E,e,vs,u,M,V,s,O,_⟩:=zbG J l;refine⟨_,_,(vs.drop off).take n,h,(s.drop off).take n,.inr ⟨b,off*sz',rfl,?_⟩⟩;intro j u f;rw[(s.drop off).flat_take,s.flat_drop,O,xaq]at f;split at f
       ·rw[List.getElem?_drop,xaq]at f;split at f
        ·simp only[World.cell?,M];simpa using f
        ·cases f
       ·cases f
    ·cases d
   ·cases d
  ·cases d
 ·cases d
theorem zea{sz n:Nat}{ad:Option Addr}{c:Nat}{us:List Value}(d:us.length=n*sz)(h:n=0\/∃b off,ad=some ⟨b,off,none⟩/\∀j u,us[j]?=some u->w.cell? ⟨b,off+j,none⟩=some u):
 (Builtin.firstCells sz n (.slice ad n c)).run P w=.ok us.toArray w:=by
 cases ad with
 |none=>
  rcases h with rfl|⟨b,off,e,_⟩
  ·simp at d;subst d;rfl
  ·cases e
 |some ad=>
  simp only[Builtin.firstCells];rw[<-d];apply run_loadCells_list;intro j u f;rcases h with rfl|⟨b,off,e,g⟩
  ·simp at d;subst d;simp at f
  ·cases e;rw[zao];exact g j u f
structure zf7(P:Program)(ts:Array TypeId)(sz bytes:Nat)(t0 t1 e:TypeId)(d1:TypeDesc)(i:TypeInfo)(z:Value):Prop where
 ht0:ts[0]?=some t0
 ht1:ts[1]?=some t1
 hu0:P.underlying t0=some (.slice e)
 hu1:P.underlying t1=some d1
 hn1:zaN d1=false
 hinf:P.info? e=some i
 hsize:i.size=sz
 hpos:0<sz
 hbytes:i.bytes=bytes
 hbpos:0<bytes
 hzero:i.zero=some z
 hzsize:z.cells.size=sz
theorem zsz(b cap:Nat)(h:cap<b):Builtin.nextslicecap b cap<=2*b:=by
 unfold Builtin.nextslicecap;split
 ·omega
 ·split
  ·omega
  ·rename_i g i;have e:∀d c:Nat,c<=2*b->Builtin.growBy b d c<=2*b:=by
    intro d
    induction d with
    |zero=>intro c f;simpa[Builtin.growBy]using f
    |succ n ih=>
     intro c f;simp only[Builtin.growBy];split
     ·exact f
     ·exact ih _ (by omega)
   exact e 4 cap (by omega)
theorem ztK{ts:Array TypeId}{sz bytes:Nat}{t0 t1 e:TypeId}{k:TypeDesc}{i:TypeInfo}{z:Value}(hT:zf7 P ts sz bytes t0 t1 e k i z){ty:TypeId}{d:Option Addr}{sLen sCap n xc b off:Nat}{us:List Value}{w':World}
 (l:us.length=n*sz) (m:n=0\/∃b off,d=some ⟨b,off,none⟩/\∀j u,us[j]?=some u->w.cell? ⟨b,off+j,none⟩=some u) (c:sLen+n<=sCap)
 (f:(storeCells (⟨b,off+sLen*sz,none⟩:Addr) us).run P w=.ok () w'):
 (Builtin.append_ ts ty #[.slice (some ⟨b,off,none⟩) sLen sCap,.slice d n xc]).run P w=.ok (.slice (some ⟨b,off,none⟩) (sLen+n) sCap) w':=by
 have p:yS P e=some sz:=by unfold yS;rw[hT.hinf];simp[hT.hsize]
 have g:=hT.hu1;have h:=hT.hn1;cases k<;>first
  |(simp[zaN]at h;done)
  |simp only[Builtin.append_,hT.ht0,hT.ht1,List.getElem?_toArray,xas,List.getElem?_cons_succ,xag,und hT.hu0,und g,xac,siz p,xah,xau,if_false,Builtin.lenOf,
   if_pos c,Bool.not_false,if_true,zea (P:=P) l m,zao,f]
theorem zmH{ts:Array TypeId}{sz bytes:Nat}{t0 t1 e:TypeId}{g:TypeDesc}{i:TypeInfo}{z:Value}(hT:zf7 P ts sz bytes t0 t1 e g i z){ty:TypeId}{base c:Option Addr}{sLen sCap xc:Nat}(b:sLen<=sCap):
 (Builtin.append_ ts ty #[.slice base sLen sCap,.slice c 0 xc]).run P w=.ok (.slice base sLen sCap) w:=by
 have h:yS P e=some sz:=by unfold yS;rw[hT.hinf];simp[hT.hsize]
 have j:(Builtin.firstCells sz 0 (.slice c 0 xc)).run P w=.ok #[] w:=zea (P:=P) (us:=[]) (by simp) (.inl rfl);have d:=hT.hu1;have f:=hT.hn1;cases base<;>cases g<;>first
  |(simp[zaN]at f;done)
  |simp only[Builtin.append_,hT.ht0,hT.ht1,List.getElem?_toArray,xas,List.getElem?_cons_succ,xag,und hT.hu0,und d,xac,siz h,xah,xau,if_false,Builtin.lenOf,
   Nat.add_zero,if_pos b,Bool.not_false,if_true,j,storeCells]
theorem zmG{ts:Array TypeId}{sz bytes:Nat}{t0 t1 e:TypeId}{v:TypeDesc}{i:TypeInfo}{z:Value}(hT:zf7 P ts sz bytes t0 t1 e v i z){ty:TypeId}{base c:Option Addr}{sLen sCap n xc:Nat}{os us:List Value}
 (y:us.length=n*sz) (B:n=0\/∃b off,c=some ⟨b,off,none⟩/\∀j u,us[j]?=some u->w.cell? ⟨b,off+j,none⟩=some u)
 (g:os.length=sLen*sz) (C:sLen=0\/∃b off,base=some ⟨b,off,none⟩/\∀j u,os[j]?=some u->w.cell? ⟨b,off+j,none⟩=some u)
 (d:sCap<sLen+n) (x:(sLen+n)*bytes<=140737488355328):
 ∃newCap rest,sLen+n<=newCap/\rest.length=(newCap-(sLen+n))*sz/\
  (Builtin.append_ ts ty #[.slice base sLen sCap,.slice c n xc]).run P w=.ok (.slice (some ⟨w.heap.size,0,none⟩) (sLen+n) newCap) (w.drew.alloc (.cells (os++us++rest).toArray e)):=by
 have E:yS P e=some sz:=by unfold yS;rw[hT.hinf];simp[hT.hsize]
 have h:=zsz (sLen+n) sCap d;have f:¬(Builtin.nextslicecap (sLen+n) sCap*bytes > 2^48):=by
  have I:=Nat.mul_le_mul_right bytes h;have J:(2:Nat)^48=281474976710656:=by decide
  have L:2*(sLen+n)*bytes=2*((sLen+n)*bytes):=Nat.mul_assoc _ _ _;omega
 have k:¬bytes=0:=by have:=hT.hbpos;omega
 refine⟨Question.cut (.appendCap (sLen+n) sCap e) (w.tape w.drawn (.appendCap (sLen+n) sCap e)),(Builtin.zeroCells z.cells (Question.cut (.appendCap (sLen+n) sCap e) (w.tape w.drawn (.appendCap (sLen+n) sCap e))-(sLen+n))).toList,?_,?_,?_⟩
 ·simp only[Question.cut];omega
 ·simp[Builtin.zeroCells,hT.hzsize]
 ·have l:n=0\/∃b off,c=some ⟨b,off,none⟩/\∀j u,us[j]?=some u->w.drew.cell? ⟨b,off+j,none⟩=some u:=B;have m:sLen=0\/∃b off,base=some ⟨b,off,none⟩/\∀j u,os[j]?=some u->w.drew.cell? ⟨b,off+j,none⟩=some u:=C;have F:(typeInfo e).run P w=.ok i w:=inf hT.hinf;have p:(zeroValue e).run P w.drew=.ok z w.drew:=zer hT.hinf hT.hzero;have q:=hT.hu1;have r:=hT.hn1;have s:=hT.hbytes;have H:∀Z:Array Value,os.toArray++us.toArray++Z=(os++us++Z.toList).toArray:=by intro Z;apply Array.toList_inj.1;simp
  have t:(Question.appendCap (sLen+n) sCap e).forced=false:=rfl;cases v<;>first
   |(simp[zaN]at r;done)
   |(simp only[Builtin.append_,hT.ht0,hT.ht1,List.getElem?_toArray,xas,List.getElem?_cons_succ,xag,und hT.hu0,und q,xac,siz E,xah,xau,if_false,Builtin.lenOf,
    if_neg (show ¬(sLen+n<=sCap)by omega),F,s,k,or_false,and_false,if_neg f,run_choose,t,run_askRoom,Bool.not_false,if_true,World.drew_eq,inf hT.hinf,zea (P:=P) g m,zea (P:=P) y l,p,newRow,run_newObj,World.size_drew,H]
     rfl)
end
section
variable{A:zA}{D:Nat->Prop}{G:Gh}{ρ:Nat->Option Nat}{σ:ASt}{a:Act}{w:World}{P:Program}{rg:Nat->Option (List AV)}
theorem Fr.overRows(f:Fr A D G ρ σ a w){id sz b N p:Nat}{rs ys:List (List AV)}{us:List (List Value)}(g:σ.S.ro<=id)(r:σ.S.heap id=some (.rows sz rs))(s:G.ι id=some (b,sz,N))(t:zK G w sz ys us)(hp:p<=rs.length)(z:p+ys.length<=N)(B:0<N):
 Fr A D G ρ {σ with S:=σ.S.set id none} a (w.setCells b (p*sz) us.flatten)/\Ext D G w G (w.setCells b (p*sz) us.flatten)/\j7 D G ρ {σ with S:=σ.S.set id none} b/\
  (∀G',Le G w G' (w.setCells b (p*sz) us.flatten)->vl G' (w.setCells b (p*sz) us.flatten) (b,sz,N) (.rows sz (qF rs p ys)))/\
  (∀P:Program,(storeCells (⟨b,p*sz,none⟩:Addr) us.flatten).run P w=.ok () (w.setCells b (p*sz) us.flatten)):=by
 obtain⟨y,u,C⟩:=f.sim.obj id _ r;rw[s]at u;cases u;obtain⟨_,h,v,i⟩:=C;simp only at v i;rcases i with i|⟨c,e,vs,k,E,F,H⟩
 ·omega
 ·obtain⟨vs',I,J,L,M⟩:=zHV F H t E v hp z;obtain⟨O,Q,T⟩:=znk (w:=w) (b:=b) (off:=p*sz) (us:=us.flatten) k M;have l:=f.less (hp:=(σ.S.set id none).heap) (by intro j o x;simp only[AS.set]at x;split at x<;>simp_all);have d:=f.free_kill g r s B;obtain⟨m,n⟩:=Fr.write (b:=b) l d (Nat.le_of_eq T.symm) Q (zi2 _ _ _ _);refine⟨m,n,d,?_,?_⟩
  ·intro G' q;refine⟨rfl,h,L,.inr ⟨_,e,vs',O,?_,I.mono q,?_⟩⟩
   ·simp only[List.size_toArray,xaC,List.length_take,List.length_drop,Array.length_toList];omega
   ·rw[J]
  ·intro P;have:=run_storeCells_cells (P:=P) b (p*sz) us.flatten 0 w (by
    intro j U;simp only[World.cell?,k,Nat.add_zero];simp[show p*sz+j<c.size by omega]) (by
    intro j U;simp only[World.frozen?,k];simp) t.oneCells
   simpa using this
theorem zAZ(c:Fr A D G ρ σ a w){id:Nat}{o:yX}(b:σ.S.heap id=some o):id<σ.S.n:=by
 rcases Nat.lt_or_ge id σ.S.n with h|h
 ·exact h
 ·rw[(c.sim.fresh id h).1]at b;cases b
theorem Fr.setRows'(d:Fr A D G ρ σ a w){id sz b N p:Nat}{rs ys:List (List AV)}{us:List (List Value)}(c:σ.S.ro<=id)(e:σ.S.heap id=some (.rows sz rs))(f:G.ι id=some (b,sz,N))(h:zK G w sz ys us)(hp:p<=rs.length)(i:p+ys.length<=N)(j:0<N):
 Fr A D G ρ {σ with S:=σ.S.set id (some (.rows sz (qF rs p ys)))} a (w.setCells b (p*sz) us.flatten)/\Ext D G w G (w.setCells b (p*sz) us.flatten)/\(∀P:Program,(storeCells (⟨b,p*sz,none⟩:Addr) us.flatten).run P w=.ok () (w.setCells b (p*sz) us.flatten)):=by
 obtain⟨k,g,l,m,n⟩:=d.overRows c e f h hp i j;refine⟨?_,g,n⟩;have this:Fr A D G ρ {σ with S:=(σ.S.set id none).set id (some (.rows sz (qF rs p ys)))} a _:=k.take (id:=id) f (by simp[AS.set]) (zAZ d e) (fun _=>l) (m G g.toLe);rw[set_set]at this;exact this
theorem Fr.grown(k:Fr A D G ρ σ a w){sz newCap:Nat}{rs:List (List AV)}{us:List (List Value)}{rest:List Value}{e:Nat}(i:zK G w sz rs us)(f:0<sz)(j:rs.length<=newCap)(b:rest.length=(newCap-rs.length)*sz):
 ∃G',Fr A D G' ρ {σ with S:=σ.S.new (.rows sz rs)} a (w.drew.alloc (.cells (us.flatten++rest).toArray e))/\Ext D G w G' (w.drew.alloc (.cells (us.flatten++rest).toArray e))/\
  Rep G' (w.drew.alloc (.cells (us.flatten++rest).toArray e)) (.arr σ.S.n sz 0 rs.length none) (.slice (some ⟨w.heap.size,0,none⟩) rs.length newCap):=by
 obtain⟨g,c⟩:=k.same (w':=w.drew) rfl;have l:=(g.sim.fresh σ.S.n (xad _)).2;have h:Le G w.drew (G.made σ.S.n (w.drew.heap.size,sz,newCap)) (w.drew.alloc (.cells (us.flatten++rest).toArray e)):=zfv l g.sim.lt;have d:=i.flat_length;obtain⟨m,p⟩:=g.made (.cells (us.flatten++rest).toArray e) (sz:=sz) (N:=newCap) (ao:=.rows sz rs) (by
  refine⟨rfl,f,j,?_⟩;right;refine⟨_,e,us,zcu,?_,(i.mono c.toLe).mono h,?_⟩
  ·simp only[List.size_toArray,xaC,d,b];rw[<-Nat.add_mul];congr 1;omega
  ·simp only[List.toList_toArray];rw[<-d,List.take_left])
 refine⟨_,m,c.trans p,?_⟩;have:(G.made σ.S.n (w.drew.heap.size,sz,newCap)).ι σ.S.n=some (w.heap.size,sz,newCap):=by simp[Gh.made]
 exact .arr (off:=0) (lim:=none) this (by simpa using j) (xad _) (by simp) (.inr (by simp))
theorem zyy{ts:Array TypeId}{sz bytes:Nat}(h:((match zax P ts with|some e=>(match P.info? e with|some i=>i.size==sz&&decide (0<sz)&&i.bytes==bytes&&decide (0<bytes)&&(match i.zero with|some z=>z.cells.size==sz|none=>false)|none=>false)|none=>false)&&
 (match ts[1]? with|some t=>(match P.underlying t with|some d=>!zaN d|none=>false)|none=>false))=true):∃t0 t1 e l i z,zf7 P ts sz bytes t0 t1 e l i z:=by
 simp only[xab]at h;obtain⟨b,c⟩:=h;split at b
 ·rename_i e m;split at b
  ·rename_i i n;simp only[xab,beq_iff_eq,decide_eq_true_eq]at b;obtain⟨⟨⟨⟨p,q⟩,r⟩,s⟩,f⟩:=b;split at f
   ·rename_i z u;split at c
    ·rename_i t1 g;split at c
     ·rename_i d v;obtain⟨t0,j,k⟩:=zc3 m;exact⟨t0,t1,e,d,i,z,j,g,k,v,by simpa using c,n,p,q,r,s,u,by simpa using f⟩
     ·cases c
    ·cases c
   ·cases f
  ·cases b
 ·cases b
theorem mem_append(U:Fr A D G ρ σ a w){o:Oper}{sz bytes:Nat}{xs:List zo}(F:yw P G.K o.op (.append sz bytes) xs=true){vs:List AV}(ap:evs A σ.tm xs=some vs)
 {v:AV} {ru:Option (Nat×List AV)} {S':AS} (hp:ze (.append sz bytes) o.dst σ.rg σ.S vs=some (v,ru,S')):qh P A D G ({σ with S:=S'}.regs ru) a w (execOp a.eval o) v:=by
 simp only[yw]at F;split at F
 ·rename_i as ts ho;rw[xab]at F;obtain⟨hT,F⟩:=F;obtain⟨t0,t1,e,d1,i,z,hT⟩:=zyy hT;have aq:=yv U F ap;unfold ze at hp;split at hp<;>simp only[reduceCtorEq,AOp.append.injEq]at *<;>try (cases hp;done)
  rename_i sz' ao s x ar;obtain⟨rfl,rfl⟩:=ar;cases hy:zD sz σ.S x with
  |none=>rw[hy]at hp;cases hp
  |some ys=>
   rw[hy]at hp;simp only[xae]at hp;cases d:jq sz bytes σ.S s ys with
   |none=>rw[d]at hp;cases hp
   |some r=>
    rw[d]at hp;simp only[xam,Option.some.injEq,Prod.mk.injEq]at hp;obtain⟨rfl,rfl,rfl⟩:=hp;obtain⟨l,xx,au,H,av⟩:=aq.two_of;have af:=znt au;have aw:x.isReg=false:=by unfold zD at hy;cases x<;>simp_all [AV.isReg]
    obtain⟨ag,xc,us,ex,O,ax⟩:=zmF U.sim (av.rep aw) hy;have V:=O.flat_length;have m:ys.length=0\/∃b off,ag=some ⟨b,off,none⟩/\∀j u,us.flatten[j]?=some u->w.cell? ⟨b,off+j,none⟩=some u:=by
     rcases ax with rfl|h
     ·exact .inl rfl
     ·exact .inr h
    have zH:∀{ad len c q w'},l=.slice ad len c->(Builtin.append_ ts o.type #[.slice ad len c,.slice ag ys.length xc]).run P w=.ok q w'->(execOp a.eval o).run P w=.ok (.value q) w':=by
     intro ad len c q w' t f;rw[vI ho,af,t,ex];simp only[builtin,xag,f,xac,xah]
    show qh P A D G {σ with S:=r.2} a w (execOp a.eval o) r.1;unfold jq at d;split at d
    ·
     rename_i I;have I:ys=[]:=by simpa using I
     subst I;split at d
     ·rename_i J;cases d;obtain⟨ad,c,t,k,hf,_⟩:=Rep.lst_inv (x:=l) H;have ab:c=0:=hf rfl;subst ab;obtain⟨B,C⟩:=U.adopt (x:=(0,sz,0)) (o:=.rows sz []) (fun h=>absurd h (by simp)) ⟨rfl,hT.hpos,by simp,.inl rfl⟩;refine⟨.slice ad 0 0,w,_,ρ,.inl (zH t (zmH hT (xad _))),B,C,?_⟩;have:(G.made σ.S.n (0,sz,0)).ι σ.S.n=some (0,sz,0):=by simp[Gh.made]
      exact(Rep.arr (off:=0) (lim:=none) this (xad _) (xad _) rfl (.inl rfl)).trep
     ·cases d;obtain⟨ad,c,t,k,hf,_⟩:=Rep.lst_inv (x:=l) H;exact⟨l,w,G,ρ,.inl (by rw[t];exact zH t (zmH hT k)),U,Ext.refl _ _ _,H⟩
     ·cases d;obtain⟨b,N,ad,W,ay,hN,ha,t⟩:=Rep.arr_inv (x:=l) H;exact⟨l,w,G,ρ,.inl (by rw[t];exact zH t (zmH hT (by omega))),U,Ext.refl _ _ _,H⟩
     ·cases d
    ·rename_i I;have I:ys≠[]:=by simpa using I
     have bh:0<ys.length:=List.length_pos_iff.2 I;split at d
     ·
      rename_i J Q;split at d
      ·rename_i k;simp only[xab,Bool.or_eq_true,List.isEmpty_iff,beq_iff_eq,decide_eq_true_eq]at k;obtain⟨hz,X⟩:=k;cases d;obtain⟨ad,c,t,k,hf,ac⟩:=Rep.lst_inv (x:=l) H;have ab:c=Q.length:=hf rfl;subst ab;obtain⟨os,T,L⟩:∃os,zK G w sz Q os/\(Q.length=0\/∃b off,ad=some ⟨b,off,none⟩/\∀j u,os.flatten[j]?=some u->w.cell? ⟨b,off+j,none⟩=some u):=by
        rcases ac with rfl|⟨b,off,os,rfl,az,ba⟩
        ·exact⟨[],.nil,.inl rfl⟩
        ·rcases hz with rfl|rfl
         ·exact⟨[],.nil,.inl rfl⟩
         ·exact⟨os,ba,.inr ⟨b,off,rfl,fun j u hj=>(az j u hj).2⟩⟩
       obtain⟨newCap,rest,Y,Z,f⟩:=zmG (ty:=o.type) (w:=w) (base:=ad) (sCap:=Q.length) (xc:=xc) hT (os:=os.flatten) (us:=us.flatten) (sLen:=Q.length) (n:=ys.length) V m T.flat_length L (by omega) X;obtain⟨G',B,C,E⟩:=U.grown (rs:=Q++ys) (us:=os++us) (rest:=rest) (e:=e) (newCap:=newCap) (T.append O) hT.hpos (by simpa using Y) (by simpa using Z);simp only[List.flatten_append,xaC]at B C E;exact⟨_,_,G',ρ,.inl (zH t f),B,C,E.trep⟩
      ·cases d
     ·rename_i id J off len lim;split at d
      ·rename_i zz rs hh;split at d
       ·cases d
       ·rename_i k;simp only[ne_eq,not_or,Decidable.not_not,Nat.not_lt]at k;obtain⟨rfl,rfl,ah,bc⟩:=k;obtain⟨b,N,ad,W,ay,hN,ha,t⟩:=Rep.arr_inv (x:=l) H;obtain⟨y,ai,aj⟩:=U.sim.obj id _ hh;rw[W]at ai;cases ai;have hR:rs.length<=N:=aj.2.2.1;have old:∃os,zK G w J ((rs.drop off).take len) os/\(len=0\/∃b off,ad=some ⟨b,off,none⟩/\∀j u,os.flatten[j]?=some u->w.cell? ⟨b,off+j,none⟩=some u):=by
         by_cases h0:len=0
         ·subst h0;exact⟨[],by simpa using .nil,.inl rfl⟩
         ·rcases ha with ha|rfl
          ·omega
          ·have be:(rs[off]?).isSome:=by simp;omega
           obtain⟨row,ak⟩:=Option.isSome_iff_exists.1 be;obtain⟨_,bi,el,vs',u,B,C,E,k4,_⟩:=zbG aj ak;refine⟨(vs'.drop off).take len,(E.drop off).take len,.inr ⟨b,off*J,rfl,?_⟩⟩;intro j u hj;rw[(E.drop off).flat_take,E.flat_drop,k4,xaq]at hj;split at hj
           ·rw[List.getElem?_drop,xaq]at hj;split at hj
            ·simp only[World.cell?,B];simpa using hj
            ·cases hj
           ·cases hj
        have M:((rs.drop off).take len).length=len:=by simp;omega
        obtain⟨os,T,L⟩:=old;have al:os.flatten.length=len*J:=by rw[T.flat_length,M]
        have place:∀{sC},sC=lim.getD N-off->off+len+ys.length<=lim.getD N->off+len+ys.length<=rs.length->
         qh P A D G {σ with S:=σ.S.set id (some (.rows J (qF rs (off+len) ys)))} a w (execOp a.eval o) (.arr id J off (len+ys.length) lim):=by
         intro sC bj g bk;rcases ha with ha|rfl
         ·omega
         ·obtain⟨B,C,E⟩:=U.setRows' (p:=off+len) ah hh W O bc (by omega) (by omega);have f:=ztK (ty:=o.type) (P:=P) (w:=w) (b:=b) (off:=off*J) (sLen:=len) (sCap:=lim.getD N-off) (n:=ys.length) (xc:=xc) hT V m (by omega) (by rw[<-Nat.add_mul];exact E P);exact⟨_,_,G,ρ,.inl (zH t f),B,C,(Rep.arr W (by omega) hN rfl (.inr rfl)).trep⟩
        split at d
        ·rename_i el;split at d
         ·rename_i k;cases d;exact place rfl (by simpa using k.1) (by omega)
         ·split at d
          ·rename_i k;cases d;obtain⟨newCap,rest,Y,Z,f⟩:=zmG (ty:=o.type) (w:=w) (base:=ad) (sCap:=el-off) (xc:=xc) hT (os:=os.flatten) (us:=us.flatten) (sLen:=len) (n:=ys.length) V m al L (by omega) k.2;obtain⟨G',B,C,E⟩:=U.grown (rs:=(rs.drop off).take len++ys) (us:=os++us) (rest:=rest) (e:=e) (newCap:=newCap) (T.append O) hT.hpos (by rw[xaC,M];exact Y) (by rw[xaC,M];exact Z);simp only[List.flatten_append,xaC,M]at B C E;exact⟨_,_,G',ρ,.inl (zH t f),B,C,E.trep⟩
          ·cases d
        ·split at d
         ·rename_i k;cases d;exact place rfl (by simp only[Option.getD_none];omega) k
         ·rename_i k;split at d
          ·rename_i bf;cases d;obtain⟨rfl,X⟩:=bf;simp only[Option.getD_none,Nat.sub_zero,Nat.zero_add,Nat.zero_mul,List.drop_zero]at *;by_cases g:len+ys.length<=N
           ·
            obtain⟨B,C,E,k4,k5⟩:=U.overRows (p:=len) ah hh W O (by omega) g (by omega);rcases ha with ha|rfl
            ·omega
            ·have f:=ztK (ty:=o.type) (P:=P) (w:=w) (b:=b) (off:=0) (sLen:=len) (sCap:=N) (n:=ys.length) (xc:=xc) hT V m g (by rw[Nat.zero_add];exact k5 P);have am:Le G (w.setCells b (len*J) us.flatten) (G.made σ.S.n (b,J,N)) (w.setCells b (len*J) us.flatten):=
              ⟨fun j y h=>by simp only[Gh.made];rw[if_neg (by rintro rfl;rw[(U.sim.fresh σ.S.n (xad _)).2]at h;cases h)];exact h,fun _ _ h=>h,rfl,fun _ _ _ _ k=>k⟩
             have an:qF rs len ys=rs.take len++ys:=by unfold qF;rw[xaB (by omega),List.append_nil]
             have aa:=k4 (G.made σ.S.n (b,J,N)) (C.toLe.trans am);rw[an]at aa;obtain⟨j1,j2⟩:=Fr.adopt B (x:=(b,J,N)) (fun _=>E) aa;refine⟨_,_,_,ρ,.inl (zH t f),j1,C.trans j2,?_⟩;have:(G.made σ.S.n (b,J,N)).ι σ.S.n=some (b,J,N):=by simp[Gh.made]
             exact(Rep.arr (off:=0) (lim:=none) this (by simpa using g) (xad _) (by simp) (.inr (by simp))).trep
           ·
            obtain⟨newCap,rest,Y,Z,f⟩:=zmG (ty:=o.type) (w:=w) (base:=ad) (sCap:=N) (xc:=xc) hT (os:=os.flatten) (us:=us.flatten) (sLen:=len) (n:=ys.length) V m al L (by omega) X;have bg:=U.less (hp:=(σ.S.set id none).heap) (by intro j o' e';simp only[AS.set]at e';split at e'<;>simp_all);have ae:(rs.take len).length=len:=by simp;omega
            obtain⟨G',B,C,E⟩:=Fr.grown bg (rs:=rs.take len++ys) (us:=os++us) (rest:=rest) (e:=e) (newCap:=newCap) (T.append O) hT.hpos (by rw[xaC,ae];exact Y) (by rw[xaC,ae];exact Z);simp only[List.flatten_append,xaC,ae]at B C E;exact⟨_,_,G',ρ,.inl (zH t f),B,C,E.trep⟩
          ·cases d
      ·cases d
     ·cases d
 ·cases F
end
section
variable{A:zA}{D:Nat->Prop}{G:Gh}{ρ:Nat->Option Nat}{σ:ASt}{a:Act}{w:World}{P:Program}{rg:Nat->Option (List AV)}
theorem zCl(l:Fr A D G ρ σ a w){o:Oper}{sz:Nat}{xs:List zo}(d:yw P G.K o.op (.copy sz) xs=true){vs:List AV}(H:evs A σ.tm xs=some vs)
 {v:AV} {Y:Option (Nat×List AV)} {S':AS} (hp:ze (.copy sz) o.dst σ.rg σ.S vs=some (v,Y,S')):qh P A D G ({σ with S:=S'}.regs Y) a w (execOp a.eval o) v:=by
 simp only[yw]at d;split at d
 ·rename_i as ts ho;simp only[xab,decide_eq_true_eq]at d;obtain⟨⟨C,Z⟩,d⟩:=d;obtain⟨e,he,C⟩:=zlN C;obtain⟨t,m,hu⟩:=zc3 he;have I:=yv l d H;unfold ze at hp;split at hp<;>simp only[reduceCtorEq,AOp.copy.injEq]at *<;>try (cases hp;done)
  rename_i ab id sz' off len lim x J;subst J;cases E:zD sz σ.S x with
  |none=>rw[E]at hp;cases hp
  |some ys=>
   rw[E]at hp;simp only[xae]at hp;obtain⟨L,xx,M,O,Q⟩:=I.two_of;have n:=znt M;have T:x.isReg=false:=by unfold zD at E;cases x<;>simp_all [AV.isReg]
   obtain⟨f,xc,us,ex,k,U⟩:=zmF l.sim (Q.rep T) E;obtain⟨b,N,ad,q,ac,hN,ha,e1⟩:=Rep.arr_inv (x:=L) O;have r:=(k.take (Nat.min ys.length len)).flat_length;have i:(ys.take (Nat.min ys.length len)).length=Nat.min ys.length len:=by simp only[List.length_take];exact Nat.min_eq_left (Nat.min_le_left _ _)
   rw[i]at r;have s:Nat.min ys.length len=0\/∃b off,f=some ⟨b,off,none⟩/\∀j u,(us.take (Nat.min ys.length len)).flatten[j]?=some u->w.cell? ⟨b,off+j,none⟩=some u:=by
    rcases U with rfl|⟨b,off,e,V⟩
    ·left;simp
    ·right;refine⟨b,off,e,fun j u F=>?_⟩;rw[k.flat_take,xaq]at F;split at F
     ·exact V j u F
     ·cases F
   have z:(Builtin.firstCells sz (Nat.min ys.length len) (.slice f ys.length xc)).run P w=.ok (us.take (Nat.min ys.length len)).flatten.toArray w:=by
    have h:=zea (P:=P) (w:=w) (ad:=f) (c:=xc) r s;cases f<;>exact h
   have zH:∀{w'},(match ad with|some ad=>(storeCells ad (us.take (Nat.min ys.length len)).flatten).run P w=.ok () w'|none=>w'=w)->(execOp a.eval o).run P w=.ok (.value (goInt (Nat.min ys.length len))) w':=by
    intro w' g;rw[vI ho,n,e1,ex];cases ad with
    |none=>
     simp only at g;subst g;simp only[builtin,Builtin.copy_,m,List.getElem?_toArray,xas,List.getElem?_cons_succ,xag,und hu,xac,Builtin.lenOf,siz C,z,xah]
    |some ad=>
     simp only at g;simp only[builtin,Builtin.copy_,m,List.getElem?_toArray,xas,List.getElem?_cons_succ,xag,und hu,xac,Builtin.lenOf,siz C,z,g,xah]
   split at hp
   ·rename_i h0;cases hp;rw[h0]at zH;refine⟨_,w,G,ρ,.inl (zH ?_),l,Ext.refl _ _ _,(Rep.sc rfl).trep⟩;cases ad with
    |none=>rfl
    |some ad=>simp only[List.take_zero,List.flatten_nil,storeCells,xah]
   ·rename_i h0;split at hp
    ·rename_i zz rs hh;split at hp
     ·rename_i V;obtain⟨rfl,rfl,W,ae⟩:=V;cases hp;obtain⟨y,B,X⟩:=l.sim.obj id _ hh;rw[q]at B;cases B;have hR:rs.length<=N:=X.2.2.1;have aa:Nat.min ys.length len<=len:=Nat.min_le_right _ _;obtain⟨k1,k2,k3⟩:=l.setRows' (p:=off) (ys:=ys.take (Nat.min ys.length len)) (us:=us.take (Nat.min ys.length len)) W hh q (k.take _) (by omega) (by rw[i];omega) (by omega);rcases ha with ha|rfl
      ·omega
      ·exact⟨_,_,G,ρ,.inl (zH (k3 P)),k1,k2,(Rep.sc rfl).trep⟩
     ·cases hp
    ·cases hp
 ·cases d
theorem zCk(u:Fr A D G ρ σ a w){o:Oper}{sz:Nat}{zero:List AV}{xs:List zo}(c:yw P G.K o.op (.clearS sz zero) xs=true){vs:List AV}(C:evs A σ.tm xs=some vs)
 {v:AV} {W:Option (Nat×List AV)} {S':AS} (hp:ze (.clearS sz zero) o.dst σ.rg σ.S vs=some (v,W,S')):qh P A D G ({σ with S:=S'}.regs W) a w (execOp a.eval o) v:=by
 simp only[yw]at c;split at c
 ·rename_i as ts X;simp only[xab]at c;obtain⟨B,c⟩:=c;split at B
  ·rename_i e E;simp only[xab,beq_iff_eq]at B;obtain⟨hs,F⟩:=B;obtain⟨t,j,Y⟩:=zc3 E;obtain⟨i,z,hi,F,f⟩:=zdC F;have Z:zx G w zero z.cells.toList:=zav f;have H:=yv u c C;unfold ze at hp;split at hp<;>simp only[reduceCtorEq,AOp.clearS.injEq]at *<;>try (cases hp;done)
   rename_i aa I id sz' off len lim J;obtain⟨rfl,rfl⟩:=J;obtain⟨L,M,O⟩:=H.one_of;have g:=zcA M;obtain⟨b,N,ad,k,ab,hN,ha,e1⟩:=Rep.arr_inv (x:=L) O;split at hp
   ·rename_i h0;subst h0;cases hp;refine⟨.tuple #[],w,G,ρ,.inl ?_,u,Ext.refl _ _ _,(Rep.tup .nil).trep⟩;rw[vI X,g,e1];cases ad<;>simp only[builtin,Builtin.clear_,j,List.getElem?_toArray,xas,xag,und Y,xac,xah]
   ·rename_i h0;split at hp
    ·rename_i zz rs hh;split at hp
     ·rename_i h;obtain⟨rfl,rfl,Q,ac,T,l⟩:=h;cases hp;obtain⟨y,m,q⟩:=u.sim.obj id _ hh;rw[k]at m;cases m;have hR:rs.length<=N:=q.2.2.1;have r:=q.2.1;have U:=Z.length;have d:z.cells.size=sz':=by rw[<-l,U,Array.length_toList]
      obtain⟨k1,k2,k3⟩:=u.setRows' (p:=off) (ys:=List.replicate len zero) (us:=List.replicate len z.cells.toList) Q hh k (zK.replicate Z l (zc1 f) len) (by omega) (by simp;omega) (by omega);rcases ha with ha|rfl
      ·omega
      ·refine⟨.tuple #[],_,G,ρ,.inl ?_,k1,k2,(Rep.tup .nil).trep⟩;rw[vI X,g,e1];obtain⟨s,rfl⟩:∃s,len=s+1:=⟨len-1,by omega⟩;have V:(Builtin.zeroCells z.cells (s+1)).toList=(List.replicate (s+1) z.cells.toList).flatten:=by
        unfold Builtin.zeroCells;rw[d,<-d];have:=zjw (n:=s+1) d r;rw[<-d]at this;rw[this]
       simp only[builtin,Builtin.clear_,j,List.getElem?_toArray,xas,xag,und Y,xac,zer hi F,V,k3 P,xah]
     ·cases hp
    ·cases hp
  ·cases B
 ·cases c
theorem zCs(u:Fr A D G ρ σ a w){o:Oper}{sz bytes:Nat}{zero:List AV}{xs:List zo}(d:yw P G.K o.op (.mkslice sz bytes zero) xs=true){vs:List AV}(B:evs A σ.tm xs=some vs)
 {v:AV} {ru:Option (Nat×List AV)} {S':AS} (hp:ze (.mkslice sz bytes zero) o.dst σ.rg σ.S vs=some (v,ru,S')):qh P A D G ({σ with S:=S'}.regs ru) a w (execOp a.eval o) v:=by
 simp only[yw]at d;split at d
 ·rename_i t l c ho;simp only[xab]at d;obtain⟨y,d⟩:=d;split at y
  ·rename_i e C;simp only[xab,beq_iff_eq]at y;obtain⟨⟨hs,E⟩,F⟩:=y;have hu:=zfT C;obtain⟨i,z,H,F,g⟩:=zdC F;have hc:zx G w zero z.cells.toList:=zav g;have I:=yv u d B;unfold ze at hp;split at hp<;>simp only[reduceCtorEq,AOp.mkslice.injEq]at *<;>try (cases hp;done)
   rename_i ae b2 J m b L;obtain⟨rfl,rfl,rfl⟩:=L;split at hp
   ·rename_i k;obtain⟨h0,af,ac,ag,M,p,j⟩:=k;cases hp;obtain⟨x1,x2,q,hL,hC⟩:=I.two_of;simp only[xao,List.map_nil,xak,and_true]at q;obtain⟨el,ec⟩:=q;have e1:=hL.sc;have e2:=hC.sc;have O:=hc.length;have Q:z.cells.size=sz:=by rw[<-p,O,Array.length_toList]
    have ad:b<=140737488355328:=by
     have:b*1<=b*bytes:=Int.mul_le_mul_of_nonneg_left (by omega) (by omega);omega
    have T:i.bytes=bytes:=by unfold zgq at E;rw[H]at E;simpa using E
    have f:zK G w sz (List.replicate b.toNat zero) (List.replicate b.toNat z.cells.toList):=zK.replicate hc p (zc1 g) b.toNat;have U:=(u.sim.fresh σ.S.n (xad _)).2;have V:Le G w (G.made σ.S.n (w.heap.size,sz,b.toNat)) (w.alloc (.cells (List.replicate b.toNat z.cells.toList).flatten.toArray e)):=zfv U u.sim.lt;obtain⟨k1,k2⟩:=u.made (.cells (List.replicate b.toNat z.cells.toList).flatten.toArray e) (sz:=sz) (N:=b.toNat) (ao:=.rows sz (List.replicate b.toNat zero)) (by
     refine⟨rfl,j,by simp,.inr ⟨_,e,_,zcu,?_,f.mono V,?_⟩⟩
     ·simp only[List.size_toArray,f.flat_length,List.length_replicate]
     ·simp only[List.length_replicate];rw[List.take_of_length_le];rw[f.flat_length,List.length_replicate];exact xad _)
    have r:(G.made σ.S.n (w.heap.size,sz,b.toNat)).ι σ.S.n=some (w.heap.size,sz,b.toNat):=by simp[Gh.made]
    refine⟨.slice (some ⟨w.heap.size,0,none⟩) m.toNat b.toNat,_,_,ρ,.inl ?_,k1,k2,(Rep.arr (off:=0) (lim:=none) r (by simp;omega) (xad _) (by simp) (.inr (by simp))).trep⟩;rw[zAq _ _ ho,el,ec,e1,e2];have W:IntKind.i64.wrap m=m:=IntWalk.i64_in m (by omega);have X:IntKind.i64.wrap b=b:=IntWalk.i64_in b (by omega);have Y:(decide (b<0)||decide ((bytes:Int)*b > 2^48))=false:=by
     have h2:(2:Int)^48=281474976710656:=by decide
     have h3:(bytes:Int)*b=b*bytes:=Int.mul_comm _ _;simp only[Bool.or_eq_false_iff,decide_eq_false_iff_not];omega
    have Z:decide (m<0)=false:=by simp;omega
    have s:decide (m > b)=false:=by simp;omega
    simp only[Instr.makeSlice,xag,und hu,xac,Go.asInt,Go.asIntOf,xah,inf H,T,W,X,Y,Z,s,Bool.or_false,xau,if_false,run_askRoom,siz hs];by_cases hn:b.toNat*sz=0
    ·have aa:b.toNat=0:=by rcases Nat.mul_eq_zero.1 hn with h|h;exact h;omega
     rw[aa];have ab:((Array.range 0).map fun x=>(#[]:Array Value)[x%(#[]:Array Value).size]!)=#[]:=by simp
     simp only[Nat.zero_mul,if_true,xag,xah,xac,newRow,run_newObj,List.replicate_zero,List.flatten_nil,ab];rfl
    ·simp only[hn,if_false,xag,zer H F,xah,xac,newRow,run_newObj];rw[zjw Q j];rfl
   ·cases hp
  ·cases y
 ·cases d
theorem zH0{ts:Array TypeId}{sz bytes:Nat}{t0 t1 e:TypeId}{r:TypeDesc}{i:TypeInfo}{z:Value}(s:ts[0]?=some t0)(t:ts[1]?=some t1)(u:P.underlying t0=some (.slice e))(v:P.underlying t1=some r)(x:zaN r=true)
 (d:P.info? e=some i) (g:i.size=sz) (m:0<sz) (f:i.bytes=bytes) (j:0<bytes) (k:i.zero=some z) (b:z.cells.size=sz) {ty:TypeId} {base:Option Addr} {n:Nat} (U:0<n) (J:n*bytes<=140737488355328):
 ∃newCap rest,n<=newCap/\rest.length=(newCap-n)*sz/\
  (Builtin.append_ ts ty #[.slice base 0 0,.int .i64 n]).run P w=.ok (.slice (some ⟨w.heap.size,0,none⟩) n newCap) (w.drew.alloc (.cells ((List.replicate n z.cells.toList).flatten++rest).toArray e)):=by
 have M:yS P e=some sz:=by unfold yS;rw[d];simp[g]
 have y:=zsz (0+n) 0 (by omega);have l:¬(Builtin.nextslicecap (0+n) 0*bytes > 2^48):=by
  have V:=Nat.mul_le_mul_right bytes y;have N:(2:Nat)^48=281474976710656:=by decide
  have W:2*(0+n)*bytes=2*(n*bytes):=by rw[Nat.zero_add];exact Nat.mul_assoc _ _ _
  omega
 have L:n<=140737488355328:=by
  have:=Nat.mul_le_mul_left n j;omega
 have O:IntKind.i64.wrap (n:Int)=n:=IntWalk.i64_in _ (by omega);have B:¬bytes=0:=by omega
 have C:¬((n:Int)<0):=by omega
 have p:¬((n:Int)*(bytes:Int) > 2^48):=by
  have:((n*bytes:Nat):Int)<=140737488355328:=by omega
  rw[Int.natCast_mul]at this;have N:(2:Int)^48=281474976710656:=by decide
  omega
 have q:¬(((0+n:Nat):Int) > IntKind.i64.max):=by
  have:IntKind.i64.max=9223372036854775807:=by decide
  omega
 have E:¬n*sz=0:=by
  intro h;rcases Nat.mul_eq_zero.1 h with h|h<;>omega
 refine⟨Question.cut (.appendCap (0+n) 0 e) (w.tape w.drawn (.appendCap (0+n) 0 e)),(Builtin.zeroCells z.cells (Question.cut (.appendCap (0+n) 0 e) (w.tape w.drawn (.appendCap (0+n) 0 e))-(0+n))).toList,?_,?_,?_⟩
 ·simp only[Question.cut];omega
 ·simp[Builtin.zeroCells,b]
 ·have Q:(typeInfo e).run P w=.ok i w:=inf d;have F:(zeroValue e).run P w.drew=.ok z w.drew:=zer d k;have H:(Question.appendCap (0+n) 0 e).forced=false:=rfl;have S:(Builtin.zeroCells z.cells n).toList=(List.replicate n z.cells.toList).flatten:=by
   have:=zjw (z:=z.cells) (n:=n) b m;unfold Builtin.zeroCells;rw[<-b]at this;rw[this]
  have T:∀Z:Array Value,#[]++Builtin.zeroCells z.cells n++Z=((List.replicate n z.cells.toList).flatten++Z.toList).toArray:=by
   intro Z;apply Array.toList_inj.1;simp[S]
  have I:(Builtin.firstCells sz 0 (.slice base 0 0)).run P w.drew=.ok #[] w.drew:=by
   have:=zea (P:=P) (w:=w.drew) (sz:=sz) (n:=0) (ad:=base) (c:=0) (us:=[]) (by simp) (.inl rfl);simpa using this
  cases r<;>first
   |(simp[zaN]at x;done)
   |(simp only[Builtin.append_,s,t,List.getElem?_toArray,xas,List.getElem?_cons_succ,xag,und u,und v,xac,siz M,xah,xau,if_false,Go.asInt,Go.asIntOf,O,C,p,Int.toNat_natCast,
    if_neg (show ¬(0+n<=0)by omega),Q,f,B,or_true,and_true,q,or_false,and_false,if_neg l,run_choose,H,run_askRoom,Bool.not_false,Bool.not_true,if_true,World.drew_eq,inf d,I,E,F,newRow,run_newObj,World.size_drew,T]
     simp only[Nat.zero_add];rfl)
theorem zCh(hF:Fr A D G ρ σ a w){o:Oper}{sz bytes:Nat}{zero:List AV}{xs:List zo}(b:yw P G.K o.op (.appendZ sz bytes zero) xs=true){vs:List AV}(t:evs A σ.tm xs=some vs)
 {v:AV} {ru:Option (Nat×List AV)} {S':AS} (hp:ze (.appendZ sz bytes zero) o.dst σ.rg σ.S vs=some (v,ru,S')):qh P A D G ({σ with S:=S'}.regs ru) a w (execOp a.eval o) v:=by
 simp only[yw]at b;split at b
 ·rename_i as ts ho;simp only[xab]at b;obtain⟨⟨s,k⟩,b⟩:=b;split at s
  ·rename_i e u;simp only[xab,beq_iff_eq]at s;obtain⟨⟨y,B⟩,C⟩:=s;obtain⟨t0,E,F⟩:=zc3 u;obtain⟨i,z,H,C,f⟩:=zdC C;split at k
   ·rename_i t1 I;split at k
    ·rename_i d hd;have hc:zx G w zero z.cells.toList:=zav f;have J:=yv hF b t;unfold ze at hp;split at hp<;>simp only[reduceCtorEq,AOp.appendZ.injEq]at *<;>try (cases hp;done)
     rename_i aa b2 L z' n M;obtain⟨rfl,rfl,rfl⟩:=M;split at hp
     ·rename_i h;obtain⟨h0,l,N,O,p,g⟩:=h;cases hp;obtain⟨x1,x2,Q,hL,hC⟩:=J.two_of;have q:=znt Q;have e2:=hC.sc;obtain⟨ad,c,e1,_,hf,_⟩:=Rep.lst_inv (x:=x1) hL;have T:c=0:=hf rfl;subst T;have U:=hc.length;have V:z.cells.size=sz:=by rw[<-p,U,Array.length_toList]
      have W:i.bytes=bytes:=by unfold zgq at B;rw[H]at B;simpa using B
      have X:i.size=sz:=by unfold yS at y;rw[H]at y;simpa using y
      obtain⟨m,rfl⟩:∃m:Nat,n=m:=⟨n.toNat,by omega⟩;have j:zK G w sz (List.replicate m zero) (List.replicate m z.cells.toList):=zK.replicate hc p (zc1 f) m;obtain⟨newCap,rest,Y,Z,r⟩:=zH0 (ty:=o.type) (w:=w) (base:=ad) E I F hd k H X g W N C V (n:=m) (by omega) (by
       have:((m*bytes:Nat):Int)<=140737488355328:=by rw[Int.natCast_mul];exact l
       omega)
      obtain⟨G',k1,k2,k3⟩:=hF.grown (rs:=List.replicate m zero) (us:=List.replicate m z.cells.toList) (rest:=rest) (e:=e) (newCap:=newCap) j g (by simpa using Y) (by simpa using Z);simp only[List.length_replicate]at k3;refine⟨_,_,G',ρ,.inl ?_,k1,k2,k3.trep⟩;rw[vI ho,q,e1,e2];simp only[builtin,xag,r,xac,xah,List.length_nil]
     ·cases hp
    ·cases k
   ·cases k
  ·cases s
 ·cases b
end
section
variable{A:zA}{D:Nat->Prop}{G:Gh}{ρ:Nat->Option Nat}{σ:ASt}{a:Act}{w:World}{P:Program}{rg:Nat->Option (List AV)}
mutual
theorem Rep.toldG{G G':Gh}{w:World}(d:∀b o,G.P b o->G'.P b o)(f:G'.K=G.K){v:AV}{x:Value}:Rep G w v x->v.pure=true->Rep G' w v x
 | .sc e,_=>.sc e
 | .junk,_=>.junk
 | .opq,_=>.opq
 | .ptr _,h=>by simp[AV.pure]at h
 | .iptr e r,h=>.iptr (fun i v g=>⟨d _ _ (e i v g).1,(e i v g).2⟩) (r.toldG d f (by simpa[AV.pure]using h))
 | .nil e,_=>.nil e
 | .lst a b c e r,h=>.lst a b c (fun i v g=>⟨d _ _ (e i v g).1,(e i v g).2⟩) (r.toldG d f (by simpa[AV.pure]using h))
 | .arr _ _ _ _ _,h=>by simp[AV.pure]at h
 | .agg r,h=>.agg (r.toldG d f (by simpa[AV.pure]using h))
 | .tup r,h=>.tup (r.toldG d f (by simpa[AV.pure]using h))
 | .fn k a b,h=>by
   simp[AV.pure]at h;exact .fn (by rw[f];exact k) (a.toldG d f h.1) (b.toldG d f h.2)
 | .mp _,h=>by simp[AV.pure]at h
theorem zx.toldG{G G':Gh}{w:World}(c:∀b o,G.P b o->G'.P b o)(d:G'.K=G.K){v:List AV}{x:List Value}:zx G w v x->jR v=true->zx G' w v x
 | .nil,_=>.nil
 | .cons a l,h=>by
   simp[jR]at h;exact .cons (a.toldG c d h.1) (l.toldG c d h.2)
theorem zK.toldG{G G':Gh}{w:World}(d:∀b o,G.P b o->G'.P b o)(f:G'.K=G.K){sz:Nat}{v:List (List AV)}{x:List (List Value)}:zK G w sz v x->qo v=true->zK G' w sz v x
 | .nil,_=>.nil
 | .cons a e c l,h=>by
   simp[qo]at h;exact .cons (a.toldG d f h.1) e c (l.toldG d f h.2)
end
def OkO(G G':Gh)(w:World)(o:Nat->Nat->Nat->Nat->Option (List (List AV))):Prop:=
 ∀id sz off n lim r x,o id sz off n=some r->Rep G w (.arr id sz off n lim) x->Rep G' w (lstN sz r) x
mutual
theorem ziT{G G':Gh}{w:World}(g:Le G w G' w){o:Nat->Nat->Nat->Nat->Option (List (List AV))}(j:OkO G G' w o):∀{v f:AV} {x:Value},Rep G w v x->v.frz o=some f->Rep G' w f x
 |_,f,_,.sc e,h=>by simp[AV.frz]at h;subst h;exact .sc e
 |_,f,_,.junk,h=>by simp[AV.frz]at h;subst h;exact .junk
 |_,f,_,.opq,h=>by simp[AV.frz]at h;subst h;exact .opq
 |_,f,_,.ptr e,h=>by simp[AV.frz]at h;subst h;exact .ptr (g.ι _ _ e)
 |_,f,_,.iptr e r,h=>by
  simp only[AV.frz,xaf]at h;obtain⟨cs,l,rfl⟩:=h;exact .iptr (e.mono g) (zct g j r l)
 |_,f,_,.nil e,h=>by
  simp only[AV.frz,qA,xam,Option.some.injEq]at h;subst h;exact Rep.lstN (.nil e)
 |_,f,_,.lst a b c e r,h=>by
  simp only[AV.frz,xaf]at h;obtain⟨cs,l,rfl⟩:=h;obtain⟨m,i⟩:=zrp g j r l;exact Rep.lstN (.lst (by rw[i];exact a) (by rw[i];exact b) (by rw[i];exact c) (e.mono g) m)
 |_,f,_,.arr a b c d e,h=>by
  simp only[AV.frz,xaf]at h;obtain⟨r,m,rfl⟩:=h;exact j _ _ _ _ _ _ _ m (.arr a b c d e)
 |_,f,_,.agg r,h=>by
  simp only[AV.frz,xaf]at h;obtain⟨cs,l,rfl⟩:=h;exact .agg (zct g j r l)
 |_,f,_,.tup r,h=>by
  simp only[AV.frz,xaf]at h;obtain⟨cs,l,rfl⟩:=h;exact .tup (zct g j r l)
 |_,f,_,.fn k a b,h=>by
  simp only[AV.frz,xaa,xaf]at h;obtain⟨q,n,s,p,rfl⟩:=h;exact .fn (by rw[g.K];exact k) (zct g j a n) (zct g j b p)
 |_,f,_,.mp e,h=>by simp[AV.frz]at h;subst h;exact .mp (g.ι _ _ e)
theorem zct{G G':Gh}{w:World}(d:Le G w G' w){o:Nat->Nat->Nat->Nat->Option (List (List AV))}(e:OkO G G' w o):∀{v b:List AV} {x:List Value},zx G w v x->qz o v=some b->zx G' w b x
 |_,b,_,.nil,h=>by simp[qz]at h;subst h;exact .nil
 |_,b,_,.cons a l,h=>by
  simp only[qz,xaa,xaf]at h;obtain⟨a',f,g,c,rfl⟩:=h;exact .cons (ziT d e a f) (zct d e l c)
theorem zrp{G G':Gh}{w:World}(f:Le G w G' w){o:Nat->Nat->Nat->Nat->Option (List (List AV))}(g:OkO G G' w o):∀{sz:Nat} {v b:List (List AV)} {x:List (List Value)},zK G w sz v x->qA o v=some b->zK G' w sz b x/\b.length=v.length
 |_,_,b,_,.nil,h=>by simp[qA]at h;subst h;exact⟨.nil,rfl⟩
 |_,_,b,_,.cons a e c l,h=>by
  simp only[qA,xaa,xaf]at h;obtain⟨a',j,n,d,rfl⟩:=h;obtain⟨k,m⟩:=zrp f g l d;have i:=zct f g a j;refine⟨.cons i ?_ c k,by simp[m]⟩;rw[i.length,<-a.length,e]
end
theorem zl6{α β:Type}{f:α->Option β}:∀{l:List α} {m:List β},zI f l=some m->m.length=l.length
 |[],m,h=>by simp[zI]at h;subst h;rfl
 |a::l,m,h=>by
  simp only[zI,xaa,xaf]at h;obtain⟨b,d,e,c,rfl⟩:=h;simp[zl6 c]
theorem zl7{G G':Gh}{w:World}{f:AV->Option AV}(c:∀v d x,Rep G w v x->f v=some d->Rep G' w d x):∀{l m:List AV} {xs:List Value},zx G w l xs->zI f l=some m->zx G' w m xs
 |_,m,_,.nil,h=>by simp[zI]at h;subst h;exact .nil
 |_,m,_,.cons a l,h=>by
  simp only[zI,xaa,xaf]at h;obtain⟨b,e,i,g,rfl⟩:=h;exact .cons (c _ _ _ a e) (zl7 c l g)
theorem zsv{G G':Gh}{w:World}{f:AV->Option AV}(d:∀v g x,Rep G w v x->f v=some g->Rep G' w g x){sz:Nat}:∀{l m:List (List AV)} {xs:List (List Value)},zK G w sz l xs->zI (zI f) l=some m->zK G' w sz m xs
 |_,m,_,.nil,h=>by simp[zI]at h;subst h;exact .nil
 |_,m,_,.cons a e c l,h=>by
  simp only[zI,xaa,xaf]at h;obtain⟨b,i,k,j,rfl⟩:=h;exact .cons (zl7 d a i) (by rw[zl6 i];exact e) c (zsv d l j)
theorem zuJ{G G':Gh}{S:AS}{w:World}{least:Nat}(hS:Sim G S w)(V:Le G w G' w){id sz off n:Nat}{lim:Option Nat}{rows r:List (List AV)}{x:Value}(c:S.slice least id sz off n=some rows)
 (hp:∀o x off,least<=id->S.heap id=some o->G.ι id=some x->0<x.2.2->G'.P x.1 off) {f:AV->Option AV} (H:∀v z x,Rep G w v x->f v=some z->Rep G' w z x) (B:zI (zI f) rows=some r)
 (I:Rep G w (.arr id sz off n lim) x):Rep G' w (lstN sz r) x:=by
 refine Rep.lstN (f:=false) ?_;have e:=zl6 B;unfold AS.slice at c;split at c
 ·rename_i l;split at c
  ·rename_i sz' rs C;split at c
   ·rename_i J;obtain⟨rfl,L⟩:=J;cases c;obtain⟨b,N,ad,E,M,W,g,O⟩:=I.arr_inv;obtain⟨y,h,m⟩:=hS.obj id _ C;rw[E]at h;cases h;have i:r.length=n:=by rw[e];simp;omega
    subst O;by_cases Q:n=0
    ·subst Q;have:r=[]:=List.eq_nil_of_length_eq_zero i;subst this;exact .nil (by simp)
    ·rcases g with g|rfl
     ·omega
     ·have p:(rs[off]?).isSome:=by simp;omega
      obtain⟨row,k⟩:=Option.isSome_iff_exists.1 p;obtain⟨q,F,X,vs',u,T,Y,s,U,_⟩:=zbG m k;have t:=zsv (G':=G') H ((s.drop off).take n) B;refine .lst i.symm (by omega) (by simp) ?_ t;intro j u d;rw[(s.drop off).flat_take,s.flat_drop,U,xaq]at d;split at d
      ·rw[List.getElem?_drop,xaq]at d;split at d
       ·refine⟨hp _ _ _ l C E q,?_⟩;simp only[World.cell?,T];simpa using d
       ·cases d
      ·cases d
   ·cases c
  ·cases c
 ·cases c
theorem zfm{G G':Gh}{S:AS}{w:World}{least:Nat}(hS:Sim G S w)(f:Le G w G' w)(hp:∀id o x off,least<=id->S.heap id=some o->G.ι id=some x->0<x.2.2->G'.P x.1 off):
 ∀(d:Nat) (v c:AV) (x:Value),Rep G w v x->S.frzTo least d v=some c->Rep G' w c x
 |0,v,c,x,hr,h=>by
  refine ziT f ?_ hr h;intro id sz off n lim r x e _;cases e
 |d+1,v,c,x,hr,h=>by
  refine ziT f ?_ hr h;intro id sz off n lim r x e g;simp only[xaa]at e;obtain⟨rows,b,i⟩:=e;exact zuJ hS f b (hp id) (fun v c x=>zfm hS f hp d v c x) i g
theorem zsF:∀l:List AV,(yL l).length=l.length
 |[]=>rfl
 |a::l=>by simp only[yL,xaI,zsF l]
mutual
theorem zCF{G:Gh}{w:World}:∀{v:AV} {x:Value},Rep G w v x->Rep G w v.nrm x
 |_,_,.sc e=>.sc e
 |_,_,.junk=>.junk
 |_,_,.opq=>.opq
 |_,_,.ptr e=>.ptr e
 |_,_,.iptr e r=>by rw[AV.nrm];exact .iptr e (zaT r)
 |_,_,.nil e=>by rw[AV.nrm];exact Rep.lstN (.nil e)
 |_,_,.lst a b c e r=>by
  obtain⟨g,f⟩:=zsG r;rw[AV.nrm];exact Rep.lstN (.lst (by rw[f];exact a) (by rw[f];exact b) (by rw[f];exact c) e g)
 |_,_,.arr a b c d e=>.arr a b c d e
 |_,_,.agg r=>by rw[AV.nrm];exact .agg (zaT r)
 |_,_,.tup r=>by rw[AV.nrm];exact .tup (zaT r)
 |_,_,.fn k a b=>by rw[AV.nrm];exact .fn k (zaT a) (zaT b)
 |_,_,.mp e=>.mp e
theorem zaT{G:Gh}{w:World}:∀{v:List AV} {x:List Value},zx G w v x->zx G w (yL v) x
 |_,_,.nil=>.nil
 |_,_,.cons a l=>by rw[yL];exact .cons (zCF a) (zaT l)
theorem zsG{G:Gh}{w:World}{sz:Nat}:∀{v:List (List AV)} {x:List (List Value)},zK G w sz v x->zK G w sz (vz v) x/\(vz v).length=v.length
 |_,_,.nil=>⟨.nil,rfl⟩
 |_,_,.cons a e c l=>by
  obtain⟨b,d⟩:=zsG l;rw[vz];exact⟨.cons (zaT a) (by rw[zsF];exact e) c b,by simp only[xaI,d]⟩
end
section
variable{o o':Nat->Nat->Nat->Nat->Option (List (List AV))}
mutual
theorem zrq:∀v:AV,(∀id sz off n,id∈v.arrs->o id sz off n=o' id sz off n)->v.frz o=v.frz o'
 | .sc _,_=>rfl
 | .junk,_=>rfl
 | .opq,_=>rfl
 | .reg _ _,_=>rfl
 | .ptr _ _ _,_=>rfl
 | .iptr cs,h=>by simp only[AV.frz,zcs cs (by simpa only[AV.arrs]using h)]
 | .lst _ _ xs,h=>by simp only[AV.frz,zro xs (by simpa only[AV.arrs]using h)]
 | .arr id _ _ _ _,h=>by simp only[AV.frz,h id _ _ _ (by simp[AV.arrs])]
 | .agg cs,h=>by simp only[AV.frz,zcs cs (by simpa only[AV.arrs]using h)]
 | .tup cs,h=>by simp only[AV.frz,zcs cs (by simpa only[AV.arrs]using h)]
 | .fn _ a b,h=>by
   simp only[AV.arrs,xaE]at h;simp only[AV.frz,zcs a fun id _ _ _ e=>h id _ _ _ (.inl e),zcs b fun id _ _ _ e=>h id _ _ _ (.inr e)]
 | .mp _,_=>rfl
theorem zcs:∀v:List AV,(∀id sz off n,id∈qJ v->o id sz off n=o' id sz off n)->qz o v=qz o' v
 |[],_=>rfl
 |a::l,h=>by
  simp only[qJ,xaE]at h;simp only[qz,zrq a fun id _ _ _ e=>h id _ _ _ (.inl e),zcs l fun id _ _ _ e=>h id _ _ _ (.inr e)]
theorem zro:∀v:List (List AV),(∀id sz off n,id∈zgi v->o id sz off n=o' id sz off n)->qA o v=qA o' v
 |[],_=>rfl
 |a::l,h=>by
  simp only[zgi,xaE]at h;simp only[qA,zcs a fun id _ _ _ e=>h id _ _ _ (.inl e),zro l fun id _ _ _ e=>h id _ _ _ (.inr e)]
end
end
theorem zlJ{G G':Gh}{S:AS}{w:World}{least:Nat}(hS:Sim G S w)(d:Le G w G' w){ids:List Nat}(hp:∀id o x off,ids.contains id=true->S.heap id=some o->G.ι id=some x->0<x.2.2->G'.P x.1 off):
 ∀{l m:List AV} {xs:List Value},(∀id∈qJ l,ids.contains id=true)->zx G w l xs->zI (S.frzTo least 1) l=some m->zx G' w m xs
 |_,m,_,_,.nil,h=>by simp[zI]at h;subst h;exact .nil
 |a::l,m,_,hi,.cons r rs,h=>by
  simp only[zI,xaa,xaf]at h;obtain⟨b,f,s,g,rfl⟩:=h;simp only[qJ,xaE]at hi;refine .cons ?_ (zlJ hS d hp (fun id e=>hi id (.inr e)) rs g);simp only[AS.frzTo]at f;rw[zrq (o':=fun id sz off n=>if ids.contains id then(S.slice least id sz off n).bind fun r=>zI (zI (S.frzTo least 0)) r else none) a fun id sz off n e=>by rw[if_pos (hi id (.inl e))];rfl]at f;refine ziT d ?_ r f;intro id sz off n lim r x e k;dsimp only at e;split at e
  ·rename_i i;simp only[xaa]at e;obtain⟨rows,c,g⟩:=e;exact zuJ hS d c (fun o x off _=>hp id o x off i) (fun v p x=>zfm (least:=S.n) hS d (fun id o x off q j=>by have:=(hS.fresh id q).1;rw[this]at j;cases j) 0 v p x) g k
  ·cases e
def DW(G:Gh)(S:AS)(w:World)(b:Nat):Prop:=w.heap.size<=b\/Wr G S b
structure Low(S S':AS):Prop where
 ro:S'.ro=S.ro
 n:S.n<=S'.n
 heap:∀id,id<S.ro->S'.heap id=S.heap id
theorem Low.refl(S:AS):Low S S:=⟨rfl,xad _,fun _ _=>rfl⟩
theorem Low.trans{S S' b:AS}(h:Low S S')(c:Low S' b):Low S b:=⟨c.ro.trans h.ro,xaD h.n c.n,fun id e=>(c.heap id (by rw[h.ro];exact e)).trans (h.heap id e)⟩
def qW(A:zA)(G:Gh)(w:World):Prop:=∀g v,A.glob g=some v->∀m,G.K (10000+g)=some m->kM G w v m
def kq(G:Gh)(S:AS)(w:World)(r:AV)(S':AS)(e:Ending)(w':World):Prop:=
 ∃v G',e=.returned v/\Rep G' w' r v/\Sim G' S' w'/\Ext (DW G S w) G w G' w'/\∀b,Wr G' S' b->DW G S w b
def wo(P:Program)(A:zA)(K:Nat->Option Nat)(f:Nat)(g:List AV->AS->Option (AV×AS)):Prop:=
 ∀args S r S' G w b,G.K=K->g args S=some (r,S')->Sim G S w->zx G w args b->qW A G w->Calls P f b.toArray w (kq G S w r S')/\Low S S'
theorem Fr.called(f:Fr A D G ρ σ a w){r:AV}{S':AS}{v:Value}{G':Gh}{w':World}(C:Rep G' w' r v)(B:Sim G' S' w')(g:Ext (DW G σ.S w) G w G' w')(t:∀b,Wr G' S' b->DW G σ.S w b)(d:Low σ.S S'):
 Fr A D G' ρ {σ with S:=S'} a w'/\Ext D G w G' w':=by
 have u:∀b,DW G σ.S w b->D b:=fun b h=>h.elim (f.dnew b) (f.dwr b);have j:=g.weak u;refine⟨f.keep j B ?_ fun b h=>u b (t b h),j⟩;intro q cs b e m;have n:=f.reg_lt e m;have p:¬DW G σ.S w b:=by
  rintro(h|⟨id,o,x,_,i,g,l,c⟩)
  ·omega
  ·exact f.rhp q cs b id o x e m i g l c
 refine⟨g.keep b n p,fun off hp=>(g.new b off hp).resolve_right p,?_⟩;intro id o x i k l c;by_cases s:id<σ.S.ro
 ·rw[d.heap id s]at i;obtain⟨y,z,_⟩:=f.sim.obj id o i;have:=g.ι _ _ z;rw[k]at this;cases this;exact f.rhp q cs b id o _ e m i z l c
 ·exact p (t b ⟨id,o,x,by rw[d.ro];omega,i,k,l,c⟩)
end
def zL.ex:zL->Exit
 | .normal=>.normal
 | .ret=>.ret
 | .exit i=>.exit i
 | .goto l=>.goto l
def zbR(A:zA)(D:Nat->Prop)(G:Gh)(w:World)(e:zL)(σ':ASt)(x:Exit)(a':Act)(w':World):Prop:=
 x=e.ex/\∃G' ρ',Fr A D G' ρ' σ' a' w'/\Ext D G w G' w'
def ye(A:zA)(k:Nat):Bool:=(A.ext k).isSome
def jJ(P:Program)(A:zA)(K:Nat->Option Nat)(R:ACode->ASt->Option (zL×ASt)):Prop:=
 ∀(code:Code) (c:ACode) (σ:ASt) (e:zL) (σ':ASt) (D:Nat->Prop) (G:Gh) (ρ:Nat->Option Nat) (a:Act) (w:World),G.K=K->zZ P K A.mode (ye A) code c=true->R c σ=some (e,σ')->Fr A D G ρ σ a w->
  code.wp P (zbR A D G w e σ') a w/\Low σ.S σ'.S
structure Ok(P:Program)(A:zA)(K:Nat->Option Nat):Prop where
 fn:∀key f af,K key=some f->A.ext key=none->A.funcs key=some af->ky P f=true/\∃fn,P.funcs[f]?=some fn/\vg P K A.mode (ye A) fn af=true
 ext:∀key f g,K key=some f->A.ext key=some g->ky P f=true/\wo P A K f g
 low:∀key g,A.ext key=some g->∀args S r S',g args S=some (r,S')->S.ro<=S.n->Low S S'
 frm:∀key g cols,A.ext key=some g->A.mode key=.keepF cols->∀args S r S',g args S=some (r,S')->Frm cols S S'
 gpure:∀g v,A.glob g=some v->v.pure=true
section
variable{A:zA}{D:Nat->Prop}{G:Gh}{ρ:Nat->Option Nat}{σ:ASt}{a:Act}{w:World}{P:Program}{K:Nat->Option Nat}
theorem zH1{x:Addr}:(Go.asAddr (.pointer (some x))).run P w=.ok x w:=rfl
def zjy(tm:Array Value):ResultVar->Sem Value
 | .tmp t=>Pure.pure (tm.getD t undef)
 | .cell p t=>do loadVar t (<-Go.asAddr (tm.getD p undef))
theorem ztx(C:Fr A D G ρ σ a w):∀{rs:List ResultVar} {as:List vi},kF P rs as=true->∀{vs:List AV},za0 σ.tm σ.rg σ.S as=some vs->
 ∃xs,(rs.mapM (zjy a.tmps)).run P w=.ok xs w/\zx G w vs xs
 |[],[],_,vs,h=>by simp[za0]at h;subst h;exact⟨[],by simp,.nil⟩
 |[],_::_,h,_,_=>by simp[kF]at h
 |r::rs,[],h,_,_=>by cases r<;>simp[kF]at h
 |r::rs,s::as,h,vs,O=>by
  simp only[za0,xaa,xaf]at O;obtain⟨v,d,vs',T,rfl⟩:=O;have one:∃x,(zjy a.tmps r).run P w=.ok x w/\Rep G w v x/\kF P rs as=true:=by
   cases r with
   |tmp t=>
    cases s with
    |cell _ _ _=>simp[kF]at h
    |tmp t'=>
     simp only[kF,xab,beq_iff_eq]at h;obtain⟨rfl,h⟩:=h;refine⟨_,rfl,?_,h⟩;simp only[zd6]at d;split at d
     ·cases d
     ·rename_i u g;cases d;have:=zbU C (x:=.t t) (y:=.tmp t) (by simp[kf]) (v:=σ.tm.getD t .junk) rfl;refine this.rep ?_;generalize Y:σ.tm.getD t .junk=q at g;cases q<;>first|rfl|(rename_i r c;exact absurd rfl (g r c))
   |cell p ty=>
    cases s with
    |tmp _=>simp[kF]at h
    |cell p' sz agg=>
     simp only[kF,xab,beq_iff_eq]at h;obtain⟨⟨⟨⟨rfl,hs⟩,Y⟩,Q⟩,h⟩:=h;have hT:=zbU C (x:=.t p) (y:=.tmp p) (by simp[kf]) (v:=σ.tm.getD p .junk) rfl;have hT:yP G ρ σ.rg w (σ.tm.getD p .junk) (a.tmps.getD p undef):=hT;have fin:∀{cs:List AV} {E us:List Value} {c b off:Nat},zx G w cs E->yW cs c sz agg=some v->a.tmps.getD p undef=.pointer (some ⟨b,off,none⟩)->us=(E.drop c).take sz->
      (∀i u,us[i]?=some u->w.cell? ⟨b,off+i,none⟩=some u)->∃x,(do loadVar ty (<-Go.asAddr (a.tmps.getD p undef)):Sem Value).run P w=.ok x w/\Rep G w v x/\kF P rs as=true:=by
      intro cs E us c b off B j l F hc;obtain⟨U,O⟩:=zrr j;have Z:=B.length;have f:=zjl B U Q O;have H:us.length=sz:=by rw[F];simp;omega
      have k:=ztV (P:=P) hs Y Q H hc;have k:(loadVar ty ⟨b,off,none⟩).run P w=_:=k;refine⟨if agg=true then Value.agg us.toArray else us.getD 0 undef,by rw[l];simp only[xag,zH1,xac];exact k,?_,h⟩;have:(if agg then Value.agg us.toArray else us.getD 0 undef)=(if agg then Value.agg ((E.drop c).take sz).toArray else E.getD c undef):=by
       rw[F];cases agg with
       |true=>rfl
       |false=>
        simp at Q;subst Q;simp[xar,xaq,List.getElem?_drop]
      rw[this];exact f
     simp only[zd6]at d;split at d
     ·rename_i r c I;simp only[xaa]at d;obtain⟨cs,B,j⟩:=d;rw[I]at hT;obtain⟨_,b,hb,l⟩:=hT;obtain⟨b',us,e,J,V,f⟩:=C.regCells B;rw[hb]at J;cases J;exact fin f j l rfl (zoi V)
     ·rename_i cs I;rw[I]at hT;obtain⟨b,off,us,l,W,B⟩:=Rep.iptr_inv (x:=a.tmps.getD p undef) hT;exact fin B d l rfl fun i u g=>by
       rw[List.drop_zero,xaq]at g;split at g
       ·exact(W i u g).2
       ·cases g
     ·rename_i id row c I;rw[I]at hT;split at d
      ·rename_i z ab V;simp only[xaa]at d;obtain⟨cs,L,j⟩:=d;obtain⟨b,z',N,hi,l⟩:=Rep.ptr_inv (x:=a.tmps.getD p undef) hT;obtain⟨y,hy,M⟩:=C.sim.obj id _ V;rw[hi]at hy;cases hy;have hz:z'=z:=M.1;subst hz;obtain⟨_,aa,e,vs',u,_,_,_,_,_,f,H,m,_⟩:=zbG M L;refine fin f j l rfl fun i u' g=>?_;rw[xaq]at g;split at g
       ·rw[List.getElem?_drop]at g;have:=m (c+i) u' g;rw[<-Nat.add_assoc]at this;exact this
       ·cases g
      ·cases d
     ·cases d
  obtain⟨x,hx,f,h'⟩:=one;obtain⟨xs,X,n⟩:=ztx C h' T;refine⟨x::xs,?_,.cons f n⟩;rw[List.mapM_cons];simp only[xag,hx,xac,X,xah]
theorem zgA(g:Fr A D G ρ σ a w){fn:Func}{af:za}(c:kF P fn.results.toList af.res=true){r:AV}{S':AS}(f:af.done σ=some (r,S')):
 S'=σ.S/\∃v,(results fn a.tmps).run P w=.ok v w/\Rep G w r v:=by
 simp only[za.done,xaf,Prod.mk.injEq]at f;obtain⟨vs,d,rfl,rfl⟩:=f;obtain⟨xs,e,b⟩:=ztx g c d;refine⟨rfl,if h:xs.toArray.size=1 then xs.toArray[0]else .tuple xs.toArray,?_,?_⟩
 ·have i:(fn.results.mapM (zjy a.tmps)).run P w=.ok xs.toArray w:=by
   rw[<-Array.toArray_toList (xs:=fn.results),List.mapM_toArray];simp only[Sem.run_map,e,xac]
  have j:results fn a.tmps=(do
   let vs <-fn.results.mapM (zjy a.tmps)
   Pure.pure (if h:vs.size=1 then vs[0]else .tuple vs)):=by
   unfold results;congr 2
  rw[j];simp only[xag,i,xac,xah]
 ·cases b with
  |nil=>exact .tup .nil
  |cons h t=>
   cases t with
   |nil=>exact h
   |cons h2 t2=>
    rw[dif_neg (by simp)];exact .tup (.cons h (.cons h2 t2))
theorem zne{S:AS}(hS:Sim G S w)(g:qW A G w){args:List AV}{c:List Value}(f:zx G w args c){fn:Func}{af:za}(i:fn.ntmps=af.ntmps):
 Fr A (DW G S w) G ρ (af.start args S) {tmps:=c.toArray++Array.replicate (fn.ntmps-c.toArray.size) undef,defers:=[]} w:=by
 have j:=f.length;refine⟨rfl,?_,?_,?_,?_,?_,hS,fun b h=>.inr h,fun b h=>.inl h,g⟩
 ·simp only[za.start,Array.size_append,List.size_toArray,Array.size_replicate,xaC,List.length_replicate,i,j]
 ·intro p v e;simp only[za.start]at e;by_cases hp:p<args.length
  ·rw[xaG hp]at e;obtain⟨x,k,d⟩:=f.get p e;have:(c.toArray++Array.replicate (fn.ntmps-c.toArray.size) undef).getD p undef=x:=by
    rw[Array.getD_eq_getD_getElem?,Array.getElem?_append_left (by simp;omega)];simp[k]
   rw[this];exact d.trep
  ·rw[xaF (by omega),List.getElem?_replicate]at e;split at e
   ·cases e;exact Rep.trep .junk
   ·cases e
 ·intro r cs e;cases e
 ·intro r l cs cs' b e;cases e
 ·intro r cs b id o x e;cases e
theorem zeE{R:ACode->ASt->Option (zL×ASt)}(E:jJ P A K R)(F:G.K=K){f:Nat}{fn:Func}{af:za}(H:P.funcs[f]?=some fn)(i:vg P K A.mode (ye A) fn af=true){S:AS}(hS:Sim G S w)(I:qW A G w)
 {args:List AV} {b:List Value} (J:zx G w args b) {r:AV} {S':AS} (j:enter R af args S=some (r,S')):Calls P f b.toArray w (kq G S w r S')/\Low S S':=by
 simp only[vg,xab,beq_iff_eq]at i;obtain⟨⟨L,k⟩,s⟩:=i;split at s
 ·rename_i code g;have t:=zne (ρ:=fun _=>none) (A:=A) hS I J (fn:=fn) (af:=af) L;have key:∃e σ',R af.body (af.start args S)=some (e,σ')/\(e=.normal\/e=.ret)/\af.done σ'=some (r,S'):=by
   unfold enter at j;split at j
   ·rename_i σ' h;exact⟨_,σ',h,.inl rfl,j⟩
   ·rename_i σ' h;exact⟨_,σ',h,.inr rfl,j⟩
   ·cases j
  obtain⟨e,σ',l,u,y⟩:=key;obtain⟨z,m⟩:=E code af.body _ e σ' _ G _ _ w F s l t;have n:∀x a' w',zbR A (DW G S w) G w e σ' x a' w'->bodyPost P fn (kq G S w r S') x a' w':=by
   rintro x a' w' ⟨rfl,G',ρ',c,B⟩;obtain⟨p,v,C,q⟩:=zgA c k y;have d:kq G S w r S' (.returned v) w':=⟨v,G',rfl,q,by rw[p];exact c.sim,B,by rw[p];exact c.dwr⟩;rcases u with rfl|rfl
   ·exact⟨c.defers,v,C,d⟩
   ·exact⟨c.defers,v,C,d⟩
  refine⟨calls_of_wp H g (wp_mono z n),?_⟩;have:S'=σ'.S:=by
   simp only[za.done,xaf,Prod.mk.injEq]at y;obtain⟨_,_,_,h⟩:=y;exact h.symm
  rw[this];exact m
 ·cases s
theorem znd{S:AS}(hS:Sim G S w){P':Nat->Nat->Prop}(hP:∀b o,P' b o->b<w.heap.size)(hle:∀b o,G.P b o->P' b o):Sim {G with P:=P'} {S with ro:=S.n} w where
 obj:=fun id o e=>by
  obtain⟨x,hx,ho⟩:=hS.obj id o e;exact⟨x,hx,ho.keep (show Le G w {G with P:=P'} w from⟨fun _ _ h=>h,hle,rfl,fun _ _ _ _ h=>h⟩) fun _=>rfl⟩
 fresh:=hS.fresh
 inj:=hS.inj
 own:=fun id o x off hr e=>by
  have:=(hS.fresh id hr).1;rw[this]at e;cases e
 lt:=hP
 ro:=xad _
theorem znz{S:AS}(hS:Sim G S w){P':Nat->Nat->Prop}{b:Nat}:¬Wr {G with P:=P'} {S with ro:=S.n} b:=by
 rintro⟨id,o,x,c,e,_⟩;have:=(hS.fresh id c).1;rw[this]at e;cases e
theorem ztg{R:ACode->ASt->Option (zL×ASt)}(hR:jJ P A K R)(hK:G.K=K){f:Nat}{fn:Func}{af:za}(hf:P.funcs[f]?=some fn)(ac:vg P K A.mode (ye A) fn af=true){S:AS}(hS:Sim G S w)(hg:qW A G w)
 {args':List AV} {l:List Value} {ids:List Nat} (C:∀id,ids.contains id=true->S.ro<=id)
 (ad:zx {G with P:=fun b o=>G.P b o\/∃id B x,ids.contains id=true/\S.heap id=some B/\G.ι id=some x/\0<x.2.2/\x.1=b} w args' l)
 {r O:AV} {S1:AS} (he:enter R af args' {jr S ids with ro:=S.n}=some (r,S1)) (ae:S1.frzTo S.n 2 r=some O) (hp:O.pure=true):
 Calls P f l.toArray w (kq G S w O (jr S ids))/\Low S (jr S ids):=by
 let Pp:Nat->Nat->Prop:=fun b o=>G.P b o\/∃id B x,ids.contains id=true/\S.heap id=some B/\G.ι id=some x/\0<x.2.2/\x.1=b
 let Q:Gh:={G with P:=Pp}
 have d:∀id o,(jr S ids).heap id=some o->S.heap id=some o/\ids.contains id=false:=by
  intro id o e;simp only[jr]at e;split at e
  ·cases e
  ·rename_i h;exact⟨e,by simpa using h⟩
 have p:Sim G (jr S ids) w:=hS.less fun id o e=>(d id o e).1;have E:∀b o,Pp b o->b<w.heap.size:=by
  rintro b o (h|⟨id,B,x,_,e,q,s,rfl⟩)
  ·exact hS.lt b o h
  ·obtain⟨y,t,ho⟩:=hS.obj id B e;rw[q]at t;cases t;exact ho.lt s
 have F:∀b o,G.P b o->Pp b o:=fun b o h=>.inl h;have T:Le G w Q w:=⟨fun _ _ h=>h,F,rfl,fun _ _ _ _ h=>h⟩;have ag:Sim Q {jr S ids with ro:=S.n} w:=znd p E F;have ah:qW A Q w:=fun g v e m k=>(hg g v e m (by rw[<-T.K];exact k)).le T;obtain⟨hc,H⟩:=zeE (G:=Q) hR hK hf ac ag ah ad he;have I:Low S (jr S ids):=by
  refine⟨rfl,xad _,fun id e=>?_⟩;simp only[jr];split
  ·rename_i h;have:=C id h;omega
  ·rfl
 refine⟨hc.mono ?_,I⟩;rintro e w' ⟨v,G1,rfl,U,J,j,V⟩;have ai:∀b,¬Wr Q {jr S ids with ro:=S.n} b:=fun b=>znz (G:=G) (S:=jr S ids) p;have c:∀b,DW Q {jr S ids with ro:=S.n} w b->w.heap.size<=b:=fun b h=>h.elim id fun h=>absurd h (ai b);have i:∀b,b<w.heap.size->w'.heap[b]?=w.heap[b]?:=fun b W=>j.keep b W fun h=>by have:=c b h;omega
 let P2:Nat->Nat->Prop:=fun b o=>Pp b o\/(w.heap.size<=b/\b<w'.heap.size)
 let L:Gh:={G1 with P:=fun b o=>G1.P b o\/(w.heap.size<=b/\b<w'.heap.size)}
 let X:Gh:={G with P:=P2}
 have Y:Le G1 w' L w':=⟨fun _ _ h=>h,fun _ _ h=>.inl h,rfl,fun _ _ _ _ h=>h⟩;have M:Rep L w' O v:=by
  refine zfm J Y ?_ 2 r O v U ae;intro id o x off aj ho q s;right;obtain⟨y,t,z⟩:=J.obj id o ho;rw[q]at t;cases t;refine⟨?_,z.lt s⟩;exact c _ (V _ ⟨id,o,x,by rw[H.ro];exact aj,ho,q,s,rfl⟩)
 have Z:∀b o,L.P b o->P2 b o:=by
  rintro b o (h|h)
  ·rcases j.new b o h with h'|h'
   ·exact .inl h'
   ·exact .inr ⟨c b h',J.lt b o h⟩
  ·exact .inr h
 have N:Rep X w' O v:=M.toldG (G':=X) Z j.K.symm hp;have aa:Ext (DW G S w) G w X w':=by
  refine {ι:=fun _ _ h=>h,P:=fun b o h=>.inl (.inl h),K:=rfl,cell:=?_,size:=j.size,keep:=fun b W _=>i b W,stay:=fun b o hp=>i b (hS.lt b o hp),new:=?_,io:=j.io}
  ·intro b o u ak al;rw[zas (i b (hS.lt b o ak))];exact al
  ·rintro b o ((h|⟨id,B,x,h1,h2,h3,h4,rfl⟩)|h)
   ·exact .inl h
   ·exact .inr (.inr ⟨id,B,x,C id h1,h2,h3,h4,rfl⟩)
   ·exact .inr (.inl h.1)
 have am:Sim X (jr S ids) w':=by
  refine p.keep aa.toLe (fun id _ hn=>(hS.fresh id hn).2) ?_ ?_ ?_
  ·intro id o x e q s;obtain⟨y,t,z⟩:=p.obj id o e;rw[q]at t;cases t;exact i _ (z.lt s)
  ·rintro id o x off ab e q s ((h|⟨an,B,x2,h1,h2,h3,h4,h5⟩)|h)
   ·exact h
   ·obtain⟨e1,e2⟩:=d id o e;have:=hS.inj an id B o x2 x h2 e1 h3 q h4 s h5;subst this;rw[h1]at e2;cases e2
   ·obtain⟨y,t,z⟩:=p.obj id o e;rw[q]at t;cases t;have:=z.lt s;omega
  ·rintro b o (h|h)
   ·exact xan (E b o h) j.size
   ·exact h.2
 refine⟨v,X,rfl,N,am,aa,?_⟩;rintro b ⟨id,o,x,ab,e,q,s,W⟩;exact .inr ⟨id,o,x,ab,(d id o e).1,q,s,W⟩
theorem zHh{R:ACode->ASt->Option (zL×ASt)}(m:jJ P A K R)(p:G.K=K){f:Nat}{fn:Func}{af:za}(q:P.funcs[f]?=some fn)(g:vg P K A.mode (ye A) fn af=true){S:AS}(hS:Sim G S w)(s:qW A G w)
 {args args':List AV} {c:List Value} (t:zx G w args c) {ids:List Nat} (e:∀id,ids.contains id=true->S.ro<=id) (d:zI (S.frzTo S.ro 1) args=some args')
 (i:∀id∈qJ args,ids.contains id=true)
 {r j:AV} {l:AS} (u:enter R af args' {jr S ids with ro:=S.n}=some (r,l)) (k:l.frzTo S.n 2 r=some j) (hp:j.pure=true):
 Calls P f c.toArray w (kq G S w j (jr S ids))/\Low S (jr S ids):=
 ztg m p q g hS s e (zlJ (G':={G with P:=fun b o=>G.P b o\/∃id v x,ids.contains id=true/\S.heap id=some v/\G.ι id=some x/\0<x.2.2/\x.1=b}) hS ⟨fun _ _ h=>h,fun _ _ h=>.inl h,rfl,fun _ _ _ _ h=>h⟩ (fun id o x off y z B C=>.inr ⟨id,o,x,y,z,B,C,rfl⟩) i t d) u k hp
theorem zBY{R:ACode->ASt->Option (zL×ASt)}(j:jJ P A K R)(k:G.K=K){f:Nat}{fn:Func}{af:za}(l:P.funcs[f]?=some fn)(d:vg P K A.mode (ye A) fn af=true){S:AS}(hS:Sim G S w)(m:qW A G w)
 {args:List AV} {c:List Value} (p:zx G w args c)
 {r e:AV} {i:AS} (q:enter R af (yL args) {S with ro:=S.n}=some (r,i)) (g:i.frzTo S.n 2 r=some e) (hp:e.pure=true):
 Calls P f c.toArray w (kq G S w e S)/\Low S S:=
 ztg j k l d hS m (ids:=[]) (fun _ h=>by simp at h) ((zaT p).mono (⟨fun _ _ h=>h,fun _ _ h=>Or.inl h,rfl,fun _ _ _ _ h=>h⟩:Le G w {G with P:=fun b o=>G.P b o\/∃id s x,([]:List Nat).contains id=true/\S.heap id=some s/\G.ι id=some x/\0<x.2.2/\x.1=b} w)) q g hp
theorem zKg{S:AS}(hS:Sim G S w){ids:List Nat}(f:∀id,ids.contains id=true->S.ro<=id):
 ∃d:Gh,Le G w d w/\(∀id o x off,ids.contains id=true->S.heap id=some o->G.ι id=some x->0<x.2.2->d.P x.1 off)/\Sim d (jr S ids) w/\Ext (DW G S w) G w d w/\(∀b,Wr d (jr S ids) b->DW G S w b)/\Low S (jr S ids):=by
 let v:Nat->Nat->Prop:=fun b o=>G.P b o\/∃id g x,ids.contains id=true/\S.heap id=some g/\G.ι id=some x/\0<x.2.2/\x.1=b
 let d:Gh:={G with P:=v}
 have c:∀id o,(jr S ids).heap id=some o->S.heap id=some o/\ids.contains id=false:=by
  intro id o e;simp only[jr]at e;split at e
  ·cases e
  ·rename_i h;exact⟨e,by simpa using h⟩
 have s:Sim G (jr S ids) w:=hS.less fun id o e=>(c id o e).1;have i:∀b o,v b o->b<w.heap.size:=by
  rintro b o (h|⟨id,g,x,_,e,j,k,rfl⟩)
  ·exact hS.lt b o h
  ·obtain⟨y,z,E⟩:=hS.obj id g e;rw[j]at z;cases z;exact E.lt k
 have l:Le G w d w:=⟨fun _ _ h=>h,fun b o h=>.inl h,rfl,fun _ _ _ _ h=>h⟩;have t:Ext (DW G S w) G w d w:=by
  refine {ι:=fun _ _ h=>h,P:=fun b o h=>.inl h,K:=rfl,cell:=fun _ _ _ _ h=>h,size:=xad _,keep:=fun b B _=>rfl,stay:=fun b o hp=>rfl,new:=?_,io:=Io.refl w};rintro b o (h|⟨id,g,x,m,n,p,q,rfl⟩)
  ·exact .inl h
  ·exact .inr (.inr ⟨id,g,x,f id m,n,p,q,rfl⟩)
 refine⟨d,l,fun id o x off m n p q=>.inr ⟨id,o,x,m,n,p,q,rfl⟩,?_,t,?_,?_⟩
 ·refine s.keep l (fun id _ F=>(hS.fresh id F).2) (fun _ _ _ _ _ _=>rfl) ?_ i;rintro id o x off r e j k (h|⟨u,g,H,m,n,p,q,I⟩)
  ·exact h
  ·obtain⟨J,C⟩:=c id o e;have:=hS.inj u id g o H x n J p j q k I;subst this;rw[m]at C;cases C
 ·rintro b ⟨id,o,x,r,e,j,k,B⟩;exact .inr ⟨id,o,x,r,(c id o e).1,j,k,B⟩
 ·refine⟨rfl,xad _,fun id e=>?_⟩;simp only[jr];split
  ·rename_i h;have:=f id h;omega
  ·rfl
theorem zCu(f:Fr A D G ρ σ a w){o:Oper}{xs:List zo}(b:yw P G.K o.op .tell xs=true){vs:List AV}(g:evs A σ.tm xs=some vs)
 {v:AV} {n:Option (Nat×List AV)} {S':AS} (hp:ze .tell o.dst σ.rg σ.S vs=some (v,n,S')):qh P A D G ({σ with S:=S'}.regs n) a w (execOp a.eval o) v:=by
 have c:∀x:Operand,(execOp a.eval o).run P w=.ok (.value (a.eval x)) w->TL G ρ σ.rg w vs [a.eval x]->qh P A D G ({σ with S:=S'}.regs n) a w (execOp a.eval o) v:=by
  intro x i hT;obtain _|⟨h,t⟩:=hT;cases t;rename_i u;simp only[ze]at hp;split at hp
  ·rename_i d;simp only[xaf,Prod.mk.injEq]at hp;obtain⟨z,j,rfl,rfl,rfl⟩:=hp;have p:u.isReg=false:=by
    cases u with
    |reg _ _=>simp[AS.frzTo,AV.frz]at j
    |_=>rfl
   obtain⟨y,q,B,r,C,E,k⟩:=zKg f.sim (ids:=qJ [u]) (fun id e=>by
    rw[List.all_eq_true]at d;simpa using d id (by simpa using e))
   have m:zx y w [z] [a.eval x]:=zlJ f.sim q B (ids:=qJ [u]) (l:=[u]) (fun id e=>by simpa using e) (.cons (h.rep p) .nil) (by simp only[zI];rw[j];rfl);cases m with
   |cons h1 _=>
    obtain⟨F,H⟩:=f.called h1 r C E k;exact⟨_,_,y,ρ,.inl i,F,H,h1.trep⟩
  ·cases hp
 simp only[yw]at b;split at b
 ·rename_i x s;exact c x (by rw[zo6 _ _ s];rfl) (yv f b g)
 ·rename_i x s;exact c x (by rw[zo1 _ _ s];rfl) (yv f b g)
 ·cases b
theorem zF5(d:Fr A D G ρ σ a w){o:Oper}{op:AOp}{xs:List zo}(b:yw P G.K o.op op xs=true){vs:List AV}(c:evs A σ.tm xs=some vs)
 {v:AV} {f:Option (Nat×List AV)} {S':AS} (hp:ze op o.dst σ.rg σ.S vs=some (v,f,S')):qh P A D G ({σ with S:=S'}.regs f) a w (execOp a.eval o) v:=by
 have zcC:∀{G1:f=none/\S'=σ.S/\yr P A D G ρ σ a w (execOp a.eval o) v},qh P A D G ({σ with S:=S'}.regs f) a w (execOp a.eval o) v:=by
  rintro⟨rfl,rfl,h⟩;exact h.gone
 cases op with
 |pur p=>
  simp only[ze]at hp;cases e:pev p vs with
  |none=>rw[e]at hp;cases hp
  |some u=>
   rw[e]at hp;cases hp;exact(zHb d b c e).gone
 |ld loc sz agg=>exact zcC (G1:=zCm d b c hp)
 |st loc sz=>exact zCt d b c hp
 |alloc k zero=>exact zCg d b c hp
 |box k=>exact zCi d b c hp
 |lookup str zero ok=>exact zcC (G1:=zCo d b c hp)
 |lenM=>exact zcC (G1:=zCn d b c hp)
 |mkmap=>exact zCr d b hp
 |mapset str=>exact zCq d b c hp
 |clearM=>exact zCj d b c hp
 |mapdel str=>exact zCp d b c hp
 |append sz bytes=>exact mem_append d b c hp
 |mkslice sz bytes zero=>exact zCs d b c hp
 |appendZ sz bytes zero=>exact zCh d b c hp
 |copy sz=>exact zCl d b c hp
 |clearS sz zero=>exact zCk d b c hp
 |call key=>simp[ze]at hp
 |callv=>simp[ze]at hp
 |rangeM=>simp[ze]at hp
 |nextM=>simp[ze]at hp
 |entryM=>simp[ze]at hp
 |nilSl=>simp[ze]at hp
 |tell=>exact zCu d b c hp
 |bad=>simp[ze]at hp
theorem zB2{R:ACode->ASt->Option (zL×ASt)}(hR:jJ P A K R)(hK:G.K=K){f:Nat}{fn:Func}{af:za}(hf:P.funcs[f]?=some fn)(N:vg P K A.mode (ye A) fn af=true){S:AS}(hS:Sim G S w)(hg:qW A G w)(O:∀g v,A.glob g=some v->v.pure=true)
 {args:List AV} {d:List Value} (hr:zx G w args d) (Q:jR (yL args)=true)
 {r B:AV} {S1:AS} (he:enter R af (yL args) ⟨fun _=>none,0,0⟩=some (r,S1)) (T:S1.frzTo 0 2 r=some B) (hp:B.pure=true):
 Calls P f d.toArray w (kq G S w B S)/\Low S S:=by
 let G0:Gh:={G with ι:=fun _=>none}
 let S0:AS:=⟨fun _=>none,0,0⟩
 have U:Sim G0 S0 w:={
  obj:=fun _ _ h=>by cases h
  fresh:=fun _ _=>⟨rfl,rfl⟩
  inj:=fun _ _ _ _ _ _ h=>by cases h
  own:=fun _ _ _ _ _ h=>by cases h
  lt:=hS.lt
  ro:=xad _}
 have V:zx G0 w (yL args) d:=(zaT hr).toldG (G:=G) (G':=G0) (fun _ _ h=>h) rfl Q;have W:qW A G0 w:=fun g v e m k=>by
  have:=hg g v e m k;exact⟨this.1.toldG (G:=G) (G':=G0) (fun _ _ h=>h) rfl (O g v e),this.2⟩
 obtain⟨hc,p⟩:=zeE (G:=G0) hR hK hf N U W V he;refine⟨hc.mono ?_,Low.refl _⟩;rintro e w' ⟨v,G1,rfl,F,q,j,H⟩;have X:∀b,¬Wr G0 S0 b:=by rintro b ⟨_,_,_,_,h,_⟩;cases h
 have c:∀b,DW G0 S0 w b->w.heap.size<=b:=fun b h=>h.elim id fun h=>absurd h (X b);have i:∀b,b<w.heap.size->w'.heap[b]?=w.heap[b]?:=fun b Y=>j.keep b Y fun h=>by have:=c b h;omega
 let P2:Nat->Nat->Prop:=fun b o=>G.P b o\/(w.heap.size<=b/\b<w'.heap.size)
 let s:Gh:={G1 with P:=fun b o=>G1.P b o\/(w.heap.size<=b/\b<w'.heap.size)}
 let I:Gh:={G with P:=P2}
 have J:Le G1 w' s w':=⟨fun _ _ h=>h,fun _ _ h=>.inl h,rfl,fun _ _ _ _ h=>h⟩;have t:Rep s w' B v:=by
  refine zfm q J ?_ 2 r B v F T;intro id o x off Z ho C E;right;obtain⟨y,n,l⟩:=q.obj id o ho;rw[C]at n;cases n;exact⟨c _ (H _ ⟨id,o,x,by rw[p.ro];exact Z,ho,C,E,rfl⟩),l.lt E⟩
 have L:∀b o,s.P b o->P2 b o:=by
  rintro b o (h|h)
  ·rcases j.new b o h with h'|h'
   ·exact .inl h'
   ·exact .inr ⟨c b h',q.lt b o h⟩
  ·exact .inr h
 have z:Rep I w' B v:=t.toldG (G':=I) L j.K.symm hp;have M:Ext (DW G S w) G w I w':=by
  refine {ι:=fun _ _ h=>h,P:=fun b o h=>.inl h,K:=rfl,cell:=?_,size:=j.size,keep:=fun b Y _=>i b Y,stay:=fun b o hp=>i b (hS.lt b o hp),new:=?_,io:=j.io}
  ·intro b o u aa ab;rw[zas (i b (hS.lt b o aa))];exact ab
  ·rintro b o (h|h)
   ·exact .inl h
   ·exact .inr (.inl h.1)
 have ac:Sim I S w':=by
  refine hS.keep M.toLe (fun id _ hn=>(hS.fresh id hn).2) ?_ ?_ ?_
  ·intro id o x e C E;obtain⟨y,n,l⟩:=hS.obj id o e;rw[C]at n;cases n;exact i _ (l.lt E)
  ·rintro id o x off ad e C E (h|h)
   ·exact h
   ·obtain⟨y,n,l⟩:=hS.obj id o e;rw[C]at n;cases n;have:=l.lt E;omega
  ·rintro b o (h|h)
   ·exact xan (hS.lt b o h) j.size
   ·exact h.2
 exact⟨v,I,rfl,z,ac,M,fun b h=>.inr h⟩
end
theorem zaS{S:AS}{id:Nat}{o:Option yX}(h:S.ro<=id):Low S (S.set id o):=by
 refine⟨rfl,xad _,fun j b=>?_⟩;have:j≠id:=by omega
 simp only[AS.set,if_neg this]
theorem zaR{S:AS}{o:yX}(h:S.ro<=S.n):Low S (S.new o):=by
 refine⟨rfl,Nat.le_succ _,fun j b=>?_⟩;have:j≠S.n:=by omega
 simp only[AS.new,if_neg this]
theorem zyD{S:AS}(b:S.ro<=S.n){sz bytes:Nat}{s:AV}{ys:List (List AV)}{r:AV×AS}(h:jq sz bytes S s ys=some r):Low S r.2:=by
 unfold jq at h;split at h
 ·split at h
  ·cases h;exact zaR b
  ·cases h;exact Low.refl _
  ·cases h;exact Low.refl _
  ·cases h
 ·split at h
  ·split at h
   ·cases h;exact zaR b
   ·cases h
  ·split at h
   ·split at h
    ·cases h
    ·rename_i c;split at h
     ·split at h
      ·cases h;exact zaS (by omega)
      ·split at h
       ·cases h;exact zaR b
       ·cases h
     ·split at h
      ·cases h;exact zaS (by omega)
      ·split at h
       ·cases h;exact(zaS (by omega)).trans (zaR b)
       ·cases h
   ·cases h
  ·cases h
theorem zsY{S:AS}(d:S.ro<=S.n){op:AOp}{dst:Option Nat}{rg:Nat->Option (List AV)}{vs:List AV}{v:AV}{f:Option (Nat×List AV)}{S':AS}(h:ze op dst rg S vs=some (v,f,S')):Low S S':=by
 unfold ze at h;split at h
 all_goals
  try simp only[xaa,xaf,Prod.mk.injEq]at h
 case h_1=>obtain⟨_,_,_,_,rfl⟩:=h;exact Low.refl _
 case h_2=>
  split at h
  ·simp only[xaa,xaf,Prod.mk.injEq]at h;obtain⟨_,_,_,_,_,_,rfl⟩:=h;exact Low.refl _
  ·cases h
 case h_3=>obtain⟨_,_,_,_,rfl⟩:=h;exact Low.refl _
 case h_4=>
  split at h
  ·simp only[xaa,xaf,Prod.mk.injEq]at h;obtain⟨_,_,_,_,_,_,rfl⟩:=h;exact Low.refl _
  ·cases h
 case h_5=>
  split at h
  ·simp only[xaa]at h;obtain⟨_,_,h⟩:=h;split at h
   ·cases h;exact Low.refl _
   ·cases h
  ·cases h
 case h_6=>
  split at h
  ·rename_i b;split at h
   ·simp only[xaa]at h;obtain⟨_,_,h⟩:=h;split at h
    ·cases h;exact zaS b.1
    ·cases h
   ·cases h
  ·cases h
 case h_7=>
  obtain⟨_,_,h⟩:=h;split at h
  ·cases h;exact Low.refl _
  ·cases h
 case h_8=>
  split at h
  ·cases h;exact zaR d
  ·cases h
 case h_9=>
  split at h
  ·simp only[xaa]at h;obtain⟨_,_,h⟩:=h;split at h
   ·cases h;exact Low.refl _
   ·cases h
  ·cases h
 case h_10=>
  split at h
  ·cases h;exact zaR d
  ·cases h
 case h_11=>
  split at h
  ·cases h
  ·simp only[xaa,xaf,Prod.mk.injEq]at h;obtain⟨_,_,_,_,_,_,rfl⟩:=h;exact Low.refl _
 case h_12=>
  split at h
  ·cases h;exact Low.refl _
  ·cases h
 case h_13=>cases h;exact zaR d
 case h_14=>
  split at h
  ·rename_i b;split at h
   ·simp only[xaf,Prod.mk.injEq]at h;obtain⟨_,_,_,_,rfl⟩:=h;exact zaS b.1
   ·cases h
  ·cases h
 case h_15=>
  split at h
  ·rename_i b;split at h
   ·cases h;exact zaS b
   ·cases h
  ·cases h
 case h_16=>
  obtain⟨_,_,r,g,_,_,rfl⟩:=h;exact zyD d g
 case h_17=>
  split at h
  ·cases h;exact zaR d
  ·cases h
 case h_18=>
  split at h
  ·cases h;exact zaR d
  ·cases h
 case h_19=>
  obtain⟨_,_,h⟩:=h;split at h
  ·cases h;exact Low.refl _
  ·split at h
   ·split at h
    ·rename_i b;cases h;exact zaS b.2.2.1
    ·cases h
   ·cases h
 case h_20=>
  split at h
  ·cases h;exact Low.refl _
  ·split at h
   ·split at h
    ·rename_i b;cases h;exact zaS b.2.2.1
    ·cases h
   ·cases h
 case h_21=>
  split at h
  ·rename_i b;split at h
   ·simp only[xaf,Prod.mk.injEq]at h;obtain⟨_,_,_,_,rfl⟩:=h;exact zaS b.1
   ·cases h
  ·cases h
 case h_22=>
  split at h
  ·rename_i c;simp only[xaf,Prod.mk.injEq]at h;obtain⟨_,_,_,_,rfl⟩:=h;refine⟨rfl,xad _,fun id e=>?_⟩;simp only[jr];split
   ·rename_i b;rw[List.all_eq_true]at c;have:=c id (by simpa using b);simp at this;omega
   ·rfl
  ·cases h
 case h_23=>cases h
section
variable{A:zA}{D:Nat->Prop}{G:Gh}{ρ:Nat->Option Nat}{σ:ASt}{a:Act}{w:World}{P:Program}{K:Nat->Option Nat}
theorem zuz{G G':Gh}{w w':World}:∀{vs:List AV} {xs:List Value},zx G w vs xs->(vs.all fun| .sc _| .opq=>true|_=>false)=true->zx G' w' vs xs
 |_,_,.nil,_=>.nil
 |v::l,_,.cons hv hl,hs=>by
  simp only[List.all_cons,xab]at hs;refine .cons ?_ (zuz hl hs.2);cases v with
  |sc _=>cases hv with|sc e=>exact .sc e
  |opq=>cases hv;exact .opq
  |_=>simp at hs
theorem Rep.scalar{G G':Gh}{w w':World}{v:AV}{x:Value}(h:Rep G w v x)(b:v.scalar=true):Rep G' w' v x:=by
 cases v with
 |sc _=>cases h with|sc e=>exact .sc e
 |opq=>cases h;exact .opq
 |tup vs=>
  cases h with
  |tup hr=>exact .tup (zuz hr b)
 |_=>simp[AV.scalar]at b
theorem zzi{R:ACode->ASt->Option (zL×ASt)}(hR:jJ P A K R)(hK:G.K=K){f:Nat}{fn:Func}{af:za}(hf:P.funcs[f]?=some fn)(E:vg P K A.mode (ye A) fn af=true){S:AS}(hS:Sim G S w)(hg:qW A G w)
 {args args':List AV} {c:List Value} (hr:zx G w args c) (p:zI (S.frzTo 0 2) args=some args')
 {r:AV} {S1:AS} (he:enter R af args' {S with ro:=S.n}=some (r,S1)) (F:r.scalar=true):
 Calls P f c.toArray w (kq G S w r S)/\Low S S:=by
 let H:Nat->Nat->Prop:=fun b o=>G.P b o\/∃id I x,S.heap id=some I/\G.ι id=some x/\0<x.2.2/\x.1=b
 let q:Gh:={G with P:=H}
 have t:∀b o,H b o->b<w.heap.size:=by
  rintro b o (h|⟨id,I,x,e,J,L,rfl⟩)
  ·exact hS.lt b o h
  ·obtain⟨y,z,ho⟩:=hS.obj id I e;rw[J]at z;cases z;exact ho.lt L
 have l:∀b o,G.P b o->H b o:=fun b o h=>.inl h;have s:Le G w q w:=⟨fun _ _ h=>h,l,rfl,fun _ _ _ _ h=>h⟩;have M:Sim q {S with ro:=S.n} w:=znd hS t l;have N:zx q w args' c:=zl7 (zfm hS s (fun id o x off _ h1 h2 h3=>.inr ⟨id,o,x,h1,h2,h3,rfl⟩) 2) hr p;have O:qW A q w:=fun g v e m k=>(hg g v e m (by rw[<-s.K];exact k)).le s;obtain⟨hc,Q⟩:=zeE (G:=q) hR hK hf E M O N he;refine⟨hc.mono ?_,Low.refl _⟩;rintro e w' ⟨v,G1,rfl,B,aa,i,Z⟩;have T:∀b,¬Wr q {S with ro:=S.n} b:=fun b=>znz (G:=G) (S:=S) hS;have j:∀b,DW q {S with ro:=S.n} w b->w.heap.size<=b:=fun b h=>h.elim id fun h=>absurd h (T b);have d:∀b,b<w.heap.size->w'.heap[b]?=w.heap[b]?:=fun b U=>i.keep b U fun h=>by have:=j b h;omega
 have C:Ext (DW G S w) G w G w':=by
  refine {ι:=fun _ _ h=>h,P:=fun b o h=>h,K:=rfl,cell:=?_,size:=i.size,keep:=fun b U _=>d b U,stay:=fun b o hp=>d b (hS.lt b o hp),new:=fun b o h=>.inl h,io:=i.io};intro b o u V W;rw[zas (d b (hS.lt b o V))];exact W
 have X:Sim G S w':=by
  refine hS.keep C.toLe (fun id _ hn=>(hS.fresh id hn).2) ?_ (fun _ _ _ _ _ _ _ _ h=>h) ?_
  ·intro id o x e J L;obtain⟨y,z,Y⟩:=hS.obj id o e;rw[J]at z;cases z;exact d _ (Y.lt L)
  ·intro b o h;exact xan (hS.lt b o h) i.size
 exact⟨v,G,rfl,B.scalar F,X,C,fun b h=>.inr h⟩
theorem zoH{R:ACode->ASt->Option (zL×ASt)}(u:Ok P A K)(p:jJ P A K R)(k:G.K=K){key f:Nat}(E:K key=some f){S:AS}(hS:Sim G S w)(l:qW A G w)
 {args:List AV} {h:List Value} (m:zx G w args h) {r:AV} {S':AS} (b:yq A R key args S=some (r,S')):
 ky P f=true/\Calls P f h.toArray w (kq G S w r S')/\Low S S':=by
 unfold yq at b;split at b
 ·cases b
 ·split at b
  ·rename_i g x;obtain⟨y,F⟩:=u.ext key f g E x;exact⟨y,F _ _ _ _ _ _ _ k b hS m l⟩
  ·rename_i x;simp only[xaa]at b;obtain⟨af,z,b⟩:=b;obtain⟨B,fn,q,e⟩:=u.fn key f af E x z;refine⟨B,?_⟩;split at b
   ·exact zeE p k q e hS l m b
   ·split at b
    ·rename_i j;simp only[xaa]at b;obtain⟨args',d,⟨s,t⟩,c,v,i,b⟩:=b;split at b
     ·rename_i hp;cases b;refine zHh p k q e hS l m (ids:=qJ args) ?_ d ?_ c i hp
      ·intro id n;rw[List.all_eq_true]at j;simpa using j id (by simpa using n)
      ·intro id n;simpa using n
     ·cases b
    ·cases b
   ·simp only[xaa]at b;obtain⟨⟨s,t⟩,c,v,i,b⟩:=b;split at b
    ·rename_i hp;cases b;exact zBY p k q e hS l m c i hp
    ·cases b
   ·simp only[xaa]at b;obtain⟨args',d,⟨s,t⟩,c,b⟩:=b;split at b
    ·rename_i hp;cases b;exact zzi p k q e hS l m d c hp
    ·cases b
   ·simp only[xaa]at b;obtain⟨⟨s,t⟩,c,b⟩:=b;split at b
    ·cases b;exact zeE p k q e hS l m c
    ·cases b
   ·split at b
    ·rename_i C;simp only[xaa]at b;obtain⟨⟨s,t⟩,c,v,i,b⟩:=b;split at b
     ·rename_i hp;cases b;exact zB2 p k q e hS l u.gpure m C c i hp
     ·cases b
    ·cases b
end
section
variable{A:zA}{D:Nat->Prop}{G:Gh}{ρ:Nat->Option Nat}{σ:ASt}{a:Act}{w:World}{P:Program}{K:Nat->Option Nat}
theorem zH7{f:Nat}(b:ky P f=true){args:Array Value}{w:World}:(callFunc f args).run P w=.ok (.enter f args) w:=by
 unfold ky at b;split at b
 ·rename_i fn d;simp only[xab,Bool.not_eq_true',Option.isSome_iff_exists]at b;obtain⟨e,c,g⟩:=b;unfold callFunc;simp only[xag,Go.run_program,d,e,g,xac,Option.isNone_some];rfl
 ·cases b
theorem zH6{ev:Operand->Value}{o:Oper}{c:Call}{x:Operand}{f:Nat}{first cap:Array Value}(b:o.op=.call c)(d:c.callee=.value x)(e:ev x=.func (.func f) first cap)(g:ky P f=true):
 (execOp ev o).run P w=.ok (.enter f (first++c.args.map ev++cap)) w:=by
 rw[zo4 ev o b];unfold resolve;simp only[d,e,Deferred.ofValue,xag,xah,xac,invoke];exact zH7 g
theorem zl0{σ:ASt}{S':AS}{b:Option (Nat×List AV)}:(({σ with S:=S'}:ASt).regs b).S=S':=by
 unfold ASt.regs;split<;>rfl
theorem zzv(d:Fr A D G ρ σ a w){R:ACode->ASt->Option (zL×ASt)}(j:Ok P A K)(k:jJ P A K R)(l:G.K=K){key f:Nat}(m:K key=some f){args:List AV}{b:List Value}(n:zx G w args b)
 {r:AV} {S':AS} (p:yq A R key args σ.S=some (r,S')):ky P f=true/\Low σ.S S'/\Calls P f b.toArray w (fun e w'=>∃v G',e=.returned v/\Fr A D G' ρ {σ with S:=S'} a w'/\Ext D G w G' w'/\Rep G' w' r v):=by
 obtain⟨q,s,i⟩:=zoH j k l m d.sim d.glob n p;refine⟨q,i,s.mono ?_⟩;rintro e w' ⟨v,G',rfl,c,t,u,x⟩;obtain⟨g,h⟩:=d.called c t u x i;exact⟨v,G',rfl,g,h,c⟩
theorem zoZ{A:zA}{R:ACode->ASt->Option (zL×ASt)}{key:Nat}{args:List AV}{S:AS}{r:AV×AS}(h:yq A R key args S=some r):args.any AV.isReg=false:=by
 unfold yq at h;split at h
 ·cases h
 ·rename_i b;simpa using b
theorem zyo(J:Fr A D G ρ σ a w){R:ACode->ASt->Option (zL×ASt)}(W:Ok P A K)(X:jJ P A K R)(Y:G.K=K){o:Oper}{op:AOp}{xs:List zo}{dst:Option Nat}(L:o.dst=dst)(b:yw P K o.op op xs=true)
 {vs:List AV} (s:evs A σ.tm xs=some vs) {σ':ASt}
 (m:y5 A R op dst vs σ=some σ'):
 Low σ.S σ'.S/\∀(N:Act->World->Prop) (Q:Exit->Act->World->Prop),(∀G' ρ' a' w',Fr A D G' ρ' σ' a' w'->Ext D G w G' w'->N a' w')->o.wp P a w N Q:=by
 subst Y;have t:(ze op dst σ.rg σ.S vs).map (fun r=>({σ with S:=r.2.2}.regs r.2.1).put dst r.1)=some σ'->Low σ.S σ'.S/\∀(N:Act->World->Prop) (Q:Exit->Act->World->Prop),(∀G' ρ' a' w',Fr A D G' ρ' σ' a' w'->Ext D G w G' w'->N a' w')->o.wp P a w N Q:=by
  intro h;simp only[xaf]at h;obtain⟨⟨v,ru,S'⟩,h,rfl⟩:=h;refine⟨?_,?_⟩
  ·have:=zsY (J.sim.ro) h;cases dst with
   |none=>simp only[ASt.put,zl0];exact this
   |some d=>simp only[ASt.put,zl0];exact this
  ·intro N Q M;rw[<-L]at h;obtain⟨x,w',G',ρ',g,u,y,hT⟩:=zF5 J (o:=o) b s h;unfold Oper.wp;have:=M G' ρ' (a.put o.dst x) w' (by rw[<-L];exact u.put o.dst hT) y;rcases g with g|⟨g,rfl⟩
   ·rw[g];exact this
   ·rw[g];exact this
 have call:∀{c:Call} {x:Operand} {f:Nat} {first cap:Array Value} {key:Nat} {args:List AV} {i:List Value},o.op=.call c->c.callee=.value x->a.eval x=.func (.func f) first cap->G.K key=some f->
  zx G w args i->i.toArray=first++c.args.map a.eval++cap->
  (yq A R key args σ.S).map (fun r=>({σ with S:=r.2}:ASt).put dst r.1)=some σ'->Low σ.S σ'.S/\∀(N:Act->World->Prop) (Q:Exit->Act->World->Prop),(∀G' ρ' a' w',Fr A D G' ρ' σ' a' w'->Ext D G w G' w'->N a' w')->o.wp P a w N Q:=by
  intro c x f first cap key args i C Z hx E F O h
  simp only[xaf]at h;obtain⟨⟨r,S'⟩,h,rfl⟩:=h;obtain⟨H,I,z⟩:=zzv J W X rfl E F h;refine⟨?_,?_⟩
  ·cases dst<;>exact I
  ·intro N Q M;unfold Oper.wp;rw[zH6 C Z hx H,Oper.upon_enter,<-O];refine z.mono ?_;rintro e w' ⟨v,G',rfl,u,y,j⟩;exact M G' ρ _ w' (by rw[<-L];exact u.put o.dst j.trep) y
 have k:=fun {xs:List zo} {ys:List Operand} (h:zO G.K xs ys=true) {vs:List AV} (h':evs A σ.tm xs=some vs)=>yv J h h';have n:∀xs:Array Operand,(xs.toList.map a.eval).toArray=xs.map a.eval:=fun xs=>by rw[<-List.map_toArray,Array.toArray_toList]
 cases op with
 |call key=>
  simp only[y5]at m;simp only[yw]at b;split at b
  ·rename_i f T U C;simp only[xab,beq_iff_eq]at b;obtain⟨⟨E,H⟩,b⟩:=b;have hT:=k b s;have l:=m;simp only[xaf]at l;obtain⟨r,F,_⟩:=l;have j:=hT.rep (zoZ F);exact call C rfl (x:=.func f) (first:=#[]) (cap:=#[]) rfl E j (by rw[n];simp) m
  ·cases b
 |callv=>
  simp only[y5]at m;simp only[yw]at b;split at b
  ·rename_i x T U C;have hT:=k b s;split at m
   ·rename_i key first cap rest
    have l:=m;simp only[xaf]at l;obtain⟨r,F,_⟩:=l;have p:=zoZ F;rw[xao]at hT;generalize hq:a.eval x=q at hT;cases hT with
    |cons V ht=>
     have V:Rep G w (.fn key first cap) q:=V;cases V with
     |fn E ha hb=>
      rename_i f va vb;have B:rest.any AV.isReg=false:=by
       simp only[List.any_append,Bool.or_eq_false_iff]at p;exact p.1.2
      refine call C rfl hq E ((ha.append (ht.rep B)).append hb) ?_ m;simp only[<-List.append_toArray,n,Array.append_assoc]
   ·cases m
  ·cases b
 |_=>exact t m
end
section
variable{A:zA}{D:Nat->Prop}{G:Gh}{ρ:Nat->Option Nat}{σ:ASt}{a:Act}{w:World}{P:Program}{K:Nat->Option Nat}
theorem zrs{tm:List AV}{t:Nat}{v:AV}(h:tm.getD t .junk=v)(c:v≠.junk):tm[t]?=some v:=by
 rw[xar]at h;cases b:tm[t]? with
 |none=>rw[b]at h;exact absurd h.symm c
 |some u=>rw[b]at h;simp at h;rw[h]
theorem zu2(d:Fr A D G ρ σ a w){t:Nat}{v:AV}(h:σ.tm[t]?=some v):∃x,a.tmps[t]?=some x/\yP G ρ σ.rg w v x:=by
 have e:=d.tmp t v h;have c:t<σ.tm.length:=by
  by_cases c:t<σ.tm.length
  ·exact c
  ·rw[xap (by omega)]at h;cases h
 have b:t<a.tmps.size:=by rw[d.size];exact c
 refine⟨a.tmps[t],by simp[b],?_⟩;rw[Array.getD_eq_getD_getElem?,Array.getElem?_eq_getElem b]at e;exact e
theorem zrw(p:Fr A D G ρ σ a w){ops:Array Oper}{o:Oper}{i:zu}(e:vO P K ops o i=true){c:Bool}(f:qB σ.tm i.guard=some c):Region.wanted o (yielded ops a.tmps)=c:=by
 simp only[vO,xab]at e;obtain⟨_,e⟩:=e;unfold Region.wanted;split at e
 ·rename_i k l;rw[l]at f;rw[k];simp only[qB]at f;cases f;rfl
 ·rename_i j b t b' k l;rw[l]at f;rw[k];simp only[xab,beq_iff_eq]at e;obtain⟨rfl,h⟩:=e;simp only[qB]at f;simp only[yielded,h,xae];split at f
  ·rename_i d m;obtain⟨x,n,g⟩:=zu2 p (zrs m (by simp));have g:Rep G w (.sc (.bool d)) x:=g;cases g;cases f;rw[n];cases d<;>cases b<;>rfl
  ·rename_i vs m;obtain⟨x,n,g⟩:=zu2 p (zrs m (by simp));have g:Rep G w (.tup vs) x:=g;cases g;cases f;rw[n];simp
  ·cases f
 ·cases e
theorem zng(e:Fr A D G ρ σ a w){R:ACode->ASt->Option (zL×ASt)}(m:Ok P A K)(n:jJ P A K R)(p:G.K=K){ops:Array Oper}{o:Oper}{i:zu}(d:vO P K ops o i=true){σ':ASt}(b:step A R i σ=some σ'):
 Low σ.S σ'.S/\∀(N:Act->World->Prop) (Q:Exit->Act->World->Prop),(∀G' ρ' a' w',Fr A D G' ρ' σ' a' w'->Ext D G w G' w'->N a' w')->
  (if Region.wanted o (yielded ops a.tmps)then o.wp P a w N Q\/(o.asks P a w/\LetsOut Q)else N (a.put o.dst undef) w):=by
 unfold step at b;have c:=d;simp only[vO,xab,beq_iff_eq]at c;obtain⟨⟨l,f⟩,_⟩:=c;split at b
 ·cases b
 ·rename_i g;have h:=zrw e d g;cases b;refine⟨?_,?_⟩
  ·cases i.dst<;>exact Low.refl _
  ·intro N Q j;rw[h,l];exact j G ρ _ w (e.put i.dst (Rep.trep (Rep.tup (.nil)))) (Ext.refl D G w)
 ·rename_i g;have h:=zrw e d g;simp only[xaa]at b;obtain⟨vs,k,b⟩:=b;obtain⟨q,r⟩:=zyo e m n p l f k b;refine⟨q,fun N Q j=>?_⟩;rw[h];exact .inl (r N Q j)
theorem zdT{ops:Array Oper}:∀{os:List Oper} {is:List zu},wg P K ops os is=true->os.length=is.length/\∀(j:Nat) (o:Oper),os[j]?=some o->∃i,is[j]?=some i/\vO P K ops o i=true
 |[],[],_=>⟨rfl,fun j o h=>by simp at h⟩
 |[],_::_,h=>by simp[wg]at h
 |_::_,[],h=>by simp[wg]at h
 |o::os,i::is,h=>by
  simp only[wg,xab]at h;obtain⟨c,d⟩:=zdT h.2;refine⟨by simp[c],?_⟩;intro j o' b;cases j with
  |zero=>simp at b;subst b;exact⟨i,by simp,h.1⟩
  |succ j=>simp at b;obtain⟨e,f,g⟩:=d j o' b;exact⟨e,by simp[f],g⟩
def zen(R:ACode->ASt->Option (zL×ASt)):Prop:=∀c σ e σ',R c σ=some (e,σ')->σ.S.ro<=σ.S.n->Low σ.S σ'.S
theorem Low.le{S S':AS}(h:Low S S')(b:S.ro<=S.n):S'.ro<=S'.n:=by have:=h.ro;have:=h.n;omega
theorem zoT{R:ACode->ASt->Option (zL×ASt)}(d:zen R){f:za}{args:List AV}{S:AS}{r:AV×AS}(h:enter R f args S=some r)(g:S.ro<=S.n):Low S r.2:=by
 have key:∃e σ',R f.body (f.start args S)=some (e,σ')/\f.done σ'=some r:=by
  unfold enter at h;split at h
  ·rename_i σ' h';exact⟨_,σ',h',h⟩
  ·rename_i σ' h';exact⟨_,σ',h',h⟩
  ·cases h
 obtain⟨e,σ',b,c⟩:=key;have:=d _ _ _ _ b g;simp only[za.done,xaf]at c;obtain⟨_,_,rfl⟩:=c;exact this
theorem zoF{R:ACode->ASt->Option (zL×ASt)}(f:Ok P A K)(d:zen R){key:Nat}{args:List AV}{S:AS}{r:AV×AS}(h:yq A R key args S=some r)(c:S.ro<=S.n):Low S r.2:=by
 unfold yq at h;split at h
 ·cases h
 ·split at h
  ·rename_i g i;exact f.low key g i args S r.1 r.2 h c
  ·simp only[xaa]at h;obtain⟨af,j,h⟩:=h;split at h
   ·exact zoT d h c
   ·split at h
    ·rename_i b;simp only[xaa]at h;obtain⟨_,_,_,_,_,_,h⟩:=h;split at h
     ·cases h;refine⟨rfl,xad _,fun id e=>?_⟩;simp only[jr];split
      ·rename_i k;rw[List.all_eq_true]at b;have:=b id (by simpa using k);simp at this;omega
      ·rfl
     ·cases h
    ·cases h
   ·simp only[xaa]at h;obtain⟨_,_,_,_,h⟩:=h;split at h
    ·cases h;exact Low.refl _
    ·cases h
   ·simp only[xaa]at h;obtain⟨_,_,_,_,h⟩:=h;split at h
    ·cases h;exact Low.refl _
    ·cases h
   ·simp only[xaa]at h;obtain⟨m,l,h⟩:=h;split at h
    ·cases h;exact zoT d l c
    ·cases h
   ·split at h
    ·simp only[xaa]at h;obtain⟨_,_,_,_,h⟩:=h;split at h
     ·cases h;exact Low.refl _
     ·cases h
    ·cases h
theorem zdX{σ:ASt}{dst:Option Nat}{v:AV}:(σ.put dst v).S=σ.S:=by cases dst<;>rfl
theorem zJ7{R:ACode->ASt->Option (zL×ASt)}(d:Ok P A K)(e:zen R){i:zu}{σ σ':ASt}(h:step A R i σ=some σ')(c:σ.S.ro<=σ.S.n):Low σ.S σ'.S:=by
 unfold step at h;split at h
 ·cases h
 ·cases h;rw[zdX];exact Low.refl _
 ·simp only[xaa]at h;obtain⟨vs,_,h⟩:=h;unfold y5 at h;split at h
  ·simp only[xaf]at h;obtain⟨r,b,rfl⟩:=h;rw[zdX];exact zoF d e b c
  ·split at h
   ·simp only[xaf]at h;obtain⟨r,b,rfl⟩:=h;rw[zdX];exact zoF d e b c
   ·cases h
  ·simp only[xaf]at h;obtain⟨⟨v,f,S'⟩,b,rfl⟩:=h;rw[zdX,zl0];exact zsY c b
theorem znj{R:ACode->ASt->Option (zL×ASt)}(b:Ok P A K)(c:zen R):∀{l:List zu} {σ σ':ASt},yK A R l σ=some σ'->σ.S.ro<=σ.S.n->Low σ.S σ'.S
 |[],σ,σ',h,_=>by simp only[yK]at h;cases h;exact Low.refl _
 |i::l,σ,σ',h,hn=>by
  simp only[yK,xaa]at h;obtain⟨σ1,e,f⟩:=h;have d:=zJ7 b c e hn;exact d.trans (znj b c f (d.le hn))
theorem zn0(p:Ok P A K):∀n,zen (zy A n)
 |0=>fun c σ e σ' h _=>by simp[zy]at h
 |n+1=>fun c σ e σ' h d=>by
  have ih:=zn0 p n;cases c with
  |skip=>simp only[zy]at h;cases h;exact Low.refl _
  |ops l=>
   simp only[zy,xaf]at h;obtain⟨σ1,f,k⟩:=h;cases k;exact znj p ih f d
  |opsC l c=>
   simp only[zy,xaa]at h;obtain⟨σ1,f,k⟩:=h;split at k
   ·cases k;exact znj p ih f d
   ·cases k
  |seq a b=>
   simp only[zy]at h;split at h
   ·rename_i σ1 f;have g:=ih _ _ _ _ f d;exact g.trans (ih _ _ _ _ h (g.le d))
   ·exact ih _ _ _ _ h d
  |cond c a b=>
   simp only[zy]at h;split at h
   ·exact ih _ _ _ _ h d
   ·cases h
  |block id c=>
   simp only[zy]at h;split at h
   ·rename_i j σ1 f;cases h;exact ih _ _ _ _ f d
   ·exact ih _ _ _ _ h d
  |loop tm rg c=>
   simp only[zy,xaa]at h;obtain⟨σ0,m,h⟩:=h;have q:σ0.S=σ.S:=by
    unfold wF at m;dsimp only at m;split at m
    ·cases m
    ·cases m;rfl
   rw[<-q]at d ⊢;split at h
   ·rename_i σ1 f;have g:=ih _ _ _ _ f d;exact g.trans (ih _ _ _ _ h (g.le d))
   ·exact ih _ _ _ _ h d
  |exit i=>simp only[zy]at h;cases h;exact Low.refl _
  |ret=>simp only[zy]at h;cases h;exact Low.refl _
  |label i=>simp only[zy]at h;cases h;exact Low.refl _
  |goto i=>simp only[zy]at h;cases h;exact Low.refl _
  |scope b c=>
   simp only[zy]at h;split at h
   ·rename_i l σ1 f;have g:=ih _ _ _ _ f d;split at h
    ·exact g.trans (ih _ _ _ _ h (g.le d))
    ·cases h;exact g
   ·exact ih _ _ _ _ h d
theorem zfW{R:ACode->ASt->Option (zL×ASt)}(m:Ok P A K)(p:jJ P A K R){ops:Array Oper}{Q:Exit->Act->World->Prop}{rest:List Nat}:∀(n k:Nat) (is:List zu) (σ σ':ASt) (G:Gh) (ρ:Nat->Option Nat) (a:Act) (w:World),
 G.K=K->Fr A D G ρ σ a w->(∀j,j<n->∃o i,ops[k+j]?=some o/\is[j]?=some i/\vO P K ops o i=true)->is.length=n->yK A R is σ=some σ'->
 (∀G' ρ' a' w',Fr A D G' ρ' σ' a' w'->Ext D G w G' w'->wpOps P ops Q rest a' w')->wpOps P ops Q (List.range' k n++rest) a w
 |0,k,is,σ,σ',G,ρ,a,w,hK,hF,hj,hl,hs,hQ=>by
  cases is with
  |nil=>simp only[yK]at hs;cases hs;exact hQ G ρ a w hF (Ext.refl D G w)
  |cons _ _=>simp at hl
 |n+1,k,is,σ,σ',G,ρ,a,w,hK,hF,hj,hl,hs,hQ=>by
  cases is with
  |nil=>simp at hl
  |cons i is=>
   simp only[yK,xaa]at hs;obtain⟨σ1,c,d⟩:=hs;obtain⟨o,z,r,q,e⟩:=hj 0 (by omega);simp at q;subst q;rw[List.range'_succ,List.cons_append,wpOps_cons];unfold wpOp;have f:ops[k]?=some o:=r;rw[f];refine(zng hF m p hK e c).2 _ Q fun G1 ρ1 s t g b=>?_;exact zfW m p (Q:=Q) n (k+1) is σ1 σ' G1 ρ1 s t (by rw[b.K,hK]) g (fun j u=>by
    obtain⟨o,i,v,x,y⟩:=hj (j+1) (by omega);exact⟨o,i,by rw[<-v];congr 1;omega,by simpa using x,y⟩) (by simpa using hl) d
    (fun G' ρ' a' w' h l=>hQ G' ρ' a' w' h (b.trans l))
theorem zJ8{R:ACode->ASt->Option (zL×ASt)}(b:Ok P A K)(c:jJ P A K R){ops:Array Oper}{Q:Exit->Act->World->Prop}(n k:Nat)(is:List zu)(σ σ':ASt)(G:Gh)(ρ:Nat->Option Nat)(a:Act)(w:World)
 (d:G.K=K) (e:Fr A D G ρ σ a w) (f:∀j,j<n->∃o i,ops[k+j]?=some o/\is[j]?=some i/\vO P K ops o i=true) (g:is.length=n) (h:yK A R is σ=some σ')
 (l:∀G' ρ' a' w',Fr A D G' ρ' σ' a' w'->Ext D G w G' w'->Q .normal a' w'):wpOps P ops Q (List.range' k n) a w:=by
 have:=zfW b c (Q:=Q) (rest:=[]) n k is σ σ' G ρ a w d e f g h (fun G' ρ' a' w' m p=>l G' ρ' a' w' m p)
 rwa [List.append_nil]at this
end
def App(d:Option Nat)(v:AV)(b:Option (Nat×List AV))(c:Option AS)(τ:ASt):ASt:=(({τ with S:=c.getD τ.S}:ASt).regs b).put d v
structure Agr(f:vj)(σ τ:ASt):Prop where
 tm:∀t∈f.reads,τ.tm.getD t .junk=σ.tm.getD t .junk
 rg:∀r,f.rr=some r->τ.rg r=σ.rg r
 S:f.hr=true->τ.S=σ.S
section
variable{A:zA}{R:ACode->ASt->Option (zL×ASt)}{P:Program}{K:Nat->Option Nat}
theorem zrn{m:Nat->jD}{ext:Nat->Bool}{i:zu}:(yh m ext i).reads=zdZ i:=by
 unfold yh;split<;>try rfl
 split<;>try rfl
 split<;>rfl
theorem zbv{m:Nat->jD}{ext:Nat->Bool}{i:zu}:(yh m ext i).writes=i.dst.toList:=by
 unfold yh;split<;>try rfl
 split<;>try rfl
 split<;>rfl
theorem zAD{m:Nat->jD}{ext:Nat->Bool}{i:zu}:(yh m ext i).hw=true->(yh m ext i).hr=true:=by
 unfold yh;split<;>try simp
 split<;>try simp
 split<;>simp
theorem zeF{tm tm':List AV}:∀{xs:List zo},(∀t∈zf2 xs,tm'.getD t .junk=tm.getD t .junk)->evs A tm' xs=evs A tm xs
 |[],_=>rfl
 | .t n::l,h=>by
   simp only[zf2,xaz]at h;simp only[evs,zo.ev,h n (.inl rfl),zeF fun t b=>h t (.inr b)]
 | .k v::l,h=>by simp only[evs,zo.ev,zeF (xs:=l) h]
 | .g v::l,h=>by simp only[evs,zo.ev,zeF (xs:=l) h]
theorem zrv{tm tm':List AV}{g:Option (Nat×Bool)}(h:∀t∈(match g with|some (t,_)=>[t]|none=>[]),tm'.getD t .junk=tm.getD t .junk):qB tm' g=qB tm g:=by
 cases g with
 |none=>rfl
 |some p=>obtain⟨t,b⟩:=p;simp only[qB,h t (by simp)]
theorem zGc{m:Nat->jD}{ext:Nat->Bool}{op:AOp}{dst:Option Nat}{args:List zo}{guard:Option (Nat×Bool)}{rg:Nat->Option (List AV)}{S:AS}{vs:List AV}{v:AV}{f:Option (Nat×List AV)}{S':AS}
 (x:∀k,op≠.call k) (hp:∀p,op≠.pur p) (h:ze op dst rg S vs=some (v,f,S')):
 (∀r cs,f=some (r,cs)->(yh m ext ⟨dst,op,args,guard⟩).rw=some r)/\((yh m ext ⟨dst,op,args,guard⟩).hw=false->S'=S)/\
 ∀rg2 d,(∀r,(yh m ext ⟨dst,op,args,guard⟩).rr=some r->rg2 r=rg r)->((yh m ext ⟨dst,op,args,guard⟩).hr=true->d=S)->
  ze op dst rg2 d vs=some (v,f,if(yh m ext ⟨dst,op,args,guard⟩).hw then S' else d):=by
 have g:=h;unfold ze at h;split at h
 case h_1=>exact absurd rfl (hp _)
 case h_2=>
  split at h
  ·rename_i l;simp only[xaa,xaf,Prod.mk.injEq]at h;obtain⟨cs,j,u,n,rfl,rfl,rfl⟩:=h;refine⟨by simp,fun _=>rfl,fun rg2 d c _=>?_⟩;have:=c _ rfl;simp only[ze,l,if_true,this,j,xae,n,xam];rfl
  ·cases h
 case h_3=>
  simp only[xaf,Prod.mk.injEq]at h;obtain⟨u,n,rfl,rfl,rfl⟩:=h;refine⟨by simp,fun _=>rfl,fun rg2 d _ c=>?_⟩;obtain rfl:=c rfl;exact g
 case h_4=>
  split at h
  ·simp only[xaa,xaf,Prod.mk.injEq]at h;obtain⟨cs,j,u,n,rfl,rfl,rfl⟩:=h;refine⟨by simp,fun _=>rfl,fun rg2 d _ c=>?_⟩;obtain rfl:=c rfl;exact g
  ·cases h
 case h_5=>
  split at h
  ·rename_i l;simp only[xaa]at h;obtain⟨cs,j,h⟩:=h;split at h
   ·rename_i q;cases h;refine⟨by rintro r cs ⟨⟩;rfl,fun _=>rfl,fun rg2 d c _=>?_⟩;have:=c _ rfl;simp only[ze];rw[if_pos l,this,j];simp only[xae];rw[if_pos q];rfl
   ·cases h
  ·cases h
 case h_7=>
  simp only[xaa]at h;obtain⟨t,rfl,h⟩:=h;split at h
  ·rename_i s;cases h;refine⟨by rintro r cs ⟨⟩;rfl,fun _=>rfl,fun rg2 d c _=>?_⟩;have:=c t rfl;simp only[ze,xae,this,s,if_true];rfl
  ·cases h
 case h_9=>
  split at h
  ·rename_i i;simp only[xaa]at h;obtain⟨t,rfl,h⟩:=h;split at h
   ·rename_i s;cases h;refine⟨by rintro r cs ⟨⟩;rfl,fun _=>rfl,fun rg2 d c _=>?_⟩;have:=c t rfl;simp only[ze,xae,this,s,i,if_true];rfl
   ·cases h
  ·cases h
 case h_23=>cases h
 case h_22=>
  have b:f=none:=by
   split at h
   ·simp only[xaf,Prod.mk.injEq]at h;obtain⟨_,_,_,rfl,_⟩:=h;rfl
   ·cases h
  subst b;exact⟨by simp,(fun e=>by cases e),fun rg2 d _ c=>by obtain rfl:=c rfl;exact g⟩
 case h_6=>
  have b:f=none:=by
   split at h
   ·split at h
    ·simp only[xaa]at h;obtain⟨_,_,h⟩:=h;split at h
     ·cases h;rfl
     ·cases h
    ·cases h
   ·cases h
  subst b;exact⟨by simp,(fun e=>by cases e),fun rg2 d _ c=>by obtain rfl:=c rfl;exact g⟩
 case h_8=>
  have b:f=none:=by
   split at h
   ·cases h;rfl
   ·cases h
  subst b;exact⟨by simp,(fun e=>by cases e),fun rg2 d _ c=>by obtain rfl:=c rfl;exact g⟩
 case h_10=>
  have b:f=none:=by
   split at h
   ·cases h;rfl
   ·cases h
  subst b;exact⟨by simp,(fun e=>by cases e),fun rg2 d _ c=>by obtain rfl:=c rfl;exact g⟩
 case h_11=>
  have b:f=none/\S'=S:=by
   split at h
   ·cases h
   ·simp only[xaa,xaf,Prod.mk.injEq]at h;obtain⟨_,_,_,_,_,rfl,rfl⟩:=h;exact⟨rfl,rfl⟩
  obtain⟨rfl,rfl⟩:=b;exact⟨by simp,fun _=>rfl,fun rg2 d _ c=>by obtain rfl:=c rfl;exact g⟩
 case h_12=>
  have b:f=none/\S'=S:=by
   split at h
   ·cases h;exact⟨rfl,rfl⟩
   ·cases h
  obtain⟨rfl,rfl⟩:=b;exact⟨by simp,fun _=>rfl,fun rg2 d _ c=>by obtain rfl:=c rfl;exact g⟩
 case h_13=>
  cases h;exact⟨by simp,(fun e=>by cases e),fun rg2 d _ c=>by obtain rfl:=c rfl;exact g⟩
 case h_14=>
  have b:f=none:=by
   split at h
   ·split at h
    ·simp only[xaf,Prod.mk.injEq]at h;obtain⟨_,_,_,rfl,_⟩:=h;rfl
    ·cases h
   ·cases h
  subst b;exact⟨by simp,(fun e=>by cases e),fun rg2 d _ c=>by obtain rfl:=c rfl;exact g⟩
 case h_21=>
  have b:f=none:=by
   split at h
   ·split at h
    ·simp only[xaf,Prod.mk.injEq]at h;obtain⟨_,_,_,rfl,_⟩:=h;rfl
    ·cases h
   ·cases h
  subst b;exact⟨by simp,(fun e=>by cases e),fun rg2 d _ c=>by obtain rfl:=c rfl;exact g⟩
 case h_15=>
  have b:f=none:=by
   split at h
   ·split at h
    ·cases h;rfl
    ·cases h
   ·cases h
  subst b;exact⟨by simp,(fun e=>by cases e),fun rg2 d _ c=>by obtain rfl:=c rfl;exact g⟩
 case h_16=>
  have b:f=none:=by
   simp only[xaa,xaf,Prod.mk.injEq]at h;obtain⟨_,_,_,_,_,rfl,_⟩:=h;rfl
  subst b;exact⟨by simp,(fun e=>by cases e),fun rg2 d _ c=>by obtain rfl:=c rfl;exact g⟩
 case h_17=>
  have b:f=none:=by
   split at h
   ·cases h;rfl
   ·cases h
  subst b;exact⟨by simp,(fun e=>by cases e),fun rg2 d _ c=>by obtain rfl:=c rfl;exact g⟩
 case h_18=>
  have b:f=none:=by
   split at h
   ·cases h;rfl
   ·cases h
  subst b;exact⟨by simp,(fun e=>by cases e),fun rg2 d _ c=>by obtain rfl:=c rfl;exact g⟩
 case h_19=>
  have b:f=none:=by
   simp only[xaa]at h;obtain⟨_,_,h⟩:=h;split at h
   ·cases h;rfl
   ·split at h
    ·split at h
     ·cases h;rfl
     ·cases h
    ·cases h
  subst b;exact⟨by simp,(fun e=>by cases e),fun rg2 d _ c=>by obtain rfl:=c rfl;exact g⟩
 case h_20=>
  have b:f=none:=by
   split at h
   ·cases h;rfl
   ·split at h
    ·split at h
     ·cases h;rfl
     ·cases h
    ·cases h
  subst b;exact⟨by simp,(fun e=>by cases e),fun rg2 d _ c=>by obtain rfl:=c rfl;exact g⟩
theorem zkE{op:AOp}{dst:Option Nat}{vs:List AV}{τ:ASt}(b:∀k,op≠.call k)(c:op≠.callv):y5 A R op dst vs τ=(ze op dst τ.rg τ.S vs).map fun r=>({τ with S:=r.2.2}.regs r.2.1).put dst r.1:=by
 cases op with
 |call k=>exact absurd rfl (b k)
 |callv=>exact absurd rfl c
 |_=>rfl
theorem zfU{i:zu}{σ σ':ASt}(h:step A R i σ=some σ'):∃v j f,(∀r cs,j=some (r,cs)->(yh A.mode (ye A) i).rw=some r)/\(∀S,f=some S->(yh A.mode (ye A) i).hw=true)/\
 ∀τ,Agr (yh A.mode (ye A) i) σ τ->step A R i τ=some (App i.dst v j f τ):=by
 have c:∀τ,Agr (yh A.mode (ye A) i) σ τ->qB τ.tm i.guard=qB σ.tm i.guard/\evs A τ.tm i.args=evs A σ.tm i.args:=by
  intro τ d;have:=d.tm;rw[zrn,zdZ]at this;exact⟨zrv fun t h=>this t (List.mem_append_right _ h),zeF fun t h=>this t (List.mem_append_left _ h)⟩
 unfold step at h;split at h
 ·cases h
 ·rename_i q;refine⟨.tup [],none,none,by simp,by simp,fun τ d=>?_⟩;unfold step;rw[(c τ d).1,q];rfl
 ·rename_i q;simp only[xaa]at h;obtain⟨vs,u,h⟩:=h
  suffices hh:∃v j f,(∀r cs,j=some (r,cs)->(yh A.mode (ye A) i).rw=some r)/\(∀S,f=some S->(yh A.mode (ye A) i).hw=true)/\
   ∀τ:ASt,(∀r,(yh A.mode (ye A) i).rr=some r->τ.rg r=σ.rg r)->((yh A.mode (ye A) i).hr=true->τ.S=σ.S)->y5 A R i.op i.dst vs τ=some (App i.dst v j f τ)by
   obtain⟨v,j,f,x,B,C⟩:=hh;refine⟨v,j,f,x,B,fun τ d=>?_⟩;unfold step;rw[(c τ d).1,q];simp only[(c τ d).2,u,xae];exact C τ d.rg d.S
  clear c q u;obtain⟨dst,op,args,guard⟩:=i;have call:∀{key:Nat} {xs:List AV} {σ':ASt},(yq A R key xs σ.S).map (fun r=>({σ with S:=r.2}:ASt).put dst r.1)=some σ'->
   ∃v f,∀τ:ASt,τ.S=σ.S->(yq A R key xs τ.S).map (fun r=>({τ with S:=r.2}:ASt).put dst r.1)=some (App dst v none (some f) τ):=by
   intro key xs σ' h;simp only[xaf]at h;obtain⟨r,b,_⟩:=h;refine⟨r.1,r.2,fun τ hS=>?_⟩;rw[hS,b];rfl
  have n:(∀k,op≠.call k)->(∀p,op≠.pur p)->op≠.callv->y5 A R op dst vs σ=some σ'->∃v j f,(∀r cs,j=some (r,cs)->(yh A.mode (ye A) ⟨dst,op,args,guard⟩).rw=some r)/\(∀S,f=some S->(yh A.mode (ye A) ⟨dst,op,args,guard⟩).hw=true)/\
   ∀τ:ASt,(∀r,(yh A.mode (ye A) ⟨dst,op,args,guard⟩).rr=some r->τ.rg r=σ.rg r)->((yh A.mode (ye A) ⟨dst,op,args,guard⟩).hr=true->τ.S=σ.S)->y5 A R op dst vs τ=some (App dst v j f τ):=by
   intro E M L h;rw[zkE E L]at h;simp only[xaf]at h;obtain⟨⟨v,j,S'⟩,F,_⟩:=h;obtain⟨x,B,C⟩:=zGc (m:=A.mode) (ext:=ye A) (args:=args) (guard:=guard) E M F;refine⟨v,j,if(yh A.mode (ye A) ⟨dst,op,args,guard⟩).hw then some S' else none,x,?_,fun τ N O=>?_⟩
   ·intro S e;split at e
    ·assumption
    ·cases e
   ·rw[zkE E L,C τ.rg τ.S N O];simp only[xam,App];split<;>rfl
  cases op with
  |call key=>
   simp only[y5]at h ⊢;simp only[yh];split
   ·rename_i l;simp only[xaf]at h;obtain⟨r,b,rfl⟩:=h;have hS:r.2=σ.S:=by
     unfold yq at b;split at b
     ·cases b
     ·split at b
      ·rename_i g H;simp[ye,H]at l
      ·simp only[xaa]at b;obtain⟨af,y,b⟩:=b;rcases l.2 with s|s
       ·rw[s]at b;dsimp only at b;simp only[xaa]at b;obtain⟨_,_,_,_,b⟩:=b;split at b
        ·cases b;rfl
        ·cases b
       ·rw[s]at b;simp only[xaa]at b;obtain⟨_,_,_,_,b⟩:=b;split at b
        ·cases b;rfl
        ·cases b
    refine⟨r.1,none,none,by simp,by simp,fun τ _ d=>?_⟩;have d:=d rfl;rw[d,b];simp only[xam,App,hS,Option.getD_none,ASt.regs,d]
   ·split
    ·rename_i _ l;obtain⟨H,s⟩:=l;simp only[xaf]at h;obtain⟨r,b,rfl⟩:=h;have z:∀S:AS,yq A R key vs S=some (r.1,S):=by
      intro S;unfold yq at b ⊢;split at b
      ·cases b
      ·rename_i Q;rw[if_neg Q];split at b
       ·rename_i g q;simp[ye,q]at H
       ·simp only[xaa]at b ⊢;obtain⟨af,y,b⟩:=b;refine⟨af,y,?_⟩;rw[s]at b;dsimp only at b ⊢;rw[s];dsimp only;split at b
        ·rename_i I;rw[if_pos I];simp only[xaa]at b ⊢;obtain⟨T,x,v,B,b⟩:=b;refine⟨T,x,v,B,?_⟩;split at b
         ·rename_i J;rw[if_pos J];cases b;rfl
         ·cases b
        ·cases b
     refine⟨r.1,none,none,by simp,by simp,fun τ _ _=>?_⟩;rw[z τ.S];rfl
    ·obtain⟨v,f,l⟩:=call h;exact⟨v,none,some f,by simp,by simp,fun τ _ d=>l τ (d rfl)⟩
  |callv=>
   simp only[y5]at h ⊢;split at h
   ·obtain⟨v,f,l⟩:=call h;exact⟨v,none,some f,by simp,by simp[yh],fun τ _ d=>l τ (d rfl)⟩
   ·cases h
  |pur p=>
   simp only[y5,ze,Option.map_map,xaf]at h;obtain⟨v,J,_⟩:=h;refine⟨v,none,none,by simp,by simp,fun τ _ _=>?_⟩;simp only[y5,ze,J];rfl
  |_=>exact n (by simp) (by simp) (by simp) h
end
end Abs
