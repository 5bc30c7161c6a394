/- The document's client in memory. -/
import Derived.Test.YthcobbfffjfboaaGreatDoorG7
set_option linter.unusedVariables false
set_option linter.unusedSimpArgs false
set_option linter.unusedSectionVars false
namespace Abs
open Go
section
variable {S:AS}
theorem s282 {ak o c:T} (ho:o.bb):call 282 [.agg ak.cells,.agg o.cells,.agg c.cells] S=some (resU (ansO ak o c),S):=by
 rw [call_calm a282 rfl (by simp) rfl]
 have e1:=fun S=>@s79 S otpB 1 o (by omega)
 unfold ansO
 cases hu:unpT otpB 1 o with
 |none=>
  rw [hu]at e1
  unfold otpB at e1
  simp [f282,f282b,e1,optL,resU,tZ_zT];rfl
 |some l=>
  rw [hu]at e1
  obtain ⟨x,rfl⟩:=len1 (unpT_len (n:=1) hu).1
  unfold otpB at e1
  have e3:=fun S=>@s266 S ak (tPack codeB [x,c]) 45 i45 (by omega)
  unfold codeB at e3
  simp [f282,f282b,e1,optL,at1a,e3,resU,fillR]
  rfl
set_option maxHeartbeats 1000000 in
theorem s284 {u b o x:T} (ho:o.lo) (hx:x.lo):call 284 [.agg u.cells,.agg b.cells,.agg o.cells,.agg x.cells] S=some (resA (ansS u b o x),S):=by
 rw [call_calm a284 rfl (by simp) rfl]
 have e1:=fun S=>@s79 S spkB 1 o (by omega)
 unfold ansS
 cases hu:unpT spkB 1 o with
 |none=>
  rw [hu]at e1
  unfold spkB at e1
  simp [f284,f284b,e1,optL,resA,tZ_zT];rfl
 |some l=>
  rw [hu]at e1
  obtain ⟨h1,hm⟩:=unpT_len (n:=1) hu
  obtain ⟨l,rfl⟩:=len1 h1
  unfold spkB at e1
  have ll:l.lo:=ho.kid (hm l (by simp))
  have e2:=fun S=>@s369 S u l ll.bb
  have ly:=expT_lo (u:=u) ll
  have e3:=fun S=>@s370 S x u
  show _=some (resA (ansP u b x l (expT u l)),S)
  unfold ansP
  generalize expT u l=r at *
  by_cases h0:r.2=0
  ·rw [if_pos h0]
   have e4:=fun S=>@s372 S x r.1 hx ly
   have e5:=fun S=>@s371 S (tShare x r.1) u l (tMsk x u) b 1 i1 (by omega)
   have e5':=fun S=>@s371 S (tShare x r.1) u l (tMsk x u) b 0 i0 (by omega)
   have e6:=fun S k=>@s373 S k
   have hx1:tSeal (tSecond (tShare x r.1) (tWd u) l (tMsk x u) (tHash b) 1) 60 (tPack facB [])=tFac x r.1 u l (tMsk x u) b:=rfl
   have hx0:tSecond (tShare x r.1) (tWd u) l (tMsk x u) (tHash b) 0=xKey x r.1 u l (tMsk x u) b 0:=rfl
   simp [f284,f284b,e1,optL,at1a,e2,resU,h0,e3,e4,e5,e5',e6,hx1,hx0,resA,fillR]
   rfl
  ·rw [if_neg h0]
   simp [f284,f284b,e1,optL,at1a,e2,resU,h0,resA,tZ_zT];rfl
end
def Cl.drow (c:Cl) (bt:T) (zb:Bool) (st:T) (zs:Bool) (mv:AV):List AV:=
 [.sc (.string c.name),.sc (.int .i64 c.key.kind),.sc (.string c.key.name),lstT c.key.kids,.sc (.int .i64 c.seed.kind),.sc (.string c.seed.name),lstT c.seed.kids,.sc (.int .i64 c.counter),
  .sc (.int .i64 c.ticket.kind),.sc (.string c.ticket.name),lstT c.ticket.kids,.sc (.int .i64 c.host.kind),.sc (.string c.host.name),lstT c.host.kids,
  .b c.on,.sc (.string c.nonce),.sc (.int .i64 c.body.kind),.sc (.string c.body.name),zc c.z1 c.body,.sc (.int .i64 c.wrap.kind),.sc (.string c.wrap.name),zc c.z1 c.wrap,.sc (.int .i64 c.ak.kind),.sc (.string c.ak.name),zc c.z1 c.ak,
  .sc (.int .i64 bt.kind),.sc (.string bt.name),zc zb bt,.b c.done,mv,.sc (.int .i64 st.kind),.sc (.string st.name),zc zs st,.b c.ended]
structure Dz where
 bt:T:=tZ
 zb:Bool:=true
 st:T:=tZ
 zs:Bool:=true
 mv:AV:=.lst 0 true []
abbrev Dz.row (z:Dz) (c:Cl):List AV:=c.drow z.bt z.zb z.st z.zs z.mv
structure IsDl (S:AS) (id:Nat) (c:Cl) (z:Dz):Prop where
 hh:S.heap id=some (.rows 34 [z.row c])
 gv:GV S 2 z.mv (Cl.mrow c.marks)
 ro:S.ro≤id
 lt:id < S.n
 ne:¬IsArr z.mv id
 hb:c.done=true→z.zb=false∧z.bt=c.base
 hs:c.ended=true→z.zs=false∧z.st=c.session
 zbk:z.zb=true→z.bt=tZ
section
variable {S:AS} {id:Nat} {c:Cl} {z:Dz}
theorem IsDl.hS (h:IsDl S id c z):S.ro≤S.n:=by have:=h.ro;have:=h.lt;omega
theorem IsDl.keep (h:IsDl S id c z) {S':AS} (hr:S'.ro=S.ro) (hn:S.n≤S'.n) (hh:∀x,x < S.n→ownC id z.mv x→S'.heap x=S.heap x):IsDl S' id c z:=
 ⟨(hh id h.lt (.inl rfl)).trans h.hh,h.gv.keep hr hn fun x hx hv=>hh x hx (.inr hv),by rw [hr];exact h.ro,Nat.lt_of_lt_of_le h.lt hn,h.ne,h.hb,h.hs,h.zbk⟩
theorem IsDl.own_lt (h:IsDl S id c z) {x:Nat} (hx:ownC id z.mv x):x < S.n:=by
 rcases hx with rfl|hx
 ·exact h.lt
 ·exact (h.gv.lt hx).1
section
variable (h:IsDl S id c z)
include h
theorem IsDl.key (d:Option Nat) (rg:Nat→Option (List AV)):opev (.ld none 3 true) d rg S [.ptr id 0 1]=some (.agg c.key.cells,none,S):=by rw [opev_ld_ptr h.hh,←tri];rfl
theorem IsDl.seed (d:Option Nat) (rg:Nat→Option (List AV)):opev (.ld none 3 true) d rg S [.ptr id 0 4]=some (.agg c.seed.cells,none,S):=by rw [opev_ld_ptr h.hh,←tri];rfl
theorem IsDl.counter (d:Option Nat) (rg:Nat→Option (List AV)):opev (.ld none 1 false) d rg S [.ptr id 0 7]=some (.sc (.int .i64 c.counter),none,S):=by rw [opev_ld_ptr h.hh];rfl
theorem IsDl.on (d:Option Nat) (rg:Nat→Option (List AV)):opev (.ld none 1 false) d rg S [.ptr id 0 14]=some (.b c.on,none,S):=by rw [opev_ld_ptr h.hh];rfl
theorem IsDl.nonce (d:Option Nat) (rg:Nat→Option (List AV)):opev (.ld none 1 false) d rg S [.ptr id 0 15]=some (.sc (.string c.nonce),none,S):=by rw [opev_ld_ptr h.hh];rfl
theorem IsDl.body (hz:c.z1=false) (d:Option Nat) (rg:Nat→Option (List AV)):opev (.ld none 3 true) d rg S [.ptr id 0 16]=some (.agg c.body.cells,none,S):=by rw [opev_ld_ptr h.hh,←tri];unfold Dz.row Cl.drow;rw [hz];rfl
theorem IsDl.ak (hz:c.z1=false) (d:Option Nat) (rg:Nat→Option (List AV)):opev (.ld none 3 true) d rg S [.ptr id 0 22]=some (.agg c.ak.cells,none,S):=by rw [opev_ld_ptr h.hh,←tri];unfold Dz.row Cl.drow;rw [hz];rfl
theorem IsDl.base (hd:c.done=true) (d:Option Nat) (rg:Nat→Option (List AV)):opev (.ld none 3 true) d rg S [.ptr id 0 25]=some (.agg c.base.cells,none,S):=by
 obtain ⟨h1,h2⟩:=h.hb hd
 rw [opev_ld_ptr h.hh,←tri];unfold Dz.row Cl.drow;rw [h1,h2];rfl
theorem IsDl.done (d:Option Nat) (rg:Nat→Option (List AV)):opev (.ld none 1 false) d rg S [.ptr id 0 28]=some (.b c.done,none,S):=by rw [opev_ld_ptr h.hh];rfl
theorem IsDl.marks (d:Option Nat) (rg:Nat→Option (List AV)):opev (.ld none 1 false) d rg S [.ptr id 0 29]=some (z.mv,none,S):=by rw [opev_ld_ptr h.hh];rfl
theorem IsDl.session (hd:c.ended=true) (d:Option Nat) (rg:Nat→Option (List AV)):opev (.ld none 3 true) d rg S [.ptr id 0 30]=some (.agg c.session.cells,none,S):=by
 obtain ⟨h1,h2⟩:=h.hs hd
 rw [opev_ld_ptr h.hh,←tri];unfold Dz.row Cl.drow;rw [h1,h2];rfl
theorem IsDl.st {col sz:Nat} {x:AV} {c':Cl} {z':Dz} (hl:x.cells.length=sz) (hc:x.cells.all AV.isCell=true) (hr:setCells (z.row c) col x.cells=z'.row c') (hle:col+sz≤34) (d:Option Nat) (rg:Nat→Option (List AV)):
 opev (.st none sz) d rg S [.ptr id 0 col,x]=some (.junk,none,S.set id (some (.rows 34 [z'.row c']))):=by
 have hlen:(z.row c).length=34:=rfl
 simp only [opev,h.hh]
 rw [if_pos ⟨h.ro,hc,hl⟩]
 simp only [List.getElem?_cons_zero,Option.bind_some,hlen]
 rw [if_pos hle,hr];rfl
theorem IsDl.set {c':Cl} {z':Dz} (hm:c'.marks=c.marks) (hv:z'.mv=z.mv) (hb:c'.done=true→z'.zb=false∧z'.bt=c'.base) (hs:c'.ended=true→z'.zs=false∧z'.st=c'.session) (hz:z'.zb=true→z'.bt=tZ):IsDl (S.set id (some (.rows 34 [z'.row c']))) id c' z':=
 ⟨if_pos rfl,by rw [hm,hv];exact h.gv.keep rfl (Nat.le_refl _) fun x _ hx=>if_neg fun e=>h.ne (by rw [←e];exact hx),h.ro,h.lt,by rw [hv];exact h.ne,hb,hs,hz⟩
theorem IsDl.chg {c':Cl} {z':Dz}:Chg S (S.set id (some (.rows 34 [z'.row c']))) (ownC id z.mv) (ownC id z.mv):=⟨rfl,Nat.le_refl _,fun x _ hx=>⟨if_neg fun e=>hx (.inl e),hx⟩⟩
end
theorem s330 {p k:T} (h:IsDl S id c z) (hz:c.z1=false):call 330 [.ptr id 0 0,.agg p.cells,.agg k.cells] S=some (.agg (c.says p k).cells,S):=by
 rw [call_calm a330 rfl (by simp) rfl]
 have e1:∀d rg,opev (.ld none 3 true) d rg {S with ro:=S.n} [.ptr id 0 16]=some (.agg c.body.cells,none,{S with ro:=S.n}):=fun d rg=>by rw [opev_ld_ptr (S:={S with ro:=S.n}) h.hh,←tri];unfold Dz.row Cl.drow;rw [hz];rfl
 have e2:∀d rg,opev (.ld none 3 true) d rg {S with ro:=S.n} [.ptr id 0 19]=some (.agg c.wrap.cells,none,{S with ro:=S.n}):=fun d rg=>by rw [opev_ld_ptr (S:={S with ro:=S.n}) h.hh,←tri];unfold Dz.row Cl.drow;rw [hz];rfl
 have e3:∀d rg,opev (.ld none 3 true) d rg {S with ro:=S.n} [.ptr id 0 22]=some (.agg c.ak.cells,none,{S with ro:=S.n}):=fun d rg=>by rw [opev_ld_ptr (S:={S with ro:=S.n}) h.hh,←tri];unfold Dz.row Cl.drow;rw [hz];rfl
 have e4:=fun S=>@s287 S c.ak c.body p k
 simp [f330,f330b,e1,e2,e3,e4,Cl.says]
end
theorem set2 {S:AS} {id:Nat} {x y:Option AObj}:(S.set id x).set id y=S.set id y:=by
 unfold AS.set
 simp only [AS.mk.injEq,and_true]
 funext j
 split<;>rfl
theorem raw_st {S:AS} {id w:Nat} {r:List AV} {col sz:Nat} {x:AV} (ro:S.ro≤id) (hl:x.cells.length=sz) (hc:x.cells.all AV.isCell=true) (hle:col+sz≤r.length) (d:Option Nat) (rg:Nat→Option (List AV)):
 opev (.st none sz) d rg (S.set id (some (.rows w [r]))) [.ptr id 0 col,x]=some (.junk,none,S.set id (some (.rows w [setCells r col x.cells]))):=by
 have hh:(S.set id (some (.rows w [r]))).heap id=some (.rows w [r]):=if_pos rfl
 simp only [opev,hh]
 rw [if_pos ⟨ro,hc,hl⟩]
 simp only [List.getElem?_cons_zero,Option.bind_some]
 rw [if_pos hle]
 show some (AV.junk,none,(S.set id _).set id _)=_
 rw [set2];rfl
section
variable {S:AS} {id:Nat} {c:Cl} {z:Dz}
theorem IsDl.self (h:IsDl S id c z):S.set id (some (.rows 34 [z.row c]))=S:=by
 have:S.heap id=some (.rows 34 [z.row c]):=h.hh
 obtain ⟨hp,n,ro⟩:=S
 unfold AS.set
 simp only [AS.mk.injEq,and_true]
 funext j
 split
 ·rename_i e;subst e;exact this.symm
 ·rfl
set_option maxHeartbeats 2000000 in
theorem c236 {nonce:ByteArray} {sub:T} (h:IsDl S id c z) (hn:nonce.size≤4611686018427387904) (hc:c.name.size≤4611686018427387904):
 ∃S',call 236 [.ptr id 0 0,.sc (.string nonce),.agg sub.cells] S=some (.agg ((c.start nonce sub).says tNone tNone).cells,S')∧IsDl S' id (c.start nonce sub) z∧Chg S S' (ownC id z.mv) (ownC id z.mv):=by
 rw [call_keep a236 (by simp) rfl]
 have e77:=fun S=>@s77 S c.name nonce hc hn
 have e285:=fun S=>@s285 S c.ticket c.host sub
 have e175:=fun S=>@s175 S sub c.host
 have ro:=h.ro
 have hs:=h.self
 have s1:=raw_st (S:=S) (id:=id) (w:=34) (r:=z.row c) (col:=14) (sz:=1) (x:=.b true) ro rfl rfl (by show 15≤34;omega)
 rw [hs]at s1
 obtain ⟨r1,hr1⟩:∃r,r=setCells (z.row c) 14 (AV.b true).cells:=⟨_,rfl⟩
 rw [←hr1]at s1
 have l1:r1.length=34:=by rw [hr1];rfl
 have s2:=raw_st (S:=S) (id:=id) (w:=34) (r:=r1) (col:=15) (sz:=1) (x:=.sc (.string nonce)) ro rfl rfl (by omega)
 obtain ⟨r2,hr2⟩:∃r,r=setCells r1 15 (AV.sc (.string nonce)).cells:=⟨_,rfl⟩
 rw [←hr2]at s2
 have l2:r2.length=34:=by rw [hr2,hr1];rfl
 have s3:=raw_st (S:=S) (id:=id) (w:=34) (r:=r2) (col:=16) (sz:=3) (x:=.agg (tBody c.name nonce).cells) ro len_T cell_T (by omega)
 obtain ⟨r3,hr3⟩:∃r,r=setCells r2 16 (AV.agg (tBody c.name nonce).cells).cells:=⟨_,rfl⟩
 rw [←hr3]at s3
 have l3:r3.length=34:=by rw [hr3,hr2,hr1,show (AV.agg (tBody c.name nonce).cells).cells=_ from cells_T _];rfl
 have s4:=raw_st (S:=S) (id:=id) (w:=34) (r:=r3) (col:=19) (sz:=3) (x:=.agg (tWrap c.ticket c.host sub).cells) ro len_T cell_T (by omega)
 obtain ⟨r4,hr4⟩:∃r,r=setCells r3 19 (AV.agg (tWrap c.ticket c.host sub).cells).cells:=⟨_,rfl⟩
 rw [←hr4]at s4
 have l4:r4.length=34:=by rw [hr4,hr3,hr2,hr1,show (AV.agg (tBody c.name nonce).cells).cells=_ from cells_T _,show (AV.agg (tWrap c.ticket c.host sub).cells).cells=_ from cells_T _];rfl
 have s5:=raw_st (S:=S) (id:=id) (w:=34) (r:=r4) (col:=22) (sz:=3) (x:=.agg (tArm sub c.host).cells) ro len_T cell_T (by omega)
 obtain ⟨r5,hr5⟩:∃r,r=setCells r4 22 (AV.agg (tArm sub c.host).cells).cells:=⟨_,rfl⟩
 rw [←hr5]at s5
 have l5:r5.length=34:=by rw [hr5,hr4,hr3,hr2,hr1,show (AV.agg (tBody c.name nonce).cells).cells=_ from cells_T _,show (AV.agg (tWrap c.ticket c.host sub).cells).cells=_ from cells_T _,show (AV.agg (tArm sub c.host).cells).cells=_ from cells_T _];rfl
 have s6:=raw_st (S:=S) (id:=id) (w:=34) (r:=r5) (col:=28) (sz:=1) (x:=.b false) ro rfl rfl (by omega)
 obtain ⟨r6,hr6⟩:∃r,r=setCells r5 28 (AV.b false).cells:=⟨_,rfl⟩
 rw [←hr6]at s6
 have l6:r6.length=34:=by rw [hr6,hr5,hr4,hr3,hr2,hr1,show (AV.agg (tBody c.name nonce).cells).cells=_ from cells_T _,show (AV.agg (tWrap c.ticket c.host sub).cells).cells=_ from cells_T _,show (AV.agg (tArm sub c.host).cells).cells=_ from cells_T _];rfl
 have s7:=raw_st (S:=S) (id:=id) (w:=34) (r:=r6) (col:=33) (sz:=1) (x:=.b false) ro rfl rfl (by omega)
 have hr7:setCells r6 33 (AV.b false).cells=z.row (c.start nonce sub):=by
  rw [hr6,hr5,hr4,hr3,hr2,hr1,show (AV.agg (tBody c.name nonce).cells).cells=_ from cells_T _,show (AV.agg (tWrap c.ticket c.host sub).cells).cells=_ from cells_T _,show (AV.agg (tArm sub c.host).cells).cells=_ from cells_T _];rfl
 rw [hr7]at s7
 have n2:∀d rg,opev (.ld none 1 false) d rg (S.set id (some (.rows 34 [r2]))) [.ptr id 0 0]=some (.sc (.string c.name),none,S.set id (some (.rows 34 [r2]))):=fun d rg=>by
  rw [opev_ld_ptr (S:=S.set id _) (if_pos rfl),hr2,hr1];rfl
 have t3:∀d rg,opev (.ld none 3 true) d rg (S.set id (some (.rows 34 [r3]))) [.ptr id 0 8]=some (.agg c.ticket.cells,none,S.set id (some (.rows 34 [r3]))):=fun d rg=>by
  rw [opev_ld_ptr (S:=S.set id _) (if_pos rfl),←tri,hr3,hr2,hr1,show (AV.agg (tBody c.name nonce).cells).cells=_ from cells_T _];rfl
 have h3:∀d rg,opev (.ld none 3 true) d rg (S.set id (some (.rows 34 [r3]))) [.ptr id 0 11]=some (.agg c.host.cells,none,S.set id (some (.rows 34 [r3]))):=fun d rg=>by
  rw [opev_ld_ptr (S:=S.set id _) (if_pos rfl),←tri,hr3,hr2,hr1,show (AV.agg (tBody c.name nonce).cells).cells=_ from cells_T _];rfl
 have h4:∀d rg,opev (.ld none 3 true) d rg (S.set id (some (.rows 34 [r4]))) [.ptr id 0 11]=some (.agg c.host.cells,none,S.set id (some (.rows 34 [r4]))):=fun d rg=>by
  rw [opev_ld_ptr (S:=S.set id _) (if_pos rfl),←tri,hr4,hr3,hr2,hr1,show (AV.agg (tBody c.name nonce).cells).cells=_ from cells_T _,show (AV.agg (tWrap c.ticket c.host sub).cells).cells=_ from cells_T _];rfl
 have hf:IsDl (S.set id (some (.rows 34 [z.row (c.start nonce sub)]))) id (c.start nonce sub) z:=h.set (c':=c.start nonce sub) (z':=z) rfl rfl (fun e=>by cases e) (fun e=>by cases e) h.zbk
 have hg:=h.chg (c':=c.start nonce sub) (z':=z)
 generalize S.set id (some (.rows 34 [r1]))=S1 at *
 generalize S.set id (some (.rows 34 [r2]))=S2 at *
 generalize S.set id (some (.rows 34 [r3]))=S3 at *
 generalize S.set id (some (.rows 34 [r4]))=S4 at *
 generalize S.set id (some (.rows 34 [r5]))=S5 at *
 generalize S.set id (some (.rows 34 [r6]))=S6 at *
 generalize S.set id (some (.rows 34 [z.row (c.start nonce sub)]))=S7 at *
 have e330:=s330 (p:=tNone) (k:=tNone) hf rfl
 refine ⟨S7,?_,hf,hg⟩
 clear hr1 hr2 hr3 hr4 hr5 hr6 hr7
 simp [f236,f236b,s1,s2,n2,e77,s3,t3,h3,e285,s4,h4,e175,s5,s6,s7,e330,fillR]
end
theorem opnL_ne {tag:ByteArray} {n:Nat} {r:T×Int} (h:r.2≠0):opnL tag n r=([],r.2):=by unfold opnL;rw [if_neg h]
theorem opnL_some {tag:ByteArray} {n:Nat} {r:T×Int} {l:List T} (h:r.2=0) (hu:unpT tag n r.1=some l):opnL tag n r=(l,0):=by unfold opnL;rw [if_pos h,hu]
theorem opnL_none {tag:ByteArray} {n:Nat} {r:T×Int} (h:r.2=0) (hu:unpT tag n r.1=none):opnL tag n r=([],2):=by unfold opnL;rw [if_pos h,hu]
theorem p2: -4611686018427387904≤(2:Int)∧(2:Int)≤4611686018427387904:=by omega
theorem p3: -4611686018427387904≤(3:Int)∧(3:Int)≤4611686018427387904:=by omega
theorem endL_err {c:Cl} {t:T} {e:Int}:c.endL t ([],e)=(c,e):=by unfold Cl.endL;rfl
theorem endF_err {c:Cl} {t e:T} {er:Int}:c.endF t e ([],er)=(c,er):=by unfold Cl.endF;rfl
section
variable {S:AS} {id:Nat} {c:Cl} {z:Dz}
set_option maxHeartbeats 4000000 in
set_option maxRecDepth 100000 in
theorem c334 {t e f:T} (h:IsDl S id c z) (hz1:c.done=true→c.z1=false) (hn:c.nonce.size≤4611686018427387904) (he:e.bb) (hf:f.bb):
 ∃S' z',call 334 [.ptr id 0 0,lstT [t,e,f]] S=some (.sc (.int .i64 (c.ends t e f).2),S')∧IsDl S' id (c.ends t e f).1 z'∧Chg S S' (ownC id z.mv) (ownC id z.mv)∧z'.mv=z.mv∧z'.bt=z.bt:=by
 rw [call_keep a334 (by simp [lstT,lstN]) rfl]
 have hd:=h.done
 unfold Cl.ends
 cases hdn:c.done with
 |false=>
  rw [hdn]at hd
  exact ⟨S,z,by simp [f334,f334b,hd],h,Chg.refl,rfl,rfl⟩
 |true=>
  rw [hdn]at hd
  have z1:=hz1 hdn
  have ha:=h.ak z1
  have hba:=h.base hdn
  have hno:=h.nonce
  have e335:=fun S=>@s335 S c.ak f c.nonce hn hf
  have ba:=ansOf_bb (k:=c.ak) (n:=c.nonce) hf
  have e79:=fun S=>@s79 S finB 2 (ansOf c.ak c.nonce f).1 p2
  have hob:=opnL_bb (tag:=finB) (n:=2) (r:=ansOf c.ak c.nonce f) ba
  unfold finB at e79
  rw [if_pos rfl]
  by_cases h0:(ansOf c.ak c.nonce f).2=0
  ·cases hu:unpT finB 2 (ansOf c.ak c.nonce f).1 with
   |none=>
    rw [opnL_none h0 hu,endF_err]
    unfold finB at hu
    rw [hu]at e79
    exact ⟨S,z,by simp [f334,f334b,hd,ha,hno,at3a,at3b,at3c,e335,resU,h0,e79,optL],h,Chg.refl,rfl,rfl⟩
   |some l=>
    obtain ⟨f0,f1,rfl⟩:=len2 (unpT_len (n:=2) hu).1
    rw [opnL_some h0 hu]at hob ⊢
    unfold finB at hu
    rw [hu]at e79
    have ff:f1.fits:=T.bb_fits (hob f1 (by simp))
    unfold Cl.endF
    simp only
    cases hs:f1.same (tHash t) with
    |false=>exact ⟨S,z,by simp [f334,f334b,hd,ha,hno,at3a,at3b,at3c,e335,resU,h0,e79,optL,at2a,at2b,ff,hs],h,Chg.refl,rfl,rfl⟩
    |true=>
     rw [if_pos rfl]
     have e268:=fun S=>@s268 S (tRep f0 c.base) e 3 j3 (by omega) (T.bb_fits he)
     have bu:=unsT_bb (k:=tRep f0 c.base) (n:=3) he
     have e79':=fun S=>@s79 S encB 3 (unsT (tRep f0 c.base) 3 e).1 p3
     have hob':=opnL_bb (tag:=encB) (n:=3) (r:=unsT (tRep f0 c.base) 3 e) bu
     have e333:=fun S=>@s333 S f0 c.base
     have e65:=fun S=>@s65 S c.nonce hn
     unfold encB at e79'
     by_cases h1:(unsT (tRep f0 c.base) 3 e).2=0
     ·cases hu2:unpT encB 3 (unsT (tRep f0 c.base) 3 e).1 with
      |none=>
       rw [opnL_none h1 hu2,endL_err]
       unfold encB at hu2
       rw [hu2]at e79'
       exact ⟨S,z,by simp [f334,f334b,hd,ha,hno,hba,at3a,at3b,at3c,e335,resU,h0,e79,optL,at2a,at2b,ff,hs,e333,e268,h1,e79'],h,Chg.refl,rfl,rfl⟩
      |some l=>
       obtain ⟨l0,l1,l2,rfl⟩:=len3 (unpT_len (n:=3) hu2).1
       rw [opnL_some h1 hu2]at hob' ⊢
       unfold encB at hu2
       rw [hu2]at e79'
       have f1':l1.fits:=T.bb_fits (hob' l1 (by simp))
       have f2':l2.fits:=T.bb_fits (hob' l2 (by simp))
       unfold Cl.endL
       simp only
       cases hs1:l1.same (tWord c.nonce) with
       |false=>exact ⟨S,z,by simp [f334,f334b,hd,ha,hno,hba,at3a,at3b,at3c,e335,resU,h0,e79,optL,at2a,at2b,ff,hs,e333,e268,h1,e79',e65,f1',f2',hs1],h,Chg.refl,rfl,rfl⟩
       |true=>
        cases hs2:l2.same (tHash t) with
        |false=>exact ⟨S,z,by simp [f334,f334b,hd,ha,hno,hba,at3a,at3b,at3c,e335,resU,h0,e79,optL,at2a,at2b,ff,hs,e333,e268,h1,e79',e65,f1',f2',hs1,hs2],h,Chg.refl,rfl,rfl⟩
        |true=>
         have s1:=h.st (col:=30) (sz:=3) (x:=.agg l0.cells) (c':={c with session:=l0,z3:=false}) (z':={z with st:=l0,zs:=false}) len_T cell_T (by show setCells _ _ l0.cells=_;rw [cells_T];rfl) (by omega)
         have h1':=h.set (c':={c with session:=l0,z3:=false}) (z':={z with st:=l0,zs:=false}) rfl rfl h.hb (fun _=>⟨rfl,rfl⟩) h.zbk
         have g1:=h.chg (c':={c with session:=l0,z3:=false}) (z':={z with st:=l0,zs:=false})
         generalize S.set id _=S1 at s1 h1' g1
         have s2:=h1'.st (col:=33) (sz:=1) (x:=.b true) (c':={c with session:=l0,z3:=false,ended:=true}) (z':={z with st:=l0,zs:=false}) rfl rfl rfl (by omega)
         have h2:=h1'.set (c':={c with session:=l0,z3:=false,ended:=true}) (z':={z with st:=l0,zs:=false}) rfl rfl h.hb (fun _=>⟨rfl,rfl⟩) h.zbk
         have g2:=h1'.chg (c':={c with session:=l0,z3:=false,ended:=true}) (z':={z with st:=l0,zs:=false})
         generalize S1.set id _=S2 at s2 h2 g2
         have s3:=h2.st (col:=14) (sz:=1) (x:=.b false) (c':={c with session:=l0,z3:=false,ended:=true,on:=false}) (z':={z with st:=l0,zs:=false}) rfl rfl rfl (by omega)
         have h3:=h2.set (c':={c with session:=l0,z3:=false,ended:=true,on:=false}) (z':={z with st:=l0,zs:=false}) rfl rfl h.hb (fun _=>⟨rfl,rfl⟩) h.zbk
         have g3:=h2.chg (c':={c with session:=l0,z3:=false,ended:=true,on:=false}) (z':={z with st:=l0,zs:=false})
         generalize S2.set id _=S3 at s3 h3 g3
         refine ⟨S3,{z with st:=l0,zs:=false},by simp [f334,f334b,hd,ha,hno,hba,at3a,at3b,at3c,e335,resU,h0,e79,optL,at2a,at2b,ff,hs,e333,e268,h1,e79',e65,f1',f2',hs1,hs2,s1,s2,s3],h3,(g1.trans g2).trans g3,rfl,rfl⟩
     ·rw [opnL_ne h1,endL_err]
      exact ⟨S,z,by simp [f334,f334b,hd,ha,hno,hba,at3a,at3b,at3c,e335,resU,h0,e79,optL,at2a,at2b,ff,hs,e333,e268,h1],h,Chg.refl,rfl,rfl⟩
  ·rw [opnL_ne h0,endF_err]
   exact ⟨S,z,by simp [f334,f334b,hd,ha,hno,at3a,at3b,at3c,e335,resU,h0],h,Chg.refl,rfl,rfl⟩
structure Tl (S S2 S3 S4 S5:AS) (id:Nat) (c:Cl) (z:Dz) (nm:ByteArray) (b:T) (mv':AV):Prop where
 s1:∀d rg,opev (.st none 3) d rg S [.ptr id 0 25,.agg b.cells]=some (.junk,none,S2)
 s2:∀d rg,opev (.st none 1) d rg S2 [.ptr id 0 28,.b true]=some (.junk,none,S3)
 mkk:∀d rg,opev (.ld none 1 false) d rg S3 [.ptr id 0 29]=some (z.mv,none,S3)
 no:∀d rg,opev (.ld none 1 false) d rg S3 [.ptr id 0 15]=some (.sc (.string c.nonce),none,S3)
 mr:z.mv.isReg=false
 ap:∀d rg,opev (.append 2 32) d rg S3 [z.mv,.lst 2 true [[.sc (.string nm),.sc (.string c.nonce)]]]=some (mv',none,S4)
 mr':mv'.isReg=false
 s3:∀d rg,opev (.st none 1) d rg S4 [.ptr id 0 29,mv']=some (.junk,none,S5)
 h5:IsDl S5 id {c with base:=b,z2:=false,done:=true,marks:=c.marks++[(nm,c.nonce)]} {z with bt:=b,zb:=false,mv:=mv'}
 g5:Chg S S5 (ownC id z.mv) (ownC id mv')
 say:∀p k:T,call 330 [.ptr id 0 0,.agg p.cells,.agg k.cells] S5=some (.agg (c.says p k).cells,S5)
theorem IsDl.tl (h:IsDl S id c z) (hz:c.z1=false) (hm:c.marks.length≤1000000) (nm:ByteArray) (b:T):∃S2 S3 S4 S5 mv',Tl S S2 S3 S4 S5 id c z nm b mv':=by
 have s1:=h.st (col:=25) (sz:=3) (x:=.agg b.cells) (c':={c with base:=b,z2:=false}) (z':={z with bt:=b,zb:=false}) len_T cell_T (by show setCells _ _ b.cells=_;rw [cells_T];rfl) (by omega)
 have h2:=h.set (c':={c with base:=b,z2:=false}) (z':={z with bt:=b,zb:=false}) rfl rfl (fun _=>⟨rfl,rfl⟩) h.hs (fun e=>by cases e)
 have g2:=h.chg (c':={c with base:=b,z2:=false}) (z':={z with bt:=b,zb:=false})
 generalize S.set id _=S2 at s1 h2 g2
 have s2:=h2.st (col:=28) (sz:=1) (x:=.b true) (c':={c with base:=b,z2:=false,done:=true}) (z':={z with bt:=b,zb:=false}) rfl rfl rfl (by omega)
 have h3:=h2.set (c':={c with base:=b,z2:=false,done:=true}) (z':={z with bt:=b,zb:=false}) rfl rfl (fun _=>⟨rfl,rfl⟩) h.hs (fun e=>by cases e)
 have g3:=h2.chg (c':={c with base:=b,z2:=false,done:=true}) (z':={z with bt:=b,zb:=false})
 generalize S2.set id _=S3 at s2 h3 g3
 have hno3:=h3.nonce
 have hmk:=h3.marks
 have hmvr:=h3.gv.reg
 obtain ⟨mv',S4,hap,gv',g4⟩:=h3.gv.app (r:=[.sc (.string nm),.sc (.string c.nonce)]) (bytes:=32) (f:=true) h3.hS (by simp [Cl.mrow];omega)
 have hmr:Cl.mrow ({c with base:=b,z2:=false,done:=true}:Cl).marks++[[.sc (.string nm),.sc (.string c.nonce)]]=Cl.mrow (c.marks++[(nm,c.nonce)]):=by simp [Cl.mrow]
 rw [hmr]at gv'
 have mvr':=gv'.reg
 have mvc':=gv'.cell
 have mvcs:=gv'.cells
 have hid4:=g4.2.2 id h3.lt h3.ne
 have h4h:S4.heap id=some (.rows 34 [({z with bt:=b,zb:=false}:Dz).row {c with base:=b,z2:=false,done:=true}]):=hid4.1.trans h3.hh
 have hro4:S4.ro≤id:=by rw [g4.1];exact h3.ro
 have hlt4:id < S4.n:=Nat.lt_of_lt_of_le h3.lt g4.2.1
 obtain ⟨S5,hS5⟩:∃S5,S5=S4.set id (some (.rows 34 [({z with bt:=b,zb:=false,mv:=mv'}:Dz).row {c with base:=b,z2:=false,done:=true,marks:=c.marks++[(nm,c.nonce)]}])):=⟨_,rfl⟩
 have s3:∀d rg,opev (.st none 1) d rg S4 [.ptr id 0 29,mv']=some (.junk,none,S5):=fun d rg=>by
  have hlen:∀(z:Dz) (q:Cl),(z.row q).length=34:=fun _ _=>rfl
  simp only [opev,h4h]
  rw [if_pos ⟨hro4,by rw [mvcs];simp [mvc'],by rw [mvcs];rfl⟩]
  simp only [List.getElem?_cons_zero,Option.bind_some,hlen]
  rw [if_pos (by omega),hS5,mvcs];rfl
 have h5:IsDl S5 id {c with base:=b,z2:=false,done:=true,marks:=c.marks++[(nm,c.nonce)]} {z with bt:=b,zb:=false,mv:=mv'}:=by
  rw [hS5]
  exact ⟨if_pos rfl,gv'.keep rfl (Nat.le_refl _) fun y _ hy=>if_neg fun e=>hid4.2 (by rw [←e];exact hy),hro4,hlt4,hid4.2,fun _=>⟨rfl,rfl⟩,h.hs,fun e=>by cases e⟩
 have g5:Chg S3 S5 (ownC id z.mv) (ownC id mv'):=by
  refine ⟨by rw [hS5];exact g4.1,by rw [hS5];exact g4.2.1,fun y hy hny=>?_⟩
  obtain ⟨a1,a2⟩:=g4.2.2 y hy fun e=>hny (.inr e)
  refine ⟨?_,?_⟩
  ·rw [hS5]
   show (if y=id then _ else S4.heap y)=_
   rw [if_neg fun e=>hny (.inl e)];exact a1
  ·rintro (e|e)
   ·exact hny (.inl e)
   ·exact a2 e
 exact ⟨S2,S3,S4,S5,mv',s1,s2,hmk,hno3,hmvr,hap,mvr',s3,h5,(g2.trans g3).trans g5,fun p k=>by have q:=s330 (p:=p) (k:=k) h5 hz;exact q⟩
end
theorem endsM {c:Cl} {now:Int} {x:T} {e:Int}:c.takeM now x ([],e)=(c,tNone,e):=by unfold Cl.takeM;rfl
section
variable {S:AS} {id:Nat} {c:Cl} {z:Dz}
set_option maxHeartbeats 8000000 in
set_option maxRecDepth 100000 in
theorem c238 {t x:T} {now:Int} (h:IsDl S id c z) (k:c.ok) (ht:t.lo) (hx:x.lo) (hn:inI now) (hn0:now≠ -9223372036854775808):
 ∃S' z',call 238 [.ptr id 0 0,.agg t.cells,.sc (.int .i64 now),.agg x.cells] S=some (.tup [.agg (c.take t now x).2.1.cells,.sc (.int .i64 (c.take t now x).2.2)],S')∧IsDl S' id (c.take t now x).1 z'∧Chg S S' (ownC id z.mv) (ownC id z'.mv)∧(z'.bt=z.bt∨z'.bt=(c.take t now x).1.base):=by
 rw [call_keep a238 (by simp) rfl]
 have hon:=h.on
 unfold Cl.take
 cases honc:c.on with
 |false=>
  rw [honc]at hon
  exact ⟨S,z,by simp [f238,f238b,fillR,hon],h,Chg.refl,.inl rfl⟩
 |true=>
  rw [honc]at hon
  rw [if_pos rfl]
  have z1:=k.z1 honc
  have e97:=fun S=>@s97 S t
  cases hr:refuseOf t with
  |some er=>
   rw [hr]at e97
   have s1:=h.st (col:=14) (sz:=1) (x:=.b false) (c':={c with on:=false}) (z':=z) rfl rfl rfl (by omega)
   have h1:=h.set (c':={c with on:=false}) (z':=z) rfl rfl h.hb h.hs h.zbk
   have g1:=h.chg (c':={c with on:=false}) (z':=z)
   generalize S.set id _=S1 at s1 h1 g1
   exact ⟨S1,z,by simp [f238,f238b,fillR,hon,e97,optI,s1],h1,g1,.inl rfl⟩
  |none=>
   rw [hr]at e97
   have e79:=fun S=>@s79 S repB 3 t p3
   simp only
   cases hu:unpT repB 3 t with
   |some l=>
    obtain ⟨a,b,f,rfl⟩:=len3 (unpT_len (n:=3) hu).1
    have hm:=(unpT_len (n:=3) hu).2
    rw [hu]at e79
    unfold repB at e79
    simp only
    have lb:b.lo:=ht.kid (hm b (by simp))
    have lf:f.lo:=ht.kid (hm f (by simp))
    obtain ⟨S1,z',e334,h1,g1,hv,hb⟩:=c334 (t:=a) h k.z1d k.nonce lb.bb lf.bb
    exact ⟨S1,z',by simp [f238,f238b,fillR,hon,e97,optI,e79,optL,e334],h1,by rw [hv];exact g1,.inl hb⟩
   |none=>
    rw [hu]at e79
    unfold repB at e79
    simp only
    have ha:=h.ak z1
    have hno:=h.nonce
    have e335:=fun S=>@s335 S c.ak t c.nonce k.nonce ht.bb
    have la:=ansOf_lo (k:=c.ak) (n:=c.nonce) ht
    have e79':=fun S=>@s79 S moreB 2 (ansOf c.ak c.nonce t).1 p2
    have hol:=opnL_lo (tag:=moreB) (n:=2) (r:=ansOf c.ak c.nonce t) la
    unfold moreB at e79'
    by_cases h0:(ansOf c.ak c.nonce t).2=0
    ·cases hu2:unpT moreB 2 (ansOf c.ak c.nonce t).1 with
     |none=>
      rw [opnL_none h0 hu2,endsM]
      unfold moreB at hu2
      rw [hu2]at e79'
      exact ⟨S,z,by simp [f238,f238b,fillR,hon,e97,optI,e79,optL,ha,hno,e335,resU,h0,e79'],h,Chg.refl,.inl rfl⟩
     |some l=>
      obtain ⟨o,ck,rfl⟩:=len2 (unpT_len (n:=2) hu2).1
      rw [opnL_some h0 hu2]at hol ⊢
      unfold moreB at hu2
      rw [hu2]at e79'
      have ho:=hol o (by simp)
      show ∃S' z',_=some (AV.tup [.agg (c.takeD o ck (c.does o now x)).2.1.cells,.sc (.int .i64 (c.takeD o ck (c.does o now x)).2.2)],S')∧IsDl S' id (c.takeD o ck (c.does o now x)).1 z'∧_∧(_∨_=(c.takeD o ck (c.does o now x)).1.base)
      have e82:=fun S=>@s82 S o
      have hk:=h.key
      have hb:=h.body z1
      unfold Cl.does
      by_cases h1:tagT o=chalB
      ·rw [if_pos h1]
       have e150:=fun S=>@s150 S c.ak c.key c.body now hn hn0
       rw [h1]at e82
       obtain ⟨S2,S3,S4,S5,mv',tl⟩:=h.tl z1 k.marks chalB c.key
       have t3:=tl.ap
       unfold chalB at e82 t3
       unfold Cl.takeD
       rw [if_pos rfl,h1]
       refine ⟨S5,_,?_,tl.h5,tl.g5,.inr rfl⟩
       simp [f238,f238b,fillR,hon,e97,optI,e79,optL,ha,hno,e335,resU,h0,e79',at2a,at2b,e82,hk,hb,e150,tl.s1,tl.s2,tl.mkk,tl.no,tl.mr,t3,tl.mr',tl.s3,tl.say]
      ·rw [if_neg h1]
       have n1:(tagT o=⟨#[99,104,97,108,108,101,110,103,101]⟩)=False:=eq_false h1
       by_cases h2:tagT o=otpB
       ·rw [if_pos h2]
        have n2:(tagT o=⟨#[111,116,112]⟩)=True:=eq_true h2
        have hc:=k.counter
        have ic:inI c.counter:=by unfold inI;omega
        have e158:=fun S=>@s158 S c.seed c.counter ic (by omega)
        have e282:=fun S=>@s282 S c.ak o (tOtp c.seed c.counter) ho.bb
        have e336:=fun S=>@s336 S c.ak 46 i46 (by omega)
        have hs:=h.seed
        have hcn:=h.counter
        unfold Cl.takeD
        generalize ansO c.ak o (tOtp c.seed c.counter)=r at *
        by_cases h3:r.2=0
        ·simp only [h3,if_true]
         have w1:IntKind.i64.wrap (c.counter+1)=c.counter+1:=w64 (by omega)
         have s1:=h.st (col:=7) (sz:=1) (x:=.sc (.int .i64 (c.counter+1))) (c':={c with counter:=c.counter+1}) (z':=z) rfl rfl rfl (by omega)
         have h':=h.set (c':={c with counter:=c.counter+1}) (z':=z) rfl rfl h.hb h.hs h.zbk
         have g':=h.chg (c':={c with counter:=c.counter+1}) (z':=z)
         generalize S.set id _=S1 at s1 h' g'
         obtain ⟨S2,S3,S4,S5,mv',tl⟩:=h'.tl z1 k.marks otpB (tUse c.ak 46)
         have t3:=tl.ap
         have tno:=tl.no
         unfold otpB at t3
         rw [h2]
         rw [h2]at e82
         unfold otpB at e82
         refine ⟨S5,_,?_,tl.h5,g'.trans tl.g5,.inr rfl⟩
         simp only at tno t3
         simp [f238,f238b,fillR,hon,e97,optI,e79,optL,ha,hno,e335,resU,h0,e79',at2a,at2b,e82,hk,hb,hs,hcn,e158,e282,h3,e336,w1,s1,tl.s1,tl.s2,tl.mkk,tno,tl.mr,t3,tl.mr',tl.s3,tl.say]
        ·simp only [h3,if_false]
         refine ⟨S,z,?_,h,Chg.refl,.inl rfl⟩
         rw [h2]at e82
         unfold otpB at e82
         simp [f238,f238b,fillR,hon,e97,optI,e79,optL,ha,hno,e335,resU,h0,e79',at2a,at2b,e82,hk,hb,hs,hcn,e158,e282,h3,e336]
       ·rw [if_neg h2]
        have n2:(tagT o=⟨#[111,116,112]⟩)=False:=eq_false h2
        by_cases h4:tagT o=spkB
        ·rw [if_pos h4]
         have e284:=fun S=>@s284 S c.key c.body o x ho hx
         unfold Cl.takeD
         rw [h4]at e82
         unfold spkB at e82
         generalize ansS c.key c.body o x=r at *
         by_cases h3:r.2.2=0
         ·simp only [h3,if_true]
          obtain ⟨S2,S3,S4,S5,mv',tl⟩:=h.tl z1 k.marks spkB r.2.1
          have t3:=tl.ap
          unfold spkB at t3
          rw [h4]
          refine ⟨S5,_,?_,tl.h5,tl.g5,.inr rfl⟩
          simp [f238,f238b,fillR,hon,e97,optI,e79,optL,ha,hno,e335,resU,h0,e79',at2a,at2b,e82,hk,hb,e284,resA,h3,tl.s1,tl.s2,tl.mkk,tl.no,tl.mr,t3,tl.mr',tl.s3,tl.say]
         ·simp only [h3,if_false]
          refine ⟨S,z,?_,h,Chg.refl,.inl rfl⟩
          simp [f238,f238b,fillR,hon,e97,optI,e79,optL,ha,hno,e335,resU,h0,e79',at2a,at2b,e82,hk,hb,e284,resA,h3]
        ·rw [if_neg h4]
         have n3:(tagT o=⟨#[115,112,97,107,101]⟩)=False:=eq_false h4
         unfold Cl.takeD
         refine ⟨S,z,?_,h,Chg.refl,.inl rfl⟩
         simp [f238,f238b,fillR,hon,e97,optI,e79,optL,ha,hno,e335,resU,h0,e79',at2a,at2b,e82,hk,hb,n1,n2,n3]
    ·rw [opnL_ne h0,endsM]
     exact ⟨S,z,by simp [f238,f238b,fillR,hon,e97,optI,e79,optL,ha,hno,e335,resU,h0],h,Chg.refl,.inl rfl⟩
end
theorem tZ_b:tZ.bulk=4:=by show (T.mk 0 ⟨#[]⟩ []).bulk=_;rw [T.bulk,bulkL_nil];rfl
theorem T.bulk_four:∀{t:T},4≤t.bulk
 |⟨k,n,l⟩=>by rw [T.bulk];omega
theorem kid_b {t u:T} {n:Nat} (h:t.bulk≤n) (hu:u∈t.kids):u.bulk≤n:=by have:=T.bulk_kid hu;omega
section
variable {N:Nat} (h4:4≤N)
include h4
theorem tZ_le:tZ.bulk≤N:=by rw [tZ_b];exact h4
theorem unsT_b {k t:T} {n:Int} (h:t.bulk≤N):(unsT k n t).1.bulk≤N:=by
 unfold unsT
 split
 ·unfold unsL
  split
  ·rename_i a b heq
   split
   ·exact kid_b h (by rw [heq];simp)
   ·exact tZ_le h4
  ·exact tZ_le h4
 ·exact tZ_le h4
omit h4 in
theorem opnL_b {tag:ByteArray} {n:Nat} {r:T×Int} (h:r.1.bulk≤N):∀u∈(opnL tag n r).1,u.bulk≤N:=by
 rcases opnL_cases (tag:=tag) (n:=n) (r:=r) with ⟨l,_,e,_,hm,_⟩|⟨e',_,e,_⟩
 ·rw [e];exact fun u hu=>kid_b h (hm u hu)
 ·rw [e];intro u hu;cases hu
theorem sealD_b {k t:T} {u:Int} {tag:ByteArray} {n:Nat} (h:t.bulk≤N):∀x∈(sealD k u t tag n).1,x.bulk≤N:=opnL_b (unsT_b h4 h)
theorem ansOf_b {k t:T} {n:ByteArray} (h:t.bulk≤N):(ansOf k n t).1.bulk≤N:=by
 have hb:=sealD_b h4 (k:=k) (u:=52) (tag:=answB) (n:=2) h
 unfold ansOf
 rcases sealD_cases (k:=k) (t:=t) (u:=52) (tag:=answB) (n:=2) with ⟨l,hl,hlen⟩|⟨e,hne,hl⟩
 ·obtain ⟨a,b,rfl⟩:=len2 hlen
  rw [hl]at hb ⊢
  unfold ansL
  simp only
  split
  ·exact hb b (by simp)
  ·exact tZ_le h4
 ·rw [hl];exact tZ_le h4
theorem expT_b {u l:T} (h:l.bulk≤N):(expT u l).1.bulk≤N:=by
 unfold expT
 split
 ·split
  ·rename_i p w heq
   have hp:p.bulk≤N:=kid_b h (by rw [heq];simp)
   unfold expP
   split
   ·split
    ·rename_i x heq2
     split
     ·exact kid_b hp (by rw [heq2];simp)
     ·exact tZ_le h4
    ·exact tZ_le h4
   ·exact tZ_le h4
  ·exact tZ_le h4
 ·exact tZ_le h4
theorem reqOf_b {k b t:T} (h:t.bulk≤N):(reqOf k b t).2.1.bulk≤N∧(reqOf k b t).1.bulk≤N:=by
 have hb:=sealD_b h4 (k:=k) (u:=51) (tag:=fastB) (n:=3) h
 unfold reqOf
 rcases sealD_cases (k:=k) (t:=t) (u:=51) (tag:=fastB) (n:=3) with ⟨l,hl,hlen⟩|⟨e,hne,hl⟩
 ·obtain ⟨x,p,c,rfl⟩:=len3 hlen
  rw [hl]at hb ⊢
  unfold reqL
  simp only
  split
  ·exact ⟨hb c (by simp),hb p (by simp)⟩
  ·exact ⟨tZ_le h4,tZ_le h4⟩
 ·rw [hl];exact ⟨tZ_le h4,tZ_le h4⟩
theorem openP_b {k t:T} {now:Int} (h:t.bulk≤N):(openP k t now).1.secret.bulk≤N:=by
 have tz:=tZ_le h4
 unfold openP
 split
 ·split
  ·rename_i k0 b hk
   have hb:b.bulk≤N:=kid_b h (by rw [hk];simp)
   split
   ·split
    ·rename_i k1 k2 k3 k4 k5 hk2
     have h4:k4.bulk≤N:=kid_b hb (by rw [hk2];simp)
     split
     ·split
      ·exact tz
      ·exact h4
     ·exact tz
    ·exact tz
   ·exact tz
  ·exact tz
 ·exact tz
omit h4 in
theorem join_b {a b:T} {f g:ByteArray} (hf:f.size≤90) (hg:g.size≤90):(tJoin a b f g).bulk≤a.bulk+b.bulk+300:=by
 unfold tJoin tKdf
 rw [hashT_bulk,pair_bulk,bulkL_cons,bulkL_cons,bulkL_nil,mk_bulk,mk_bulk,bulkL_cons,bulkL_nil,bulkL_cons,bulkL_nil]
 have h1:=(join_name hf).2
 have h2:=(join_name hg).2
 omega
theorem armOf_b {k t:T} (h:t.bulk≤N):(armOf k t).1.bulk≤2 * N+300:=by
 have tz:tZ.bulk≤2 * N+300:=by rw [tZ_b];omega
 unfold armOf
 split
 ·rename_i tk tt hu
  have hm:=(unpT_len (n:=2) hu).2
  have b1:tk.bulk≤N:=kid_b h (hm _ (by simp))
  have b2:tt.bulk≤N:=kid_b h (hm _ (by simp))
  have hb:=sealD_b h4 (k:=k) (u:=2) (tag:=hostB) (n:=1) b1
  rcases sealD_cases (k:=k) (t:=tk) (u:=2) (tag:=hostB) (n:=1) with ⟨l,hl,hlen⟩|⟨e,hne,hl⟩
  ·obtain ⟨a,rfl⟩:=len1 hlen
   rw [hl]at hb ⊢
   have ha:=hb a (by simp)
   show (armS a (sealD a 11 tt authB 1)).1.bulk≤_
   have hb2:=sealD_b h4 (k:=a) (u:=11) (tag:=authB) (n:=1) b2
   rcases sealD_cases (k:=a) (t:=tt) (u:=11) (tag:=authB) (n:=1) with ⟨l,hl,hlen⟩|⟨e,hne,hl⟩
   ·obtain ⟨s,rfl⟩:=len1 hlen
    rw [hl]at hb2 ⊢
    have hs:=hb2 s (by simp)
    show (tArm s a).bulk≤_
    have:=join_b (a:=s) (b:=a) (f:=subkB) (g:=tickB) (by show 11≤90;omega) (by show 11≤90;omega)
    unfold tArm
    omega
   ·rw [hl];show tZ.bulk≤_;exact tz
  ·rw [hl];show tZ.bulk≤_;exact tz
 ·exact tz
end
theorem kdf_b {k:T} {n:ByteArray}:(tKdf k n).bulk=k.bulk+n.size+4:=by unfold tKdf;rw [mk_bulk,bulkL_cons,bulkL_nil];omega
theorem pub_b {x:T}:(tPub x).bulk=x.bulk+4:=by unfold tPub;rw [mk_bulk,bulkL_cons,bulkL_nil,n0];omega
theorem wd_b {u:T}:(tWd u).bulk=u.bulk+8:=by unfold tWd;rw [kdf_b];show _+4+4=_;omega
theorem msk_b {x u:T}:(tMsk x u).bulk=x.bulk+u.bulk+16:=by unfold tMsk;rw [mask_bulk,pub_b,wd_b];omega
theorem xKey_b {x y u o a b:T} {n:Int} (hn:inI n):(xKey x y u o a b n).bulk≤x.bulk+y.bulk+u.bulk+o.bulk+a.bulk+b.bulk+100:=by
 unfold xKey tSecond
 have:=use_bulk (k:=tHash (tPair [tShare x y,tWd u,o,a,tHash b])) hn
 rw [hashT_bulk,pair_bulk,bulkL_cons,bulkL_cons,bulkL_cons,bulkL_cons,bulkL_cons,bulkL_nil,share_bulk,wd_b,hashT_bulk]at this
 omega
theorem i1':inI 1:=by unfold inI;omega
theorem i0':inI 0:=by unfold inI;omega
theorem i60':inI 60:=by unfold inI;omega
theorem fac_b {x y u o a b:T}:(tFac x y u o a b).bulk≤x.bulk+y.bulk+u.bulk+o.bulk+a.bulk+b.bulk+200:=by
 unfold tFac
 have h1:=seal_bulkT (k:=xKey x y u o a b 1) (t:=tPack facB []) i60'
 rw [pack_bulk,bulkL_nil]at h1
 have h2:=xKey_b (x:=x) (y:=y) (u:=u) (o:=o) (a:=a) (b:=b) i1'
 have z:facB.size=6:=rfl
 omega
theorem num_b {n:Int} (hn:inI n):(tNum n).bulk≤30:=by
 unfold tNum;rw [word_bulk]
 have:=itoa_sz hn
 omega
structure Bs (c:Cl):Prop where
 a:c.ak.bulk≤4000
 k:c.key.bulk≤4000
 b:c.body.bulk≤4000
 d:c.seed.bulk≤4000
 w:c.wrap.bulk≤4000
 m:c.nonce.size≤1000
section
variable {c:Cl} {o x k p:T} {now:Int}
theorem Bs.says (h:Bs c):(c.says p k).bulk≤p.bulk+k.bulk+20000:=by
 have ha:=h.a
 have hb:=h.b
 have hw:=h.w
 have h1:=seal_bulkT (k:=c.ak) (t:=tPack fastB [tHash c.body,p,k]) (n:=51) i51
 rw [pack_bulk,bulkL_cons,bulkL_cons,bulkL_cons,bulkL_nil,hashT_bulk]at h1
 have z1:fastB.size=4:=rfl
 have z2:askB.size=6:=rfl
 show (tPack askB [c.body,c.wrap,tReq c.ak c.body p k]).bulk≤_
 rw [pack_bulk,bulkL_cons,bulkL_cons,bulkL_cons,bulkL_nil]
 show askB.size+(c.body.bulk+(c.wrap.bulk+((tSeal c.ak 51 (tPack fastB [tHash c.body,p,k])).bulk+0)))+8≤_
 omega
theorem does_b (h:Bs c) (hx:x.bulk≤1004) (hn:inI now) (hc:inI c.counter):(c.does o now x).2.1.bulk≤2 * o.bulk+60000:=by
 have ha:=h.a
 have hk:=h.k
 have hb:=h.b
 unfold Cl.does
 split
 ·show (tPack chalB [tSeal (tCk c.ak c.key) 54 (tTime c.body now)]).bulk≤_
  rw [pack_bulk,bulkL_cons,bulkL_nil]
  have h1:=seal_bulkT (k:=tCk c.ak c.key) (t:=tTime c.body now) (n:=54) (by unfold inI;omega)
  have h2:=join_b (a:=c.ak) (b:=c.key) (f:=armB) (g:=lonB) (by show 20≤90;omega) (by show 17≤90;omega)
  have h3:(tTime c.body now).bulk≤8000:=by
   show (tPack timeB [tNum now,tHash c.body]).bulk≤_
   rw [pack_bulk,bulkL_cons,bulkL_cons,bulkL_nil,hashT_bulk]
   have:=num_b hn
   show 4+_+8≤_
   omega
  show 9+_+8≤_
  have h4:(tCk c.ak c.key).bulk≤c.ak.bulk+c.key.bulk+300:=h2
  omega
 ·split
  ·show (ansO c.ak o (tOtp c.seed c.counter)).1.bulk≤_
   unfold ansO
   split
   ·rename_i y hu
    have hy:=T.bulk_kid ((unpT_len (n:=1) hu).2 y (by simp))
    show (tPack otpB [tSeal c.ak 45 (tPack codeB [y,tOtp c.seed c.counter])]).bulk≤_
    rw [pack_bulk,bulkL_cons,bulkL_nil]
    have h1:=seal_bulkT (k:=c.ak) (t:=tPack codeB [y,tOtp c.seed c.counter]) (n:=45) i45
    rw [pack_bulk,bulkL_cons,bulkL_cons,bulkL_nil]at h1
    have h2:(tOtp c.seed c.counter).bulk≤5000:=by
     unfold tOtp
     rw [kdf_b,ByteArray.size_append]
     have:=itoa_sz hc
     have:=h.d
     show _+(4+_)+4≤_
     omega
    have z:codeB.size=4:=rfl
    show 3+_+8≤_
    omega
   ·show tZ.bulk≤_;rw [tZ_b];omega
  ·split
   ·show (ansS c.key c.body o x).1.bulk≤_
    unfold ansS
    split
    ·rename_i l hu
     have hl:=T.bulk_kid ((unpT_len (n:=1) hu).2 l (by simp))
     unfold ansP
     split
     ·show (tPack spkB [tMsk x c.key,tFac x (expT c.key l).1 c.key l (tMsk x c.key) c.body]).bulk≤_
      rw [pack_bulk,bulkL_cons,bulkL_cons,bulkL_nil,msk_b]
      have h1:=fac_b (x:=x) (y:=(expT c.key l).1) (u:=c.key) (o:=l) (a:=tMsk x c.key) (b:=c.body)
      rw [msk_b]at h1
      have h2:=expT_b (N:=l.bulk) (T.bulk_four) (u:=c.key) (Nat.le_refl l.bulk)
      show 5+_+8≤_
      omega
     ·show tZ.bulk≤_;rw [tZ_b];omega
    ·show tZ.bulk≤_;rw [tZ_b];omega
   ·show tZ.bulk≤_;rw [tZ_b];omega
end
theorem name_b {t:T} {n:Nat} (h:t.bulk≤n):t.name.size≤n:=by
 obtain ⟨k,nm,l⟩:=t
 rw [T.bulk]at h
 show nm.size≤_
 omega
theorem bodyOf_b {t:T} {a b:ByteArray} {n:Nat} (ht:t.bulk≤n) (h:bodyOf t=some (a,b)):a.size≤n∧b.size≤n:=by
 unfold bodyOf at h
 cases hu:unpT bodyB 2 t with
 |none=>rw [hu]at h;cases h
 |some l=>
  obtain ⟨hl,hm⟩:=unpT_len (n:=2) hu
  obtain ⟨x,y,rfl⟩:=len2 hl
  rw [hu]at h
  have lx:x.bulk≤n:=kid_b ht (hm x (by simp))
  have ly:y.bulk≤n:=kid_b ht (hm y (by simp))
  have hw:∀(z:T) (w:ByteArray),z.bulk≤n→wordOf z=some w→w.size≤n:=by
   intro z w hz hw
   have:=name_b hz
   unfold wordOf at hw
   split at hw
   ·have:=cutB_le hw;omega
   ·cases hw
  show _∧_
  cases ha:wordOf x with
  |none=>simp [bodyL,ha]at h
  |some p=>
   cases hb:wordOf y with
   |none=>simp [bodyL,ha,hb]at h
   |some q=>
    simp [bodyL,ha,hb]at h
    obtain ⟨_,rfl,rfl⟩:=h
    exact ⟨hw _ _ lx ha,hw _ _ ly hb⟩
structure Bk (K:Kd):Prop where
 kb:K.key.bulk≤4000
 ck:K.cookies.bulk≤4000
 u:K.u.key.bulk≤4000
 set:∀s∈K.u.set,isM s
 len:K.u.set.length≤3
structure Bx (N:Nat) (now:Int) (x:Tlk):Prop where
 a:x.ak.bulk≤8300
 b:x.body.bulk≤4000
 s:x.c.secret.bulk≤N
 m:x.c.nonce.size≤4000
 n:x.c.client.size≤4000
 u:x.u.key.bulk≤4000
 set:∀s∈x.u.set,isM s
 now:x.now=now
 done:∀d∈x.c.done,isM d
 len:x.c.done.length≤4
theorem opens_b {N:Nat} {c:Cl} {K:Kd} {p k:T} {now:Int} (h:Bs c) (hk:Bk K) (h4:4≤N) (hN:(c.says p k).bulk≤N) (hno:tNone.bulk≤N):(K.opens (c.says p k) now).2.2=0→Bx N now (K.opens (c.says p k) now).1∧(K.opens (c.says p k) now).2.1.bulk≤N∧(K.opens (c.says p k) now).1.c.done.length≤3:=by
 have hr:(tReq c.ak c.body p k).bulk≤N:=by
  have:(c.says p k).bulk=_:=rfl
  unfold Cl.says tAsk at hN
  rw [pack_bulk,bulkL_cons,bulkL_cons,bulkL_cons,bulkL_nil]at hN
  omega
 have ha:=armOf_b (k:=K.key) (by omega) h.w
 unfold Kd.opens Cl.says
 rw [ask_of]
 show (K.opB (tAsk c.body c.wrap (tReq c.ak c.body p k)) c.body c.wrap (tReq c.ak c.body p k) now (bodyOf c.body)).2.2=0→Bx N now (K.opB (tAsk c.body c.wrap (tReq c.ak c.body p k)) c.body c.wrap (tReq c.ak c.body p k) now (bodyOf c.body)).1∧(K.opB (tAsk c.body c.wrap (tReq c.ak c.body p k)) c.body c.wrap (tReq c.ak c.body p k) now (bodyOf c.body)).2.1.bulk≤N∧(K.opB (tAsk c.body c.wrap (tReq c.ak c.body p k)) c.body c.wrap (tReq c.ak c.body p k) now (bodyOf c.body)).1.c.done.length≤3
 generalize tAsk c.body c.wrap (tReq c.ak c.body p k)=m
 generalize tReq c.ak c.body p k=q at *
 cases hb:bodyOf c.body with
 |none=>intro e;cases e
 |some r=>
  obtain ⟨client,nonce⟩:=r
  obtain ⟨z1,z2⟩:=bodyOf_b h.b hb
  show (K.opA m c.body q client nonce now (armOf K.key c.wrap)).2.2=0→Bx N now (K.opA m c.body q client nonce now (armOf K.key c.wrap)).1∧(K.opA m c.body q client nonce now (armOf K.key c.wrap)).2.1.bulk≤N∧(K.opA m c.body q client nonce now (armOf K.key c.wrap)).1.c.done.length≤3
  unfold Kd.opA
  generalize armOf K.key c.wrap=a at *
  by_cases h0:a.2=0
  ·rw [if_pos h0]
   have hlo:=reqOf_b h4 (k:=a.1) (b:=c.body) hr
   unfold Kd.opR
   generalize reqOf a.1 c.body q=r at *
   by_cases h1:r.2.2=0
   ·rw [if_pos h1]
    by_cases hn:K.u.name=client
    ·rw [if_pos hn]
     cases hi:isNoneT r.2.1 with
     |true=>
      rw [if_pos rfl]
      unfold Kd.opF
      split
      ·intro e;cases e
      ·intro _
       exact ⟨⟨ha,h.b,hno,z2,z1,hk.u,hk.set,rfl,(fun d hd=>by cases hd),by show 0≤_;omega⟩,hlo.2,by show 0≤_;omega⟩
     |false=>
      rw [if_neg (by simp)]
      have hs:=openP_b h4 (k:=K.cookies) (now:=now) hlo.1
      unfold Kd.opC
      generalize openP K.cookies r.2.1 now=o at *
      by_cases h2:o.2=0
      ·rw [if_pos h2]
       split
       ·rename_i hc
        obtain ⟨hc1,hc2,hc3⟩:=hc
        simp only at hc1 hc2
        unfold Kd.opF
        split
        ·intro e;cases e
        ·intro _
         unfold begR at hc3
         simp only [Bool.and_eq_true,decide_eq_true_eq]at hc3
         have hl:=hk.len
         refine ⟨⟨ha,h.b,hs,by show o.1.nonce.size≤_;rw [hc2];exact z2,by show o.1.client.size≤_;rw [hc1];exact z1,hk.u,hk.set,rfl,fun d hd=>?_,by show o.1.done.length≤_;omega⟩,hlo.2,by show o.1.done.length≤_;omega⟩
         have hd:d∈o.1.done:=hd
         rw [←hc3.2]at hd
         exact hk.set d (List.mem_of_mem_take hd)
       ·intro e;cases e
      ·rw [if_neg h2];intro e;exact absurd e h2
    ·rw [if_neg hn];intro e;cases e
   ·rw [if_neg h1];intro e;exact absurd e h1
  ·rw [if_neg h0];intro e;exact absurd e h0
def Rb (M:Nat) (r:T):Prop:=r.bulk≤M∧((unpT repB 3 r).isSome=true∨r.bulk≤100000)
theorem refuse_b {e:Int} (h:inI e):(tRefuse e).bulk≤100:=by
 unfold tRefuse
 rw [pack_bulk,bulkL_cons,bulkL_nil]
 have:=num_b h
 show 5+_+8≤_
 omega
theorem smE.inI {e:Int} (h:smE e):Abs.inI e:=by unfold smE at h;unfold Abs.inI;omega
section
variable {N M:Nat} {K:Kd} {x:Tlk} {now:Int} {nx:ByteArray} {base:T}
theorem Rb.small {r:T} (hM:100000≤M) (h:r.bulk≤100000):Rb M r:=⟨by omega,.inr h⟩
theorem offT_b (hK:Bk K) (hn:0≤K.n∧K.n≤900000) (hx:Bx N now x) (ht:now.natAbs≤100000000000000):(K.offT x nx).bulk≤100000:=by
 have hs:(K.offS nx).bulk≤1004:=by
  unfold Kd.offS
  split
  ·show tNone.bulk≤_;unfold tNone;rw [pack_bulk,bulkL_nil];show 4+0+8≤_;omega
  ·exact (draw_at (n:=K.n+1) (by omega)).ti.b
 have hu:=hx.u
 have ho:(offO x.u nx (K.offS nx)).bulk≤10000:=by
  unfold offO
  split
  ·rw [pack_bulk,bulkL_nil];show 9+0+8≤_;omega
  ·split
   ·unfold tPoint;rw [pack_bulk,bulkL_cons,bulkL_nil,msk_b];show 5+_+8≤_;omega
   ·unfold tOffer;rw [pack_bulk,bulkL_cons,bulkL_nil];show 3+_+8≤_;omega
 unfold Kd.offT offA
 generalize K.offS nx=s at *
 have hd:=doneB_isM hx.done
 have hl:=hx.len
 have hc:(sealT K.cookies (K.offC x s)).bulk≤K.cookies.bulk+x.c.client.size+x.c.nonce.size+doneB x.c.done+s.bulk+200:=seal_bulk (key:=K.cookies) (c:=K.offC x s) (by show inI (x.now+100);rw [hx.now];unfold inI;omega)
 generalize sealT K.cookies (K.offC x s)=q at *
 have hck:=hK.ck
 have hcl:=hx.n
 have hno:=hx.m
 have h1:=seal_bulkT (k:=x.ak) (t:=tPack answB [tWord x.c.nonce,tPack moreB [offO x.u nx s,q]]) (n:=52) i52
 rw [pack_bulk,bulkL_cons,bulkL_cons,bulkL_nil,word_bulk,pack_bulk,bulkL_cons,bulkL_cons,bulkL_nil]at h1
 have z1:answB.size=6:=rfl
 have z2:moreB.size=4:=rfl
 have ha:=hx.a
 show (tSeal x.ak 52 (tPack answB [tWord x.c.nonce,tPack moreB [offO x.u nx s,q]])).bulk≤_
 omega
theorem tktT_b (hK:Bk K) (hn:0≤K.n∧K.n≤900000) (hx:Bx N now x) (ht:now.natAbs≤100000000000000) (hb:base.bulk+200000≤M):Rb M (K.tktT x base):=by
 have d1:=(draw_at (n:=K.n+1) (by omega)).ti.b
 have d2:=(draw_at (n:=K.n+1+1) (by omega)).ti.b
 refine ⟨?_,.inl ?_⟩
 ·unfold Kd.tktT
  have hw:=words_bulk hx.done
  have hl:=hx.len
  have hkb:=hK.kb
  have hcl:=hx.n
  have hno:=hx.m
  have ha:=hx.a
  rw [show x.now=now from hx.now]
  generalize drawT (K.n+1)=s at *
  generalize drawT (K.n+1+1)=st at *
  have ht1:(tkt K.key x.c.client s x.c.done now).bulk≤20000:=by
   unfold tkt
   have h1:=seal_bulkT (k:=K.key) (t:=tPack tktB [tWord x.c.client,s,tPair (wordsT x.c.done),tNum now]) (n:=3) j3
   rw [pack_bulk,bulkL_cons,bulkL_cons,bulkL_cons,bulkL_cons,bulkL_nil,word_bulk,pair_bulk]at h1
   have:=num_b (n:=now) (by unfold inI;omega)
   have z:tktB.size=6:=rfl
   omega
  generalize tkt K.key x.c.client s x.c.done now=t at *
  unfold tktR tktE
  rw [pack_bulk,bulkL_cons,bulkL_cons,bulkL_cons,bulkL_nil]
  have h2:=seal_bulkT (k:=tRep st base) (t:=tPack encB [s,tWord x.c.nonce,tHash t]) (n:=3) j3
  rw [pack_bulk,bulkL_cons,bulkL_cons,bulkL_cons,bulkL_nil,word_bulk,hashT_bulk]at h2
  have h3:=join_b (a:=st) (b:=base) (f:=strkB) (g:=repkB) (by show 13≤90;omega) (by show 8≤90;omega)
  have h3':(tRep st base).bulk≤_:=h3
  have h4:=seal_bulkT (k:=x.ak) (t:=tPack answB [tWord x.c.nonce,tPack finB [st,tHash t]]) (n:=52) i52
  rw [pack_bulk,bulkL_cons,bulkL_cons,bulkL_nil,word_bulk,pack_bulk,bulkL_cons,bulkL_cons,bulkL_nil,hashT_bulk]at h4
  have h4':(tAns x.ak x.c.nonce (tPack finB [st,tHash t])).bulk≤_:=h4
  have z1:answB.size=6:=rfl
  have z2:finB.size=6:=rfl
  have z3:encB.size=3:=rfl
  have z4:repB.size=6:=rfl
  omega
 ·unfold Kd.tktT tktR
  rw [unpT_pack (s:=repB) (n:=3) (by decide) rfl];rfl
theorem reqD_b (hK:Bk K) (hn:0≤K.n∧K.n≤900000) (hx:Bx N now x) (ht:now.natAbs≤100000000000000) (hb:base.bulk+200000≤M):Rb M (K.reqD x base).1:=by
 unfold Kd.reqD
 split
 ·exact tktT_b hK hn hx ht hb
 ·split
  ·exact .small (by omega) (offT_b hK hn hx ht)
  ·exact .small (by omega) (by show tZ.bulk≤_;rw [tZ_b];omega)
theorem reqO_b (hK:Bk K) (hn:0≤K.n∧K.n≤900000) (hx:Bx N now x) (ht:now.natAbs≤100000000000000) (hb:base.bulk+200000≤M) {l:List Int}:Rb M (K.reqO x base (K.u.tok.accept l)).1:=by
 unfold Kd.reqO
 split
 ·exact .small (by omega) (Nat.le_trans (refuse_b (by unfold inI;omega)) (by omega))
 ·split
  ·have hK':Bk {K with u:={K.u with tok:=(K.u.tok.accept l).1}}:=⟨hK.kb,hK.ck,hK.u,hK.set,hK.len⟩
   exact reqD_b (K:={K with u:={K.u with tok:=(K.u.tok.accept l).1}}) hK' hn hx ht hb
  ·exact .small (by omega) (Nat.le_trans (refuse_b accept_sm.inI) (by omega))
theorem Tlk.more_b {x:Tlk} (h:Bx N now x) (hl:x.c.done.length≤3) (hn:isM nx):Bx N now (x.more nx):=
 ⟨h.a,h.b,h.s,h.m,h.n,h.u,h.set,h.now,fun d hd=>by
  rcases List.mem_append.1 (show d∈x.c.done++[nx] from hd) with e|e
  ·exact h.done d e
  ·rw [List.mem_singleton.1 e];exact hn,by show (x.c.done++[nx]).length≤4;simp;omega⟩
theorem chkR_b {p:T} (hx:Bx N now x) (hp:p.bulk≤N) (h4:4≤N):(chkR x p nx).1.bulk≤4 * N+50000:=by
 have ha:=hx.a
 have hu:=hx.u
 have hb:=hx.b
 have hs:=hx.s
 unfold chkR
 split
 ·show (tUse x.ak 46).bulk≤_
  have:=use_bulk (k:=x.ak) (n:=46) i46
  omega
 ·split
  ·show (chkS x.u.key x.body x.c.secret p).1.bulk≤_
   unfold chkS
   split
   ·rename_i l f hu2
    have hl:l.bulk≤N:=kid_b hp ((unpT_len (n:=2) hu2).2 l (by simp))
    have he:=expT_b h4 (u:=x.u.key) hl
    unfold chkP
    split
    ·split
     ·show (xKey (expT x.u.key l).1 x.c.secret x.u.key (tMsk x.c.secret x.u.key) l x.body 0).bulk≤_
      have h1:=xKey_b (x:=(expT x.u.key l).1) (y:=x.c.secret) (u:=x.u.key) (o:=tMsk x.c.secret x.u.key) (a:=l) (b:=x.body) i0'
      rw [msk_b]at h1
      omega
     ·show tZ.bulk≤_;rw [tZ_b];omega
    ·show tZ.bulk≤_;rw [tZ_b];omega
   ·show tZ.bulk≤_;rw [tZ_b];omega
  ·show x.u.key.bulk≤_;omega
theorem req_b {c:Cl} {p k:T} (h:Bs c) (hK:Bk K) (hn:0≤K.n∧K.n≤900000) (ht:now.natAbs≤100000000000000) (h4:100≤N) (hN:(c.says p k).bulk≤N) (hM:5 * N+300000≤M) (hlo:(c.says p k).lo):Rb M (K.req (c.says p k) now).1:=by
 have ho:=opens_b (p:=p) (k:=k) (now:=now) h hK (N:=N) (by omega) hN (by unfold tNone;rw [pack_bulk,bulkL_nil];show 4+0+8≤_;omega)
 have sm:=(opens_ok (K:=K) (now:=now) hlo).e
 unfold Kd.req Kd.reqX
 generalize K.opens (c.says p k) now=r at *
 split
 ·rename_i h0
  obtain ⟨hx,hp,hl⟩:=ho h0
  split
  ·rename_i nx hnx
   have inx:isM nx:=hx.set nx (List.mem_of_getElem? hnx)
   unfold Kd.reqN
   split
   ·exact .small (by omega) (offT_b hK hn hx ht)
   ·split
    ·have hb:=chkR_b (nx:=nx) hx hp (by omega)
     have hcs:=@chkR_sm r.1 r.2.1 nx
     unfold Kd.reqC
     split
     ·have hs:=@seenR_sm K.room (now+100+1) now K.cache r.2.1.txt
      unfold Kd.reqS
      generalize Rf.seenR K.room K.cache r.2.1.txt (now+100+1) now=q at *
      have hK':Bk {K with cache:=q.2}:=⟨hK.kb,hK.ck,hK.u,hK.set,hK.len⟩
      have hx':=Tlk.more_b (nx:=nx) hx hl inx
      split
      ·split
       ·exact reqO_b (K:={K with cache:=q.2}) hK' hn hx' ht (by omega)
       ·exact reqD_b (K:={K with cache:=q.2}) hK' hn hx' ht (by omega)
      ·exact .small (by omega) (Nat.le_trans (refuse_b hs.inI) (by omega))
     ·exact .small (by omega) (Nat.le_trans (refuse_b hcs.inI) (by omega))
    ·exact .small (by omega) (Nat.le_trans (refuse_b (by unfold inI;omega)) (by omega))
  ·exact .small (by omega) (by show tZ.bulk≤_;rw [tZ_b];omega)
 ·exact .small (by omega) (Nat.le_trans (refuse_b sm.inI) (by omega))
end
theorem call_nrm2 {k:Nat} {f:AFunc} (h:Calm k f) {a b:List AV} {S:AS} (ha:a.any AV.isReg=false) (hb:b.any AV.isReg=false) (e:nrmL a=nrmL b) (hl:Nat.ble (nrmL a).length f.ntmps=true):call k a S=call k b S:=by
 rw [call_calm' h ha rfl hl,call_calm' h hb rfl (by rw [←e];exact hl),e]
def rawZ:List AV:=[.i 0,.s ⟨#[]⟩,.lst 0 true []]
def TV (t:T) (v:List AV):Prop:=v=t.cells∨(t=tZ∧v=rawZ)
theorem TV.of {t:T}:TV t t.cells:=.inl rfl
theorem TV.nrm {t:T} {v:List AV} (h:TV t v):(AV.agg v).nrm=(AV.agg t.cells).nrm:=by
 rcases h with rfl|⟨rfl,rfl⟩<;>rfl
theorem tagT_kind {t:T} (h:tagT t≠⟨#[]⟩):t.kind≠4:=by
 intro e
 exact h (tagT_no fun h2=>by rw [e]at h2;exact absurd h2.1 (by decide))
theorem unpT_kind {tag:ByteArray} {n:Int} {t:T} {l:List T} (h:unpT tag n t=some l):t.kind≠4:=by
 unfold unpT at h
 split at h
 ·rename_i hc
  exact tagT_kind (by rw [hc.2.1];exact hc.1)
 ·cases h
section
variable {S:AS} {k:Nat} {L:Loc} {K:Kd} {R:List (List AV)} {id:Nat} {c:Cl} {mv:AV} {z:Dz}
theorem tZ_unp {tag:ByteArray} {n:Int}:unpT tag n tZ=none:=by
 unfold unpT
 rw [if_neg]
 rintro ⟨h1,h2,_⟩
 exact h1 (h2▸rfl)
theorem tZ_ref:refuseOf tZ=none:=by unfold refuseOf;rw [tZ_unp];rfl
theorem tZ_ask:askOf tZ=none:=by unfold askOf;rw [tZ_unp];rfl
theorem tZ_ans {a:T} {n:ByteArray}:ansOf a n tZ=(tZ,2):=by
 unfold ansOf sealD unsT
 rw [if_neg (by show ¬(0:Int)=4;decide)];rfl
theorem call_TV {k:Nat} {f:AFunc} (h:Calm k f) {t:T} {v:List AV} (hv:TV t v) {S:AS} (hl:Nat.ble 1 f.ntmps=true):call k [.agg v] S=call k [.agg t.cells] S:=
 call_nrm2 h rfl rfl (by show [_]=[_];rw [hv.nrm]) hl
theorem c137' (h:IsKd S k L K R) (hK:K.okk) (hR:R.length≤1000) {t:T} {v:List AV} (hv:TV t v) {now:Int} (ht:t.lo) (hnow:now.natAbs≤100000000000000):
 ∃S' L' R',call 137 [.ptr k 0 0,.agg v,.sc (.int .i64 now)] S=some (.agg (K.req t now).1.cells,S')∧IsKd S' k L' (K.req t now).2.1 R'∧Chg S S' (ownK k L) (ownK k L')∧IssRel S S' (ownK k L') R R' (K.req t now).2.2:=by
 rcases hv with rfl|⟨rfl,rfl⟩
 ·exact c137 h hK hR ht hnow
 ·have e239:=s239 h.at_ (t:=tZ) (now:=now) ht hK.cookies hK.set2
  have e239':call 239 [.ptr k 0 0,.agg rawZ,.sc (.int .i64 now)] S=_:=(call_nrm2 a239 (a:=[.ptr k 0 0,.agg rawZ,.sc (.int .i64 now)]) (b:=[.ptr k 0 0,.agg tZ.cells,.sc (.int .i64 now)]) rfl rfl rfl rfl).trans e239
  have ho:K.opens tZ now=(zTlk,tZ,2):=by unfold Kd.opens;rw [tZ_ask]
  have hr:K.req tZ now=(tRefuse 2,K,none):=by unfold Kd.req;rw [ho];unfold Kd.reqX;rw [if_neg (by show ¬(2:Int)=0;decide)]
  rw [ho]at e239'
  unfold resT at e239'
  simp only at e239'
  rw [hr]
  refine ⟨S,L,R,?_,h,Chg.refl,rfl⟩
  have xc:=@Tlk.cell zTlk (lstS zTlk.c.done) rfl
  have e73':=fun S=>@s73 S 2 (by unfold inI;omega) (by omega)
  rw [call_keep a137 (by simp) rfl]
  unfold rawZ at e239' ⊢
  simp [f137,f137b,e239',xc,e73']
theorem take_tZ {x:T} {now:Int}:c.take tZ now x=if c.on then (c,tNone,2) else (c,tNone,11):=by
 unfold Cl.take
 rw [tZ_ref,tZ_unp,tZ_ans,opnL_ne (by show ¬(2:Int)=0;decide),endsM]
theorem c141' (h:IsCl S id c mv) (k:c.ok) {t x:T} {v:List AV} (hv:TV t v) {now:Int} (ht:t.lo) (hx:x.lo) (hn:inI now):
 ∃S' mv',call 141 [.ptr id 0 0,.agg v,.sc (.int .i64 now),.agg x.cells] S=some (.tup [.agg (c.take t now x).2.1.cells,.sc (.int .i64 (c.take t now x).2.2)],S')∧IsCl S' id (c.take t now x).1 mv'∧Chg S S' (ownC id mv) (ownC id mv'):=by
 rcases hv with rfl|⟨rfl,rfl⟩
 ·exact c141 h k ht hx hn
 ·refine ⟨S,mv,?_,?_,Chg.refl⟩
  rotate_left
  ·rw [take_tZ];split<;>exact h
  have hon:=h.on
  rw [take_tZ,call_keep a141 (by simp) rfl]
  have e96:∀S,call 96 [.agg rawZ] S=_:=fun S=>(call_TV a96 (t:=tZ) (.inr ⟨rfl,rfl⟩) rfl).trans (s96 (t:=tZ) (by show 0≤_;omega) (fun u hu=>by cases hu))
  have e78:∀S,call 78 [.sc (.string repB),.i 3,.agg rawZ] S=_:=fun S=>(call_nrm2 a78 (a:=[.sc (.string repB),.i 3,.agg rawZ]) (b:=[.sc (.string repB),.i 3,.agg tZ.cells]) rfl rfl rfl rfl).trans (s78 (n:=3) (t:=tZ) (by show 0≤_;omega))
  rw [tZ_ref]at e96
  rw [tZ_unp]at e78
  unfold repB rawZ at *
  cases honc:c.on with
  |false=>
   rw [honc]at hon
   simp [f141,f141b,hon]
  |true=>
   rw [honc]at hon
   have z1:=k.z1 honc
   have ha:=h.ak z1
   have hno:=h.nonce
   have e251:∀S,call 251 [.agg c.ak.cells,.sc (.string c.nonce),.agg [.i 0,.s ⟨#[]⟩,.lst 0 true []]] S=_:=fun S=>(call_nrm2 a251 (a:=[.agg c.ak.cells,.sc (.string c.nonce),.agg [.i 0,.s ⟨#[]⟩,.lst 0 true []]]) (b:=[.agg c.ak.cells,.sc (.string c.nonce),.agg tZ.cells]) rfl rfl rfl rfl).trans (s251 k.nonce tZ_lo.bb)
   rw [tZ_ans]at e251
   have e252:=fun S=>@s252 S tZ 2 moreB 2 2 rfl tZ_lo.bb
   rw [opnL_ne (by show ¬(2:Int)=0;decide)]at e252
   unfold moreB at e252
   simp [f141,f141b,hon,e96,optI,e78,optL,ha,hno,e251,resU,e252,resL]
theorem c238' (h:IsDl S id c z) (k:c.ok) {t x:T} {v:List AV} (hv:TV t v) {now:Int} (ht:t.lo) (hx:x.lo) (hn:inI now) (hn0:now≠ -9223372036854775808):
 ∃S' z',call 238 [.ptr id 0 0,.agg v,.sc (.int .i64 now),.agg x.cells] S=some (.tup [.agg (c.take t now x).2.1.cells,.sc (.int .i64 (c.take t now x).2.2)],S')∧IsDl S' id (c.take t now x).1 z'∧Chg S S' (ownC id z.mv) (ownC id z'.mv)∧(z'.bt=z.bt∨z'.bt=(c.take t now x).1.base):=by
 rcases hv with rfl|⟨rfl,rfl⟩
 ·exact c238 h k ht hx hn hn0
 ·refine ⟨S,z,?_,?_,Chg.refl,.inl rfl⟩
  rotate_left
  ·rw [take_tZ];split<;>exact h
  have hon:=h.on
  rw [take_tZ,call_keep a238 (by simp) rfl]
  have e97:∀S,call 97 [.agg rawZ] S=_:=fun S=>(call_TV a97 (t:=tZ) (.inr ⟨rfl,rfl⟩) rfl).trans (s97 (t:=tZ))
  have e79:∀S,call 79 [.sc (.string repB),.i 3,.agg rawZ] S=_:=fun S=>(call_nrm2 a79 (a:=[.sc (.string repB),.i 3,.agg rawZ]) (b:=[.sc (.string repB),.i 3,.agg tZ.cells]) rfl rfl rfl rfl).trans (s79 (n:=3) (t:=tZ) p3)
  rw [tZ_ref]at e97
  rw [tZ_unp]at e79
  unfold repB rawZ at *
  cases honc:c.on with
  |false=>
   rw [honc]at hon
   simp [f238,f238b,fillR,hon]
  |true=>
   rw [honc]at hon
   have z1:=k.z1 honc
   have ha:=h.ak z1
   have hno:=h.nonce
   have e335:∀S,call 335 [.agg c.ak.cells,.sc (.string c.nonce),.agg [.i 0,.s ⟨#[]⟩,.lst 0 true []]] S=_:=fun S=>(call_nrm2 a335 (a:=[.agg c.ak.cells,.sc (.string c.nonce),.agg [.i 0,.s ⟨#[]⟩,.lst 0 true []]]) (b:=[.agg c.ak.cells,.sc (.string c.nonce),.agg tZ.cells]) rfl rfl rfl rfl).trans (s335 k.nonce tZ_lo.bb)
   rw [tZ_ans]at e335
   simp [f238,f238b,fillR,hon,e97,optI,e79,optL,ha,hno,e335,resU]
end
def rz (b:Bool) (t:T):List AV:=[.sc (.int .i64 t.kind),.sc (.string t.name),zc b t]
theorem rz_tv {b:Bool} {t:T} (h:b=true→t=tZ):TV t (rz b t):=by
 cases b with
 |true=>rw [h rfl];exact .inr ⟨rfl,rfl⟩
 |false=>exact .inl (tri t)
structure Sv where
 m:T
 zm:Bool
 r:T
 zr:Bool
 o:T
 zo:Bool
 now:Int
 n:Int
def Sv.row (x:Sv) (a b k:Nat):List AV:=[.ptr a 0 0,.ptr b 0 0,.ptr k 0 0,.sc (.int .i64 x.m.kind),.sc (.string x.m.name),zc x.zm x.m,
 .sc (.int .i64 x.r.kind),.sc (.string x.r.name),zc x.zr x.r,.sc (.int .i64 x.o.kind),.sc (.string x.o.name),zc x.zo x.o,.sc (.int .i64 x.now),.sc (.int .i64 x.n)]
structure IsSt (S:AS) (s a b k:Nat) (x:Sv):Prop where
 hh:S.heap s=some (.rows 14 [x.row a b k])
 ro:S.ro≤s
 lt:s < S.n
section
variable {S:AS} {s a b k:Nat} {x:Sv}
theorem IsSt.keep (h:IsSt S s a b k x) {S':AS} (hr:S'.ro=S.ro) (hn:S.n≤S'.n) (hh:S'.heap s=S.heap s):IsSt S' s a b k x:=
 ⟨hh.trans h.hh,by rw [hr];exact h.ro,Nat.lt_of_lt_of_le h.lt hn⟩
section
variable (h:IsSt S s a b k x) (d:Option Nat) (rg:Nat→Option (List AV))
include h
theorem IsSt.la:opev (.ld none 1 false) d rg S [.ptr s 0 0]=some (.ptr a 0 0,none,S):=by rw [opev_ld_ptr h.hh];rfl
theorem IsSt.lb:opev (.ld none 1 false) d rg S [.ptr s 0 1]=some (.ptr b 0 0,none,S):=by rw [opev_ld_ptr h.hh];rfl
theorem IsSt.lk:opev (.ld none 1 false) d rg S [.ptr s 0 2]=some (.ptr k 0 0,none,S):=by rw [opev_ld_ptr h.hh];rfl
theorem IsSt.lm:opev (.ld none 3 true) d rg S [.ptr s 0 3]=some (.agg (rz x.zm x.m),none,S):=by rw [opev_ld_ptr h.hh];rfl
theorem IsSt.lr:opev (.ld none 3 true) d rg S [.ptr s 0 6]=some (.agg (rz x.zr x.r),none,S):=by rw [opev_ld_ptr h.hh];rfl
theorem IsSt.lo:opev (.ld none 3 true) d rg S [.ptr s 0 9]=some (.agg (rz x.zo x.o),none,S):=by rw [opev_ld_ptr h.hh];rfl
theorem IsSt.lw:opev (.ld none 1 false) d rg S [.ptr s 0 12]=some (.sc (.int .i64 x.now),none,S):=by rw [opev_ld_ptr h.hh];rfl
theorem IsSt.ln:opev (.ld none 1 false) d rg S [.ptr s 0 13]=some (.sc (.int .i64 x.n),none,S):=by rw [opev_ld_ptr h.hh];rfl
theorem IsSt.st {col sz:Nat} {v:AV} {x':Sv} (hl:v.cells.length=sz) (hc:v.cells.all AV.isCell=true) (hr:setCells (x.row a b k) col v.cells=x'.row a b k) (hle:col+sz≤14):
 opev (.st none sz) d rg S [.ptr s 0 col,v]=some (.junk,none,S.set s (some (.rows 14 [x'.row a b k]))):=by
 have hlen:(x.row a b k).length=14:=rfl
 simp only [opev,h.hh]
 rw [if_pos ⟨h.ro,hc,hl⟩]
 simp only [List.getElem?_cons_zero,Option.bind_some,hlen]
 rw [if_pos hle,hr];rfl
end
theorem IsSt.set (h:IsSt S s a b k x) {x':Sv}:IsSt (S.set s (some (.rows 14 [x'.row a b k]))) s a b k x':=⟨if_pos rfl,h.ro,h.lt⟩
end
def Rk (t:T):Prop:=t.bulk≤60000000∧(t.kind≠4∨t.bulk≤2500000)
theorem Rk.lo {t:T} (h:Rk t):t.lo:=by have:=h.1;unfold T.lo;omega
theorem Rk.small {t:T} (h:t.bulk≤2500000):Rk t:=⟨by omega,.inr h⟩
theorem Rk.of_pack {n:ByteArray} {l:List T} (h:(tPack n l).bulk≤60000000):Rk (tPack n l):=⟨h,.inl (by show (3:Int)≠4;decide)⟩
def evB:ByteArray:=⟨#[101,118,105,108]⟩
def stB:ByteArray:=⟨#[115,116,114,101,110,103,116,104,101,110]⟩
section
variable {S:AS} {s a b k id:Nat} {x:Sv} {c:Cl} {z:Dz}
theorem IsDl.ak' (h:IsDl S id c z) (d:Option Nat) (rg:Nat→Option (List AV)):opev (.ld none 3 true) d rg S [.ptr id 0 22]=some (.agg (rz c.z1 c.ak),none,S):=by rw [opev_ld_ptr h.hh];rfl
theorem IsDl.base' (h:IsDl S id c z) (d:Option Nat) (rg:Nat→Option (List AV)):opev (.ld none 3 true) d rg S [.ptr id 0 25]=some (.agg (rz z.zb z.bt),none,S):=by rw [opev_ld_ptr h.hh];rfl
theorem q332 {kk t:T} {v:List AV} {n:ByteArray} (hv:TV kk v) (hn:n.size≤4611686018427387904):call 332 [.agg v,.sc (.string n),.agg t.cells] S=some (.agg (tAns kk n t).cells,S):=
 (call_nrm2 a332 (a:=[.agg v,.sc (.string n),.agg t.cells]) (b:=[.agg kk.cells,.sc (.string n),.agg t.cells]) rfl rfl (by show [(AV.agg v).nrm,_,_]=[(AV.agg kk.cells).nrm,_,_];rw [hv.nrm]) rfl).trans (s332 hn)
theorem q333 {p t:T} {v:List AV} (hv:TV t v):call 333 [.agg p.cells,.agg v] S=some (.agg (tRep p t).cells,S):=
 (call_nrm2 a333 (a:=[.agg p.cells,.agg v]) (b:=[.agg p.cells,.agg t.cells]) rfl rfl (by show [_,(AV.agg v).nrm]=[_,(AV.agg t.cells).nrm];rw [hv.nrm]) rfl).trans s333
def fgO:List T:=[tPack chalB [],tOffer (tAtom ⟨#[110,111,110,99,101]⟩),tPoint (tLong (tAtom pwaB) naB) (tAtom ⟨#[121]⟩),tPoint (tAtom ⟨#[110,111]⟩) (tAtom ⟨#[121]⟩),tNone,tPack otpB [],tPack spkB [tAtom ⟨#[121]⟩],tAtom ⟨#[122]⟩]
theorem fgO_b:∀o∈fgO,o.bulk≤1000:=by
 intro o ho
 have z1:pwaB.size=10:=rfl
 have z2:naB.size=1:=rfl
 have z3:longB.size=5:=rfl
 simp only [fgO,List.mem_cons,List.not_mem_nil,or_false]at ho
 rcases ho with rfl|rfl|rfl|rfl|rfl|rfl|rfl|rfl
 ·rw [pack_bulk,bulkL_nil];show 9+0+8≤_;omega
 ·unfold tOffer;rw [pack_bulk,bulkL_cons,bulkL_nil,atom_bulk];show 3+(5+4+0)+8≤_;omega
 ·unfold tPoint tLong;rw [pack_bulk,bulkL_cons,bulkL_nil,msk_b,kdf_b,atom_bulk,atom_bulk,ByteArray.size_append,z1,z2,z3];show 5+(1+4+(10+4+(5+1)+4)+16+0)+8≤_;omega
 ·unfold tPoint;rw [pack_bulk,bulkL_cons,bulkL_nil,msk_b,atom_bulk,atom_bulk];show 5+(1+4+(2+4)+16+0)+8≤_;omega
 ·unfold tNone;rw [pack_bulk,bulkL_nil];show 4+0+8≤_;omega
 ·rw [pack_bulk,bulkL_nil];show 3+0+8≤_;omega
 ·rw [pack_bulk,bulkL_cons,bulkL_nil,atom_bulk];show 5+(1+4+0)+8≤_;omega
 ·rw [atom_bulk];show 1+4≤_;omega
end
def sessB:ByteArray:=⟨#[115,101,115,115,105,111,110]⟩
def othB:ByteArray:=⟨#[111,116,104,101,114]⟩
def basB:ByteArray:=⟨#[98,97,115,101]⟩
def fgN (bad:Int) (n:ByteArray):ByteArray:=if bad=1 then n++⟨#[120]⟩ else n
def fgK (bad:Int) (a:T):T:=if bad=2 then tAtom evB else a
def fgH (bad:Int):T:=if bad=3 then tHash (tHash (tAtom tktB)) else tHash (tAtom tktB)
def fgB (bad:Int) (b:T):T:=if bad=4 then tAtom basB else b
def fgI (bad:Int) (n:ByteArray):T:=if bad=6 then tPack encB [tAtom sessB] else if bad=5 then tPack encB [tAtom sessB,tWord othB,tHash (tAtom tktB)] else tPack encB [tAtom sessB,tWord n,tHash (tAtom tktB)]
def fgF (bad:Int):T:=if bad=7 then tAtom finB else tPack finB [tAtom stB,fgH bad]
def fg4 (bad:Int) (a:T) (n:ByteArray) (o:T):T:=tAns (fgK bad a) (fgN bad n) (tPack moreB [o,tAtom cokB])
def fg5 (bad:Int) (a b:T) (n:ByteArray):T:=tPack repB [tAtom tktB,tSeal (tRep (tAtom stB) (fgB bad b)) 3 (fgI bad n),tAns (fgK bad a) (fgN bad n) (fgF bad)]
theorem ans_b {a t:T} {n:ByteArray}:(tAns a n t).bulk≤a.bulk+n.size+t.bulk+100:=by
 have h1:=seal_bulkT (k:=a) (t:=tPack answB [tWord n,t]) (n:=52) i52
 rw [pack_bulk,bulkL_cons,bulkL_cons,bulkL_nil,word_bulk]at h1
 have z1:answB.size=6:=rfl
 show (tSeal a 52 (tPack answB [tWord n,t])).bulk≤_
 omega
theorem fgN_b {bad:Int} {n:ByteArray} (h:n.size≤1000):(fgN bad n).size≤1001:=by
 unfold fgN
 split
 ·rw [ByteArray.size_append];show _+1≤_;omega
 ·omega
theorem fgK_b {bad:Int} {a:T} (h:a.bulk≤4000):(fgK bad a).bulk≤4000:=by
 unfold fgK
 split
 ·rw [atom_bulk];show 4+4≤_;omega
 ·exact h
theorem fg4_b {bad:Int} {a o:T} {n:ByteArray} (ha:a.bulk≤4000) (hn:n.size≤1000) (ho:o.bulk≤1000):Rk (fg4 bad a n o):=by
 apply Rk.small
 unfold fg4
 have h1:=ans_b (a:=fgK bad a) (n:=fgN bad n) (t:=tPack moreB [o,tAtom cokB])
 rw [pack_bulk,bulkL_cons,bulkL_cons,bulkL_nil,atom_bulk]at h1
 have h2:=fgK_b (bad:=bad) ha
 have h3:=fgN_b (bad:=bad) hn
 have z1:moreB.size=4:=rfl
 have z2:cokB.size=6:=rfl
 omega
theorem fg5_b {bad:Int} {a b:T} {n:ByteArray} (ha:a.bulk≤4000) (hn:n.size≤1000) (hb:b.bulk≤20000000):Rk (fg5 bad a b n):=by
 apply Rk.of_pack
 have h2:=fgK_b (bad:=bad) ha
 have h3:=fgN_b (bad:=bad) hn
 have hB:(fgB bad b).bulk≤20000000:=by
  unfold fgB
  split
  ·rw [atom_bulk];show 4+4≤_;omega
  ·exact hb
 have hI:(fgI bad n).bulk≤3000:=by
  unfold fgI
  split
  ·rw [pack_bulk,bulkL_cons,bulkL_nil,atom_bulk];show 3+(7+4+0)+8≤_;omega
  ·split
   ·rw [pack_bulk,bulkL_cons,bulkL_cons,bulkL_cons,bulkL_nil,atom_bulk,word_bulk,hashT_bulk,atom_bulk];show 3+(7+4+(5+5+(6+4+4+0)))+8≤_;omega
   ·rw [pack_bulk,bulkL_cons,bulkL_cons,bulkL_cons,bulkL_nil,atom_bulk,word_bulk,hashT_bulk,atom_bulk];show 3+(7+4+(_+5+(6+4+4+0)))+8≤_;omega
 have hF:(fgF bad).bulk≤1000:=by
  unfold fgF fgH
  split
  ·rw [atom_bulk];show 6+4≤_;omega
  ·split
   ·rw [pack_bulk,bulkL_cons,bulkL_cons,bulkL_nil,atom_bulk,hashT_bulk,hashT_bulk,atom_bulk];show 6+(10+4+(6+4+4+4+0))+8≤_;omega
   ·rw [pack_bulk,bulkL_cons,bulkL_cons,bulkL_nil,atom_bulk,hashT_bulk,atom_bulk];show 6+(10+4+(6+4+4+0))+8≤_;omega
 rw [pack_bulk,bulkL_cons,bulkL_cons,bulkL_cons,bulkL_nil,atom_bulk]
 have h4:=seal_bulkT (k:=tRep (tAtom stB) (fgB bad b)) (t:=fgI bad n) (n:=3) j3
 have h5:(tRep (tAtom stB) (fgB bad b)).bulk≤_:=join_b (f:=strkB) (g:=repkB) (by show 13≤90;omega) (by show 8≤90;omega)
 rw [atom_bulk]at h5
 have h6:=ans_b (a:=fgK bad a) (n:=fgN bad n) (t:=fgF bad)
 have z1:repB.size=6:=rfl
 have z2:tktB.size=6:=rfl
 have z3:stB.size=10:=rfl
 omega
section
variable {S:AS} {s a b k id:Nat} {x:Sv} {c:Cl} {z:Dz}
set_option maxHeartbeats 4000000 in
set_option maxRecDepth 100000 in
theorem c237 (h:IsSt S s a b k x) (hd:IsDl S b c z) (hak:c.z1=true→c.ak=tZ) (ha:c.ak.bulk≤4000) (hn:c.nonce.size≤1000) (hb:z.bt.bulk≤20000000) {kind n bad tick:Int} {t:T}:
 ∃F,call 237 [.ptr s 0 0,.agg [.sc (.int .i64 kind),.sc (.int .i64 n),.sc (.int .i64 bad),.sc (.int .i64 tick),.sc (.int .i64 t.kind),.sc (.string t.name),lstT t.kids]] S=some (.agg F.cells,S)∧Rk F:=by
 rw [call_keep a237 (by simp) rfl]
 have lb:=h.lb
 have no:=hd.nonce
 have la:=hd.ak'
 have le:=hd.base'
 have tvA:=rz_tv hak
 have tvB:=rz_tv hd.zbk
 have hsx:=pev_sadd (x:=c.nonce) (y:=⟨#[120]⟩) (by show _+1≤_;omega)
 have ns:c.nonce.size≤4611686018427387904:=by omega
 have nx:(c.nonce++(⟨#[120]⟩:ByteArray)).size≤4611686018427387904:=by rw [ByteArray.size_append];show _+1≤_;omega
 have e1:=fun S t=>@q332 S c.ak t _ c.nonce tvA ns
 have e2:=fun S t=>@q332 S c.ak t _ _ tvA nx
 have e3:=fun S t=>@q332 S (tAtom ⟨#[101,118,105,108]⟩) t _ c.nonce .of ns
 have e4:=fun S p=>@q333 S p z.bt _ tvB
 have e5:=fun S p q=>@s333 S p q
 have e140:=fun S q=>@s140 S q
 have e65:=fun S=>@s65 S c.nonce ns
 have e65':=fun S=>@s65 S ⟨#[111,116,104,101,114]⟩ (by show 5≤_;omega)
 have e266:=fun S q t=>@s266 S q t 3 j3 (by omega)
 have zk:(zc c.z1 c.ak).isCell=true:=by cases c.z1<;>rfl
 have zb:(zc z.zb z.bt).isCell=true:=by cases z.zb<;>rfl
 have hbad:bad=1∨bad=2∨bad=3∨bad=4∨bad=5∨bad=6∨bad=7∨(bad≠1∧bad≠2∧bad≠3∧bad≠4∧bad≠5∧bad≠6∧bad≠7):=by omega
 simp only [rz]at *
 by_cases hk:kind=4
 ·subst hk
  have h0:0≤n % 8∧n % 8 < 8:=⟨Int.emod_nonneg _ (by omega),Int.emod_lt_of_pos _ (by omega)⟩
  have hj:n % 8=0∨n % 8=1∨n % 8=2∨n % 8=3∨n % 8=4∨n % 8=5∨n % 8=6∨n % 8=7:=by omega
  obtain ⟨o,ho,hi⟩:∃o∈fgO,pev (.iaddr 3) [.lst 3 true [(tPack ⟨#[99,104,97,108,108,101,110,103,101]⟩ []).cells,(tOffer (tAtom ⟨#[110,111,110,99,101]⟩)).cells,(tPoint (tLong (tAtom ⟨#[112,97,115,115,119,111,114,100,32,97]⟩) ⟨#[97]⟩) (tAtom ⟨#[121]⟩)).cells,(tPoint (tAtom ⟨#[110,111]⟩) (tAtom ⟨#[121]⟩)).cells,tNone.cells,(tPack ⟨#[111,116,112]⟩ []).cells,(tPack ⟨#[115,112,97,107,101]⟩ [tAtom ⟨#[121]⟩]).cells,(tAtom ⟨#[122]⟩).cells],.sc (.int .i64 (n % 8))]=some (.iptr o.cells):=by
   have hi:∀(l:List (List AV)) (j:Nat) (w:List AV),l[j]?=some w→l≠[]→pev (.iaddr 3) [.lst 3 true l,.sc (.int .i64 (j:Int))]=some (.iptr w):=by
    intro l j w hw hl;simp [pev,hw]
   rcases hj with e|e|e|e|e|e|e|e
   ·exact ⟨_,by simp [fgO];exact .inl rfl,by rw [e];exact hi _ 0 _ rfl (by simp)⟩
   ·exact ⟨_,by simp [fgO];exact .inr (.inl rfl),by rw [e];exact hi _ 1 _ rfl (by simp)⟩
   ·exact ⟨_,by simp [fgO];exact .inr (.inr (.inl rfl)),by rw [e];exact hi _ 2 _ rfl (by simp)⟩
   ·exact ⟨_,by simp [fgO];exact .inr (.inr (.inr (.inl rfl))),by rw [e];exact hi _ 3 _ rfl (by simp)⟩
   ·exact ⟨_,by simp [fgO];exact .inr (.inr (.inr (.inr (.inl rfl)))),by rw [e];exact hi _ 4 _ rfl (by simp)⟩
   ·exact ⟨_,by simp [fgO];exact .inr (.inr (.inr (.inr (.inr (.inl rfl))))),by rw [e];exact hi _ 5 _ rfl (by simp)⟩
   ·exact ⟨_,by simp [fgO];exact .inr (.inr (.inr (.inr (.inr (.inr (.inl rfl)))))),by rw [e];exact hi _ 6 _ rfl (by simp)⟩
   ·exact ⟨_,by simp [fgO];exact .inr (.inr (.inr (.inr (.inr (.inr (.inr rfl)))))),by rw [e];exact hi _ 7 _ rfl (by simp)⟩
  refine ⟨fg4 bad c.ak c.nonce o,?_,fg4_b ha hn (fgO_b o ho)⟩
  have e145:=fun S=>@s145n S (tAtom ⟨#[112,97,115,115,119,111,114,100,32,97]⟩) ⟨#[97]⟩ (by show 1≤_;omega)
  have e283:=fun S q=>@s283 S q
  have e331:=fun S q w=>@s331 S q w
  unfold fg4 fgK fgN evB moreB cokB
  by_cases b1:bad=1
  ·subst b1
   simp [f237,f237b,lb,no,hsx,la,zk,e140,e283,e145,e331,hi,e2,fillR]
  ·by_cases b2:bad=2
   ·subst b2
    simp [f237,f237b,lb,no,la,zk,e140,e283,e145,e331,hi,e3,fillR]
   ·simp [f237,f237b,lb,no,la,zk,e140,e283,e145,e331,hi,e1,fillR,b1,b2]
 ·refine ⟨fg5 bad c.ak z.bt c.nonce,?_,fg5_b ha hn hb⟩
  unfold fg5 fgK fgN fgB fgI fgF fgH evB finB encB repB tktB sessB othB basB stB
  rcases hbad with rfl|rfl|rfl|rfl|rfl|rfl|rfl|⟨b1,b2,b3,b4,b5,b6,b7⟩
  ·simp [f237,f237b,lb,no,hsx,la,le,zk,zb,hk,e140,e2,e4,e65,e266,fillR]
  ·simp [f237,f237b,lb,no,la,le,zk,zb,hk,e140,e3,e4,e65,e266,fillR]
  ·simp [f237,f237b,lb,no,la,le,zk,zb,hk,e140,e1,e4,e65,e266,fillR]
  ·simp [f237,f237b,lb,no,la,le,zk,zb,hk,e140,e1,e5,e65,e266,fillR]
  ·simp [f237,f237b,lb,no,la,le,zk,zb,hk,e140,e1,e4,e65,e65',e266,fillR]
  ·simp [f237,f237b,lb,no,la,le,zk,zb,hk,e140,e1,e4,e65,e266,fillR]
  ·simp [f237,f237b,lb,no,la,le,zk,zb,hk,e140,e1,e4,e65,e266,fillR]
  ·simp [f237,f237b,lb,no,la,le,zk,zb,hk,e140,e1,e4,e65,e266,fillR,b1,b2,b3,b4,b5,b6,b7]
end
structure Csm (c c':Cl):Prop where
 ak:c'.ak=c.ak
 key:c'.key=c.key
 body:c'.body=c.body
 wrap:c'.wrap=c.wrap
 seed:c'.seed=c.seed
 nonce:c'.nonce=c.nonce
 name:c'.name=c.name
 ticket:c'.ticket=c.ticket
 host:c'.host=c.host
 z1:c'.z1=c.z1
theorem Csm.refl {c:Cl}:Csm c c:=⟨rfl,rfl,rfl,rfl,rfl,rfl,rfl,rfl,rfl,rfl⟩
theorem ends_csm {c:Cl} {t e f:T}:Csm c (c.ends t e f).1:=by
 unfold Cl.ends Cl.endF Cl.endL
 repeat' split
 all_goals exact ⟨rfl,rfl,rfl,rfl,rfl,rfl,rfl,rfl,rfl,rfl⟩
theorem ends_base {c:Cl} {t e f:T}:(c.ends t e f).1.base=c.base:=by
 unfold Cl.ends Cl.endF Cl.endL
 repeat' split
 all_goals rfl
theorem take_csm {c:Cl} {t x:T} {now:Int}:Csm c (c.take t now x).1:=by
 unfold Cl.take
 cases c.on with
 |false=>exact .refl
 |true=>
  rw [if_pos rfl]
  split
  ·exact ⟨rfl,rfl,rfl,rfl,rfl,rfl,rfl,rfl,rfl,rfl⟩
  ·split
   ·exact ends_csm
   ·unfold Cl.takeM
    split
    ·rename_i o k _
     obtain ⟨n,hn⟩:=@does_same c o x now
     unfold Cl.takeD
     rw [hn]
     split<;>exact ⟨rfl,rfl,rfl,rfl,rfl,rfl,rfl,rfl,rfl,rfl⟩
    ·exact .refl
theorem Csm.says {c c':Cl} (h:Csm c c') {p k:T}:c'.says p k=c.says p k:=by unfold Cl.says;rw [h.body,h.wrap,h.ak]
theorem Csm.bs {c c':Cl} (h:Csm c c') (b:Bs c):Bs c':=⟨by rw [h.ak];exact b.a,by rw [h.key];exact b.k,by rw [h.body];exact b.b,by rw [h.seed];exact b.d,by rw [h.wrap];exact b.w,by rw [h.nonce];exact b.m⟩
structure Bt (c:Cl):Prop where
 t:c.ticket.bulk≤1000
 h:c.host.bulk≤1000
 n:c.name.size≤500
theorem Csm.bt {c c':Cl} (h:Csm c c') (b:Bt c):Bt c':=⟨by rw [h.ticket];exact b.t,by rw [h.host];exact b.h,by rw [h.name];exact b.n⟩
theorem start_bs {c:Cl} {nonce:ByteArray} {sub:T} (b:Bs c) (t:Bt c) (hn:nonce.size≤500) (hs:sub.bulk≤1000):Bs (c.start nonce sub):=by
 have h1:=t.t
 have h2:=t.h
 have h3:=t.n
 refine ⟨?_,b.k,?_,b.d,?_,by show nonce.size≤_;omega⟩
 ·show (tArm sub c.host).bulk≤_
  have h4:(tArm sub c.host).bulk≤_:=join_b (a:=sub) (b:=c.host) (f:=subkB) (g:=tickB) (by show 11≤90;omega) (by show 11≤90;omega)
  omega
 ·show (tBody c.name nonce).bulk≤_
  unfold tBody
  rw [pack_bulk,bulkL_cons,bulkL_cons,bulkL_nil,word_bulk,word_bulk]
  show 4+_+8≤_
  omega
 ·show (tWrap c.ticket c.host sub).bulk≤_
  unfold tWrap
  have h4:=seal_bulkT (k:=c.host) (t:=tPack authB [sub]) (n:=11) (by unfold inI;omega)
  rw [pack_bulk,bulkL_cons,bulkL_nil]at h4
  rw [pack_bulk,bulkL_cons,bulkL_cons,bulkL_nil]
  have z1:authB.size=4:=rfl
  have z2:armoB.size=5:=rfl
  omega
def Sd (c:Cl) (m:T):Prop:=m=tZ∨∃p k,m=c.says p k∧p.bulk≤5100000∧k.bulk≤2500000
theorem none_b:tNone.bulk≤100:=by unfold tNone;rw [pack_bulk,bulkL_nil];show 4+0+8≤_;omega
theorem Sd.b {c:Cl} {m:T} (h:Sd c m) (b:Bs c):m.bulk≤7700000:=by
 rcases h with rfl|⟨p,k,rfl,h1,h2⟩
 ·rw [tZ_b];omega
 ·have:=b.says (p:=p) (k:=k);omega
theorem Sd.rk {c:Cl} {m:T} (h:Sd c m) (b:Bs c):Rk m:=by
 refine ⟨Nat.le_trans (h.b b) (by omega),.inl ?_⟩
 rcases h with rfl|⟨p,k,rfl,_,_⟩
 ·show (0:Int)≠4;decide
 ·show (3:Int)≠4;decide
theorem does_base_b {c:Cl} {o x:T} {now:Int} (h:Bs c) (hx:x.bulk≤1004):(c.does o now x).2.2.1.bulk≤2 * o.bulk+60000:=by
 have ha:=h.a
 have hk:=h.k
 have hb:=h.b
 unfold Cl.does
 split
 ·show c.key.bulk≤_;omega
 ·split
  ·show (tUse c.ak 46).bulk≤_
   have:=use_bulk (k:=c.ak) (n:=46) i46
   omega
  ·split
   ·show (ansS c.key c.body o x).2.1.bulk≤_
    unfold ansS
    split
    ·rename_i l hu
     have hl:=T.bulk_kid ((unpT_len (n:=1) hu).2 l (by simp))
     unfold ansP
     split
     ·show (xKey x (expT c.key l).1 c.key l (tMsk x c.key) c.body 0).bulk≤_
      have h1:=xKey_b (x:=x) (y:=(expT c.key l).1) (u:=c.key) (o:=l) (a:=tMsk x c.key) (b:=c.body) i0'
      rw [msk_b]at h1
      have h2:=expT_b (N:=l.bulk) (T.bulk_four) (u:=c.key) (Nat.le_refl l.bulk)
      omega
     ·show tZ.bulk≤_;rw [tZ_b];omega
    ·show tZ.bulk≤_;rw [tZ_b];omega
   ·show tZ.bulk≤_;rw [tZ_b];omega
theorem isNone_tNone:isNoneT tNone=true:=isNone_none
theorem take_b {c:Cl} {t x:T} {now:Int} (b:Bs c) (ht:Rk t) (hx:x.bulk≤1004) (hn:inI now) (hc:inI c.counter):((c.take t now x).2.2=0→isNoneT (c.take t now x).2.1=false→Sd (c.take t now x).1 (c.take t now x).2.1)∧((c.take t now x).1.base=c.base∨(c.take t now x).1.base.bulk≤20000000)∧((c.take t now x).2.1=tNone∨Sd (c.take t now x).1 (c.take t now x).2.1):=by
 unfold Cl.take
 cases c.on with
 |false=>exact ⟨(fun h=>by cases h),.inl rfl,.inl rfl⟩
 |true=>
  rw [if_pos rfl]
  split
  ·exact ⟨(fun _ h=>by rw [isNone_tNone]at h;cases h),.inl rfl,.inl rfl⟩
  ·split
   ·exact ⟨(fun _ h=>by rw [isNone_tNone]at h;cases h),.inl ends_base,.inl rfl⟩
   ·unfold Cl.takeM
    split
    ·rename_i o k heq
     have hb:o.bulk≤2500000∧k.bulk≤2500000:=by
      have hs:t.bulk≤2500000:=by
       rcases ht.2 with h|h
       ·exfalso
        have:ansOf c.ak c.nonce t=(tZ,2):=by unfold ansOf sealD unsT;rw [if_neg h];rfl
        rw [this,opnL_ne (by show ¬(2:Int)=0;decide)]at heq
        cases heq
       ·exact h
      have hm:=opnL_b (tag:=moreB) (n:=2) (r:=ansOf c.ak c.nonce t) (ansOf_b (N:=2500000) (by omega) hs)
      rw [heq]at hm
      exact ⟨hm o (by simp),hm k (by simp)⟩
     have d1:=does_b (o:=o) (x:=x) (now:=now) b hx hn hc
     have d2:=does_base_b (o:=o) (x:=x) (now:=now) b hx
     obtain ⟨n,hn⟩:=@does_same c o x now
     unfold Cl.takeD
     split
     ·exact ⟨fun _ _=>.inr ⟨(c.does o now x).2.1,k,rfl,by omega,hb.2⟩,.inr (by show (c.does o now x).2.2.1.bulk≤_;omega),.inr (.inr ⟨(c.does o now x).2.1,k,rfl,by omega,hb.2⟩)⟩
     ·refine ⟨fun h=>?_,.inl (by show (c.does o now x).1.base=_;rw [hn]),.inl rfl⟩
      rename_i h0
      exact absurd h h0
    ·exact ⟨(fun _ h=>by rw [isNone_tNone]at h;cases h),.inl rfl,.inl rfl⟩
theorem ends_ss {c:Cl} {t e f:T} (h:c.ended=true→c.session.lo) (he:e.lo):(c.ends t e f).1.ended=true→(c.ends t e f).1.session.lo:=by
 have key:∀r:List T×Int,(∀u∈r.1,u.lo)→(c.endL t r).1.ended=true→(c.endL t r).1.session.lo:=by
  intro r hr
  unfold Cl.endL
  split
  ·split
   ·intro _;exact hr _ (by simp)
   ·exact h
  ·exact h
 unfold Cl.ends
 split
 ·unfold Cl.endF
  split
  ·split
   ·exact key _ (opnL_lo (unsT_lo he))
   ·exact h
  ·exact h
 ·exact h
theorem take_ss {c:Cl} {t x:T} {now:Int} (h:c.ended=true→c.session.lo) (ht:t.lo):(c.take t now x).1.ended=true→(c.take t now x).1.session.lo:=by
 unfold Cl.take
 cases c.on with
 |false=>exact h
 |true=>
  rw [if_pos rfl]
  split
  ·exact h
  ·split
   ·rename_i a b f hu
    exact ends_ss h (ht.kid ((unpT_len (n:=3) hu).2 b (by simp)))
   ·unfold Cl.takeM
    split
    ·rename_i o k _
     obtain ⟨n,hn⟩:=@does_same c o x now
     unfold Cl.takeD
     rw [hn]
     split<;>exact h
    ·exact h
theorem dj_l {S S':AS} {o o' q:Nat→Prop} (g:Chg S S' o o') (hq:∀x,q x→x < S.n) (d:∀x,o x→¬q x):∀x,o' x→¬q x:=fun x hx hq'=>by
 by_cases ho:o x
 ·exact d x ho hq'
 ·exact (g.2.2 x (hq x hq') ho).2 hx
theorem dj_r {S S':AS} {o o' q:Nat→Prop} (g:Chg S S' o o') (hq:∀x,q x→x < S.n) (d:∀x,q x→¬o x):∀x,q x→¬o' x:=fun x hx ho=>dj_l g hq (fun y hy hqy=>d y hqy hy) x ho hx
structure Wm (S:AS) (s a b k:Nat) (x:Sv) (c d:Cl) (mv:AV) (z:Dz) (L:Loc) (K:Kd) (R:List (List AV)):Prop where
 st:IsSt S s a b k x
 cl:IsCl S a c mv
 dl:IsDl S b d z
 kd:IsKd S k L K R
 sa:∀y,y=s→¬ownC a mv y
 sb:∀y,y=s→¬ownC b z.mv y
 sk:∀y,y=s→¬ownK k L y
 ab:∀y,ownC a mv y→¬ownC b z.mv y
 ak:∀y,ownC a mv y→¬ownK k L y
 bk:∀y,ownC b z.mv y→¬ownK k L y
section
variable {S:AS} {s a b k:Nat} {x:Sv} {c d:Cl} {mv:AV} {z:Dz} {L:Loc} {K:Kd} {R:List (List AV)}
theorem Wm.eq_lt (w:Wm S s a b k x c d mv z L K R):∀y,y=s→y < S.n:=fun y e=>by rw [e];exact w.st.lt
theorem Wm.cl_lt (w:Wm S s a b k x c d mv z L K R):∀y,ownC a mv y→y < S.n:=fun _ e=>w.cl.own_lt e
theorem Wm.dl_lt (w:Wm S s a b k x c d mv z L K R):∀y,ownC b z.mv y→y < S.n:=fun _ e=>w.dl.own_lt e
theorem Wm.kd_lt (w:Wm S s a b k x c d mv z L K R):∀y,ownK k L y→y < S.n:=fun _ e=>w.kd.own_lt e
theorem Wm.set (w:Wm S s a b k x c d mv z L K R) (x':Sv):Wm (S.set s (some (.rows 14 [x'.row a b k]))) s a b k x' c d mv z L K R:=
 ⟨w.st.set,w.cl.keep rfl (Nat.le_refl _) (fun y _ hy=>if_neg fun e=>w.sa y e hy),w.dl.keep rfl (Nat.le_refl _) (fun y _ hy=>if_neg fun e=>w.sb y e hy),w.kd.keep rfl (Nat.le_refl _) (fun y _ hy=>if_neg fun e=>w.sk y e hy),w.sa,w.sb,w.sk,w.ab,w.ak,w.bk⟩
theorem Wm.stepA (w:Wm S s a b k x c d mv z L K R) {S':AS} {c':Cl} {mv':AV} (h:IsCl S' a c' mv') (g:Chg S S' (ownC a mv) (ownC a mv')):Wm S' s a b k x c' d mv' z L K R:=
 ⟨w.st.keep g.1 g.2.1 (g.2.2 s w.st.lt (w.sa s rfl)).1,h,w.dl.keep g.1 g.2.1 (fun y hy ho=>(g.2.2 y hy fun e=>w.ab y e ho).1),w.kd.keep g.1 g.2.1 (fun y hy ho=>(g.2.2 y hy fun e=>w.ak y e ho).1),
  dj_r g w.eq_lt w.sa,w.sb,w.sk,dj_l g w.dl_lt w.ab,dj_l g w.kd_lt w.ak,w.bk⟩
theorem Wm.stepB (w:Wm S s a b k x c d mv z L K R) {S':AS} {d':Cl} {z':Dz} (h:IsDl S' b d' z') (g:Chg S S' (ownC b z.mv) (ownC b z'.mv)):Wm S' s a b k x c d' mv z' L K R:=
 ⟨w.st.keep g.1 g.2.1 (g.2.2 s w.st.lt (w.sb s rfl)).1,w.cl.keep g.1 g.2.1 (fun y hy ho=>(g.2.2 y hy (w.ab y ho)).1),h,w.kd.keep g.1 g.2.1 (fun y hy ho=>(g.2.2 y hy fun e=>w.bk y e ho).1),
  w.sa,dj_r g w.eq_lt w.sb,w.sk,dj_r g w.cl_lt w.ab,w.ak,dj_l g w.kd_lt w.bk⟩
theorem Wm.stepK (w:Wm S s a b k x c d mv z L K R) {S':AS} {K':Kd} {L':Loc} {R':List (List AV)} (h:IsKd S' k L' K' R') (g:Chg S S' (ownK k L) (ownK k L')):Wm S' s a b k x c d mv z L' K' R':=
 ⟨w.st.keep g.1 g.2.1 (g.2.2 s w.st.lt (w.sk s rfl)).1,w.cl.keep g.1 g.2.1 (fun y hy ho=>(g.2.2 y hy (w.ak y ho)).1),w.dl.keep g.1 g.2.1 (fun y hy ho=>(g.2.2 y hy (w.bk y ho)).1),h,
  w.sa,w.sb,dj_r g w.eq_lt w.sk,w.ab,dj_r g w.cl_lt w.ak,dj_r g w.dl_lt w.bk⟩
end
structure Wp (x:Sv) (c:Cl) (z:Dz) (K:Kd) (R:List (List AV)) (n:Nat):Prop where
 cs:c.sz n
 ks:K.sz n
 r:R.length≤n
 pb:Bs c
 pt:Bt c
 pk:Bk K
 pz:c.z1=true→c.ak=tZ
 bt:z.bt.bulk≤20000000
 bc:c.base.bulk≤20000000
 ss:c.ended=true→c.session.lo
 sd:Sd c x.m
 rr:Rk x.r
 ro:Rk x.o
 zm:x.zm=true→x.m=tZ
 zr:x.zr=true→x.r=tZ
 zo:x.zo=true→x.o=tZ
 now:0≤x.now∧x.now≤(n:Int)
 n:0≤x.n∧x.n≤(n:Int)
structure Wd (S:AS) (s a b k:Nat) (x:Sv) (c:Cl) (mv:AV) (z:Dz) (L:Loc) (K:Kd) (R:List (List AV)) (n:Nat):Prop where
 m:Wm S s a b k x c c mv z L K R
 p:Wp x c z K R n
def Kq (K K':Kd):Prop:=K'.key=K.key∧K'.cookies=K.cookies∧K'.u.key=K.u.key∧K'.u.set=K.u.set
theorem Kq.reqD {K0 K:Kd} (h:Kq K0 K) {x:Tlk} {base:T}:Kq K0 (K.reqD x base).2.1:=by
 unfold Kd.reqD
 split
 ·exact h
 ·split
  ·unfold Kd.offK
   split
   ·exact h
   ·exact h
  ·exact h
theorem Kq.reqO {K0 K:Kd} (h:Kq K0 K) {x:Tlk} {base:T} {a:Tk×Int×Int}:Kq K0 (K.reqO x base a).2.1:=by
 unfold Kd.reqO
 split
 ·exact h
 ·split
  ·exact Kq.reqD (K:={K with u:={K.u with tok:=a.1}}) h
  ·exact h
theorem Bk.req {K:Kd} (h:Bk K) {m:T} {now:Int}:Bk (K.req m now).2.1:=by
 have key:∀K':Kd,Kq K K'→Bk K':=fun K' ⟨h1,h2,h3,h4⟩=>⟨by rw [h1];exact h.kb,by rw [h2];exact h.ck,by rw [h3];exact h.u,by rw [h4];exact h.set,by rw [h4];exact h.len⟩
 apply key
 have h0:Kq K K:=⟨rfl,rfl,rfl,rfl⟩
 unfold Kd.req Kd.reqX
 split
 ·split
  ·unfold Kd.reqN
   split
   ·show Kq K (K.offK _)
    unfold Kd.offK
    split<;>exact h0
   ·split
    ·unfold Kd.reqC
     split
     ·unfold Kd.reqS
      generalize Rf.seenR K.room K.cache (K.opens m now).2.1.txt (now+100+1) now=q
      split
      ·split
       ·exact Kq.reqO (K:={K with cache:=q.2}) h0
       ·exact Kq.reqD (K:={K with cache:=q.2}) h0
      ·exact h0
     ·show Kq K (if _ then _ else _)
      split<;>exact h0
    ·exact h0
  ·exact h0
 ·exact h0
section
variable {S:AS} {s a b k n:Nat} {x:Sv} {c:Cl} {mv:AV} {z:Dz} {L:Loc} {K:Kd} {R:List (List AV)}
theorem Wd.takes (w:Wd S s a b k x c mv z L K R n) (hn:n≤860) {t y:T} {v:List AV} (hv:TV t v) (ht:Rk t) (hy:y.bulk≤1004):
 ∃Sa Sb P e mv' z' c',call 141 [.ptr a 0 0,.agg v,.sc (.int .i64 x.now),.agg y.cells] S=some (.tup [.agg (T.cells P),.sc (.int .i64 e)],Sa)∧IsSt Sa s a b k x∧
  call 238 [.ptr b 0 0,.agg v,.sc (.int .i64 x.now),.agg y.cells] Sa=some (.tup [.agg (T.cells P),.sc (.int .i64 e)],Sb)∧
  Wd Sb s a b k x c' mv' z' L K R (n+1)∧P.lo∧(e=0→isNoneT P=false→Wd (Sb.set s (some (.rows 14 [({x with m:=P,zm:=false}:Sv).row a b k]))) s a b k {x with m:=P,zm:=false} c' mv' z' L K R (n+1)):=by
 have p:=w.p
 have ylo:y.lo:=by unfold T.lo;omega
 have hnow:=p.now
 have ii:inI x.now:=by unfold inI;omega
 have ok:=p.cs.ok (by omega)
 obtain ⟨Sa,mv',d1,h1,g1⟩:=c141' (now:=x.now) w.m.cl ok hv ht.lo ylo ii
 have w1:=w.m.stepA h1 g1
 obtain ⟨Sb,z',d2,h2,g2,hb⟩:=c238' (now:=x.now) w1.dl ok hv ht.lo ylo ii (by omega)
 have w2:=w1.stepB h2 g2
 have hs:=take_csm (c:=c) (t:=t) (x:=y) (now:=x.now)
 obtain ⟨tb1,tb2,tb3⟩:=take_b (t:=t) (x:=y) (now:=x.now) p.pb ht hy ii (by have:=p.cs.counter;unfold inI;omega)
 have bc:(c.take t x.now y).1.base.bulk≤20000000:=by
  rcases tb2 with e|e
  ·rw [e];exact p.bc
  ·exact e
 have bt:z'.bt.bulk≤20000000:=by
  rcases hb with e|e
  ·rw [e];exact p.bt
  ·rw [e];exact bc
 have sd':Sd (c.take t x.now y).1 x.m:=by
  rcases p.sd with e|⟨q,r,e,e1,e2⟩
  ·exact .inl e
  ·exact .inr ⟨q,r,by rw [hs.says];exact e,e1,e2⟩
 have pz:(c.take t x.now y).1.z1=true→(c.take t x.now y).1.ak=tZ:=by rw [hs.z1,hs.ak];exact p.pz
 have hp:∀x':Sv,Sd (c.take t x.now y).1 x'.m→x'.r=x.r→x'.zr=x.zr→x'.o=x.o→x'.zo=x.zo→x'.now=x.now→x'.n=x.n→(x'.zm=true→x'.m=tZ)→Wp x' (c.take t x.now y).1 z' K R (n+1):=by
  intro x' q1 q2 q3 q4 q5 q6 q7 q8
  have hnn:=p.n
  exact ⟨p.cs.take,p.ks.mono (by omega),by have:=p.r;omega,hs.bs p.pb,hs.bt p.pt,p.pk,pz,bt,bc,take_ss p.ss ht.lo,q1,by rw [q2];exact p.rr,by rw [q4];exact p.ro,q8,by rw [q3,q2];exact p.zr,by rw [q5,q4];exact p.zo,by rw [q6];omega,by rw [q7];omega⟩
 refine ⟨Sa,Sb,(c.take t x.now y).2.1,(c.take t x.now y).2.2,mv',z',(c.take t x.now y).1,d1,w1.st,d2,⟨w2,hp x sd' rfl rfl rfl rfl rfl rfl p.zm⟩,?_,fun h0 h1=>⟨w2.set _,hp _ (tb1 h0 h1) rfl rfl rfl rfl rfl rfl (fun e=>by cases e)⟩⟩
 rcases tb3 with e|e
 ·rw [e];exact tNone_lo
 ·exact (e.rk (hs.bs p.pb)).lo
theorem Wd.asks (w:Wd S s a b k x c mv z L K R n) (hn:n≤860):
 ∃S' r L' K' R',call 137 [.ptr k 0 0,.agg (rz x.zm x.m),.sc (.int .i64 x.now)] S=some (.agg (T.cells r),S')∧Rk r∧(∀v,(v={x with r:=r,zr:=false})→Wd (S'.set s (some (.rows 14 [v.row a b k]))) s a b k v c mv z L' K' R' (n+4))∧IsSt S' s a b k x:=by
 have p:=w.p
 have hnow:=p.now
 have hlo:x.m.lo:=(p.sd.rk p.pb).lo
 obtain ⟨S',L',R',d,h,g,i⟩:=c137' w.m.kd (p.ks.okk (by omega)) (by have:=p.r;omega) (rz_tv p.zm) (now:=x.now) hlo (by omega)
 have w1:=w.m.stepK h g
 have hrl:=i.len
 have hr:Rk (K.req x.m x.now).1:=by
  rcases p.sd with e|⟨q,r,e,e1,e2⟩
  ·rw [e]
   have ho:K.opens tZ x.now=(zTlk,tZ,2):=by unfold Kd.opens;rw [tZ_ask]
   have hr:K.req tZ x.now=(tRefuse 2,K,none):=by unfold Kd.req;rw [ho];unfold Kd.reqX;rw [if_neg (by show ¬(2:Int)=0;decide)]
   rw [hr]
   exact .small (Nat.le_trans (refuse_b (by unfold inI;omega)) (by omega))
  ·rw [e]
   have hN:=p.pb.says (p:=q) (k:=r)
   have hk:=p.ks.n
   obtain ⟨b1,b2⟩:=req_b (N:=8000000) (M:=60000000) (p:=q) (k:=r) (now:=x.now) p.pb p.pk (by omega) (by omega) (by omega) (by omega) (by omega) (by rw [←e];exact hlo)
   refine ⟨b1,?_⟩
   rcases b2 with e|e
   ·cases hu:unpT repB 3 (K.req (c.says q r) x.now).1 with
    |none=>rw [hu]at e;cases e
    |some l=>exact .inl (unpT_kind hu)
   ·exact .inr (by omega)
 refine ⟨S',_,L',_,R',d,hr,fun v hv=>⟨w1.set v,?_⟩,w1.st⟩
 subst hv
 have hnn:=p.n
 exact ⟨p.cs.mono (by omega),p.ks.req,by have:=p.r;omega,p.pb,p.pt,p.pk.req,p.pz,p.bt,p.bc,p.ss,p.sd,hr,p.ro,p.zm,(fun e=>by cases e),p.zo,by show 0≤x.now∧x.now≤_;omega,by show 0≤x.n∧x.n≤_;omega⟩
theorem Wd.starts (w:Wd S s a b k x c mv z L K R n) {nonce:ByteArray} {sub:T} (h1:nonce.size≤500) (h2:sub.bulk≤1000):
 ∃Sa Sb P c' z',call 138 [.ptr a 0 0,.sc (.string nonce),.agg sub.cells] S=some (.agg (T.cells P),Sa)∧IsSt Sa s a b k x∧call 236 [.ptr b 0 0,.sc (.string nonce),.agg sub.cells] Sa=some (.agg (T.cells P),Sb)∧P.lo∧IsSt Sb s a b k x∧
  Wd (Sb.set s (some (.rows 14 [({x with m:=P,zm:=false}:Sv).row a b k]))) s a b k {x with m:=P,zm:=false} c' mv z' L K R n:=by
 have p:=w.p
 have hnm:=p.cs.name
 obtain ⟨Sa,d1,i1,g1⟩:=c138 (nonce:=nonce) (sub:=sub) w.m.cl (by omega) (by omega)
 have w1:=w.m.stepA i1 g1
 obtain ⟨Sb,d2,i2,g2⟩:=c236 (nonce:=nonce) (sub:=sub) w1.dl (by omega) (by omega)
 have w2:=w1.stepB i2 g2
 have bs:=start_bs (nonce:=nonce) (sub:=sub) p.pb p.pt h1 h2
 have sd:Sd (c.start nonce sub) ((c.start nonce sub).says tNone tNone):=.inr ⟨_,_,rfl,Nat.le_trans none_b (by omega),Nat.le_trans none_b (by omega)⟩
 refine ⟨Sa,Sb,_,_,z,d1,w1.st,d2,(sd.rk bs).lo,w2.st,w2.set _,?_⟩
 exact ⟨p.cs.start (by omega),p.ks,p.r,bs,⟨p.pt.t,p.pt.h,p.pt.n⟩,p.pk,(fun e=>by cases e),p.bt,by show tZ.bulk≤_;rw [tZ_b];omega,(fun e=>by cases e),sd,p.rr,p.ro,(fun e=>by cases e),p.zr,p.zo,p.now,p.n⟩
end
theorem Wp.mono {x:Sv} {c:Cl} {z:Dz} {K:Kd} {R:List (List AV)} {n n':Nat} (p:Wp x c z K R n) (h:n≤n'):Wp x c z K R n':=
 ⟨p.cs.mono h,p.ks.mono h,Nat.le_trans p.r h,p.pb,p.pt,p.pk,p.pz,p.bt,p.bc,p.ss,p.sd,p.rr,p.ro,p.zm,p.zr,p.zo,by have:=p.now;omega,by have:=p.n;omega⟩
section
variable {S:AS} {s a b k n:Nat} {x:Sv} {c:Cl} {mv:AV} {z:Dz} {L:Loc} {K:Kd} {R:List (List AV)}
theorem Wd.mono (w:Wd S s a b k x c mv z L K R n) {n':Nat} (h:n≤n'):Wd S s a b k x c mv z L K R n':=⟨w.m,w.p.mono h⟩
def Okd (s a b k n:Nat) (o:Option (AV×AS)):Prop:=∃S' x c mv z L K R,o=some (.sc (.bool true),S')∧Wd S' s a b k x c mv z L K R n
theorem Wd.okd (w:Wd S s a b k x c mv z L K R n) {n':Nat} (h:n≤n'):Okd s a b k n' (some (.sc (.bool true),S)):=⟨S,x,c,mv,z,L,K,R,rfl,w.mono h⟩
theorem num_sz {i:Int} (h:0≤i∧i≤100000):(itoaB i).size≤20:=itoa_sz (by unfold inI;omega)
theorem sub_b {p:ByteArray} {i:Int} (hp:p.size≤10) (h:0≤i∧i≤100000):(tAtom (p++itoaB i)).bulk≤1000:=by
 have:=num_sz h
 rw [atom_bulk,ByteArray.size_append];omega
structure Tf (S:AS) (s a b k n:Nat) (x:Sv) (t:T) (v:List AV) (Sa Sb:AS) (P:T) (e:Int):Prop where
 cnt:∀S,call 142 [.agg v] S=some (.sc (.int .i64 t.cnt),S)
 num:∀S,call 139 [.sc (.int .i64 x.n)] S=some (.sc (.string (itoaB x.n)),S)
 add:pev (.bin .add) [.sc (.string ⟨#[120,32]⟩),.sc (.string (itoaB x.n))]=some (.sc (.string ((⟨#[120,32]⟩:ByteArray)++itoaB x.n)))
 ln:∀d rg,opev (.ld none 1 false) d rg S [.ptr s 0 13]=some (.sc (.int .i64 x.n),none,S)
 la:∀d rg,opev (.ld none 1 false) d rg S [.ptr s 0 0]=some (.ptr a 0 0,none,S)
 lw:∀d rg,opev (.ld none 1 false) d rg S [.ptr s 0 12]=some (.sc (.int .i64 x.now),none,S)
 da:call 141 [.ptr a 0 0,.agg v,.sc (.int .i64 x.now),.agg (tAtom ((⟨#[120,32]⟩:ByteArray)++itoaB x.n)).cells] S=some (.tup [.agg (T.cells P),.sc (.int .i64 e)],Sa)
 lb:∀d rg,opev (.ld none 1 false) d rg Sa [.ptr s 0 1]=some (.ptr b 0 0,none,Sa)
 lw2:∀d rg,opev (.ld none 1 false) d rg Sa [.ptr s 0 12]=some (.sc (.int .i64 x.now),none,Sa)
 db:call 238 [.ptr b 0 0,.agg v,.sc (.int .i64 x.now),.agg (tAtom ((⟨#[120,32]⟩:ByteArray)++itoaB x.n)).cells] Sa=some (.tup [.agg (T.cells P),.sc (.int .i64 e)],Sb)
 same:∀S,call 61 [.agg P.cells,.agg P.cells] S=some (.sc (.bool true),S)
 isn:∀S,call 84 [.agg P.cells] S=some (.sc (.bool (isNoneT P)),S)
 st:∀d rg,opev (.st none 3) d rg Sb [.ptr s 0 3,.agg P.cells]=some (.junk,none,Sb.set s (some (.rows 14 [({x with m:=P,zm:=false}:Sv).row a b k])))
 ok:Okd s a b k (n+1) (some (.sc (.bool true),Sb))
 ok2:e=0→isNoneT P=false→Okd s a b k (n+1) (some (.sc (.bool true),Sb.set s (some (.rows 14 [({x with m:=P,zm:=false}:Sv).row a b k]))))
theorem Wd.tf (w:Wd S s a b k x c mv z L K R n) (hn:n≤860) {t:T} {v:List AV} (hv:TV t v) (ht:Rk t):∃Sa Sb P e,Tf S s a b k n x t v Sa Sb P e:=by
 have hx:=w.p.n
 have hsz:=num_sz (i:=x.n) (by omega)
 obtain ⟨Sa,Sb,P,e,mv',z',c',d1,i1,d2,w2,hl,w3⟩:=w.takes hn hv ht (y:=tAtom ((⟨#[120,32]⟩:ByteArray)++itoaB x.n)) (Nat.le_trans (sub_b (by show 2≤10;omega) (by omega)) (by omega))
 refine ⟨Sa,Sb,P,e,?_,?_,?_,w.m.st.ln,w.m.st.la,w.m.st.lw,d1,i1.lb,i1.lw,d2,?_,fun S=>s84,?_,w2.okd (Nat.le_refl _),fun h0 h1=>(w3 h0 h1).okd (Nat.le_refl _)⟩
 ·intro S
  exact (call_TV a142 hv rfl).trans (s142 (T.fits_bulk ht.lo))
 ·intro S;exact s139 (by omega) (by omega)
 ·exact pev_sadd (by show 2+_≤_;omega)
 ·intro S
  have:=s61 (b:=P) (S:=S) (T.fits_bulk hl)
  rw [T.same_self]at this;exact this
 ·intro d rg
  exact w2.m.st.st d rg (x':={x with m:=P,zm:=false}) len_T cell_T (by show setCells _ _ P.cells=_;rw [cells_T];rfl) (by omega)
end
section
variable {S:AS} {s a b k n:Nat} {x:Sv} {c:Cl} {mv:AV} {z:Dz} {L:Loc} {K:Kd} {R:List (List AV)}
abbrev stepV (kind nn bad tick:Int) (t:T):List AV:=[.sc (.int .i64 kind),.sc (.int .i64 nn),.sc (.int .i64 bad),.sc (.int .i64 tick),.sc (.int .i64 t.kind),.sc (.string t.name),lstT t.kids]
theorem Wd.tick (w:Wd S s a b k x c mv z L K R n) (hn:n≤860) (tick:Int):∃S1 S2,(∀d rg,opev (.ld none 1 false) d rg S [.ptr s 0 12]=some (.sc (.int .i64 x.now),none,S))∧pev (.bin .add) [.sc (.int .i64 x.now),.sc (.int .i64 (tick % 16))]=some (.sc (.int .i64 (x.now+tick % 16)))∧
 (∀d rg,opev (.st none 1) d rg S [.ptr s 0 12,.sc (.int .i64 (x.now+tick % 16))]=some (.junk,none,S1))∧(∀d rg,opev (.ld none 1 false) d rg S1 [.ptr s 0 13]=some (.sc (.int .i64 x.n),none,S1))∧pev (.bin .add) [.sc (.int .i64 x.n),.i 1]=some (.sc (.int .i64 (x.n+1)))∧
 (∀d rg,opev (.st none 1) d rg S1 [.ptr s 0 13,.sc (.int .i64 (x.n+1))]=some (.junk,none,S2))∧Wd S2 s a b k {x with now:=x.now+tick % 16,n:=x.n+1} c mv z L K R (n+15):=by
 have h0:0≤tick % 16∧tick % 16 < 16:=⟨Int.emod_nonneg _ (by omega),Int.emod_lt_of_pos _ (by omega)⟩
 have p:=w.p
 have h1:=p.now
 have h2:=p.n
 have w1:IntKind.i64.wrap (x.now+tick % 16)=x.now+tick % 16:=w64 (by omega)
 have w2:IntKind.i64.wrap (x.n+1)=x.n+1:=w64 (by omega)
 have m1:=w.m.set {x with now:=x.now+tick % 16}
 have s1:=fun d rg=>w.m.st.st (col:=12) (sz:=1) (v:=.sc (.int .i64 (x.now+tick % 16))) (x':={x with now:=x.now+tick % 16}) d rg rfl rfl rfl (by omega)
 generalize S.set s _=S1 at m1 s1
 have m2:=m1.set {x with now:=x.now+tick % 16,n:=x.n+1}
 have s2:=fun d rg=>m1.st.st (col:=13) (sz:=1) (v:=.sc (.int .i64 (x.n+1))) (x':={x with now:=x.now+tick % 16,n:=x.n+1}) d rg rfl rfl rfl (by omega)
 generalize S1.set s _=S2 at m2 s2
 refine ⟨S1,S2,w.m.st.lw,by simp [w1],s1,m1.st.ln,by simp [w2],s2,m2,?_⟩
 exact ⟨p.cs.mono (by omega),p.ks.mono (by omega),by have:=p.r;omega,p.pb,p.pt,p.pk,p.pz,p.bt,p.bc,p.ss,p.sd,p.rr,p.ro,p.zm,p.zr,p.zo,by show 0≤x.now+tick % 16∧x.now+tick % 16≤_;omega,by show 0≤x.n+1∧x.n+1≤_;omega⟩
set_option maxHeartbeats 8000000 in
set_option maxRecDepth 100000 in
theorem c135 (w:Wd S s a b k x c mv z L K R n) (hn:n≤800) {kind nn bad tick:Int} {t:T} (ht:t.bulk≤2500000):
 Okd s a b k (n+20) (call 135 [.ptr s 0 0,.agg (stepV kind nn bad tick t)] S):=by
 rw [call_keep a135 (by simp) rfl]
 obtain ⟨S1,S2,q1,q2,q3,q4,q5,q6,w2⟩:=w.tick (by omega) tick
 obtain ⟨x2,hx2⟩:∃x2:Sv,x2={x with now:=x.now+tick % 16,n:=x.n+1}:=⟨_,rfl⟩
 rw [←hx2]at w2
 have hxn:x2.n=x.n+1:=by rw [hx2]
 have hn2:=w2.p.n
 clear w
 simp only [stepV]
 by_cases k1:kind=1
 ·have h0:0≤nn % 8∧nn % 8 < 8:=⟨Int.emod_nonneg _ (by omega),Int.emod_lt_of_pos _ (by omega)⟩
  have z1:=num_sz (i:=nn % 8) (by omega)
  have z2:=num_sz (i:=x2.n) (by omega)
  have e1:∀S,call 139 [.sc (.int .i64 (nn % 8))] S=some (.sc (.string (itoaB (nn % 8))),S):=fun S=>s139 (by omega) (by omega)
  have e2:∀S,call 139 [.sc (.int .i64 x2.n)] S=some (.sc (.string (itoaB x2.n)),S):=fun S=>s139 (by omega) (by omega)
  have a1:=pev_sadd (x:=⟨#[110]⟩) (y:=itoaB (nn % 8)) (by show 1+_≤_;omega)
  have a2:=pev_sadd (x:=⟨#[115,117,98,32]⟩) (y:=itoaB x2.n) (by show 4+_≤_;omega)
  have e140:=fun S q=>@s140 S q
  obtain ⟨Sa,Sb,P,c',z',d1,i1,d2,hl,i2,w3⟩:=w2.starts (nonce:=(⟨#[110]⟩:ByteArray)++itoaB (nn % 8)) (sub:=tAtom ((⟨#[115,117,98,32]⟩:ByteArray)++itoaB x2.n)) (by rw [ByteArray.size_append];show 1+_≤_;omega) (sub_b (by show 4≤10;omega) (by omega))
  have la:=w2.m.st.la
  have ln:=w2.m.st.ln
  have lb:=i1.lb
  have st:=fun d rg=>i2.st (v:=.agg P.cells) (col:=3) (sz:=3) (x':={x2 with m:=P,zm:=false}) d rg len_T cell_T (by show setCells _ _ P.cells=_;rw [cells_T];rfl) (by omega)
  have e61:∀S,call 61 [.agg P.cells,.agg P.cells] S=some (.sc (.bool true),S):=by
   intro S
   have:=s61 (b:=P) (S:=S) (T.fits_bulk hl)
   rw [T.same_self]at this;exact this
  have ok:=w3.okd (n':=n+20) (by omega)
  generalize Sb.set s _=S3 at st ok
  subst k1
  simp [f135,f135b,q1,q2,q3,q4,q5,q6,ln,e1,e2,a1,a2,e140,la,d1,lb,d2,st,e61,fillR]
  exact ok
 ·have e140:=fun S q=>@s140 S q
  have zk:∀b t,(zc b t).isCell=true:=by intro b t;cases b<;>rfl
  have up:∀{o},Okd s a b k (n+16) o→Okd s a b k (n+20) o:=fun {o} ⟨S',x,c,mv,z,L,K,R,h,w⟩=>⟨S',x,c,mv,z,L,K,R,h,w.mono (by omega)⟩
  by_cases k2:kind=2
  ·subst k2
   have lr:=w2.m.st.lr
   have s3:=fun d rg=>w2.m.st.st (v:=.agg (rz x2.zr x2.r)) (col:=9) (sz:=3) (x':={x2 with o:=x2.r,zo:=x2.zr}) d rg rfl (by unfold rz;simp [AV.cells,zk]) rfl (by omega)
   have m3:=w2.m.set {x2 with o:=x2.r,zo:=x2.zr}
   have w3:Wd (S2.set s (some (.rows 14 [({x2 with o:=x2.r,zo:=x2.zr}:Sv).row a b k]))) s a b k {x2 with o:=x2.r,zo:=x2.zr} c mv z L K R (n+15):=
    ⟨m3,by have p:=w2.p;exact ⟨p.cs,p.ks,p.r,p.pb,p.pt,p.pk,p.pz,p.bt,p.bc,p.ss,p.sd,p.rr,p.rr,p.zm,p.zr,p.zr,p.now,p.n⟩⟩
   generalize S2.set s _=S3 at s3 m3 w3
   have lk:=m3.st.lk
   have lm:=m3.st.lm
   have lw:=m3.st.lw
   obtain ⟨S4,r,L',K',R',d137,hr,hw,i4⟩:=w3.asks (by omega)
   have s5:=fun d rg=>i4.st (v:=.agg r.cells) (col:=6) (sz:=3) (x':={x2 with o:=x2.r,zo:=x2.zr,r:=r,zr:=false}) d rg len_T cell_T (by show setCells _ _ r.cells=_;rw [cells_T];rfl) (by omega)
   have w5:=hw _ rfl
   generalize S4.set s _=S5 at s5 w5
   have lr5:=w5.m.st.lr
   rw [show rz false r=r.cells from tri r]at lr5
   have ok0:=w5.okd (n':=n+20) (by omega)
   obtain ⟨Sa,Sb,P,e,f⟩:=w5.tf (by omega) .of hr
   have up:∀{o},Okd s a b k (n+15+4+1) o→Okd s a b k (n+20) o:=fun h=>h
   clear w5 hw w3 m3 w2
   try simp only [rz]at *
   by_cases hc:1000 < r.cnt
   ·simp [f135,f135b,q1,q2,q3,q4,q5,q6,k1,zk,lr,s3,lk,lm,lw,d137,s5,lr5,f.cnt,hc,fillR]
    exact ok0
   ·have f1:=f.cnt
    have f2:=f.num
    have f3:=f.add
    have f4:=f.ln
    have f5:=f.la
    have f6:=f.lw
    have f7:=f.da
    have f8:=f.lb
    have f9:=f.lw2
    have f10:=f.db
    have f11:=f.same
    have f12:=f.isn
    have f13:=f.st
    have g1:=f.ok
    have g2:=f.ok2
    generalize Sb.set s _=Sc at f13 g2
    by_cases he:e=0
    ·cases hi:isNoneT P with
     |true=>
      rw [hi]at f12
      simp [f135,f135b,q1,q2,q3,q4,q5,q6,k1,zk,lr,s3,lk,lm,lw,d137,s5,lr5,f1,hc,e140,f2,f3,f4,f5,f6,f7,f8,f9,f10,f11,f12,he,fillR]
      exact g1
     |false=>
      rw [hi]at f12
      have g3:=g2 he hi
      simp [f135,f135b,q1,q2,q3,q4,q5,q6,k1,zk,lr,s3,lk,lm,lw,d137,s5,lr5,f1,hc,e140,f2,f3,f4,f5,f6,f7,f8,f9,f10,f11,f12,f13,he,fillR]
      exact g3
    ·simp [f135,f135b,q1,q2,q3,q4,q5,q6,k1,zk,lr,s3,lk,lm,lw,d137,s5,lr5,f1,hc,e140,f2,f3,f4,f5,f6,f7,f8,f9,f10,f11,f12,he,fillR]
     exact g1
  by_cases k3:kind=3
  ·subst k3
   have lv:=w2.m.st.lo
   have ok0:=w2.okd (n':=n+20) (by omega)
   obtain ⟨Sa,Sb,P,e,f⟩:=w2.tf (by omega) (rz_tv w2.p.zo) w2.p.ro
   clear w2
   try simp only [rz]at *
   by_cases hc:1000 < x2.o.cnt
   ·simp [f135,f135b,q1,q2,q3,q4,q5,q6,k1,zk,lv,f.cnt,hc,fillR]
    exact ok0
   ·have f1:=f.cnt
    have f2:=f.num
    have f3:=f.add
    have f4:=f.ln
    have f5:=f.la
    have f6:=f.lw
    have f7:=f.da
    have f8:=f.lb
    have f9:=f.lw2
    have f10:=f.db
    have f11:=f.same
    have f12:=f.isn
    have f13:=f.st
    have g1:=f.ok
    have g2:=f.ok2
    generalize Sb.set s _=Sc at f13 g2
    by_cases he:e=0
    ·cases hi:isNoneT P with
     |true=>
      rw [hi]at f12
      simp [f135,f135b,q1,q2,q3,q4,q5,q6,k1,zk,lv,f1,hc,e140,f2,f3,f4,f5,f6,f7,f8,f9,f10,f11,f12,he,fillR]
      exact up g1
     |false=>
      rw [hi]at f12
      have g3:=g2 he hi
      simp [f135,f135b,q1,q2,q3,q4,q5,q6,k1,zk,lv,f1,hc,e140,f2,f3,f4,f5,f6,f7,f8,f9,f10,f11,f12,f13,he,fillR]
      exact up g3
    ·simp [f135,f135b,q1,q2,q3,q4,q5,q6,k1,zk,lv,f1,hc,e140,f2,f3,f4,f5,f6,f7,f8,f9,f10,f11,f12,he,fillR]
     exact up g1
  by_cases k4:kind=4
  ·subst k4
   obtain ⟨F,eF,hF⟩:=c237 (kind:=4) (n:=nn) (bad:=bad) (tick:=tick) (t:=t) w2.m.st w2.m.dl w2.p.pz w2.p.pb.a w2.p.pb.m w2.p.bt
   have ok0:=w2.okd (n':=n+20) (by omega)
   obtain ⟨Sa,Sb,P,e,f⟩:=w2.tf (by omega) .of hF
   clear w2
   try simp only [rz]at *
   by_cases hc:1000 < F.cnt
   ·simp [f135,f135b,q1,q2,q3,q4,q5,q6,k1,eF,f.cnt,hc,fillR]
    exact ok0
   ·have f1:=f.cnt
    have f2:=f.num
    have f3:=f.add
    have f4:=f.ln
    have f5:=f.la
    have f6:=f.lw
    have f7:=f.da
    have f8:=f.lb
    have f9:=f.lw2
    have f10:=f.db
    have f11:=f.same
    have f12:=f.isn
    have f13:=f.st
    have g1:=f.ok
    have g2:=f.ok2
    generalize Sb.set s _=Sc at f13 g2
    by_cases he:e=0
    ·cases hi:isNoneT P with
     |true=>
      rw [hi]at f12
      simp [f135,f135b,q1,q2,q3,q4,q5,q6,k1,eF,f1,hc,e140,f2,f3,f4,f5,f6,f7,f8,f9,f10,f11,f12,he,fillR]
      exact up g1
     |false=>
      rw [hi]at f12
      have g3:=g2 he hi
      simp [f135,f135b,q1,q2,q3,q4,q5,q6,k1,eF,f1,hc,e140,f2,f3,f4,f5,f6,f7,f8,f9,f10,f11,f12,f13,he,fillR]
      exact up g3
    ·simp [f135,f135b,q1,q2,q3,q4,q5,q6,k1,eF,f1,hc,e140,f2,f3,f4,f5,f6,f7,f8,f9,f10,f11,f12,he,fillR]
     exact up g1
  by_cases k5:kind=5
  ·subst k5
   obtain ⟨F,eF,hF⟩:=c237 (kind:=5) (n:=nn) (bad:=bad) (tick:=tick) (t:=t) w2.m.st w2.m.dl w2.p.pz w2.p.pb.a w2.p.pb.m w2.p.bt
   have ok0:=w2.okd (n':=n+20) (by omega)
   obtain ⟨Sa,Sb,P,e,f⟩:=w2.tf (by omega) .of hF
   clear w2
   try simp only [rz]at *
   by_cases hc:1000 < F.cnt
   ·simp [f135,f135b,q1,q2,q3,q4,q5,q6,k1,eF,f.cnt,hc,fillR]
    exact ok0
   ·have f1:=f.cnt
    have f2:=f.num
    have f3:=f.add
    have f4:=f.ln
    have f5:=f.la
    have f6:=f.lw
    have f7:=f.da
    have f8:=f.lb
    have f9:=f.lw2
    have f10:=f.db
    have f11:=f.same
    have f12:=f.isn
    have f13:=f.st
    have g1:=f.ok
    have g2:=f.ok2
    generalize Sb.set s _=Sc at f13 g2
    by_cases he:e=0
    ·cases hi:isNoneT P with
     |true=>
      rw [hi]at f12
      simp [f135,f135b,q1,q2,q3,q4,q5,q6,k1,eF,f1,hc,e140,f2,f3,f4,f5,f6,f7,f8,f9,f10,f11,f12,he,fillR]
      exact up g1
     |false=>
      rw [hi]at f12
      have g3:=g2 he hi
      simp [f135,f135b,q1,q2,q3,q4,q5,q6,k1,eF,f1,hc,e140,f2,f3,f4,f5,f6,f7,f8,f9,f10,f11,f12,f13,he,fillR]
      exact up g3
    ·simp [f135,f135b,q1,q2,q3,q4,q5,q6,k1,eF,f1,hc,e140,f2,f3,f4,f5,f6,f7,f8,f9,f10,f11,f12,he,fillR]
     exact up g1
  by_cases k7:kind=7
  ·subst k7
   have h0:0≤nn % 16∧nn % 16 < 16:=⟨Int.emod_nonneg _ (by omega),Int.emod_lt_of_pos _ (by omega)⟩
   have e73:=fun S=>@s73 S (nn % 16) (by unfold inI;omega) (by omega)
   have ok0:=w2.okd (n':=n+20) (by omega)
   obtain ⟨Sa,Sb,P,e,f⟩:=w2.tf (by omega) .of (Rk.small (Nat.le_trans (refuse_b (e:=nn % 16) (by unfold inI;omega)) (by omega)))
   clear w2
   try simp only [rz]at *
   by_cases hc:1000 < (tRefuse (nn % 16)).cnt
   ·simp [f135,f135b,q1,q2,q3,q4,q5,q6,k1,e73,f.cnt,hc,fillR]
    exact ok0
   ·have f1:=f.cnt
    have f2:=f.num
    have f3:=f.add
    have f4:=f.ln
    have f5:=f.la
    have f6:=f.lw
    have f7:=f.da
    have f8:=f.lb
    have f9:=f.lw2
    have f10:=f.db
    have f11:=f.same
    have f12:=f.isn
    have f13:=f.st
    have g1:=f.ok
    have g2:=f.ok2
    generalize Sb.set s _=Sc at f13 g2
    by_cases he:e=0
    ·cases hi:isNoneT P with
     |true=>
      rw [hi]at f12
      simp [f135,f135b,q1,q2,q3,q4,q5,q6,k1,e73,f1,hc,e140,f2,f3,f4,f5,f6,f7,f8,f9,f10,f11,f12,he,fillR]
      exact up g1
     |false=>
      rw [hi]at f12
      have g3:=g2 he hi
      simp [f135,f135b,q1,q2,q3,q4,q5,q6,k1,e73,f1,hc,e140,f2,f3,f4,f5,f6,f7,f8,f9,f10,f11,f12,f13,he,fillR]
      exact up g3
    ·simp [f135,f135b,q1,q2,q3,q4,q5,q6,k1,e73,f1,hc,e140,f2,f3,f4,f5,f6,f7,f8,f9,f10,f11,f12,he,fillR]
     exact up g1
  by_cases k8:kind=8
  ·subst k8
   have lv:=w2.m.st.lm
   have ok0:=w2.okd (n':=n+20) (by omega)
   obtain ⟨Sa,Sb,P,e,f⟩:=w2.tf (by omega) (rz_tv w2.p.zm) (w2.p.sd.rk w2.p.pb)
   clear w2
   try simp only [rz]at *
   by_cases hc:1000 < x2.m.cnt
   ·simp [f135,f135b,q1,q2,q3,q4,q5,q6,k1,zk,lv,f.cnt,hc,fillR]
    exact ok0
   ·have f1:=f.cnt
    have f2:=f.num
    have f3:=f.add
    have f4:=f.ln
    have f5:=f.la
    have f6:=f.lw
    have f7:=f.da
    have f8:=f.lb
    have f9:=f.lw2
    have f10:=f.db
    have f11:=f.same
    have f12:=f.isn
    have f13:=f.st
    have g1:=f.ok
    have g2:=f.ok2
    generalize Sb.set s _=Sc at f13 g2
    by_cases he:e=0
    ·cases hi:isNoneT P with
     |true=>
      rw [hi]at f12
      simp [f135,f135b,q1,q2,q3,q4,q5,q6,k1,zk,lv,f1,hc,e140,f2,f3,f4,f5,f6,f7,f8,f9,f10,f11,f12,he,fillR]
      exact up g1
     |false=>
      rw [hi]at f12
      have g3:=g2 he hi
      simp [f135,f135b,q1,q2,q3,q4,q5,q6,k1,zk,lv,f1,hc,e140,f2,f3,f4,f5,f6,f7,f8,f9,f10,f11,f12,f13,he,fillR]
      exact up g3
    ·simp [f135,f135b,q1,q2,q3,q4,q5,q6,k1,zk,lv,f1,hc,e140,f2,f3,f4,f5,f6,f7,f8,f9,f10,f11,f12,he,fillR]
     exact up g1
  have ok0:=w2.okd (n':=n+20) (by omega)
  obtain ⟨Sa,Sb,P,e,f⟩:=w2.tf (by omega) (.inl (tri t)) (.small ht)
  clear w2
  by_cases hc:1000 < t.cnt
  ·simp [f135,f135b,q1,q2,q3,q4,q5,q6,k1,k2,k3,k4,k5,k7,k8,f.cnt,hc,fillR]
   exact ok0
  ·have f1:=f.cnt
   have f2:=f.num
   have f3:=f.add
   have f4:=f.ln
   have f5:=f.la
   have f6:=f.lw
   have f7:=f.da
   have f8:=f.lb
   have f9:=f.lw2
   have f10:=f.db
   have f11:=f.same
   have f12:=f.isn
   have f13:=f.st
   have g1:=f.ok
   have g2:=f.ok2
   generalize Sb.set s _=Sc at f13 g2
   by_cases he:e=0
   ·cases hi:isNoneT P with
    |true=>
     rw [hi]at f12
     simp [f135,f135b,q1,q2,q3,q4,q5,q6,k1,k2,k3,k4,k5,k7,k8,f1,hc,e140,f2,f3,f4,f5,f6,f7,f8,f9,f10,f11,f12,he,fillR]
     exact up g1
    |false=>
     rw [hi]at f12
     have g3:=g2 he hi
     simp [f135,f135b,q1,q2,q3,q4,q5,q6,k1,k2,k3,k4,k5,k7,k8,f1,hc,e140,f2,f3,f4,f5,f6,f7,f8,f9,f10,f11,f12,f13,he,fillR]
     exact up g3
   ·simp [f135,f135b,q1,q2,q3,q4,q5,q6,k1,k2,k3,k4,k5,k7,k8,f1,hc,e140,f2,f3,f4,f5,f6,f7,f8,f9,f10,f11,f12,he,fillR]
    exact up g1
end
section
variable {S:AS} {id a b:Nat} {c:Cl} {mv:AV} {z:Dz}
theorem s104h (hh:S.heap id=some (.rows 37 [c.row mv])) (hz:c.ended=true→c.z3=false):call 104 [.ptr id 0 0] S=some (if c.ended then .tup [.agg c.session.cells,.sc (.string c.nonce),.b true] else .tup [.agg tZ.cells,.s ⟨#[]⟩,.b false],S):=by
 rw [call_calm a104 rfl (by simp) rfl]
 have e1:∀d rg,opev (.ld none 1 false) d rg {S with ro:=S.n} [.ptr id 0 2]=some (.b c.ended,none,{S with ro:=S.n}):=fun d rg=>by rw [opev_ld_ptr (S:={S with ro:=S.n}) hh];rfl
 have e3:∀d rg,opev (.ld none 1 false) d rg {S with ro:=S.n} [.ptr id 0 3]=some (.sc (.string c.nonce),none,{S with ro:=S.n}):=fun d rg=>by rw [opev_ld_ptr (S:={S with ro:=S.n}) hh];rfl
 cases he:c.ended with
 |true=>
  have hz:=hz he
  have e2:∀d rg,opev (.ld none 3 true) d rg {S with ro:=S.n} [.ptr id 0 16]=some (.agg c.session.cells,none,{S with ro:=S.n}):=fun d rg=>by rw [opev_ld_ptr (S:={S with ro:=S.n}) hh,←tri];unfold Cl.row;rw [hz];rfl
  rw [he]at e1;simp [f104,f104b,e1,e2,e3]
 |false=>rw [he]at e1;simp [f104,f104b,e1,tZ_zT];rfl
theorem s232h (hh:S.heap id=some (.rows 37 [c.row mv])):call 232 [.ptr id 0 0] S=some (.sc (.int .i64 c.counter),S):=by
 rw [call_calm a232 rfl (by simp) rfl]
 have e1:∀d rg,opev (.ld none 1 false) d rg {S with ro:=S.n} [.ptr id 0 26]=some (.sc (.int .i64 c.counter),none,{S with ro:=S.n}):=fun d rg=>by rw [opev_ld_ptr (S:={S with ro:=S.n}) hh];rfl
 simp [f232,f232b,e1]
theorem s120h (hh:S.heap id=some (.rows 37 [c.row mv])) (hr:mv.isReg=false) (hrow:rowsOf 2 S mv=some (Cl.mrow c.marks)) (hl:c.marks.length * 32≤140737488355328):call 120 [.ptr id 0 0] S=some (marksV c.marks,S):=by
 rw [call_calm a120 rfl (by simp) rfl]
 have e1:∀d rg,opev (.ld none 1 false) d rg {S with ro:=S.n} [.ptr id 0 36]=some (mv,none,{S with ro:=S.n}):=fun d rg=>by rw [opev_ld_ptr (S:={S with ro:=S.n}) hh];rfl
 have hrow:rowsOf 2 {S with ro:=S.n} mv=some (Cl.mrow c.marks):=hrow
 have hml:(Cl.mrow c.marks).length=c.marks.length:=by simp [Cl.mrow]
 have e2:call 226 [mv] {S with ro:=S.n}=some (.arr S.n 2 0 c.marks.length none,AS.new {S with ro:=S.n} (.rows 2 (Cl.mrow c.marks))):=by
  rw [call_ext a226 (by simp [hr])]
  simp [cloneG,hrow,hml,hl]
 simp [-calmR_some,f120,f120b,e1,hr,e2]
 rw [←hml]
 exact calm_arrR (Nat.le_refl _) heap_new mrow_frz mrow_pure
theorem marks_len {l:List (ByteArray×ByteArray)}:pev .lenL [marksV l]=some (.sc (.int .i64 (l.length:Nat))):=by
 have hml:(Cl.mrow l).length=l.length:=by simp [Cl.mrow]
 show some (AV.sc (.int .i64 ((Cl.mrow l).length:Nat)))=_
 rw [hml]
theorem marks_at {l:List (ByteArray×ByteArray)} {i:Nat} {m:ByteArray×ByteArray} (h:l[i]?=some m):pev (.iaddr 2) [marksV l,.sc (.int .i64 (i:Int))]=some (.iptr [.sc (.string m.1),.sc (.string m.2)]):=by
 have h2:(Cl.mrow l)[i]?=some [.sc (.string m.1),.sc (.string m.2)]:=by simp [Cl.mrow,h]
 have hne:(Cl.mrow l).isEmpty=false:=by
  cases l with
  |nil=>simp at h
  |cons _ _=>rfl
 simp [pev,marksV,lstN,hne,h2]
theorem gv_at {sz:Nat} {v:AV} {R:List (List AV)} {i:Nat} {r:List AV} (h:GV S sz v R) (hi:R[i]?=some r):∃id,pev (.iaddr sz) [v,.sc (.int .i64 (i:Int))]=some (.ptr id i 0)∧S.heap id=some (.rows sz R):=by
 rcases h with ⟨rfl,_⟩|⟨id,rfl,hh,_⟩
 ·simp at hi
 ·refine ⟨id,?_,hh⟩
  have:=(List.getElem?_eq_some_iff.1 hi).1
  simp [pev];omega
def tm136:List Nat:=[4,71,72,73,74,75,76,77,78,79,80,81,82,83,84,85,86,87,88,89,90,91,92,93,94,95,96,97,98,99,100,101,102,103,104,105,106]
set_option maxHeartbeats 4000000 in
theorem loop136 {l:List (ByteArray×ByteArray)} {T:AS} {mv:AV} {ks:List Kn} (mr:mv.isReg=false) (gv:∀(i:Nat) (r:List AV),(Cl.mrow l)[i]?=some r→∃q,pev (.iaddr 2) [mv,.sc (.int .i64 (i:Int))]=some (.ptr q i 0)∧T.heap q=some (.rows 2 (Cl.mrow l))) (l29:∀d rg,opev (.ld none 1 false) d rg T [.ptr b 0 29]=some (mv,none,T)) (hl:l.length≤1000000)
 (hk:∀(e:Nat→AV) (rg:Nat→Option (List AV)),calmR S (fin [.tmp 4] (unw AA (some (.exit 0,st 107 e rg T)) ks))=some (.sc (.bool true),S)):
 ∀(e:Nat→AV) (rg:Nat→Option (List AV)),e 1=.ptr b 0 0→e 8=marksV l→e 9=.i 0→calmR S (fin [.tmp 4] (exec AA (.loop tm136 [] f136_l0) (st 107 e rg T) ks))=some (.sc (.bool true),S):=by
 intro e rg g1 g8 g9
 have ml:=@marks_len l
 refine loop_gen (α:=Nat) (R:=fun _ r=>calmR S r=some (.sc (.bool true),S)) (fun i e rg S'=>i≤l.length∧S'=T∧e 1=.ptr b 0 0∧e 8=marksV l∧e 9=.sc (.int .i64 (i:Nat))) (fun i=>l.length - i) ?_ 0 _ _ _ ?_
 rotate_left
 ·exact ⟨by omega,rfl,g1,g8,g9⟩
 intro kk hkk i e rg S' ⟨hi,hS',g1,g8,g9⟩ ih
 subst hS'
 by_cases hc:i < l.length
 ·obtain ⟨m,hm⟩:=get_of_lt hc
  have hcl:(i:Int) < (l.length:Int):=by omega
  have w2:IntKind.i64.wrap ((i:Int)+1)=((i+1:Nat):Int):=w64 (by omega)
  have h1:=marks_at hm
  have hr:(Cl.mrow l)[i]?=some [.sc (.string m.1),.sc (.string m.2)]:=by simp [Cl.mrow,hm]
  obtain ⟨q,h2,h3⟩:=gv i _ hr
  have h4:∀d rg,opev (.ld none 1 false) d rg S' [.ptr q i 0]=some (.sc (.string m.1),none,S'):=fun d rg=>by rw [opev_ld_ptr h3,hr];rfl
  have h5:∀d rg,opev (.ld none 1 false) d rg S' [.ptr q i 1]=some (.sc (.string m.2),none,S'):=fun d rg=>by rw [opev_ld_ptr h3,hr];rfl
  simp [-calmR_some,tm136,f136_l0,g1,g8,g9,ml,hcl,h1,l29,mr,h2,h4,h5,w2]
  exact ih (i+1) _ _ _ (by omega) (fun _ h=>h) ⟨by omega,rfl,by simp [g1],by simp [g8],by simp⟩
 ·have hcl:¬(i:Int) < (l.length:Int):=by omega
  simp [-calmR_some,tm136,f136_l0,g1,g8,g9,ml,hcl]
  rw [hkk]
  simp [-calmR_some]
  exact hk _ _
set_option maxHeartbeats 4000000 in
set_option maxRecDepth 100000 in
theorem s136 (hc:IsCl S a c mv) (hd:IsDl S b c z) (hz3:c.ended=true→c.z3=false) (hss:c.ended=true→c.session.lo) (hm:c.marks.length≤1000000):call 136 [.ptr a 0 0,.ptr b 0 0] S=some (.sc (.bool true),S):=by
 rw [call_calm a136 rfl (by simp) rfl]
 have e104:=s104h (S:={S with ro:=S.n}) hc.hh hz3
 have e120:=s120h (S:={S with ro:=S.n}) hc.hh hc.gv.reg hc.gv.rows (by omega)
 have e232:=s232h (S:={S with ro:=S.n}) hc.hh
 have l33:∀d rg,opev (.ld none 1 false) d rg {S with ro:=S.n} [.ptr b 0 33]=some (.b c.ended,none,{S with ro:=S.n}):=fun d rg=>by rw [opev_ld_ptr (S:={S with ro:=S.n}) hd.hh];rfl
 have l15:∀d rg,opev (.ld none 1 false) d rg {S with ro:=S.n} [.ptr b 0 15]=some (.sc (.string c.nonce),none,{S with ro:=S.n}):=fun d rg=>by rw [opev_ld_ptr (S:={S with ro:=S.n}) hd.hh];rfl
 have l7:∀d rg,opev (.ld none 1 false) d rg {S with ro:=S.n} [.ptr b 0 7]=some (.sc (.int .i64 c.counter),none,{S with ro:=S.n}):=fun d rg=>by rw [opev_ld_ptr (S:={S with ro:=S.n}) hd.hh];rfl
 have l29:∀d rg,opev (.ld none 1 false) d rg {S with ro:=S.n} [.ptr b 0 29]=some (z.mv,none,{S with ro:=S.n}):=fun d rg=>by rw [opev_ld_ptr (S:={S with ro:=S.n}) hd.hh];rfl
 have ml:=@marks_len c.marks
 have zl:=hd.gv.len
 have zr:=hd.gv.reg
 have mr:(marksV c.marks).isReg=false:=rfl
 rw [show (Cl.mrow c.marks).length=c.marks.length by simp [Cl.mrow]]at zl
 have gv':∀(i:Nat) (r:List AV),(Cl.mrow c.marks)[i]?=some r→∃q,pev (.iaddr 2) [z.mv,.sc (.int .i64 (i:Int))]=some (.ptr q i 0)∧({S with ro:=S.n}:AS).heap q=some (.rows 2 (Cl.mrow c.marks)):=fun i r hi=>by have q:=gv_at hd.gv hi;exact q
 simp only [f136]
 cases hen:c.ended with
 |true=>
  rw [hen]at l33 e104
  simp only [if_true]at e104
  have hs:=hd.session hen
  have l30:∀d rg,opev (.ld none 3 true) d rg {S with ro:=S.n} [.ptr b 0 30]=some (.agg c.session.cells,none,{S with ro:=S.n}):=fun d rg=>by
   obtain ⟨h1,h2⟩:=hd.hs hen
   rw [opev_ld_ptr (S:={S with ro:=S.n}) hd.hh,←tri];unfold Dz.row Cl.drow;rw [h1,h2];rfl
  have e61:∀S,call 61 [.agg c.session.cells,.agg c.session.cells] S=some (.sc (.bool true),S):=by
   intro S
   have:=s61 (b:=c.session) (S:=S) (T.fits_bulk (hss hen))
   rw [T.same_self]at this;exact this
  simp [-calmR_some,f136b,e104,e120,e232,l33,l15,l7,l29,l30,e61,ml,zl,mr,zr,fillR]
  refine loop136 (T:={S with ro:=S.n}) zr gv' l29 hm ?_ _ _ (by simp) (by simp) (by simp)
  intro e rg
  simp
 |false=>
  rw [hen]at l33 e104
  simp only [Bool.false_eq_true,if_false]at e104
  have l30:∀d rg,∃v,opev (.ld none 3 true) d rg {S with ro:=S.n} [.ptr b 0 30]=some (.agg v,none,{S with ro:=S.n}):=fun d rg=>by
   rw [opev_ld_ptr (S:={S with ro:=S.n}) hd.hh];exact ⟨_,rfl⟩
  simp [-calmR_some,f136b,e104,e120,e232,l33,l15,l7,l29,ml,zl,mr,zr,fillR]
  refine loop136 (T:={S with ro:=S.n}) zr gv' l29 hm ?_ _ _ (by simp) (by simp) (by simp)
  intro e rg
  simp
end
def subB:ByteArray:=⟨#[115,117,98]⟩
def xxB:ByteArray:=⟨#[120]⟩
def n1B:ByteArray:=⟨#[110]⟩
theorem c0_sz {pw sd:T}:(c0 pw sd).sz 10:=⟨fun e=>(by cases e),fun e=>(by cases e),fun e=>(by cases e),fun e=>(by cases e),by show 0≤_;omega,by show 1≤_;omega,by show (0:Int)≤2∧(2:Int)≤10;omega,by show 0≤_;omega⟩
theorem atom_lo {n:ByteArray} (h:n.size≤1000000):(tAtom n).lo:=by show (tAtom n).bulk≤_;rw [atom_bulk];omega
theorem kd0_sz {j:Nat}:(kd0 (setL j)).sz 10:=by
 obtain ⟨h1,h2,h3,h4⟩:=@setL_ok j
 refine ⟨atom_lo (by show 6≤_;omega),h1,by show (setL j).length≤1000;omega,fun s hs=>?_,by show 1≤_;omega,by show (0:Int)≤10;omega,by show (0:Int)≤0∧(0:Int)≤10;omega,by show (0:Int)≤0∧(0:Int)≤10;omega,by show 0≤10;omega⟩
 rcases h3 s hs with rfl|rfl|rfl
 ·show 9≤_;omega
 ·show 3≤_;omega
 ·show 5≤_;omega
section
variable {S:AS}
theorem pr_of {S1 S2:AS} {a:Nat} {c:Cl} {k:Nat} {L:Loc} {j:Nat} {o:Nat→Prop} (hcl:IsCl S1 a c (.lst 0 true [])) (hkd:IsKd S2 k L (kd0 (setL j)) []) (g1:Chg S S1 (fun _=>False) o) (ho:∀x,ownC a (.lst 0 true []) x→o x) (g2:Chg S1 S2 (fun _=>False) (ownK k L)) (hc:c.sz 10):
 Pr S2 a c (.lst 0 true []) k L (kd0 (setL j)) [] 10∧Chg S S2 (fun _=>False) (Pr.own a (.lst 0 true []) k L):=by
 have hcl2:IsCl S2 a c (.lst 0 true []):=hcl.keep g2.1 g2.2.1 fun x hx _=>(g2.2.2 x hx fun e=>e).1
 refine ⟨⟨hcl2,hkd,fun x hx hk=>(g2.2.2 x (hcl.own_lt hx) fun e=>e).2 hk,hc,kd0_sz,by simp⟩,g2.1.trans g1.1,Nat.le_trans g1.2.1 g2.2.1,fun x hx _=>⟨?_,?_⟩⟩
 ·exact (g2.2.2 x (Nat.lt_of_lt_of_le hx g1.2.1) fun e=>e).1.trans (g1.2.2 x hx fun e=>e).1
 ·rintro (e|e)
  ·exact (g1.2.2 x hx fun e=>e).2 (ho x e)
  ·exact (g2.2.2 x (Nat.lt_of_lt_of_le hx g1.2.1) fun e=>e).2 e
theorem beg (hS:S.ro≤S.n) {j:Nat}:∃S1 S2 b k L,call 132 [] S=some (.tup [.ptr S.n 0 0,.ptr b 0 0],S1)∧call 133 [lstS (setL j)] S1=some (.ptr k 0 0,S2)∧
 Pr S2 S.n (c0 (tAtom pwaB) (tAtom sdaB)) (.lst 0 true []) k L (kd0 (setL j)) [] 10∧Chg S S2 (fun _=>False) (Pr.own S.n (.lst 0 true []) k L):=by
 obtain ⟨S1,b,d1,h1,hb,hb1,hb2,g1⟩:=c132 (S:=S) hS
 have hS1:S1.ro≤S1.n:=by have:=g1.1;have:=g1.2.1;omega
 obtain ⟨S2,k,L,d2,h2,g2⟩:=c133 (S:=S1) (j:=j) hS1
 obtain ⟨p,g⟩:=pr_of h1 h2 g1 (fun x hx=>by rcases hx with rfl|⟨a,b,c,d,e⟩;exact .inl rfl;cases e) g2 c0_sz
 exact ⟨S1,S2,b,k,L,d1,d2,p,g⟩
theorem Pr.start {a:Nat} {c:Cl} {mv:AV} {k:Nat} {L:Loc} {K:Kd} {R:List (List AV)} {b:Nat} (h:Pr S a c mv k L K R b) {nonce:ByteArray} {sub:T} (hn:nonce.size≤1099511627776):
 ∃S',call 138 [.ptr a 0 0,.sc (.string nonce),.agg sub.cells] S=some (.agg ((c.start nonce sub).says tNone tNone).cells,S')∧Pr S' a (c.start nonce sub) mv k L K R b∧Chg S S' (Pr.own a mv k L) (Pr.own a mv k L):=by
 obtain ⟨S',d,h',g⟩:=c138 (nonce:=nonce) (sub:=sub) h.cl (by omega) (by have:=h.cs.name;omega)
 obtain ⟨p,g'⟩:=h.client h' g (Nat.le_refl b) (h.cs.start hn)
 exact ⟨S',d,p,g'⟩
theorem x_at:atT (tAtom xxB):=⟨xxB,rfl,by decide,by show 1≤_;omega⟩
theorem x_lo:(tAtom xxB).lo:=atom_lo (by show 1≤_;omega)
theorem pw_ok:pwaB≠⟨#[]⟩∧pwaB.size≤1000:=⟨by decide,by show 10≤_;omega⟩
theorem sd_ok:sdaB≠⟨#[]⟩∧sdaB.size≤1000:=⟨by decide,by show 6≤_;omega⟩
theorem sub_ok:subB≠⟨#[]⟩∧subB.size≤1000:=⟨by decide,by show 3≤_;omega⟩
theorem n1_ok:n1B≠⟨#[]⟩∧n1B.size≤700:=⟨by decide,by show 1≤_;omega⟩
theorem setL_nd {j:Nat}:(setL j).Nodup:=by
 have n1:chalB≠otpB:=by decide
 have n2:chalB≠spkB:=by decide
 have n3:otpB≠spkB:=by decide
 match j with
 |0|1|2=>simp [setL]
 |3=>simp [setL,n1]
 |4=>simp [setL,n3]
 |5=>simp [setL,n2.symm]
 |6=>simp [setL,n1,n2,n3]
 |_+7=>simp [setL,n3.symm,n2.symm,n1.symm]
theorem setL_cons (j:Nat):∃nx rest,setL j=nx::rest:=by
 match h:setL j with
 |[]=>have:=(@setL_ok j).1;rw [h]at this;simp at this
 |nx::rest=>exact ⟨nx,rest,rfl⟩
theorem sti0 {K:Kd} {j:Nat} {pw sd nonce sn:ByteArray} {t0:Int} (h:KD K (setL j)) (hpw:pw≠⟨#[]⟩∧pw.size≤1000) (hsd:sd≠⟨#[]⟩∧sd.size≤1000) (hno:nonce≠⟨#[]⟩∧nonce.size≤700) (hsn:sn≠⟨#[]⟩∧sn.size≤1000):
 Sti (setL j) 0 ((c0 (tAtom pw) (tAtom sd)).start nonce (tAtom sn)) K (((c0 (tAtom pw) (tAtom sd)).start nonce (tAtom sn)).says tNone tNone) t0:=by
 obtain ⟨nx,rest,hs⟩:=setL_cons j
 obtain ⟨h1,h2,h3,h4⟩:=@setL_ok j
 have hnd:=@setL_nd j
 rw [hs]at h h2 h3 hnd ⊢
 exact .inl ⟨rfl,nx,rest,ini_of h hpw hsd hno hsn h3 hnd (by simp at h2;omega),rfl⟩
theorem Pr.good {a:Nat} {c:Cl} {mv:AV} {k:Nat} {L:Loc} {K:Kd} {R:List (List AV)} {b i:Nat} {set:List ByteArray} {m:T} {t0 now:Int} (h:Pr S a c mv k L K R b) (hb:b≤800) (hs:Sti set i c K m t0) (hi:i < set.length) (hn:t0≤now∧now≤t0+5) (h0:0≤now∧now≤10000000) (gk:c.key=K.u.key) (gs:c.seed=K.u.seed):
 ∃S1 S2 r c' m' mv' L' K',call 137 [.ptr k 0 0,.agg m.cells,.sc (.int .i64 now)] S=some (.agg r,S1)∧call 141 [.ptr a 0 0,.agg r,.sc (.int .i64 now),.agg (tAtom xxB).cells] S1=some (.tup [.agg (T.cells m'),.sc (.int .i64 0)],S2)∧
  Pr S2 a c' mv' k L' K' R (b+4)∧Sti set (i+1) c' K' m' now∧c'.key=K'.u.key∧c'.seed=K'.u.seed∧c'.nonce=c.nonce∧Chg S S2 (Pr.own a mv k L) (Pr.own a mv' k L'):=by
 obtain ⟨rd,hiss,hs',g1,g2,g3⟩:=hs.step (x:=tAtom xxB) hi hn h0 gk gs (by have:=h.ks.n;omega) x_at
 obtain ⟨S1,S2,mv',L',R',d1,d2,p,is,G⟩:=h.round (by omega) rd.mlo (now:=now) (by omega) x_lo rd.rlo
 rw [rd.e]at d2
 rw [hiss]at is
 rw [show R'=R from is]at p
 exact ⟨S1,S2,_,_,_,mv',L',_,d1,d2,p,hs',g1,g2,g3,G⟩
theorem Pr.last {a:Nat} {c:Cl} {mv:AV} {k:Nat} {L:Loc} {K:Kd} {R:List (List AV)} {b i:Nat} {set:List ByteArray} {m:T} {t0 now:Int} (h:Pr S a c mv k L K R b) (hb:b≤800) (hs:Sti set i c K m t0) (hi:i=set.length) (hn:t0≤now∧now≤t0+5) (h0:0≤now∧now≤10000000) (gk:c.key=K.u.key) (gs:c.seed=K.u.seed):
 ∃S1 S2 r c' mv' L' K' dv s,call 137 [.ptr k 0 0,.agg m.cells,.sc (.int .i64 now)] S=some (.agg r,S1)∧call 141 [.ptr a 0 0,.agg r,.sc (.int .i64 now),.agg (tAtom xxB).cells] S1=some (.tup [.agg tNone.cells,.sc (.int .i64 0)],S2)∧
  Pr S2 a c' mv' k L' K' (R++[issR c.name c.nonce (.arr dv 1 0 set.length none) s]) (b+4)∧S2.heap dv=some (.rows 1 (sRow set))∧dv < S2.n∧c'.ended=true∧c'.on=false∧c'.session=s∧s.fits∧c'.nonce=c.nonce∧c'.marks=set.map (fun d=>(d,c.nonce))∧CtOf c' set∧Chg S S2 (Pr.own a mv k L) (Pr.own a mv' k L'):=by
 obtain ⟨rd,hiss,ht,hm,hc⟩:=hs.last (x:=tAtom xxB) hi hn gk gs (by have:=h.ks.n;omega)
 obtain ⟨S1,S2,mv',L',R',d1,d2,p,is,G⟩:=h.round (by omega) rd.mlo (now:=now) (by omega) x_lo rd.rlo
 rw [hiss]at is
 obtain ⟨id,e1,e2,e3,e4,e5⟩:=is
 rw [e1]at p
 rw [ht]at d2 p
 exact ⟨S1,S2,_,_,mv',L',_,id,drawT (K.n+1),d1,d2,p,e2,e4,rfl,rfl,rfl,T.fits_bulk (draw_lo (by have:=h.ks.n;omega) (by have:=h.ks.n;omega)),rfl,hm,hc,G⟩
end
end Abs
