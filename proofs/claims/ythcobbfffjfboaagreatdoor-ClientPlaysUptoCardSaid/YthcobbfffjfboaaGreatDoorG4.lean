/- Reading a cookie out of a body. -/
import Derived.Test.YthcobbfffjfboaaGreatDoorG3
set_option linter.unusedVariables false
set_option linter.unusedSimpArgs false
set_option linter.unusedSectionVars false
namespace Abs
open Go
def cutD (s l:ByteArray):ByteArray:=(cutB s l).getD s
section
variable {S:AS}
def atoN (s:ByteArray):Int:=match Lib.atoiAll s.data.toList with| .ok v=>v| .range=>Lib.atoiSat s.data.toList|_=>0
def doneS (l:List T):List ByteArray:=l.map fun k=>cutD k.name ⟨#[100]⟩
end
def readC (k1 k2 k3 k4 k5:T):Ck:=⟨cutD k1.name ⟨#[99]⟩,cutD k2.name ⟨#[110]⟩,doneS k3.kids,k4,atoN (cutD k5.name ⟨#[117]⟩)⟩
def openP (key t:T) (now:Int):Ck×Int:=
 if t.right && decide (t.kind=4) then
  match t.kids with
  |[k0,b]=>if k0.same key then
   (match b.kids with
   |[_,k1,k2,k3,k4,k5]=>if (sealT key (readC k1 k2 k3 k4 k5)).same t then (if (readC k1 k2 k3 k4 k5).upto < now then (ckZero,5) else (readC k1 k2 k3 k4 k5,0)) else (ckZero,2)
   |_=>(ckZero,2)) else (ckZero,4)
  |_=>(ckZero,2)
 else (ckZero,2)
theorem cutB_le {s p r:ByteArray} (h:cutB s p=some r):r.size≤s.size:=by have:=cutB_size h;omega
theorem atoN_in {s:ByteArray}:inI (atoN s):=by
 unfold atoN
 cases h:Lib.atoiAll s.data.toList with
 |ok v=>exact atoiAll_in h
 |range=>show inI (Lib.atoiSat _);unfold Lib.atoiSat inI;split<;>omega
 |_=>exact inI0
section
variable {S:AS}
theorem T.enc_kids {t:T} (h:t.rshp=true) (h4:t.kind=4):∃a b,t.kids=[a,b]:=by
 rw [t.rshp_def,Bool.and_eq_true]at h
 obtain ⟨_,_,h3⟩:=T.one_iff.1 h.1
 have hk:kdn t.kind=2:=by rw [h4];rfl
 have:t.kids.length=2:=by omega
 match hl:t.kids,this with
 |[a,b],_=>exact ⟨a,b,rfl⟩
theorem calm_zC {S S':AS} {n:Int}:calmR S (some (.tup [.agg zC,.sc (.int .i64 n)],S'))=some (.tup [.agg ckZero.cells,.sc (.int .i64 n)],S):=by
 simp [ckZero,Ck.cells,tZero,T.kind,T.name,T.kids,lstS,lstT,lstN,sRow,AV.pure]
end
theorem cutD_app {p r:ByteArray}:cutD (p++r) p=r:=by unfold cutD;rw [cutB_app];rfl
theorem atoN_itoa {n:Int} (h:inI n):atoN (itoaB n)=n:=by
 unfold atoN
 rw [itoaB_list,atoi_itoa h.1 h.2]
theorem doneS_T {l:List ByteArray}:doneS (doneT l)=l:=by
 unfold doneS doneT
 rw [List.map_map]
 have:((fun k:T=>cutD k.name ⟨#[100]⟩)∘fun s=>tData (⟨#[100]⟩++s))=id:=by
  funext s;exact cutD_app
 rw [this,List.map_id]
theorem readC_body {c:Ck} (h:inI c.upto):readC (tData (⟨#[99]⟩++c.client)) (tData (⟨#[110]⟩++c.nonce)) (tPair (doneT c.done)) c.secret (tData (⟨#[117]⟩++itoaB c.upto))=c:=by
 unfold readC
 have e1:cutD (tData (⟨#[99]⟩++c.client)).name ⟨#[99]⟩=c.client:=cutD_app
 have e2:cutD (tData (⟨#[110]⟩++c.nonce)).name ⟨#[110]⟩=c.nonce:=cutD_app
 have e3:cutD (tData (⟨#[117]⟩++itoaB c.upto)).name ⟨#[117]⟩=itoaB c.upto:=cutD_app
 have e4:doneS (tPair (doneT c.done)).kids=c.done:=doneS_T
 rw [e1,e2,e3,e4,atoN_itoa h]
theorem fit_iff {t:T}:t.fit=true↔t.rshp=true∧t.ord=true∧t.dp≤57:=by
 unfold T.fit T.right
 simp only [Bool.and_eq_true,decide_eq_true_eq]
 constructor
 ·rintro ⟨⟨⟨a,b⟩,c⟩,d⟩;exact ⟨a,c,d⟩
 ·rintro ⟨a,c,d⟩;exact ⟨⟨⟨a,by omega⟩,c⟩,d⟩
theorem app_nonempty {x y:ByteArray} (h:x.size≠0):x++y≠⟨#[]⟩:=by
 intro e
 have:=congrArg ByteArray.size e
 rw [ByteArray.size_append]at this
 have h0:(⟨#[]⟩:ByteArray).size=0:=rfl
 omega
theorem data_rshp {s:ByteArray} (h:s≠⟨#[]⟩):(tData s).rshp=true:=by
 unfold tData
 rw [T.rshp]
 simp [T.one,knd,nmd,kdn,T.kind,T.name,T.kids,rshpL,h]
theorem pair_rshp {l:List T} (h:∀t∈l,t.rshp=true):(tPair l).rshp=true:=by
 unfold tPair
 rw [T.rshp,rshpL_iff.2 h]
 simp [T.one,knd,nmd,kdn,T.kind,T.name,T.kids]
theorem pair_ord {l:List T} (h:∀t∈l,t.ord=true):(tPair l).ord=true:=by
 unfold tPair
 rw [T.ord,ordL_all,List.all_eq_true.2 h];rfl
theorem enc_rshp {a b:T} (ha:a.rshp=true) (hb:b.rshp=true):(tEnc a b).rshp=true:=by
 unfold tEnc
 rw [T.rshp]
 simp [T.one,knd,nmd,kdn,T.kind,T.name,T.kids,rshpL,ha,hb]
theorem enc_ord {a b:T} (ha:a.ord=true) (hb:b.ord=true):(tEnc a b).ord=true:=by
 unfold tEnc
 rw [T.ord]
 simp [shareOk,ordL,ha,hb]
theorem dpL_le {l:List T} {n:Nat} (h:∀t∈l,t.dp≤n):dpL l≤n:=by
 induction l with
 |nil=>exact Nat.zero_le _
 |cons t l ih=>rw [dpL];exact Nat.max_le.2 ⟨h t (by simp),ih fun x hx=>h x (by simp [hx])⟩
theorem sz1 {b:UInt8}:(⟨#[b]⟩:ByteArray).size≠0:=by show 1≠0;omega
theorem body_rshp {c:Ck} (h:c.secret.rshp=true):∀t∈bodyT c,t.rshp=true:=by
 intro t ht
 simp only [bodyT,List.mem_cons,List.not_mem_nil,or_false]at ht
 rcases ht with rfl|rfl|rfl|rfl|rfl|rfl
 ·exact data_rshp (by decide)
 ·exact data_rshp (app_nonempty sz1)
 ·exact data_rshp (app_nonempty sz1)
 ·refine pair_rshp fun u hu=>?_
  obtain ⟨s,_,rfl⟩:=List.mem_map.1 hu
  exact data_rshp (app_nonempty sz1)
 ·exact h
 ·exact data_rshp (app_nonempty sz1)
theorem body_ord {c:Ck} (h:c.secret.ord=true):∀t∈bodyT c,t.ord=true:=by
 intro t ht
 simp only [bodyT,List.mem_cons,List.not_mem_nil,or_false]at ht
 rcases ht with rfl|rfl|rfl|rfl|rfl|rfl
 ·rfl
 ·rfl
 ·rfl
 ·refine pair_ord fun u hu=>?_
  obtain ⟨s,_,rfl⟩:=List.mem_map.1 hu
  rfl
 ·exact h
 ·rfl
theorem body_dp {c:Ck} (h:c.secret.dp≤57):∀t∈bodyT c,t.dp≤57:=by
 intro t ht
 simp only [bodyT,List.mem_cons,List.not_mem_nil,or_false]at ht
 have d1:∀s,(tData s).dp=1:=fun s=>rfl
 rcases ht with rfl|rfl|rfl|rfl|rfl|rfl
 ·rw [d1];omega
 ·rw [d1];omega
 ·rw [d1];omega
 ·rw [T.dp_def]
  have:dpL (tPair (doneT c.done)).kids≤1:=dpL_le fun u hu=>by
   obtain ⟨s,_,rfl⟩:=List.mem_map.1 (show u∈doneT c.done from hu)
   rw [d1];omega
  omega
 ·exact h
 ·rw [d1];omega
theorem seal_right {key:T} {c:Ck} (hk:key.fit=true) (hs:c.secret.fit=true):(tEnc key (tPair (bodyT c))).right=true:=by
 obtain ⟨k1,k2,k3⟩:=fit_iff.1 hk
 obtain ⟨s1,s2,s3⟩:=fit_iff.1 hs
 rw [T.right_iff]
 refine ⟨enc_rshp k1 (pair_rshp (body_rshp s1)),?_,enc_ord k2 (pair_ord (body_ord s2))⟩
 rw [T.dp_def]
 have h1:dpL (tEnc key (tPair (bodyT c))).kids≤58:=dpL_le fun u hu=>by
  have hu:u∈[key,tPair (bodyT c)]:=hu
  rcases List.mem_cons.1 hu with rfl|hu
  ·omega
  ·simp only [List.mem_singleton]at hu
   subst hu
   rw [T.dp_def]
   have:dpL (tPair (bodyT c)).kids≤57:=dpL_le fun u hu=>body_dp s3 u hu
   omega
 omega
theorem open_seal {key:T} {c:Ck} {now:Int} (hk:key.fit=true) (hs:c.secret.fit=true) (hu:inI c.upto):
 openP key (sealT key c) now=if c.upto < now then (ckZero,5) else (c,0):=by
 have hse:sealT key c=tEnc key (tPair (bodyT c)):=by unfold sealT;rw [hk,hs];rfl
 have hr:=seal_right hk hs
 unfold openP
 rw [hse,hr]
 have h4:(tEnc key (tPair (bodyT c))).kind=4:=rfl
 rw [h4]
 simp only [decide_true,Bool.and_self,if_true]
 show (if key.same key then _ else _)=_
 rw [T.same_self,if_pos rfl]
 show (if (sealT key (readC _ _ _ _ _)).same _ then _ else _)=_
 rw [readC_body hu,hse,T.same_self,if_pos rfl]
abbrev bl (x:ByteArray):List UInt8:=x.data.toList
def inL (L:List T) (t:T):Bool:=L.any fun u=>u.same t
theorem inL_iff {L:List T} {t:T}:inL L t=true↔t∈L:=by
 unfold inL
 rw [List.any_eq_true]
 constructor
 ·rintro ⟨u,hu,h⟩;rw [←T.same_iff.1 h];exact hu
 ·intro h;exact ⟨t,h,T.same_self t⟩
mutual
def mkP (L:List T):T→Bool
 | .mk k n l=>inL L (.mk k n l) ||(if k=1 then true else if k=2 then false else if k=9 then shP L l else mkPL L l)
def mkPL (L:List T):List T→Bool
 |[]=>true
 |t::l=>mkP L t && mkPL L l
def shP (L:List T):List T→Bool
 |a::b::_=>(mkP L a && (inL L (tPub b) ||mkP L b)) ||(mkP L b && (inL L (tPub a) ||mkP L a))
 |_=>false
end
def entI (L:List T):List (Value×AV):=L.map fun t=>(.string t.text,.sc (.bool true))
def entM (M:List (ByteArray×Bool)):List (Value×AV):=M.map fun p=>(.string p.1,.sc (.bool p.2))
def MOk (L:List T) (M:List (ByteArray×Bool)):Prop:=∀p∈M,∃t:T,t.rshp=true∧t.text=p.1∧p.2=mkP L t
structure KS (S:AS) (kid i j:Nat) (L:List T) (v:AV):Prop where
 hk:S.heap kid=some (.rows 3 [[v,.mp i,.mp j]])
 hi:S.heap i=some (.map (entI L))
 roj:S.ro≤j
 kj:kid≠j
 ij:i≠j
 tidy:∀t∈L,t.tidy
section
variable {S:AS} {kid i j:Nat} {L:List T} {v:AV} {M:List (ByteArray×Bool)}
set_option linter.unusedSectionVars false
variable (h:KS S kid i j L v)
include h
end
section
variable {S:AS} {kid i j:Nat} {L:List T} {v:AV}
end
section
variable {S:AS} {kid i j:Nat} {L:List T} {v:AV}
end
def KOwn (kid i j:Nat) (v:AV) (x:Nat):Prop:=x=kid∨x=i∨x=j∨∃a b c d,v=.arr x a b c d
structure KN (S:AS) (kid i j:Nat) (L:List T) (M:List (ByteArray×Bool)) (v:AV):Prop where
 hk:S.heap kid=some (.rows 3 [[v,.mp i,.mp j]])
 hi:S.heap i=some (.map (entI L))
 hj:S.heap j=some (.map (entM M))
 rok:S.ro≤kid
 roi:S.ro≤i
 roj:S.ro≤j
 ki:kid≠i
 kj:kid≠j
 ij:i≠j
 lk:kid < S.n
 li:i < S.n
 lj:j < S.n
 hv:(L=[]∧v=.lst 0 true [])∨∃id,v=.arr id 3 0 L.length none∧S.heap id=some (.rows 3 (L.map T.cells))∧S.ro≤id∧id < S.n∧id≠kid∧id≠i∧id≠j
 tidy:∀t∈L,t.tidy
 ok:MOk L M
section
variable {S:AS} {kid i j:Nat} {L:List T} {v:AV} {M:List (ByteArray×Bool)}
end
instance decT:DecidableEq T:=fun a b=>decidable_of_iff (a.same b=true) T.same_iff
def decL (t:T):Option (List T×List T):=if t.kind=3 then some ([],t.kids) else if t.kind=4 then some (t.kids.take 1,t.kids.drop 1) else if t.kind=10 then some (t.kids.drop 1,t.kids.take 1) else none
def moreL (L:List T) (t:T):List T:=match decL t with
 |some (n,g)=>if mkPL L n then g else []
 |none=>[]
section
variable {S:AS}
structure Ap (S S':AS) (own own':Nat→Prop):Prop where
 ro:S'.ro=S.ro
 n:S.n≤S'.n
 h:∀x,x < S.n→¬own x→S'.heap x=S.heap x∧¬own' x
def W0:List (Value×AV):=[(.int .i64 3,.agg [.fn 412 [] [],.fn 415 [] []]),(.int .i64 4,.agg [.fn 413 [] [],.fn 414 [] []]),(.int .i64 10,.agg [.fn 414 [] [],.fn 413 [] []])]
end
def IsArr (v:AV) (x:Nat):Prop:=∃a b c d,v=.arr x a b c d
section
variable {S:AS} {v:AV} {R:List T}
end
def GV (S:AS) (sz:Nat) (v:AV) (R:List (List AV)):Prop:=(R=[]∧v=.lst 0 true [])∨∃id,v=.arr id sz 0 R.length none∧S.heap id=some (.rows sz R)∧S.ro≤id∧id < S.n
def Chg (S S':AS) (o o':Nat→Prop):Prop:=S'.ro=S.ro∧S.n≤S'.n∧∀x,x < S.n→¬o x→S'.heap x=S.heap x∧¬o' x
section
variable {S:AS} {v:AV} {R:List (List AV)} {sz:Nat}
theorem Chg.refl {o:Nat→Prop}:Chg S S o o:=⟨rfl,Nat.le_refl _,fun x _ h=>⟨rfl,h⟩⟩
theorem Chg.trans {S' S'':AS} {o o' o'':Nat→Prop} (h:Chg S S' o o') (h':Chg S' S'' o' o''):Chg S S'' o o'':=by
 refine ⟨h'.1.trans h.1,Nat.le_trans h.2.1 h'.2.1,fun x hx hn=>?_⟩
 obtain ⟨a,b⟩:=h.2.2 x hx hn
 obtain ⟨c,d⟩:=h'.2.2 x (Nat.lt_of_lt_of_le hx h.2.1) b
 exact ⟨c.trans a,d⟩
theorem GV.reg (h:GV S sz v R):v.isReg=false:=by rcases h with ⟨_,rfl⟩|⟨id,rfl,_⟩<;>rfl
theorem GV.cell (h:GV S sz v R):v.isCell=true:=by rcases h with ⟨_,rfl⟩|⟨id,rfl,_⟩<;>rfl
theorem GV.cells (h:GV S sz v R):v.cells=[v]:=by rcases h with ⟨_,rfl⟩|⟨id,rfl,_⟩<;>rfl
theorem GV.len (h:GV S sz v R):pev .lenL [v]=some (.sc (.int .i64 (R.length:Nat))):=by rcases h with ⟨rfl,rfl⟩|⟨id,rfl,_⟩<;>rfl
theorem GV.lt (h:GV S sz v R) {x:Nat} (hx:IsArr v x):x < S.n∧S.ro≤x:=by
 obtain ⟨a,b,c,d,e⟩:=hx
 rcases h with ⟨_,e'⟩|⟨id,e',_,h1,h2⟩
 ·rw [e']at e;cases e
 ·rw [e']at e;cases e;exact ⟨h2,h1⟩
theorem GV.keep (h:GV S sz v R) {S':AS} (hr:S'.ro=S.ro) (hn:S.n≤S'.n) (hh:∀x,x < S.n→IsArr v x→S'.heap x=S.heap x):GV S' sz v R:=by
 rcases h with h|⟨id,e,h1,h2,h3⟩
 ·exact .inl h
 ·exact .inr ⟨id,e,by rw [hh id h3 ⟨_,_,_,_,e⟩];exact h1,by rw [hr];exact h2,by omega⟩
theorem GV.rows (h:GV S sz v R):rowsOf sz S v=some R:=by
 rcases h with ⟨rfl,rfl⟩|⟨id,rfl,h1,_,_⟩
 ·simp [rowsOf]
 ·simp only [rowsOf,if_true]
  exact slice_of h1 (Nat.zero_le _)
theorem GV.app (h:GV S sz v R) (hro:S.ro≤S.n) {r:List AV} {bytes:Nat} {f:Bool} (hb:(R.length+1) * bytes≤140737488355328):
 ∃v' S',(∀d rg,opev (.append sz bytes) d rg S [v,.lst sz f [r]]=some (v',none,S'))∧GV S' sz v' (R++[r])∧Chg S S' (IsArr v) (IsArr v'):=by
 have hrw:rowsOf sz S (.lst sz f [r])=some [r]:=by simp [rowsOf]
 rcases h with ⟨rfl,rfl⟩|⟨id,rfl,h1,h2,h3⟩
 ·refine ⟨.arr S.n sz 0 1 none,S.new (.rows sz [r]),fun d rg=>?_,.inr ⟨S.n,by simp,by simpa using heap_new,hro,Nat.lt_succ_self _⟩,rfl,Nat.le_succ _,fun x hx hv=>⟨if_neg (by omega),?_⟩⟩
  ·have hb:1 * bytes≤140737488355328:=by simpa using hb
   simp [opev,hrw,appendA]
   omega
  ·rintro ⟨a,b,c,d,e⟩;cases e;omega
 ·have htk:R.take R.length=R:=List.take_length
  refine ⟨.arr S.n sz 0 (R.length+1) none,(S.set id none).new (.rows sz (R++[r])),fun d rg=>?_,.inr ⟨S.n,by simp,if_pos rfl,hro,Nat.lt_succ_self _⟩,rfl,Nat.le_succ _,fun x hx hv=>⟨?_,?_⟩⟩
  ·simp only [opev,hrw,Option.bind_some,appendA,List.isEmpty_cons,Bool.false_eq_true,if_false,h1,Nat.zero_add,List.length_cons,List.length_nil]
   rw [if_neg (by simp;omega),if_neg (by omega),if_pos ⟨trivial,hb⟩]
   simp only [htk,Option.map_some]
  ·show (if x=S.n then _ else (if x=id then none else S.heap x))=_
   rw [if_neg (by omega),if_neg (fun e=>hv ⟨_,_,_,_,by rw [e]⟩)]
  ·rintro ⟨a,b,c,d,e⟩;cases e;omega
end
structure Cl where
 on:Bool
 done:Bool
 ended:Bool
 nonce:ByteArray
 body:T
 wrap:T
 ak:T
 base:T
 session:T
 name:ByteArray
 pass:T
 seed:T
 counter:Int
 ticket:T
 host:T
 key:T
 marks:List (ByteArray×ByteArray)
 z1:Bool:=false
 z2:Bool:=false
 z3:Bool:=false
def zc:Bool→T→AV
 |true,_=>.lst 0 true []
 |false,t=>lstT t.kids
namespace Cl
def row (c:Cl) (mv:AV):List AV:=[.b c.on,.b c.done,.b c.ended,.s c.nonce,
 .sc (.int .i64 c.body.kind),.sc (.string c.body.name),zc c.z1 c.body,.sc (.int .i64 c.wrap.kind),.sc (.string c.wrap.name),zc c.z1 c.wrap,
 .sc (.int .i64 c.ak.kind),.sc (.string c.ak.name),zc c.z1 c.ak,.sc (.int .i64 c.base.kind),.sc (.string c.base.name),zc c.z2 c.base,
 .sc (.int .i64 c.session.kind),.sc (.string c.session.name),zc c.z3 c.session,.s c.name,
 .sc (.int .i64 c.pass.kind),.sc (.string c.pass.name),lstT c.pass.kids,.sc (.int .i64 c.seed.kind),.sc (.string c.seed.name),lstT c.seed.kids,.sc (.int .i64 c.counter),
 .sc (.int .i64 c.ticket.kind),.sc (.string c.ticket.name),lstT c.ticket.kids,.sc (.int .i64 c.host.kind),.sc (.string c.host.name),lstT c.host.kids,
 .sc (.int .i64 c.key.kind),.sc (.string c.key.name),lstT c.key.kids,mv]
def mrow (l:List (ByteArray×ByteArray)):List (List AV):=l.map fun m=>[.sc (.string m.1),.sc (.string m.2)]
def says (c:Cl) (p k:T):T:=tAsk c.body c.wrap (tReq c.ak c.body p k)
end Cl
structure IsCl (S:AS) (id:Nat) (c:Cl) (mv:AV):Prop where
 hh:S.heap id=some (.rows 37 [c.row mv])
 gv:GV S 2 mv (Cl.mrow c.marks)
 ro:S.ro≤id
 lt:id < S.n
 ne:¬IsArr mv id
def ownC (id:Nat) (mv:AV) (x:Nat):Prop:=x=id∨IsArr mv x
section
variable {S:AS} {id:Nat} {c:Cl} {mv:AV}
theorem IsCl.hS (h:IsCl S id c mv):S.ro≤S.n:=by have:=h.ro;have:=h.lt;omega
theorem IsCl.keep (h:IsCl S id c mv) {S':AS} (hr:S'.ro=S.ro) (hn:S.n≤S'.n) (hh:∀x,x < S.n→ownC id mv x→S'.heap x=S.heap x):IsCl S' id c mv:=
 ⟨(hh id h.lt (.inl rfl)).trans h.hh,h.gv.keep hr hn fun x hx hv=>hh x hx (.inr hv),by rw [hr];exact h.ro,Nat.lt_of_lt_of_le h.lt hn,h.ne⟩
theorem IsCl.own_lt (h:IsCl S id c mv) {x:Nat} (hx:ownC id mv x):x < S.n:=by
 rcases hx with rfl|hx
 ·exact h.lt
 ·exact (h.gv.lt hx).1
theorem tri (t:T):[AV.sc (.int .i64 t.kind),.sc (.string t.name),lstT t.kids]=t.cells:=(cells_T t).symm
section
variable (h:IsCl S id c mv)
include h
theorem IsCl.on (d:Option Nat) (rg:Nat→Option (List AV)):opev (.ld none 1 false) d rg S [.ptr id 0 0]=some (.b c.on,none,S):=by rw [opev_ld_ptr h.hh];rfl
theorem IsCl.done (d:Option Nat) (rg:Nat→Option (List AV)):opev (.ld none 1 false) d rg S [.ptr id 0 1]=some (.b c.done,none,S):=by rw [opev_ld_ptr h.hh];rfl
theorem IsCl.nonce (d:Option Nat) (rg:Nat→Option (List AV)):opev (.ld none 1 false) d rg S [.ptr id 0 3]=some (.sc (.string c.nonce),none,S):=by rw [opev_ld_ptr h.hh];rfl
theorem IsCl.body (hz:c.z1=false) (d:Option Nat) (rg:Nat→Option (List AV)):opev (.ld none 3 true) d rg S [.ptr id 0 4]=some (.agg c.body.cells,none,S):=by rw [opev_ld_ptr h.hh,←tri];unfold Cl.row;rw [hz];rfl
theorem IsCl.ak (hz:c.z1=false) (d:Option Nat) (rg:Nat→Option (List AV)):opev (.ld none 3 true) d rg S [.ptr id 0 10]=some (.agg c.ak.cells,none,S):=by rw [opev_ld_ptr h.hh,←tri];unfold Cl.row;rw [hz];rfl
theorem IsCl.base (hz:c.z2=false) (d:Option Nat) (rg:Nat→Option (List AV)):opev (.ld none 3 true) d rg S [.ptr id 0 13]=some (.agg c.base.cells,none,S):=by rw [opev_ld_ptr h.hh,←tri];unfold Cl.row;rw [hz];rfl
theorem IsCl.name (d:Option Nat) (rg:Nat→Option (List AV)):opev (.ld none 1 false) d rg S [.ptr id 0 19]=some (.sc (.string c.name),none,S):=by rw [opev_ld_ptr h.hh];rfl
theorem IsCl.seed (d:Option Nat) (rg:Nat→Option (List AV)):opev (.ld none 3 true) d rg S [.ptr id 0 23]=some (.agg c.seed.cells,none,S):=by rw [opev_ld_ptr h.hh,←tri];rfl
theorem IsCl.counter (d:Option Nat) (rg:Nat→Option (List AV)):opev (.ld none 1 false) d rg S [.ptr id 0 26]=some (.sc (.int .i64 c.counter),none,S):=by rw [opev_ld_ptr h.hh];rfl
theorem IsCl.ticket (d:Option Nat) (rg:Nat→Option (List AV)):opev (.ld none 3 true) d rg S [.ptr id 0 27]=some (.agg c.ticket.cells,none,S):=by rw [opev_ld_ptr h.hh,←tri];rfl
theorem IsCl.host (d:Option Nat) (rg:Nat→Option (List AV)):opev (.ld none 3 true) d rg S [.ptr id 0 30]=some (.agg c.host.cells,none,S):=by rw [opev_ld_ptr h.hh,←tri];rfl
theorem IsCl.key (d:Option Nat) (rg:Nat→Option (List AV)):opev (.ld none 3 true) d rg S [.ptr id 0 33]=some (.agg c.key.cells,none,S):=by rw [opev_ld_ptr h.hh,←tri];rfl
theorem IsCl.marks (d:Option Nat) (rg:Nat→Option (List AV)):opev (.ld none 1 false) d rg S [.ptr id 0 36]=some (mv,none,S):=by rw [opev_ld_ptr h.hh];rfl
theorem IsCl.st {col sz:Nat} {x:AV} {c':Cl} {mv':AV} (hl:x.cells.length=sz) (hc:x.cells.all AV.isCell=true) (hr:setCells (c.row mv) col x.cells=c'.row mv') (hle:col+sz≤37) (d:Option Nat) (rg:Nat→Option (List AV)):
 opev (.st none sz) d rg S [.ptr id 0 col,x]=some (.junk,none,S.set id (some (.rows 37 [c'.row mv']))):=by
 have hlen:(c.row mv).length=37:=rfl
 simp only [opev,h.hh]
 rw [if_pos ⟨h.ro,hc,hl⟩]
 simp only [List.getElem?_cons_zero,Option.bind_some,hlen]
 rw [if_pos hle,hr];rfl
theorem IsCl.set {c':Cl} (hm:c'.marks=c.marks):IsCl (S.set id (some (.rows 37 [c'.row mv]))) id c' mv:=
 ⟨if_pos rfl,by rw [hm];exact h.gv.keep rfl (Nat.le_refl _) fun x _ hx=>if_neg fun e=>h.ne (by rw [←e];exact hx),h.ro,h.lt,h.ne⟩
theorem IsCl.chg {c':Cl}:Chg S (S.set id (some (.rows 37 [c'.row mv]))) (ownC id mv) (ownC id mv):=⟨rfl,Nat.le_refl _,fun x _ hx=>⟨if_neg fun e=>hx (.inl e),hx⟩⟩
end
theorem s248 {p k:T} (h:IsCl S id c mv) (hz:c.z1=false):call 248 [.ptr id 0 0,.agg p.cells,.agg k.cells] S=some (.agg (c.says p k).cells,S):=by
 rw [call_calm a248 rfl (by simp) rfl]
 have h':IsCl {S with ro:=S.n} id c mv∨True:=.inr trivial
 have e1:∀d rg,opev (.ld none 3 true) d rg {S with ro:=S.n} [.ptr id 0 4]=some (.agg c.body.cells,none,{S with ro:=S.n}):=fun d rg=>by rw [opev_ld_ptr (S:={S with ro:=S.n}) h.hh,←tri];unfold Cl.row;rw [hz];rfl
 have e2:∀d rg,opev (.ld none 3 true) d rg {S with ro:=S.n} [.ptr id 0 7]=some (.agg c.wrap.cells,none,{S with ro:=S.n}):=fun d rg=>by rw [opev_ld_ptr (S:={S with ro:=S.n}) h.hh,←tri];unfold Cl.row;rw [hz];rfl
 have e3:∀d rg,opev (.ld none 3 true) d rg {S with ro:=S.n} [.ptr id 0 10]=some (.agg c.ak.cells,none,{S with ro:=S.n}):=fun d rg=>by rw [opev_ld_ptr (S:={S with ro:=S.n}) h.hh,←tri];unfold Cl.row;rw [hz];rfl
 have e4:=fun S=>@s351 S c.ak c.body p k
 simp [f248,f248b,e1,e2,e3,e4,Cl.says]
theorem s104 (h:IsCl S id c mv) (hz:c.ended=true→c.z3=false):call 104 [.ptr id 0 0] S=some (if c.ended then .tup [.agg c.session.cells,.sc (.string c.nonce),.b true] else .tup [.agg tZ.cells,.s ⟨#[]⟩,.b false],S):=by
 rw [call_calm a104 rfl (by simp) rfl]
 have e1:∀d rg,opev (.ld none 1 false) d rg {S with ro:=S.n} [.ptr id 0 2]=some (.b c.ended,none,{S with ro:=S.n}):=fun d rg=>by rw [opev_ld_ptr (S:={S with ro:=S.n}) h.hh];rfl
 have e3:∀d rg,opev (.ld none 1 false) d rg {S with ro:=S.n} [.ptr id 0 3]=some (.sc (.string c.nonce),none,{S with ro:=S.n}):=fun d rg=>by rw [opev_ld_ptr (S:={S with ro:=S.n}) h.hh];rfl
 cases he:c.ended with
 |true=>
  have hz:=hz he
  have e2:∀d rg,opev (.ld none 3 true) d rg {S with ro:=S.n} [.ptr id 0 16]=some (.agg c.session.cells,none,{S with ro:=S.n}):=fun d rg=>by rw [opev_ld_ptr (S:={S with ro:=S.n}) h.hh,←tri];unfold Cl.row;rw [hz];rfl
  rw [he]at e1;simp [f104,f104b,e1,e2,e3]
 |false=>rw [he]at e1;simp [f104,f104b,e1,tZ_zT];rfl
theorem s232 (h:IsCl S id c mv):call 232 [.ptr id 0 0] S=some (.sc (.int .i64 c.counter),S):=by
 rw [call_calm a232 rfl (by simp) rfl]
 have e1:∀d rg,opev (.ld none 1 false) d rg {S with ro:=S.n} [.ptr id 0 26]=some (.sc (.int .i64 c.counter),none,{S with ro:=S.n}):=fun d rg=>by rw [opev_ld_ptr (S:={S with ro:=S.n}) h.hh];rfl
 simp [f232,f232b,e1]
end
end Abs
namespace Abs.Rf
open Go Abs
def lookC (id:ByteArray):List (ByteArray×Int)→Option Int
 |[]=>none
 |p::l=>if p.1=id then some p.2 else lookC id l
def setC (id:ByteArray) (v:Int):List (ByteArray×Int)→List (ByteArray×Int)
 |[]=>[(id,v)]
 |p::l=>if p.1=id then (id,v)::l else p::setC id v l
def liveC (now:Int) (l:List (ByteArray×Int)):List (ByteArray×Int):=l.filter fun p=>decide (now < p.2)
theorem live_len {now:Int} {l:List (ByteArray×Int)}:(liveC now l).length≤l.length:=List.length_filter_le _ _
def entR (l:List (ByteArray×Int)):List (List AV):=l.map fun p=>[.sc (.string p.1),.sc (.int .i64 p.2)]
inductive LV (S:AS):AV→List (ByteArray×Int)→List Nat→Prop
 |nil {z:Nat}:LV S (.lst z true []) [] []
 |arr {id:Nat} {l:List (ByteArray×Int)} (h:S.heap id=some (.rows 2 (entR l))) (ro:S.ro≤id) (lt:id < S.n):LV S (.arr id 2 0 l.length none) l [id]
theorem entR_len {l:List (ByteArray×Int)}:(entR l).length=l.length:=by simp [entR]
theorem entR_get {l:List (ByteArray×Int)} {i:Nat} {p:ByteArray×Int} (h:l[i]?=some p):(entR l)[i]?=some [.sc (.string p.1),.sc (.int .i64 p.2)]:=by
 simp [entR,h]
section
variable {S S':AS} {v:AV} {l:List (ByteArray×Int)} {ids:List Nat}
theorem LV.step (h:LV S v l ids) (hh:∀j∈ids,S'.heap j=S.heap j) (hr:S'.ro=S.ro) (hn:S.n≤S'.n):LV S' v l ids:=by
 cases h with
 |nil=>exact .nil
 |arr h ro lt=>exact .arr (by rw [hh _ (by simp)];exact h) (by rw [hr];exact ro) (Nat.lt_of_lt_of_le lt hn)
theorem LV.len (h:LV S v l ids):pev .lenL [v]=some (.sc (.int .i64 l.length)):=by
 cases h<;>rfl
theorem LV.cell (h:LV S v l ids):v.isCell=true:=by cases h<;>rfl
theorem LV.cells (h:LV S v l ids):v.cells=[v]:=by cases h<;>rfl
theorem LV.at_ (h:LV S v l ids) {i:Nat} (hi:i < l.length):∃id,ids=[id]∧pev (.iaddr 2) [v,.sc (.int .i64 (i:Int))]=some (.ptr id i 0)∧S.heap id=some (.rows 2 (entR l)):=by
 cases h with
 |nil=>simp at hi
 |arr h ro lt=>exact ⟨_,rfl,by rw [pev_iaddrA (by omega) (by omega)];simp,h⟩
theorem LV.push (h:LV S v l ids) (hro:S.ro≤S.n) (p:ByteArray×Int) (hb:(l.length+1) * 24≤140737488355328):
 ∃v' S',(∀d rg,opev (.append 2 24) d rg S [v,.lst 2 true [[.sc (.string p.1),.sc (.int .i64 p.2)]]]=some (v',none,S'))∧LV S' v' (l++[p]) [S.n]∧S'.ro=S.ro∧S'.n=S.n+1∧∀j,j < S.n→j∉ids→S'.heap j=S.heap j:=by
 cases h with
 |nil=>
  refine ⟨.arr S.n 2 0 1 none,S.new (.rows 2 [[.sc (.string p.1),.sc (.int .i64 p.2)]]),?_,?_,rfl,rfl,?_⟩
  ·intro d rg
   rename_i z
   simp only [opev,rowsOf,beq_self_eq_true,Bool.true_or,if_true,decide_true,Option.bind_some,appendA,List.isEmpty_cons,Bool.false_eq_true,if_false,List.isEmpty_nil,Bool.true_and,List.length_nil,Nat.zero_add,List.nil_append,Option.map_some]
   simp
  ·exact .arr (l:=[p]) (by simp [AS.new,entR]) hro (Nat.lt_succ_self _)
  ·intro j hj _
   exact if_neg (by omega)
 |arr h ro lt=>
  rename_i id
  have hs:IsSl S id 2 (entR l):=⟨h,ro,lt⟩
  refine ⟨.arr S.n 2 0 (l.length+1) none,(S.set id none).new (.rows 2 (entR l++[[.sc (.string p.1),.sc (.int .i64 p.2)]])),?_,?_,rfl,rfl,?_⟩
  ·intro d rg
   have:=opev_app (d:=d) (rg:=rg) (bytes:=24) hs (ys:=[[.sc (.string p.1),.sc (.int .i64 p.2)]]) (by simp) (by rw [entR_len];simpa using hb)
   rw [entR_len]at this
   exact this
  ·have:=LV.arr (S:=(S.set id none).new (.rows 2 (entR l++[[.sc (.string p.1),.sc (.int .i64 p.2)]]))) (id:=S.n) (l:=l++[p]) (by simp [AS.new,AS.set,entR]) hro (Nat.lt_succ_self _)
   simpa using this
  ·intro j hj hn
   show (if j=S.n then _ else if j=id then _ else _)=_
   rw [if_neg (by omega),if_neg (by simpa using hn)]
structure IsRef (S:AS) (wid:Nat) (room:Int) (l:List (ByteArray×Int)) (ids:List Nat) (v:AV):Prop where
 w:S.heap wid=some (.rows 2 [[.sc (.int .i64 room),v]])
 lv:LV S v l ids
 ne:wid∉ids
 ro:S.ro≤wid
 lt:wid < S.n
 sr:S.ro≤S.n
structure Frm (wid:Nat) (ids:List Nat) (S S':AS):Prop where
 ro:S'.ro=S.ro
 n:S.n≤S'.n
 heap:∀j,j < S.n→j≠wid→j∉ids→S'.heap j=S.heap j
theorem opev_ldL {wid:Nat} {room:Int} {d:Option Nat} {rg:Nat→Option (List AV)} (h:IsRef S wid room l ids v):opev (.ld none 1 false) d rg S [.ptr wid 0 1]=some (v,none,S):=by
 rw [opev_ld_ptr h.w];simp
theorem opev_ldRm {wid:Nat} {room:Int} {d:Option Nat} {rg:Nat→Option (List AV)} (h:IsRef S wid room l ids v):opev (.ld none 1 false) d rg S [.ptr wid 0 0]=some (.sc (.int .i64 room),none,S):=by
 rw [opev_ld_ptr h.w];simp
def Sat (o:Option (AV×AS)) (Q:AV→AS→Prop):Prop:=∃v S',o=some (v,S')∧Q v S'
@[simp] theorem sat_some {v:AV} {S:AS} {Q:AV→AS→Prop}:Sat (some (v,S)) Q↔Q v S:=by
 constructor
 ·rintro ⟨_,_,h,hq⟩;cases h;exact hq
 ·intro h;exact ⟨_,_,rfl,h⟩
theorem live_snoc {now:Int} {l:List (ByteArray×Int)} {i:Nat} {p:ByteArray×Int} (h:l[i]?=some p):liveC now (l.take (i+1))=if now < p.2 then liveC now (l.take i)++[p] else liveC now (l.take i):=by
 rw [List.take_add_one,h]
 unfold liveC
 rw [List.filter_append]
 by_cases hp:now < p.2
 ·simp [hp]
 ·simp [hp]
theorem IsRef.step {wid:Nat} {room:Int} (h:IsRef S wid room l ids v) (hw:S'.heap wid=S.heap wid) (hh:∀j∈ids,S'.heap j=S.heap j) (hr:S'.ro=S.ro) (hn:S.n≤S'.n):IsRef S' wid room l ids v:=
 ⟨by rw [hw];exact h.w,h.lv.step hh hr hn,h.ne,by rw [hr];exact h.ro,Nat.lt_of_lt_of_le h.lt hn,by rw [hr];exact Nat.le_trans h.sr hn⟩
theorem LV.lt (h:LV S v l ids):∀j∈ids,j < S.n:=by
 cases h with
 |nil=>intro j hj;cases hj
 |arr h ro lt=>intro j hj;simp at hj;subst hj;exact lt
theorem refPrune_loop {wid:Nat} {room now:Int} {ks:List Kn} {Q:AV→AS→Prop} {S0:AS} (hb:l.length≤1000)
 (hk:∀e S u ms,e 0=.ptr wid 0 0→e 5=u→IsRef S wid room l ids v→LV S u (liveC now l) ms→(∀j∈ms,j∉ids∧j≠wid∧S0.n≤j)→S.ro=S0.ro→S0.n≤S.n→(∀j,j < S0.n→S.heap j=S0.heap j)→Sat (fin [.tmp 4] (unw AA (some (.exit 0,st 51 e (fun _=>none) S)) ks)) Q):
 ∀(n i:Nat) (e:Nat→AV) (S:AS) (u:AV) (ms:List Nat) (tm:List Nat),n+i=l.length→tm=[9,10,11,12,13,14,15,16,17,18,19,20,21,22,23,24,25,26,27,28,29,30,31,32,33,34,35,36,37]→
  e 0=.ptr wid 0 0→e 1=.sc (.int .i64 now)→e 5=u→e 6=.sc (.int .i64 i)→IsRef S wid room l ids v→LV S u (liveC now (l.take i)) ms→(∀j∈ms,j∉ids∧j≠wid∧S0.n≤j)→S.ro=S0.ro→S0.n≤S.n→(∀j,j < S0.n→S.heap j=S0.heap j)→
  Sat (fin [.tmp 4] (exec AA (.loop tm [] f55_l0) (st 51 e (fun _=>none) S) ks)) Q:=by
 intro n
 induction n with
 |zero=>
  intro i e S u ms tm hn htm h0 h1 h5 h6 hR hU hms hro hnn hfr
  rw [exec_loop]
  generalize hkk:Kn.loop tm [] f55_l0::ks=kk
  have hc:¬(i:Int) < l.length:=by omega
  rw [List.take_of_length_le (by omega)]at hU
  simp [f55_l0,put_apply,htm,h0,h6,opev_ldL hR,hR.lv.len,hc]
  rw [←hkk];simp
  exact hk _ _ u ms (by simp [put_apply,h0]) (by simp [put_apply,h5]) hR hU hms hro hnn hfr
 |succ n ih=>
  intro i e S u ms tm hn htm h0 h1 h5 h6 hR hU hms hro hnn hfr
  rw [exec_loop]
  generalize hkk:Kn.loop tm [] f55_l0::ks=kk
  have hc:(i:Int) < l.length:=by omega
  have hlt:i < l.length:=by omega
  obtain ⟨p,hp⟩:∃p,l[i]?=some p:=⟨l[i],by simp [hlt]⟩
  obtain ⟨id,hid,hat,hh⟩:=hR.lv.at_ hlt
  have w1:IntKind.i64.wrap ((i:Int)+1)=((i+1:Nat):Int):=w64 (by omega)
  by_cases hlive:now < p.2
  ·obtain ⟨u',S',ha,hU',hro',hn',hh'⟩:=hU.push hR.sr p (by
    have:(liveC now (l.take i)).length≤i:=Nat.le_trans live_len (by simp;omega)
    omega)
   have hR':=hR.step (S':=S') (hh' wid hR.lt (fun h=>(hms wid h).2.1 rfl)) (fun j hj=>hh' j (hR.lv.lt j hj) (fun h=>(hms j h).1 hj)) hro' (by omega)
   simp [f55_l0,put_apply,htm,h0,h1,h5,h6,opev_ldL hR,hR.lv.len,hc,hat,opev_ld_ptr hh,entR_get hp,hlive,fillR,ha,w1]
   rw [←hkk,unw_loop]
   refine ih (i+1) _ S' u' [S.n] tm (by omega) htm (by simp [put_apply,htm,h0]) (by simp [put_apply,htm,h1]) (by simp [put_apply]) (by simp [put_apply]) hR' (by rw [live_snoc hp,if_pos hlive];exact hU') ?_ (hro'.trans hro) (by omega) ?_
   ·intro j hj
    simp at hj;subst hj
    exact ⟨fun h=>by have:=hR.lv.lt _ h;omega,by have:=hR.lt;omega,hnn⟩
   ·intro j hj
    rw [hh' j (by omega) (fun h=>by have:=(hms j h).2.2;omega)]
    exact hfr j hj
  ·simp [f55_l0,put_apply,htm,h0,h1,h5,h6,opev_ldL hR,hR.lv.len,hc,hat,opev_ld_ptr hh,entR_get hp,hlive,fillR,w1]
   rw [←hkk,unw_loop]
   exact ih (i+1) _ S u ms tm (by omega) htm (by simp [put_apply,htm,h0]) (by simp [put_apply,htm,h1]) (by simp [put_apply,htm,h5]) (by simp [put_apply]) hR (by rw [live_snoc hp,if_neg hlive];exact hU) hms hro hnn hfr
theorem refPrune_spec {wid:Nat} {room now:Int} (hR:IsRef S wid room l ids v) (hb:l.length≤1000):
 ∃S' ids' v',call 55 [.ptr wid 0 0,.sc (.int .i64 now)] S=some (.sc (.int .i64 (IntKind.i64.wrap (l.length - (liveC now l).length))),S')∧IsRef S' wid room (liveC now l) ids' v'∧Frm wid ids S S'∧∀j∈ids',S.n≤j:=by
 have key:Sat (call 55 [.ptr wid 0 0,.sc (.int .i64 now)] S) fun r S'=>r=.sc (.int .i64 (IntKind.i64.wrap (l.length - (liveC now l).length)))∧∃ids' v',IsRef S' wid room (liveC now l) ids' v'∧Frm wid ids S S'∧∀j∈ids',S.n≤j:=by
  rw [call_keep a55 (by simp) rfl]
  simp only [f55]
  simp [f55b,put_apply,fillR]
  refine refPrune_loop (ids:=ids) (v:=v) (l:=l) (room:=room) (now:=now) (S0:=S) hb ?_ l.length 0 _ S (.lst 2 true []) [] _ (by omega) rfl (by simp [put_apply]) (by simp [put_apply]) (by simp [put_apply]) (by simp [put_apply]) hR .nil (fun _ h=>by cases h) rfl (Nat.le_refl _) (fun _ _=>rfl)
  intro e S2 u ms e0 e5 hR2 hU hms hro hn hfr
  have hst:∀d rg,opev (.st none 1) d rg S2 [.ptr wid 0 1,u]=some (.junk,none,S2.set wid (some (.rows 2 [[.sc (.int .i64 room),u]]))):=by
   intro d rg
   simp only [opev,hR2.ro,hU.cells,List.all_cons,hU.cell,List.all_nil,Bool.and_self,List.length_singleton,and_self,if_true,hR2.w]
   simp [setCells]
  simp [put_apply,e0,e5,opev_ldL hR2,hR2.lv.len,hU.len,hst,retRs,retR]
  refine ⟨ms,⟨u,⟨by simp [AS.set],hU.step ?_ rfl (Nat.le_refl _),fun h=>(hms _ h).2.1 rfl,hR2.ro,hR2.lt,hR2.sr⟩⟩,⟨hro,hn,?_⟩,fun j hj=>(hms j hj).2.2⟩
  ·intro j hj
   exact if_neg (hms j hj).2.1
  ·intro j hj hjw hji
   show (if j=wid then _ else _)=_
   rw [if_neg hjw];exact hfr j hj
 obtain ⟨r,S',h1,rfl,ids',v',h2,h3,h4⟩:=key
 exact ⟨S',ids',v',h1,h2,h3,h4⟩
theorem entR_nil {a:List (ByteArray×Int)}:(entR a).isEmpty=a.isEmpty:=by cases a<;>rfl
theorem app_new {x:AV} {ys:List (ByteArray×Int)} (hro:S.ro≤S.n) (hx:rowsOf 2 S x=some (entR ys)) (hb:ys.length * 24≤140737488355328):
 ∃S',(∀d rg,opev (.append 2 24) d rg S [.lst 2 true [],x]=some (.arr S.n 2 0 ys.length none,none,S'))∧LV S' (.arr S.n 2 0 ys.length none) ys [S.n]∧S'.ro=S.ro∧S'.n=S.n+1∧∀j,j < S.n→S'.heap j=S.heap j:=by
 refine ⟨S.new (.rows 2 (entR ys)),?_,.arr (by simp [AS.new]) hro (Nat.lt_succ_self _),rfl,rfl,fun j hj=>if_neg (by omega)⟩
 intro d rg
 simp only [opev,hx,Option.bind_some]
 unfold appendA
 rw [entR_nil]
 cases ys with
 |nil=>rfl
 |cons y ys=>
  simp only [List.isEmpty_cons,Bool.false_eq_true,if_false,List.isEmpty_nil,Bool.true_or,Bool.true_and,List.length_nil,Nat.zero_add,List.nil_append,decide_eq_true_eq]
  rw [if_pos (by rw [entR_len];exact hb),entR_len]
  rfl
theorem app_more {id:Nat} {x:AV} {ys:List (ByteArray×Int)} (h:LV S (.arr id 2 0 l.length none) l [id]) (hro:S.ro≤S.n) (hx:rowsOf 2 S x=some (entR ys)) (hb:(l.length+ys.length) * 24≤140737488355328):
 ∃v' S' ids',(∀d rg,opev (.append 2 24) d rg S [.arr id 2 0 l.length none,x]=some (v',none,S'))∧LV S' v' (l++ys) ids'∧S'.ro=S.ro∧S.n≤S'.n∧(∀j,j < S.n→j≠id→S'.heap j=S.heap j)∧∀j∈ids',j=id∨S.n≤j:=by
 cases ys with
 |nil=>
  refine ⟨_,S,[id],?_,by simpa using h,rfl,Nat.le_refl _,fun _ _ _=>rfl,fun j hj=>.inl (by simpa using hj)⟩
  intro d rg
  simp only [opev,hx,Option.bind_some]
  unfold appendA
  rfl
 |cons y ys=>
  have hs:S.heap id=some (.rows 2 (entR l))∧S.ro≤id∧id < S.n:=by
   generalize hv:AV.arr id 2 0 l.length none=v at h
   cases h with
   |arr h ro lt=>cases hv;exact ⟨h,ro,lt⟩
  obtain ⟨h1,h2,h3⟩:=hs
  refine ⟨.arr S.n 2 0 (l++y::ys).length none,(S.set id none).new (.rows 2 (entR (l++y::ys))),[S.n],?_,.arr (by simp [AS.new,AS.set]) hro (Nat.lt_succ_self _),rfl,Nat.le_succ _,?_,fun j hj=>.inr (by simp at hj;omega)⟩
  ·intro d rg
   simp only [opev,hx,Option.bind_some]
   unfold appendA
   rw [entR_nil]
   simp only [List.isEmpty_cons,Bool.false_eq_true,if_false,h1,entR_len,List.length_cons]at hb ⊢
   rw [if_neg (by simp;omega)]
   rw [if_neg (by simp),if_pos ⟨trivial,hb⟩,List.take_of_length_le (by rw [entR_len];exact Nat.le_refl _)]
   simp [entR]
  ·intro j hj hne
   show (if j=S.n then _ else if j=id then _ else _)=_
   rw [if_neg (by omega),if_neg hne]
theorem LV.front (h:LV S v l ids) {at_:Nat} (ha:at_≤l.length):∃x,pev (.sliceL 2 false true false) [v,.sc (.int .i64 (at_:Int))]=some x∧∀S',(∀j∈ids,S'.heap j=S.heap j)→rowsOf 2 S' x=some (entR (l.take at_)):=by
 cases h with
 |nil=>
  rename_i z
  have:at_=0:=by simpa using ha
  subst this
  exact ⟨.lst 2 true [],by simp [pev,bound],fun S' _=>by simp [rowsOf,entR]⟩
 |arr h ro lt=>
  rename_i id
  refine ⟨.arr id 2 0 at_ none,by simp [pev,bound,ha],fun S' hs=>?_⟩
  simp only [rowsOf,if_true,AS.slice,Nat.zero_le,hs id (by simp),h]
  simp [entR,ha]
theorem LV.back (h:LV S v l ids) {at_:Nat} (ha:at_≤l.length):∃x,pev (.sliceL 2 true false false) [v,.sc (.int .i64 (at_:Int))]=some x∧∀S',(∀j∈ids,S'.heap j=S.heap j)→rowsOf 2 S' x=some (entR (l.drop at_)):=by
 cases h with
 |nil=>
  rename_i z
  have:at_=0:=by simpa using ha
  subst this
  exact ⟨.lst 2 true [],by simp [pev,bound],fun S' _=>by simp [rowsOf,entR]⟩
 |arr h ro lt=>
  rename_i id
  refine ⟨.arr id 2 at_ (l.length - at_) none,by simp [pev,bound,ha],fun S' hs=>?_⟩
  simp only [rowsOf,if_true,AS.slice,Nat.zero_le,hs id (by simp),h]
  have:at_+(l.length - at_)≤(entR l).length:=by rw [entR_len];omega
  simp only [this,and_self,if_true]
  rw [List.take_of_length_le (by simp [entR])]
  simp [entR]
def atL (id:ByteArray):List (ByteArray×Int)→Nat→Nat→Nat
 |[],_,a=>a
 |p::l,i,a=>atL id l (i+1) (if sLt p.1 id then i+1 else a)
theorem atL_le {id:ByteArray}:∀{l:List (ByteArray×Int)} {i a:Nat},a≤i→atL id l i a≤i+l.length
 |[],i,a,h=>by simpa [atL] using h
 |p::l,i,a,h=>by
  have:=@atL_le id l (i+1) (if sLt p.1 id then i+1 else a) (by split<;>omega)
  simp only [atL,List.length_cons];omega
theorem look_skip {id:ByteArray} {p:ByteArray×Int}:∀{D R:List (ByteArray×Int)},lookC id D=none→p.1=id→lookC id (D++p::R)=some p.2∧∀x,setC id x (D++p::R)=D++(id,x)::R
 |[],R,_,h=>by simp [lookC,setC,h]
 |q::D,R,hD,h=>by
  simp only [lookC]at hD
  split at hD
  ·cases hD
  ·rename_i hq
   obtain ⟨h1,h2⟩:=look_skip (R:=R) hD h
   simp only [List.cons_append,lookC,hq,if_false,setC]
   exact ⟨h1,fun x=>by rw [h2 x]⟩
theorem look_none_app {id:ByteArray}:∀{D R:List (ByteArray×Int)},lookC id D=none→lookC id (D++R)=lookC id R
 |[],R,_=>rfl
 |q::D,R,hD=>by
  simp only [lookC]at hD
  split at hD
  ·cases hD
  ·rename_i hq
   simp only [List.cons_append,lookC,hq,if_false]
   exact look_none_app hD
theorem refSeen_loop {wid:Nat} {room t:Int} {id:ByteArray} {ks:List Kn} {Q:AV→AS→Prop} (hb:l.length≤1000) (hR:IsRef S wid room l ids v)
 (hk1:∀old e S2,lookC id l=some old→e 8=.sc (.int .i64 9)→IsRef S2 wid room (setC id (max old t) l) ids v→S2.ro=S.ro→S2.n=S.n→(∀j,j∉ids→S2.heap j=S.heap j)→Sat (fin [.tmp 8] (unw AA (some (.ret,st 100 e (fun _=>none) S2)) ks)) Q)
 (hk0:∀e,lookC id l=none→e 0=.ptr wid 0 0→e 1=.sc (.string id)→e 2=.sc (.int .i64 t)→e 9=.sc (.int .i64 (atL id l 0 0:Nat))→Sat (fin [.tmp 8] (unw AA (some (.exit 0,st 100 e (fun _=>none) S)) ks)) Q):
 ∀(R D:List (ByteArray×Int)) (a:Nat) (e:Nat→AV) (tm:List Nat),l=D++R→tm=[8,18,19,20,21,22,23,24,25,26,27,28,29,30,31,32,33,34,35,36,37,38,39,40,41,42,43,44,45,46,47,48,49,50,51,52,53,54,55,56,57,58,59,60,61,62,63,64,65]→
  lookC id D=none→atL id l 0 0=atL id R D.length a→e 0=.ptr wid 0 0→e 1=.sc (.string id)→e 2=.sc (.int .i64 t)→e 9=.sc (.int .i64 (a:Int))→e 10=.sc (.int .i64 D.length)→
  Sat (fin [.tmp 8] (exec AA (.loop tm [] f56_l0) (st 100 e (fun _=>none) S) ks)) Q:=by
 intro R
 induction R with
 |nil=>
  intro D a e tm hl htm hD ha h0 h1 h2 h9 h10
  rw [exec_loop]
  generalize hkk:Kn.loop tm [] f56_l0::ks=kk
  rw [List.append_nil]at hl
  subst hl
  simp [f56_l0,put_apply,htm,h0,h10,opev_ldL hR,hR.lv.len]
  rw [←hkk];simp
  exact hk0 _ hD (by simp [put_apply,h0]) (by simp [put_apply,h1]) (by simp [put_apply,h2]) (by rw [ha];simp [put_apply,h9,atL])
 |cons p R ih=>
  intro D a e tm hl htm hD ha h0 h1 h2 h9 h10
  rw [exec_loop]
  generalize hkk:Kn.loop tm [] f56_l0::ks=kk
  have hlen:l.length=D.length+(R.length+1):=by rw [hl];simp
  have hlt:D.length < l.length:=by omega
  have hc:(D.length:Int) < (l.length:Int):=by omega
  have hp:l[D.length]?=some p:=by rw [hl];simp
  obtain ⟨q,hid,hat,hh⟩:=hR.lv.at_ hlt
  have w1:IntKind.i64.wrap ((D.length:Int)+1)=((D.length+1:Nat):Int):=w64 (by omega)
  by_cases hpi:p.1=id
  ·obtain ⟨k1,k2⟩:=look_skip (R:=R) hD hpi
   have hro:=hR.lv
   have hqr:S.ro≤q:=by
    rw [hid]at hro
    generalize hv:v=u at hro
    cases hro with
    |arr h ro lt=>exact ro
   have hst:∀d rg,opev (.st none 1) d rg S [.ptr q D.length 1,.sc (.int .i64 (max p.2 t))]=some (.junk,none,S.set q (some (.rows 2 (entR (setC id (max p.2 t) l))))):=by
    intro d rg
    simp only [opev,hqr,cells_sc,List.all_cons,isCell_sc,List.all_nil,Bool.and_self,List.length_singleton,and_self,if_true,hh,entR_get hp,Option.bind_some]
    have hset:(entR l).set D.length (setCells [.sc (.string p.1),.sc (.int .i64 p.2)] 1 [.sc (.int .i64 (max p.2 t))])=entR (setC id (max p.2 t) l):=by
     rw [hl,k2]
     simp [entR,setCells,hpi]
    rw [hset]
    simp
   simp [f56_l0,put_apply,htm,h0,h1,h2,h10,opev_ldL hR,hR.lv.len,hc,hat,opev_ld_ptr hh,entR_get hp,hpi,hst]
   rw [←hkk];simp
   have hqids:∀j,j∉ids→j≠q:=fun j hj h=>hj (by rw [hid,h];simp)
   have hsl:(setC id (max p.2 t) l).length=l.length:=by rw [hl,k2];simp
   refine hk1 p.2 _ _ (by rw [hl];exact k1) (by simp [put_apply]) ⟨by show (if wid=q then _ else _)=_;rw [if_neg (hqids wid hR.ne)];exact hR.w,?_,hR.ne,hR.ro,hR.lt,hR.sr⟩ rfl rfl (fun j hj=>if_neg (hqids j hj))
   have hlv:=hR.lv
   rw [hid]at hlv ⊢
   generalize hv:v=u at hlv ⊢
   cases hlv with
   |arr h ro lt=>
    rw [←hsl]
    exact .arr (by simp [AS.set]) ro lt
  ·have hD':lookC id (D++[p])=none:=by rw [look_none_app hD];simp [lookC,hpi]
   by_cases hless:sLt p.1 id=true
   ·simp [f56_l0,put_apply,htm,h0,h1,h2,h10,opev_ldL hR,hR.lv.len,hc,hat,opev_ld_ptr hh,entR_get hp,hpi,hless,w1]
    rw [←hkk,unw_loop]
    exact ih (D++[p]) (D.length+1) _ tm (by rw [hl];simp) htm hD' (by rw [ha];simp [atL,hless]) (by simp [put_apply,htm,h0]) (by simp [put_apply,htm,h1]) (by simp [put_apply,htm,h2]) (by simp [put_apply]) (by simp [put_apply])
   ·have hless:sLt p.1 id=false:=by simpa using hless
    simp [f56_l0,put_apply,htm,h0,h1,h2,h10,opev_ldL hR,hR.lv.len,hc,hat,opev_ld_ptr hh,entR_get hp,hpi,hless,w1]
    rw [←hkk,unw_loop]
    exact ih (D++[p]) a _ tm (by rw [hl];simp) htm hD' (by rw [ha];simp [atL,hless]) (by simp [put_apply,htm,h0]) (by simp [put_apply,htm,h1]) (by simp [put_apply,htm,h2]) (by simp [put_apply,htm,h9]) (by simp [put_apply])
theorem LV.one {id:Nat} (h:LV S v l [id]):v=.arr id 2 0 l.length none:=by
 cases h;rfl
theorem IsRef.store {wid:Nat} {room:Int} (h:IsRef S wid room l ids v) {u:AV} {l':List (ByteArray×Int)} {ms:List Nat} (hU:LV S u l' ms) (hms:wid∉ms):
 (∀d rg,opev (.st none 1) d rg S [.ptr wid 0 1,u]=some (.junk,none,S.set wid (some (.rows 2 [[.sc (.int .i64 room),u]]))))∧IsRef (S.set wid (some (.rows 2 [[.sc (.int .i64 room),u]]))) wid room l' ms u:=by
 constructor
 ·intro d rg
  simp only [opev,h.ro,hU.cells,List.all_cons,hU.cell,List.all_nil,Bool.and_self,List.length_singleton,and_self,if_true,h.w]
  simp [setCells]
 ·refine ⟨by simp [AS.set],hU.step ?_ rfl (Nat.le_refl _),hms,h.ro,h.lt,h.sr⟩
  intro j hj
  refine if_neg ?_
  rintro rfl
  exact hms hj
def insR (id:ByteArray) (t:Int) (l:List (ByteArray×Int)):List (ByteArray×Int):=(l.take (atL id l 0 0)++[(id,t)])++l.drop (atL id l 0 0)
def seenR (room:Int) (l:List (ByteArray×Int)) (id:ByteArray) (t now:Int):Int×List (ByteArray×Int):=
 if t≤now then (5,l) else
 match lookC id (liveC now l) with
 |some old=>(9,setC id (max old t) (liveC now l))
 |none=>if room≤(liveC now l).length then (10,liveC now l) else (0,insR id t (liveC now l))
theorem Frm.trans {wid:Nat} {ids ids1:List Nat} {S1 S2:AS} (h:Frm wid ids S S1) (h2:Frm wid ids1 S1 S2) (hi:∀j∈ids1,S.n≤j):Frm wid ids S S2:=
 ⟨h2.ro.trans h.ro,Nat.le_trans h.n h2.n,fun j hj hw hn=>by
  rw [h2.heap j (Nat.lt_of_lt_of_le hj h.n) hw (fun hh=>by have:=hi j hh;omega),h.heap j hj hw hn]⟩
theorem refSeen_spec {wid:Nat} {room t now:Int} {id:ByteArray} (hR:IsRef S wid room l ids v) (hb:l.length≤1000):
 ∃S' ids' v',call 56 [.ptr wid 0 0,.sc (.string id),.sc (.int .i64 t),.sc (.int .i64 now)] S=some (.sc (.int .i64 (seenR room l id t now).1),S')∧IsRef S' wid room (seenR room l id t now).2 ids' v'∧Frm wid ids S S'∧∀j∈ids',j∈ids∨S.n≤j:=by
 have key:Sat (call 56 [.ptr wid 0 0,.sc (.string id),.sc (.int .i64 t),.sc (.int .i64 now)] S) fun r S'=>r=.sc (.int .i64 (seenR room l id t now).1)∧∃ids' v',IsRef S' wid room (seenR room l id t now).2 ids' v'∧Frm wid ids S S'∧∀j∈ids',j∈ids∨S.n≤j:=by
  rw [call_keep a56 (by simp) rfl]
  simp only [f56]
  by_cases ht:t≤now
  ·simp [f56b,put_apply,ht,retRs,retR,seenR]
   exact ⟨ids,⟨v,hR⟩,⟨rfl,Nat.le_refl _,fun _ _ _ _=>rfl⟩,fun j hj=>.inl hj⟩
  ·obtain ⟨S1,ids1,v1,p1,hR1,hF1,hi1⟩:=refPrune_spec (now:=now) hR hb
   simp [f56b,put_apply,ht,p1]
   have hkl:(liveC now l).length≤1000:=Nat.le_trans live_len hb
   unfold seenR
   rw [if_neg ht]
   generalize liveC now l=k at hR1 hkl
   have hi1':∀j∈ids1,S.n≤j:=hi1
   refine refSeen_loop (ids:=ids1) (v:=v1) (l:=k) (S:=S1) (room:=room) (t:=t) (id:=id) hkl hR1 ?_ ?_ k [] 0 _ _ rfl rfl rfl rfl (by simp [put_apply]) (by simp [put_apply]) (by simp [put_apply]) (by simp [put_apply]) (by simp [put_apply])
   ·intro old e S2 hl h8 hR2 hro hn hh
    simp [h8,retRs,retR,hl]
    refine ⟨ids1,⟨v1,hR2⟩,hF1.trans ⟨hro,Nat.le_of_eq hn.symm,fun j _ _ hj=>hh j hj⟩ hi1,fun j hj=>.inr (hi1 j hj)⟩
   ·intro e hl h0 h1 h2 h9
    have hat:atL id k 0 0≤k.length:=by have:=@atL_le id k 0 0 (Nat.le_refl _);omega
    by_cases hroom:room≤k.length
    ·simp [put_apply,h0,opev_ldL hR1,opev_ldRm hR1,hR1.lv.len,hroom,retRs,retR,hl]
     exact ⟨ids1,⟨v1,hR1⟩,hF1,fun j hj=>.inr (hi1 j hj)⟩
    ·rw [hl]
     simp only [if_neg hroom]
     generalize hins:insR id t k=k'
     unfold insR at hins
     generalize atL id k 0 0=a at hat h9 hins
     obtain ⟨x1,f1,f2⟩:=hR1.lv.front hat
     obtain ⟨x2,b1,b2⟩:=hR1.lv.back hat
     have f3:=f2 S1 (fun _ _=>rfl)
     have hya:(k.take a).length≤1000:=by simp;omega
     generalize k.take a=ya at f3 hins hya
     obtain ⟨S2,a1,a2,a3,a4,a5⟩:=app_new (S:=S1) (x:=x1) (ys:=ya) hR1.sr f3 (by omega)
     obtain ⟨v3,S3,c1,c2,c3,c4,c5⟩:=a2.push (by have:=hR1.sr;omega) (id,t) (by omega)
     have hv3:=c2.one
     subst hv3
     have hyb:(ya++[(id,t)]).length≤1001:=by simp;omega
     generalize ya++[(id,t)]=yb at c1 c2 hyb hins
     have g3:∀j,j < S1.n→S3.heap j=S1.heap j:=fun j hj=>by
      rw [c5 j (by omega) (by simp;omega),a5 j hj]
     have hR3:IsRef S3 wid room k ids1 v1:=hR1.step (g3 _ hR1.lt) (fun j hj=>g3 j (hR1.lv.lt j hj)) (by rw [c3,a3]) (by omega)
     obtain ⟨v4,S4,ids4,d1,d2,d3,d4,d5,d6⟩:=app_more c2 (x:=x2) (ys:=k.drop a) (by have:=hR1.sr;omega) (b2 S3 (fun j hj=>g3 j (hR1.lv.lt j hj))) (by simp;omega)
     have g4:∀j,j < S1.n→S4.heap j=S1.heap j:=fun j hj=>by
      rw [d5 j (by omega) (by omega),g3 j hj]
     have hR4:IsRef S4 wid room k ids1 v1:=hR1.step (g4 _ hR1.lt) (fun j hj=>g4 j (hR1.lv.lt j hj)) (by rw [d3,c3,a3]) (by omega)
     have hlt:=hR1.lt
     obtain ⟨s1,s2⟩:=hR4.store d2 (fun h=>by rcases d6 _ h with h|h<;>omega)
     rw [hins]at s2
     simp [put_apply,h0,h1,h2,h9,opev_ldL hR1,opev_ldRm hR1,hR1.lv.len,hroom,f1,a1,fillR,fillA,c1,opev_ldL hR3,b1,d1,s1,retRs,retR]
     refine ⟨ids4,⟨v4,s2⟩,hF1.trans (ids1:=ids1) ⟨by show S4.ro=_;rw [d3,c3,a3],by show S1.n≤S4.n;omega,fun j hj hw _=>?_⟩ hi1,fun j hj=>.inr ?_⟩
     ·show (if j=wid then _ else _)=_
      rw [if_neg hw,g4 j hj]
     ·have:=hF1.n
      rcases d6 j hj with h|h<;>omega
 obtain ⟨r,S',h1,rfl,ids',v',h2,h3,h4⟩:=key
 exact ⟨S',ids',v',h1,h2,h3,h4⟩
theorem newW_spec {room:Int} (hn:S.ro≤S.n):call 54 [.sc (.int .i64 room)] S=some (.ptr S.n 0 0,S.new (.rows 2 [[.sc (.int .i64 (max room 0)),.lst 0 true []]]))∧
 IsRef (S.new (.rows 2 [[.sc (.int .i64 (max room 0)),.lst 0 true []]])) S.n (max room 0) [] [] (.lst 0 true []):=by
 constructor
 ·rw [call_keep a54 (by simp) rfl]
  by_cases h:room < 0
  ·have:max room 0=0:=by omega
   simp [f54,f54b,put_apply,retRs,retR,opev,fillA,AS.new,h,this]
  ·have:max room 0=room:=by omega
   simp [f54,f54b,put_apply,retRs,retR,opev,fillA,AS.new,h,this]
 ·exact ⟨by simp [AS.new],.nil,by simp,hn,Nat.lt_succ_self _,Nat.le_succ_of_le hn⟩
def ownR (wid:Nat) (ids:List Nat) (x:Nat):Prop:=x=wid∨x∈ids
theorem IsRef.lts {wid:Nat} {room:Int} (h:IsRef S wid room l ids v) {x:Nat} (hx:ownR wid ids x):x < S.n:=by
 rcases hx with rfl|hx
 ·exact h.lt
 ·exact h.lv.lt x hx
theorem IsRef.keep {wid:Nat} {room:Int} (h:IsRef S wid room l ids v) {S':AS} (hr:S'.ro=S.ro) (hn:S.n≤S'.n) (hh:∀x,x < S.n→ownR wid ids x→S'.heap x=S.heap x):IsRef S' wid room l ids v:=
 h.step (hh wid h.lt (.inl rfl)) (fun j hj=>hh j (h.lv.lt j hj) (.inr hj)) hr hn
theorem cSeen {wid:Nat} {room t now:Int} {id:ByteArray} (hR:IsRef S wid room l ids v) (hb:l.length≤1000):
 ∃S' ids' v',call 56 [.ptr wid 0 0,.sc (.string id),.sc (.int .i64 t),.sc (.int .i64 now)] S=some (.sc (.int .i64 (seenR room l id t now).1),S')∧IsRef S' wid room (seenR room l id t now).2 ids' v'∧Chg S S' (ownR wid ids) (ownR wid ids'):=by
 obtain ⟨S',ids',v',h1,h2,h3,h4⟩:=refSeen_spec (t:=t) (now:=now) (id:=id) hR hb
 refine ⟨S',ids',v',h1,h2,h3.ro,h3.n,fun x hx hn=>⟨h3.heap x hx (fun e=>hn (.inl e)) (fun e=>hn (.inr e)),?_⟩⟩
 rintro (e|e)
 ·exact hn (.inl e)
 ·rcases h4 x e with e|e
  ·exact hn (.inr e)
  ·omega
theorem cNew {room:Int} (hn:S.ro≤S.n):∃S',call 54 [.sc (.int .i64 room)] S=some (.ptr S.n 0 0,S')∧IsRef S' S.n (max room 0) [] [] (.lst 0 true [])∧Chg S S' (fun _=>False) (ownR S.n []):=by
 obtain ⟨h1,h2⟩:=newW_spec (S:=S) (room:=room) hn
 refine ⟨_,h1,h2,rfl,Nat.le_succ _,fun x hx _=>⟨if_neg (by omega),?_⟩⟩
 rintro (e|e)
 ·omega
 ·cases e
theorem seenR_len {room t now:Int} {id:ByteArray}:(seenR room l id t now).2.length≤l.length+1:=by
 have hl:∀k:List (ByteArray×Int),∀x,(lookC id k).isSome→(setC id x k).length=k.length:=by
  intro k
  induction k with
  |nil=>intro x h;cases h
  |cons p k ih=>
   intro x h
   unfold setC
   by_cases hp:p.1=id
   ·rw [if_pos hp];rfl
   ·rw [if_neg hp,List.length_cons,List.length_cons,ih x]
    unfold lookC at h;rw [if_neg hp]at h;exact h
 have hv:(liveC now l).length≤l.length:=live_len
 unfold seenR
 split
 ·simp
 ·cases hk:lookC id (liveC now l) with
  |some old=>
   show (setC id (max old t) (liveC now l)).length≤_
   rw [hl _ _ (by rw [hk];rfl)];omega
  |none=>
   show (if room≤(liveC now l).length then ((10:Int),liveC now l) else (0,insR id t (liveC now l))).2.length≤_
   split
   ·show (liveC now l).length≤_;omega
   ·show (insR id t (liveC now l)).length≤_
    unfold insR
    simp
    omega
end
end Abs.Rf
