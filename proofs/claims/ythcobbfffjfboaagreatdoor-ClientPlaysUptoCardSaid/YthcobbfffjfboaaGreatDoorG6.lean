/- The document's KDC in memory: its parts. -/
import Derived.Test.YthcobbfffjfboaaGreatDoorG5
import Derived.Test.YthcobbfffjfboaaGreatDoorG4
set_option linter.unusedVariables false
set_option linter.unusedSimpArgs false
set_option linter.unusedSectionVars false
namespace Abs
open Go
section
variable {x:Tlk} {dv:AV}
@[simp] theorem Tlk.len:(x.cells dv).length=29:=rfl
theorem Tlk.cell (h:dv.isCell=true):(x.cells dv).all AV.isCell=true:=by unfold Tlk.cells;simp [h]
@[simp] theorem Tlk.t_all:List.take 29 (x.cells dv)=x.cells dv:=rfl
@[simp] theorem Tlk.t_ak:List.take 3 (x.cells dv)=x.ak.cells:=by rw [cells_T];rfl
@[simp] theorem Tlk.t_body:List.take 3 (List.drop 3 (x.cells dv))=x.body.cells:=by rw [cells_T];rfl
@[simp] theorem Tlk.t_c:List.take 7 (List.drop 6 (x.cells dv))=ckX x.c dv:=rfl
@[simp] theorem Tlk.t_client:List.take 1 (List.drop 6 (x.cells dv))=[.sc (.string x.c.client)]:=rfl
@[simp] theorem Tlk.t_nonce:List.take 1 (List.drop 7 (x.cells dv))=[.sc (.string x.c.nonce)]:=rfl
@[simp] theorem Tlk.t_done:List.take 1 (List.drop 8 (x.cells dv))=[dv]:=rfl
@[simp] theorem Tlk.t_secret:List.take 3 (List.drop 9 (x.cells dv))=x.c.secret.cells:=by rw [cells_T];rfl
@[simp] theorem Tlk.t_key:List.take 3 (List.drop 14 (x.cells dv))=x.u.key.cells:=by rw [cells_T];rfl
@[simp] theorem Tlk.t_set:List.take 1 (List.drop 17 (x.cells dv))=[lstS x.u.set]:=rfl
@[simp] theorem Tlk.t_seed:List.take 3 (List.drop 18 (x.cells dv))=x.u.seed.cells:=by rw [cells_T];rfl
@[simp] theorem Tlk.t_tok:List.take 6 (List.drop 21 (x.cells dv))=x.u.tok.cells:=rfl
@[simp] theorem Tlk.t_now:List.take 1 (List.drop 28 (x.cells dv))=[.sc (.int .i64 x.now)]:=rfl
@[simp] theorem Tlk.t_now':List.drop 28 (x.cells dv)=[.sc (.int .i64 x.now)]:=rfl
@[simp] theorem Tlk.s_secret {s:T}:List.take 9 (x.cells dv)++(s.cells++List.drop 12 (x.cells dv))=({x with c:={x.c with secret:=s}}:Tlk).cells dv:=by rw [cells_T];rfl
@[simp] theorem Tlk.s_upto {n:Int}:List.take 12 (x.cells dv)++.sc (.int .i64 n)::List.drop 13 (x.cells dv)=({x with c:={x.c with upto:=n}}:Tlk).cells dv:=rfl
end
structure Loc where
 kb:Nat
 ub:Nat
 wid:Nat
 ids:List Nat
 cv:AV
 iv:AV
structure IsKd (S:AS) (k:Nat) (L:Loc) (K:Kd) (R:List (List AV)):Prop where
 hh:S.heap k=some (.rows 11 [K.row L.kb L.wid L.iv])
 b:IsB S L.kb L.ub K.u
 c:Rf.IsRef S L.wid K.room K.cache L.ids L.cv
 gv:GV S 6 L.iv R
 ro:S.ro≤k
 lt:k < S.n
 d1:∀x,ownB L.kb L.ub x→x≠k∧¬Rf.ownR L.wid L.ids x∧¬IsArr L.iv x
 d2:∀x,Rf.ownR L.wid L.ids x→x≠k∧¬IsArr L.iv x
 d3:¬IsArr L.iv k
def ownK (k:Nat) (L:Loc) (x:Nat):Prop:=x=k∨ownB L.kb L.ub x∨Rf.ownR L.wid L.ids x∨IsArr L.iv x
theorem Chg.big {S S':AS} {o o' O O':Nat→Prop} (h:Chg S S' o o') (h1:∀x,o x→O x) (h2:∀x,O' x→o' x∨O x):Chg S S' O O':=by
 refine ⟨h.1,h.2.1,fun x hx hn=>?_⟩
 obtain ⟨a,b⟩:=h.2.2 x hx fun e=>hn (h1 x e)
 exact ⟨a,fun e=>(h2 x e).elim b hn⟩
section
variable {S S':AS} {k:Nat} {L:Loc} {K:Kd} {R:List (List AV)}
theorem IsKd.hS (h:IsKd S k L K R):S.ro≤S.n:=by have:=h.ro;have:=h.lt;omega
theorem IsKd.at_ (h:IsKd S k L K R):AtK S k L.kb L.ub L.wid L.iv K:=⟨h.hh,h.b.toAtB⟩
theorem IsKd.own_lt (h:IsKd S k L K R) {x:Nat} (hx:ownK k L x):x < S.n:=by
 rcases hx with rfl|hx|hx|hx
 ·exact h.lt
 ·exact h.b.lts hx
 ·exact h.c.lts hx
 ·exact (h.gv.lt hx).1
theorem IsKd.keep (h:IsKd S k L K R) (hr:S'.ro=S.ro) (hn:S.n≤S'.n) (hh:∀x,x < S.n→ownK k L x→S'.heap x=S.heap x):IsKd S' k L K R:=
 ⟨(hh k h.lt (.inl rfl)).trans h.hh,h.b.keep hr hn fun x hx ho=>hh x hx (.inr (.inl ho)),h.c.keep hr hn fun x hx ho=>hh x hx (.inr (.inr (.inl ho))),h.gv.keep hr hn fun x hx ho=>hh x hx (.inr (.inr (.inr ho))),
   by rw [hr];exact h.ro,Nat.lt_of_lt_of_le h.lt hn,h.d1,h.d2,h.d3⟩
theorem IsKd.upB (h:IsKd S k L K R) {u':Us} (hb:IsB S' L.kb L.ub u') (hc:Chg S S' (ownB L.kb L.ub) (ownB L.kb L.ub)):IsKd S' k L {K with u:=u'} R∧Chg S S' (ownK k L) (ownK k L):=by
 obtain ⟨c1,c2,c3⟩:=hc
 refine ⟨⟨(c3 k h.lt fun e=>(h.d1 k e).1 rfl).1.trans h.hh,hb,h.c.keep c1 c2 fun x hx ho=>(c3 x hx fun e=>(h.d1 x e).2.1 ho).1,h.gv.keep c1 c2 fun x hx ho=>(c3 x hx fun e=>(h.d1 x e).2.2 ho).1,
  by rw [c1];exact h.ro,Nat.lt_of_lt_of_le h.lt c2,h.d1,h.d2,h.d3⟩,?_⟩
 exact Chg.big ⟨c1,c2,c3⟩ (fun x e=>.inr (.inl e)) fun x e=>.inr e
theorem IsKd.upC (h:IsKd S k L K R) {cache':List (ByteArray×Int)} {ids':List Nat} {cv':AV} (hb:Rf.IsRef S' L.wid K.room cache' ids' cv') (hc:Chg S S' (Rf.ownR L.wid L.ids) (Rf.ownR L.wid ids')):
 IsKd S' k {L with ids:=ids',cv:=cv'} {K with cache:=cache'} R∧Chg S S' (ownK k L) (ownK k {L with ids:=ids',cv:=cv'}):=by
 obtain ⟨c1,c2,c3⟩:=hc
 have nk:¬Rf.ownR L.wid L.ids k:=fun e=>(h.d2 k e).1 rfl
 refine ⟨⟨(c3 k h.lt nk).1.trans h.hh,h.b.keep c1 c2 fun x hx ho=>(c3 x hx (h.d1 x ho).2.1).1,hb,h.gv.keep c1 c2 fun x hx ho=>(c3 x hx fun e=>(h.d2 x e).2 ho).1,
  by rw [c1];exact h.ro,Nat.lt_of_lt_of_le h.lt c2,fun x hx=>⟨(h.d1 x hx).1,(c3 x (h.b.lts hx) (h.d1 x hx).2.1).2,(h.d1 x hx).2.2⟩,fun x hx=>⟨fun e=>(c3 k h.lt nk).2 (e▸hx),fun e=>?_⟩,h.d3⟩,?_⟩
 ·have hlt:=(h.gv.lt e).1
  exact (c3 x hlt fun e'=>(h.d2 x e').2 e).2 hx
 ·refine Chg.big ⟨c1,c2,c3⟩ (fun x e=>.inr (.inr (.inl e))) fun x e=>?_
  rcases e with e|e|e|e
  ·exact .inr (.inl e)
  ·exact .inr (.inr (.inl e))
  ·exact .inl e
  ·exact .inr (.inr (.inr (.inr e)))
theorem IsKd.st (h:IsKd S k L K R) {col:Nat} {v:AV} {K':Kd} {iv':AV} (hl:v.cells=[v]) (hc:v.isCell=true) (hr:setCells (K.row L.kb L.wid L.iv) col [v]=K'.row L.kb L.wid iv') (hle:col+1≤11) (d:Option Nat) (rg:Nat→Option (List AV)):
 opev (.st none 1) d rg S [.ptr k 0 col,v]=some (.junk,none,S.set k (some (.rows 11 [K'.row L.kb L.wid iv']))):=by
 simp only [opev,h.hh,hl]
 rw [if_pos ⟨h.ro,by simp [hc],rfl⟩]
 simp only [List.getElem?_cons_zero,Option.bind_some]
 rw [if_pos (show col+1≤(K.row L.kb L.wid L.iv).length from hle),hr];rfl
theorem IsKd.upK (h:IsKd S k L K R) {K':Kd} (hu:K'.u=K.u) (hc:K'.cache=K.cache) (hrm:K'.room=K.room):IsKd (S.set k (some (.rows 11 [K'.row L.kb L.wid L.iv]))) k L K' R∧Chg S (S.set k (some (.rows 11 [K'.row L.kb L.wid L.iv]))) (ownK k L) (ownK k L):=by
 refine ⟨⟨if_pos rfl,by rw [hu];exact h.b.keep rfl (Nat.le_refl _) fun x _ ho=>if_neg (h.d1 x ho).1,by rw [hc,hrm];exact h.c.keep rfl (Nat.le_refl _) fun x _ ho=>if_neg (h.d2 x ho).1,h.gv.keep rfl (Nat.le_refl _) fun x _ ho=>if_neg fun e:x=k=>h.d3 (e▸ho),
  h.ro,h.lt,h.d1,h.d2,h.d3⟩,rfl,Nat.le_refl _,fun x _ hx=>⟨if_neg fun e=>hx (.inl e),hx⟩⟩
theorem IsKd.issue (h:IsKd S k L K R) {r:List AV} {f:Bool} (hb:R.length≤1000):∃v' S1 S',(∀d rg,opev (.append 6 104) d rg S [L.iv,.lst 6 f [r]]=some (v',none,S1))∧v'.isReg=false∧(∀d rg,opev (.st none 1) d rg S1 [.ptr k 0 10,v']=some (.junk,none,S'))∧
 IsKd S' k {L with iv:=v'} K (R++[r])∧Chg S S' (ownK k L) (ownK k {L with iv:=v'}):=by
 obtain ⟨v',S1,ha,hg,c1,c2,c3⟩:=h.gv.app h.hS (r:=r) (bytes:=104) (f:=f) (by omega)
 have nk:=c3 k h.lt h.d3
 have hk1:S1.heap k=some (.rows 11 [K.row L.kb L.wid L.iv]):=nk.1.trans h.hh
 have hd:∀x,ownB L.kb L.ub x→x≠k∧¬Rf.ownR L.wid L.ids x∧¬IsArr v' x:=fun x hx=>⟨(h.d1 x hx).1,(h.d1 x hx).2.1,(c3 x (h.b.lts hx) (h.d1 x hx).2.2).2⟩
 have hd2:∀x,Rf.ownR L.wid L.ids x→x≠k∧¬IsArr v' x:=fun x hx=>⟨(h.d2 x hx).1,(c3 x (h.c.lts hx) (h.d2 x hx).2).2⟩
 refine ⟨v',S1,S1.set k (some (.rows 11 [K.row L.kb L.wid v'])),ha,hg.reg,fun d rg=>?_,⟨if_pos rfl,h.b.keep c1 c2 fun x hx ho=>(if_neg (h.d1 x ho).1).trans (c3 x hx (h.d1 x ho).2.2).1,h.c.keep c1 c2 fun x hx ho=>(if_neg (h.d2 x ho).1).trans (c3 x hx (h.d2 x ho).2).1,
  hg.keep rfl (Nat.le_refl _) fun x _ ho=>if_neg fun e:x=k=>nk.2 (e▸ho),by rw [show (S1.set k _).ro=S1.ro from rfl,c1];exact h.ro,Nat.lt_of_lt_of_le h.lt c2,hd,hd2,nk.2⟩,c1,c2,fun x hx hn=>⟨?_,?_⟩⟩
 ·simp only [opev,hk1,hg.cells]
  rw [if_pos ⟨by rw [c1];exact h.ro,by simp [hg.cell],rfl⟩]
  rfl
 ·exact (if_neg fun e=>hn (.inl e)).trans (c3 x hx fun e=>hn (.inr (.inr (.inr e)))).1
 ·rintro (e|e|e|e)
  ·exact hn (.inl e)
  ·exact hn (.inr (.inl e))
  ·exact hn (.inr (.inr (.inl e)))
  ·exact (c3 x hx fun e=>hn (.inr (.inr (.inr e)))).2 e
def kdB:ByteArray:=⟨#[107,100,99,32]⟩
def drawT (n:Int):T:=tAtom (kdB++itoaB n)
theorem c342 (h:IsKd S k L K R) (hn:0≤K.n∧K.n < 4611686018427387904):∃S',call 342 [.ptr k 0 0] S=some (.agg (drawT (K.n+1)).cells,S')∧IsKd S' k L {K with n:=K.n+1} R∧Chg S S' (ownK k L) (ownK k L):=by
 rw [call_keep a342 (by simp) rfl]
 have w1:IntKind.i64.wrap (K.n+1)=K.n+1:=w64 (by omega)
 have hst:=h.st (col:=9) (v:=.sc (.int .i64 (K.n+1))) (K':={K with n:=K.n+1}) (iv':=L.iv) rfl rfl rfl (by omega)
 obtain ⟨h1,h2⟩:=h.upK (K':={K with n:=K.n+1}) rfl rfl rfl
 generalize S.set k _=S' at *
 have hn':=h1.at_.nn
 have hit:=itoaB_le (n:=K.n+1) (by omega) (by omega)
 have e139:=fun S=>@s139 S (K.n+1) (by omega) (by omega)
 have p1:pev (.bin .add) [.s ⟨#[107,100,99,32]⟩,.sc (.string (itoaB (K.n+1)))]=some (.sc (.string (⟨#[107,100,99,32]⟩++itoaB (K.n+1)))):=pev_sadd (by show 4+_≤_;omega)
 refine ⟨S',?_,h1,h2⟩
 simp [f342,f342b,h.at_.nn,w1,hst,hn',e139,p1]
 rfl
end
def repB:ByteArray:=⟨#[97,115,45,114,101,112]⟩
def moreB:ByteArray:=⟨#[109,111,114,101]⟩
def Cl.takeD (c:Cl) (o k:T) (r:Cl×T×T×Int):Cl×T×Int:=
 if r.2.2.2=0 then ({r.1 with base:=r.2.2.1,z2:=false,done:=true,marks:=r.1.marks++[(tagT o,c.nonce)]},r.1.says r.2.1 k,0) else (r.1,tNone,r.2.2.2)
def Cl.takeM (c:Cl) (now:Int) (x:T):List T×Int→Cl×T×Int
 |([o,k],0)=>c.takeD o k (c.does o now x)
 |(_,e)=>(c,tNone,e)
noncomputable def Cl.take (c:Cl) (t:T) (now:Int) (x:T):Cl×T×Int:=
 if c.on then
  match refuseOf t with
  |some e=>({c with on:=false},tNone,e)
  |none=>match unpT repB 3 t with
   |some [a,b,f]=>((c.ends a b f).1,tNone,(c.ends a b f).2)
   |_=>c.takeM now x (opnL moreB 2 (ansOf c.ak c.nonce t))
 else (c,tNone,11)
structure Cl.ok (c:Cl):Prop where
 z1:c.on=true→c.z1=false
 z1d:c.done=true→c.z1=false
 z2:c.done=true→c.z2=false
 z3:c.ended=true→c.z3=false
 nonce:c.nonce.size≤4611686018427387904
 name:c.name.size≤4611686018427387904
 counter:0≤c.counter∧c.counter < 4611686018427387904
 marks:c.marks.length≤1000000
theorem T.lo.name {t:T} (h:t.lo):t.name.size≤1099511627776:=by
 obtain ⟨k,n,l⟩:=t
 unfold T.lo at h
 rw [T.bulk]at h
 show n.size≤_
 omega
theorem does_same {c:Cl} {o x:T} {now:Int}:∃n,(c.does o now x).1={c with counter:=n}:=by
 unfold Cl.does
 split
 ·exact ⟨c.counter,rfl⟩
 ·split
  ·split
   ·exact ⟨_,rfl⟩
   ·exact ⟨c.counter,rfl⟩
  ·split<;>exact ⟨c.counter,rfl⟩
section
variable {S:AS} {id:Nat} {c:Cl} {mv:AV}
set_option maxHeartbeats 4000000 in
set_option maxRecDepth 100000 in
theorem c141 {t x:T} {now:Int} (h:IsCl S id c mv) (k:c.ok) (ht:t.lo) (hx:x.lo) (hn:inI now):
 ∃S' mv',call 141 [.ptr id 0 0,.agg t.cells,.sc (.int .i64 now),.agg x.cells] S=some (.tup [.agg (c.take t now x).2.1.cells,.sc (.int .i64 (c.take t now x).2.2)],S')∧IsCl S' id (c.take t now x).1 mv'∧Chg S S' (ownC id mv) (ownC id mv'):=by
 rw [call_keep a141 (by simp) rfl]
 have hon:=h.on
 unfold Cl.take
 cases honc:c.on with
 |false=>
  rw [honc]at hon
  exact ⟨S,mv,by simp [f141,f141b,hon],h,Chg.refl⟩
 |true=>
  rw [honc]at hon
  rw [if_pos rfl]
  have z1:=k.z1 honc
  have hkl:t.kids.length≤4611686018427387904:=by have:=T.bb_len ht.bb;omega
  have e96:=fun S=>@s96 S t hkl (fun u hu=>by have:=(ht.kid hu).name;omega)
  cases hr:refuseOf t with
  |some er=>
   rw [hr]at e96
   have s1:=h.st (col:=0) (sz:=1) (x:=.b false) (c':={c with on:=false}) (mv':=mv) rfl rfl rfl (by omega)
   have h1:=h.set (c':={c with on:=false}) rfl
   have g1:=h.chg (c':={c with on:=false})
   generalize S.set id _=S1 at s1 h1 g1
   exact ⟨S1,mv,by simp [f141,f141b,hon,e96,optI,s1],h1,g1⟩
  |none=>
   rw [hr]at e96
   have e78:=fun S=>@s78 S repB 3 t hkl
   simp only
   cases hu:unpT repB 3 t with
   |some l=>
    obtain ⟨a,b,f,rfl⟩:=len3 (unpT_len (n:=3) hu).1
    have hm:=(unpT_len (n:=3) hu).2
    rw [hu]at e78
    unfold repB at e78
    simp only
    have lb:b.lo:=ht.kid (hm b (by simp))
    have lf:f.lo:=ht.kid (hm f (by simp))
    obtain ⟨S1,e250,h1,g1⟩:=c250 (t:=a) h k.z1d k.z2 k.nonce lb.bb lf.bb
    exact ⟨S1,mv,by simp [f141,f141b,hon,e96,optI,e78,optL,at3a,at3b,at3c,e250],h1,g1⟩
   |none=>
    rw [hu]at e78
    unfold repB at e78
    simp only
    have ha:=h.ak z1
    have hno:=h.nonce
    have e251:=fun S=>@s251 S c.ak t c.nonce k.nonce ht.bb
    have la:=ansOf_lo (k:=c.ak) (n:=c.nonce) ht
    have e252:=fun S=>@s252 S (ansOf c.ak c.nonce t).1 (ansOf c.ak c.nonce t).2 moreB 2 2 rfl la.bb
    have hol:=opnL_lo (tag:=moreB) (n:=2) (r:=ansOf c.ak c.nonce t) la
    unfold moreB at e252
    rcases opnL_or (tag:=moreB) (n:=2) (r:=ansOf c.ak c.nonce t) with ⟨l,hl,hlen⟩|⟨er,hne,hl⟩
    ·obtain ⟨o,ck,rfl⟩:=len2 hlen
     rw [hl]at hol
     have hl':=hl
     unfold moreB at hl'
     rw [hl']at e252
     rw [hl]
     have lo_o:=hol o (by simp)
     show ∃S' mv',_=some (AV.tup [.agg (c.takeD o ck (c.does o now x)).2.1.cells,.sc (.int .i64 (c.takeD o ck (c.does o now x)).2.2)],S')∧IsCl S' id (c.takeD o ck (c.does o now x)).1 mv'∧_
     obtain ⟨S1,p,b,e253,h1,g1,⟨pl,pc⟩,⟨bl,bc⟩,hpb⟩:=c253 (o:=o) (x:=x) (now:=now) h z1 k.counter lo_o hx hn
     obtain ⟨cn,hcn⟩:=@does_same c o x now
     have pc':∀v∈p,v.isCell=true:=List.all_eq_true.1 pc
     have bc':∀v∈b,v.isCell=true:=List.all_eq_true.1 bc
     have pt:p.take 3=p:=List.take_of_length_le (by omega)
     have bt:b.take 3=b:=List.take_of_length_le (by omega)
     have pd:p.drop 3=[]:=List.drop_of_length_le (by omega)
     have bd:b.drop 3=[]:=List.drop_of_length_le (by omega)
     unfold Cl.takeD
     generalize c.does o now x=r at *
     by_cases h0:r.2.2.2=0
     ·rw [if_pos h0]
      obtain ⟨rfl,rfl⟩:=hpb h0
      have z1':r.1.z1=false:=by rw [hcn];exact z1
      have hn':r.1.nonce=c.nonce:=by rw [hcn]
      have hm':r.1.marks=c.marks:=by rw [hcn]
      have s1:=h1.st (col:=13) (sz:=3) (x:=.agg r.2.2.1.cells) (c':={r.1 with base:=r.2.2.1,z2:=false}) (mv':=mv) len_T cell_T (by show setCells _ _ r.2.2.1.cells=_;rw [cells_T];rfl) (by omega)
      have h2:=h1.set (c':={r.1 with base:=r.2.2.1,z2:=false}) rfl
      have g2:=h1.chg (c':={r.1 with base:=r.2.2.1,z2:=false})
      generalize S1.set id _=S2 at s1 h2 g2
      have s2:=h2.st (col:=1) (sz:=1) (x:=.b true) (c':={r.1 with base:=r.2.2.1,z2:=false,done:=true}) (mv':=mv) rfl rfl rfl (by omega)
      have h3:=h2.set (c':={r.1 with base:=r.2.2.1,z2:=false,done:=true}) rfl
      have g3:=h2.chg (c':={r.1 with base:=r.2.2.1,z2:=false,done:=true})
      generalize S2.set id _=S3 at s2 h3 g3
      have e81:=fun S=>@s81 S o
      have hno3:=h3.nonce
      simp only [hn']at hno3
      have hmk:=h3.marks
      have hmvr:=h3.gv.reg
      have hml:(Cl.mrow r.1.marks).length=c.marks.length:=by rw [hm'];simp [Cl.mrow]
      obtain ⟨mv',S4,hap,gv',g4⟩:=h3.gv.app (r:=[.sc (.string (tagT o)),.sc (.string c.nonce)]) (bytes:=32) (f:=true) h3.hS (by show ((Cl.mrow r.1.marks).length+1) * 32≤_;have:=k.marks;omega)
      have hmr:Cl.mrow ({r.1 with base:=r.2.2.1,z2:=false,done:=true}:Cl).marks++[[.sc (.string (tagT o)),.sc (.string c.nonce)]]=Cl.mrow (r.1.marks++[(tagT o,c.nonce)]):=by simp [Cl.mrow]
      rw [hmr]at gv'
      have mvr':=gv'.reg
      have mvc':=gv'.cell
      have mvcs:=gv'.cells
      have hid4:=g4.2.2 id h3.lt h3.ne
      have h4h:S4.heap id=some (.rows 37 [({r.1 with base:=r.2.2.1,z2:=false,done:=true}:Cl).row mv]):=hid4.1.trans h3.hh
      have hro4:S4.ro≤id:=by rw [g4.1];exact h3.ro
      have hlt4:id < S4.n:=Nat.lt_of_lt_of_le h3.lt g4.2.1
      obtain ⟨S5,hS5⟩:∃S5,S5=S4.set id (some (.rows 37 [({r.1 with base:=r.2.2.1,z2:=false,done:=true,marks:=r.1.marks++[(tagT o,c.nonce)]}:Cl).row mv'])):=⟨_,rfl⟩
      have s3:∀d rg,opev (.st none 1) d rg S4 [.ptr id 0 36,mv']=some (.junk,none,S5):=fun d rg=>by
       have hlen:∀(q:Cl) (v:AV),(q.row v).length=37:=fun _ _=>rfl
       simp only [opev,h4h]
       rw [if_pos ⟨hro4,by rw [mvcs];simp [mvc'],by rw [mvcs];rfl⟩]
       simp only [List.getElem?_cons_zero,Option.bind_some,hlen]
       rw [if_pos (by omega),hS5,mvcs];rfl
      have h5:IsCl S5 id {r.1 with base:=r.2.2.1,z2:=false,done:=true,marks:=r.1.marks++[(tagT o,c.nonce)]} mv':=by
       rw [hS5]
       exact ⟨if_pos rfl,gv'.keep rfl (Nat.le_refl _) fun y _ hy=>if_neg fun e=>hid4.2 (by rw [←e];exact hy),hro4,hlt4,hid4.2⟩
      have g5:Chg S3 S5 (ownC id mv) (ownC id mv'):=by
       refine ⟨by rw [hS5];exact g4.1,by rw [hS5];exact g4.2.1,fun y hy hny=>?_⟩
       obtain ⟨a1,a2⟩:=g4.2.2 y hy fun e=>hny (.inr e)
       refine ⟨?_,?_⟩
       ·rw [hS5]
        show (if y=id then _ else S4.heap y)=_
        rw [if_neg fun e=>hny (.inl e)];exact a1
       ·rintro (e|e)
        ·exact hny (.inl e)
        ·exact a2 e
      have e248:=s248 (p:=r.2.1) (k:=ck) h5 z1'
      have hsay:Cl.says {r.1 with base:=r.2.2.1,z2:=false,done:=true,marks:=r.1.marks++[(tagT o,c.nonce)]} r.2.1 ck=r.1.says r.2.1 ck:=rfl
      rw [hsay]at e248
      refine ⟨S5,mv',?_,h5,((g1.trans g2).trans g3).trans g5⟩
      simp [f141,f141b,hon,e96,optI,e78,optL,ha,hno,e251,resU,e252,resL,at2a,at2b,e253,h0,pt,bt,pd,bd,s1,s2,e81,hno3,hmk,hmvr,hap,mvr',s3,e248,fillR]
     ·rw [if_neg h0]
      refine ⟨S1,mv,?_,h1,g1⟩
      simp [f141,f141b,hon,e96,optI,e78,optL,ha,hno,e251,resU,e252,resL,at2a,at2b,e253,h0,pl,bl,pc,bc,pc',bc',pt,bt,pd,bd]
    ·have hl':=hl
     unfold moreB at hl'
     rw [hl']at e252
     rw [hl]
     have hr':c.takeM now x ([],er)=(c,tNone,er):=by unfold Cl.takeM;rfl
     rw [hr']
     exact ⟨S,mv,by simp [f141,f141b,hon,e96,optI,e78,optL,ha,hno,e251,resU,e252,resL,hne],h,Chg.refl⟩
end
def DV (S:AS) (o:Nat→Prop) (dv:AV) (l:List ByteArray):Prop:=dv=lstS l∨∃id,dv=.arr id 1 0 l.length none∧S.heap id=some (.rows 1 (sRow l))∧id < S.n∧¬o id
section
variable {S S':AS} {o o':Nat→Prop} {dv:AV} {l:List ByteArray}
theorem DV.keep (h:DV S o dv l) (hc:Chg S S' o o'):DV S' o' dv l:=by
 rcases h with h|⟨id,h1,h2,h3,h4⟩
 ·exact .inl h
 ·obtain ⟨a,b⟩:=hc.2.2 id h3 h4
  exact .inr ⟨id,h1,a.trans h2,Nat.lt_of_lt_of_le h3 hc.2.1,b⟩
theorem DV.ss (h:DV S o dv l):IsSs S dv l:=by
 rcases h with rfl|⟨id,rfl,h2,h3,h4⟩
 ·exact isSs_S
 ·exact isSs_arr (by have:=slice_of h2 (Nat.zero_le id);rw [sRow_len]at this;exact this) h3 rfl
theorem DV.reg (h:DV S o dv l):dv.isReg=false:=by
 rcases h with rfl|⟨id,rfl,_⟩<;>rfl
theorem DV.cell (h:DV S o dv l):dv.isCell=true:=by
 rcases h with rfl|⟨id,rfl,_⟩<;>rfl
theorem DV.len (h:DV S o dv l):pev .lenL [dv]=some (.sc (.int .i64 (l.length:Nat))):=by
 rcases h with rfl|⟨id,rfl,_⟩
 ·simp
 ·rfl
end
structure Tlk.okk (x:Tlk):Prop where
 client:x.c.client.size≤1099511627776
 nonce:x.c.nonce.size≤1099511627776
 done:x.c.done.length≤1000
 names:∀s∈x.c.done,s.size≤1099511627776
 now: -1000000000000000≤x.now∧x.now≤1000000000000000
def Kd.offK (K:Kd) (nx:ByteArray):Kd:=if nx=chalB then K else {K with n:=K.n+1}
def Kd.offS (K:Kd) (nx:ByteArray):T:=if nx=chalB then tNone else drawT (K.n+1)
def offO (u:Us) (nx:ByteArray) (s:T):T:=if nx=chalB then tPack chalB [] else if nx=spkB then tPoint u.key s else tOffer s
def Kd.offC (K:Kd) (x:Tlk) (s:T):Ck:={x.c with secret:=s,upto:=x.now+100}
def offA (K:Kd) (x:Tlk) (o s:T):T:=tAns x.ak x.c.nonce (tPack moreB [o,sealT K.cookies (K.offC x s)])
def Kd.offT (K:Kd) (x:Tlk) (nx:ByteArray):T:=offA K x (offO x.u nx (K.offS nx)) (K.offS nx)
theorem tNone_lo:tNone.lo:=by
 show tNone.bulk≤_
 decide
theorem draw_lo {n:Int} (h: -9223372036854775808≤n) (h2:n < 9223372036854775808):(drawT n).lo:=by
 have hit:=itoaB_le (n:=n) (by omega) (by omega)
 show (tAtom _).bulk≤_
 rw [atom_bulk]
 have:(kdB++itoaB n).size=4+(itoaB n).size:=by rw [ByteArray.size_append];rfl
 omega
theorem Tlk.okk.ck {x:Tlk} (h:x.okk) (K:Kd) {s:T} (hs:s.lo):(K.offC x s).ok where
 client:=by show x.c.client.size≤_;have:=h.client;omega
 nonce:=by show x.c.nonce.size≤_;have:=h.nonce;omega
 done:=by show x.c.done.length * 48≤_;have:=h.done;omega
 names:=fun n hn=>by have:=h.names n hn;omega
 upto:=by have:=h.now;show inI (x.now+100);unfold inI;omega
 fits:=T.fits_bulk hs
 ofit:=T.ofit_bulk hs
section
variable {S:AS} {k:Nat} {L:Loc} {K:Kd} {R:List (List AV)}
set_option maxHeartbeats 2000000 in
set_option maxRecDepth 100000 in
theorem c240 (h:IsKd S k L K R) (hn:0≤K.n∧K.n < 4611686018427387904) (hc:K.cookies.lo) {x:Tlk} (hx:x.okk) {dv:AV} (hd:DV S (ownK k L) dv x.c.done) {nx:ByteArray} (hnx:x.u.set[x.c.done.length]?=some nx):
 ∃S',call 240 [.ptr k 0 0,.agg (x.cells dv)] S=some (.agg (K.offT x nx).cells,S')∧IsKd S' k L (K.offK nx) R∧Chg S S' (ownK k L) (ownK k L):=by
 rw [call_keep a240 (by simp) rfl]
 have hat:=lstS_at hnx
 have w1:IntKind.i64.wrap (x.now+100)=x.now+100:=w64 (by have:=hx.now;omega)
 have xc:=fun s:T=>@Tlk.cell ({x with c:={x.c with secret:=s}}:Tlk) dv hd.cell
 have xc0:=@Tlk.cell x dv hd.cell
 have e332:=fun S t=>@s332 S x.ak t x.c.nonce (by have:=hx.nonce;omega)
 have dl:=hd.len
 by_cases h1:nx=chalB
 ·have hK:K.offK nx=K:=if_pos h1
  have hs:K.offS nx=tNone:=if_pos h1
  have ho:offO x.u nx tNone=tPack chalB []:=if_pos h1
  unfold Kd.offT
  rw [hK,hs,ho]
  refine ⟨S,?_,h,Chg.refl⟩
  have e111:call 111 [.agg K.cookies.cells,.agg (ckX ⟨x.c.client,x.c.nonce,x.c.done,tNone,x.now+100⟩ dv)] S=some (.agg (sealT K.cookies (K.offC x tNone)).cells,S):=q111 (c:=K.offC x tNone) hd.ss hc tNone_lo (hx.ck K tNone_lo)
  have n1:(nx=⟨#[99,104,97,108,108,101,110,103,101]⟩)=True:=eq_true h1
  simp [f240,f240b,fillR,xc0,xc,hat,dl,n1,w1,h.at_.cookies,e332,e111]
  rfl
 ·have hK:K.offK nx={K with n:=K.n+1}:=if_neg h1
  have hs:K.offS nx=drawT (K.n+1):=if_neg h1
  have n1:(nx=⟨#[99,104,97,108,108,101,110,103,101]⟩)=False:=eq_false h1
  obtain ⟨S1,e342,h',g'⟩:=c342 h hn
  unfold Kd.offT
  rw [hK,hs]
  have sl:(drawT (K.n+1)).lo:=draw_lo (by omega) (by omega)
  generalize drawT (K.n+1)=s at *
  have hck1:∀d rg,opev (.ld none 3 true) d rg S1 [.ptr k 0 3]=some (.agg K.cookies.cells,none,S1):=h'.at_.cookies
  have e111:call 111 [.agg K.cookies.cells,.agg (ckX ⟨x.c.client,x.c.nonce,x.c.done,s,x.now+100⟩ dv)] S1=some (.agg (sealT K.cookies (K.offC x s)).cells,S1):=q111 (c:=K.offC x s) (hd.keep g').ss hc sl (hx.ck K sl)
  have e283:=fun S=>@s283 S s
  refine ⟨S1,?_,h',g'⟩
  by_cases h2:nx=spkB
  ·have n2:(nx=⟨#[115,112,97,107,101]⟩)=True:=eq_true h2
   have ho:offO x.u nx s=tPoint x.u.key s:=by unfold offO;rw [if_neg h1,if_pos h2]
   rw [ho]
   have e331:=fun S=>@s331 S x.u.key s
   simp [f240,f240b,fillR,xc0,xc,hat,dl,n1,n2,w1,e342,e283,e331,hck1,e332,e111]
   rfl
  ·have n2:(nx=⟨#[115,112,97,107,101]⟩)=False:=eq_false h2
   have ho:offO x.u nx s=tOffer s:=by unfold offO;rw [if_neg h1,if_neg h2]
   rw [ho]
   simp [f240,f240b,fillR,xc0,xc,hat,dl,n1,n2,w1,e342,e283,hck1,e332,e111]
   rfl
noncomputable def chkR (x:Tlk) (p:T) (nx:ByteArray):T×List Int×Int:=
 if nx=otpB then (tUse x.ak 46,hitTR x.ak x.c.secret p x.u.seed x.u.tok)
 else if nx=spkB then ((chkS x.u.key x.body x.c.secret p).1,[],(chkS x.u.key x.body x.c.secret p).2)
 else (x.u.key,[],chkT x.ak x.u.key x.body p x.now)
def resC (r:T×List Int×Int):AV:=.tup [.agg r.1.cells,lstI r.2.1,.sc (.int .i64 r.2.2)]
set_option maxHeartbeats 2000000 in
theorem s241 {x:Tlk} {p:T} {nx:ByteArray} (hp:p.lo) (hs:x.c.secret.lo) (hn:x.now.natAbs≤1000000000000000):call 241 [.agg (x.cells (lstS x.c.done)),.agg p.cells,.sc (.string nx)] S=some (resC (chkR x p nx),S):=by
 have hnr:nrmL (x.cells (lstS x.c.done))=x.cells (lstS x.c.done):=by unfold Tlk.cells;simp
 rw [call_calm a241 rfl (by simp [hnr]) rfl]
 have xc:=@Tlk.cell x (lstS x.c.done) rfl
 unfold chkR
 by_cases h1:nx=otpB
 ·have n1:(nx=⟨#[111,116,112]⟩)=True:=eq_true h1
  rw [if_pos h1]
  have e343:=fun S=>@s343 S x.ak x.c.secret p x.u.seed x.u.tok hp.bb
  have e336:=fun S=>@s336 S x.ak 46 i46 (by omega)
  simp [f241,f241b,xc,n1,e343,e336,resH,resC]
 ·have n1:(nx=⟨#[111,116,112]⟩)=False:=eq_false h1
  rw [if_neg h1]
  by_cases h2:nx=spkB
  ·have n2:(nx=⟨#[115,112,97,107,101]⟩)=True:=eq_true h2
   rw [if_pos h2]
   have e344:=fun S=>@s344 S x.u.key x.body x.c.secret p hp hs
   simp [f241,f241b,xc,n1,n2,e344,resU,resC]
   rfl
  ·have n2:(nx=⟨#[115,112,97,107,101]⟩)=False:=eq_false h2
   rw [if_neg h2]
   have e151:=fun S=>@s151 S x.ak x.u.key x.body p x.now hp.bb hn
   simp [f241,f241b,xc,n1,n2,e151,resC]
   rfl
end
def tktB:ByteArray:=⟨#[116,105,99,107,101,116]⟩
def issR (client nonce:ByteArray) (dv:AV) (s:T):List AV:=.sc (.string client)::.sc (.string nonce)::dv::s.cells
def Kd.tktK (K:Kd):Kd:={K with n:=K.n+1+1,u:={K.u with fails:=0}}
def tkt (key:T) (client:ByteArray) (s:T) (done:List ByteArray) (now:Int):T:=tSeal key 3 (tPack tktB [tWord client,s,tPair (wordsT done),tNum now])
def tktE (st base s:T) (nonce:ByteArray) (t:T):T:=tSeal (tRep st base) 3 (tPack encB [s,tWord nonce,tHash t])
def tktR (ak:T) (nonce:ByteArray) (base s st t:T):T:=tPack repB [t,tktE st base s nonce t,tAns ak nonce (tPack finB [st,tHash t])]
def Kd.tktT (K:Kd) (x:Tlk) (base:T):T:=tktR x.ak x.c.nonce base (drawT (K.n+1)) (drawT (K.n+1+1)) (tkt K.key x.c.client (drawT (K.n+1)) x.c.done x.now)
section
variable {S:AS} {k:Nat} {L:Loc} {K:Kd} {R:List (List AV)}
theorem bldI {client nonce:ByteArray} {dv:AV} {s:T} (hd:dv.cells=[dv]) (hc:dv.isCell=true):pev (.build [.s ⟨#[]⟩,.s ⟨#[]⟩,.lst 0 true [],.i (0),.s ⟨#[]⟩,.lst 0 true []] [(0,1),(1,1),(2,1),(3,3)]) [.sc (.string client),.sc (.string nonce),dv,.agg s.cells]=some (.agg (issR client nonce dv s)):=by
 unfold issR
 rw [cells_T];simp [hd,hc]
theorem DV.cells {S:AS} {o:Nat→Prop} {dv:AV} {l:List ByteArray} (h:DV S o dv l):dv.cells=[dv]:=by
 rcases h with rfl|⟨id,rfl,_⟩<;>rfl
set_option maxHeartbeats 4000000 in
set_option maxRecDepth 100000 in
theorem c245 (h:IsKd S k L K R) (hn:0≤K.n∧K.n < 4611686018427387900) (hR:R.length≤1000) {x:Tlk} (hx:x.okk) {dv:AV} (hd:DV S (ownK k L) dv x.c.done) (hcl:x.c.client=K.u.name) {base:T}:
 ∃S' v',call 245 [.ptr k 0 0,.agg (x.cells dv),.agg base.cells] S=some (.agg (K.tktT x base).cells,S')∧IsKd S' k {L with iv:=v'} K.tktK (R++[issR x.c.client x.c.nonce dv (drawT (K.n+1))])∧Chg S S' (ownK k L) (ownK k {L with iv:=v'}):=by
 rw [call_keep a245 (by simp) rfl]
 have xc:=@Tlk.cell x dv hd.cell
 obtain ⟨S1,d1,h1,g1⟩:=c342 h (by omega)
 obtain ⟨S2,d2,h2,g2⟩:=c342 h1 ⟨by show 0≤K.n+1;omega,by show K.n+1 < _;omega⟩
 have d2:call 342 [.ptr k 0 0] S1=some (.agg (drawT (K.n+1+1)).cells,S2):=d2
 have hb2:IsB S2 L.kb L.ub K.u:=h2.b
 obtain ⟨S3,d3,b3,gb3⟩:=c349 hb2
 obtain ⟨h3,g3⟩:=h2.upB b3 gb3
 obtain ⟨v',S4',S4,ha,hvr,hst,h4,g4⟩:=h3.issue (r:=issR x.c.client x.c.nonce dv (drawT (K.n+1))) (f:=true) hR
 have hus:∀d rg,opev (.ld none 1 false) d rg S2 [.ptr k 0 6]=some (.ptr L.kb 0 0,none,S2):=h2.at_.users
 have his:∀d rg,opev (.ld none 1 false) d rg S3 [.ptr k 0 10]=some (L.iv,none,S3):=h3.at_.issued
 have hky:∀d rg,opev (.ld none 3 true) d rg S4 [.ptr k 0 0]=some (.agg K.key.cells,none,S4):=h4.at_.key
 have gT:Chg S S4 (ownK k L) (ownK k {L with iv:=v'}):=g1.trans (g2.trans (g3.trans g4))
 have e69:=q69 (hd.keep gT).ss (fun s hs=>by have:=hx.names s hs;omega) (by have:=hx.done;omega)
 rw [←hcl]at d3
 have hbi:=@bldI x.c.client x.c.nonce dv (drawT (K.n+1)) hd.cells hd.cell
 have hic:(issR x.c.client x.c.nonce dv (drawT (K.n+1))).all AV.isCell=true:=by
  unfold issR;rw [cells_T];simp [hd.cell]
 have hil:(issR x.c.client x.c.nonce dv (drawT (K.n+1))).length=6:=by
  unfold issR;rw [cells_T];rfl
 have hit:List.take 6 (issR x.c.client x.c.nonce dv (drawT (K.n+1)))=issR x.c.client x.c.nonce dv (drawT (K.n+1)):=by rw [←hil,List.take_length]
 refine ⟨S4,v',?_,h4,gT⟩
 generalize issR x.c.client x.c.nonce dv (drawT (K.n+1))=I at *
 have dc:=hd.cells
 have dcc:=hd.cell
 have dr:=hd.reg
 have e65a:=fun S=>@s65 S x.c.client (by have:=hx.client;omega)
 have e65b:=fun S=>@s65 S x.c.nonce (by have:=hx.nonce;omega)
 have e67:=fun S=>@s67 S x.now (by have:=hx.now;omega) (by have:=hx.now;omega)
 have e332:=fun S t=>@s332 S x.ak t x.c.nonce (by have:=hx.nonce;omega)
 have e266:=fun S k t=>@s266 S k t 3 (by unfold inI;omega) (by omega)
 have e333:=fun S=>@s333 S (drawT (K.n+1+1)) base
 show _=some (AV.agg (tktR x.ak x.c.nonce base (drawT (K.n+1)) (drawT (K.n+1+1)) (tkt K.key x.c.client (drawT (K.n+1)) x.c.done x.now)).cells,S4)
 generalize drawT (K.n+1)=s at *
 generalize drawT (K.n+1+1)=s2 at *
 have p4:∀(S:AS),call 63 [.sc (.string ⟨#[116,105,99,107,101,116]⟩),.lst 3 true [(tWord x.c.client).cells,s.cells,(tPair (wordsT x.c.done)).cells,(tNum x.now).cells]] S=some (.agg (tPack tktB [tWord x.c.client,s,tPair (wordsT x.c.done),tNum x.now]).cells,S):=fun S=>p63 (isTs_lst (l:=[tWord x.c.client,s,tPair (wordsT x.c.done),tNum x.now])) (by show 5 * 48≤_;omega)
 unfold tktR tktE tkt
 simp [-pev_build,f245,f245b,fillR,xc,d1,d2,hus,d3,his,hbi,hic,hil,hit,ha,hvr,hst,hky,e65a,e65b,e67,e69,e332,e266,e333,p4,dr]
 rfl
end
def smE (e:Int):Prop:=0≤e∧e≤100
theorem unsT_sm {k t:T} {n:Int}:smE (unsT k n t).2:=by
 unfold unsT unsL smE
 split
 ·split
  ·split<;>simp
  ·simp
 ·simp
theorem opnL_sm {tag:ByteArray} {n:Nat} {r:T×Int} (h:smE r.2):smE (opnL tag n r).2:=by
 unfold opnL
 split
 ·split<;>simp [smE]
 ·exact h
theorem sealD_sm {k t:T} {u:Int} {tag:ByteArray} {n:Nat}:smE (sealD k u t tag n).2:=opnL_sm unsT_sm
theorem reqOf_sm {k b t:T}:smE (reqOf k b t).2.2:=by
 have h:=@sealD_sm k t 51 fastB 3
 unfold reqOf
 generalize sealD k 51 t fastB 3=r at h
 obtain ⟨l,e⟩:=r
 unfold reqL
 split
 ·split<;>simp [smE]
 ·rename_i heq;cases heq;exact h
theorem armS_sm {h:T} {r:List T×Int} (hr:smE r.2):smE (armS h r).2:=by
 unfold armS
 split
 ·simp [smE]
 ·exact hr
theorem armH_sm {t:T} {r:List T×Int} (hr:smE r.2):smE (armH t r).2:=by
 unfold armH
 split
 ·exact armS_sm sealD_sm
 ·exact hr
theorem armOf_sm {k t:T}:smE (armOf k t).2:=by
 unfold armOf
 split
 ·exact armH_sm sealD_sm
 ·simp [smE]
theorem openP_sm {k t:T} {now:Int}:smE (openP k t now).2:=by
 unfold openP smE
 split
 ·split
  ·split
   ·split
    ·split
     ·split<;>simp
     ·simp
    ·simp
   ·simp
  ·simp
 ·simp
theorem openP_lo {k t:T} {now:Int} (h:t.lo):(openP k t now).1.secret.lo:=by
 unfold openP
 split
 ·split
  ·rename_i k0 b hk
   have hb:b.lo:=h.kid (by rw [hk];simp)
   split
   ·split
    ·rename_i k1 k2 k3 k4 k5 hk2
     have h4:k4.lo:=hb.kid (by rw [hk2];simp)
     split
     ·split
      ·exact tZ_lo
      ·exact h4
     ·exact tZ_lo
    ·exact tZ_lo
   ·exact tZ_lo
  ·exact tZ_lo
 ·exact tZ_lo
theorem chkS_sm {u b y p:T}:smE (chkS u b y p).2:=by
 have he:∀l,smE (expT u l).2:=by
  intro l
  unfold expT
  split
  ·split
   ·unfold expP
    split
    ·split
     ·split<;>simp [smE]
     ·simp [smE]
    ·simp [smE]
   ·simp [smE]
  ·simp [smE]
 unfold chkS
 split
 ·rename_i l f _
  unfold chkP
  split
  ·split<;>simp [smE]
  ·exact he l
 ·simp [smE]
theorem hitTR_sm {ak n p s:T} {t:Tk}:smE (hitTR ak n p s t).2:=by
 unfold hitTR
 split
 ·rename_i x _
  unfold hitUR
  split
  ·split
   ·unfold hitLR
    split
    ·split<;>simp [smE]
    ·simp [smE]
   ·simp [smE]
  ·exact unsT_sm
 ·simp [smE]
theorem chkT_sm {a u body p:T} {now:Int}:smE (chkT a u body p now):=by
 unfold chkT
 split
 ·rename_i x _
  unfold chkU
  split
  ·simp [smE]
  ·split
   ·split
    ·unfold chkL
     split
     ·split
      ·unfold chkN
       split
       ·split<;>simp [smE]
       ·simp [smE]
      ·simp [smE]
     ·simp [smE]
    ·simp [smE]
   ·exact unsT_sm
 ·simp [smE]
theorem chkR_sm {x:Tlk} {p:T} {nx:ByteArray}:smE (chkR x p nx).2.2:=by
 unfold chkR
 split
 ·exact hitTR_sm
 ·split
  ·exact chkS_sm
  ·exact chkT_sm
theorem bodyOf_size {t:T} {a b:ByteArray} (ht:t.lo) (h:bodyOf t=some (a,b)):a.size≤1099511627776∧b.size≤1099511627776:=by
 unfold bodyOf at h
 cases hu:unpT bodyB 2 t with
 |none=>rw [hu]at h;cases h
 |some l=>
  obtain ⟨hl,hm⟩:=unpT_len (n:=2) hu
  obtain ⟨x,y,rfl⟩:=len2 hl
  rw [hu]at h
  have lx:x.lo:=ht.kid (hm x (by simp))
  have ly:y.lo:=ht.kid (hm y (by simp))
  have hw:∀(z:T) (w:ByteArray),z.lo→wordOf z=some w→w.size≤1099511627776:=by
   intro z w hz hw
   have:=hz.name
   unfold wordOf at hw
   split at hw
   ·have:=cutB_le hw;omega
   ·cases hw
  show _∧_
  cases ha:wordOf x with
  |none=>simp [bodyL,ha]at h
  |some p=>
   cases hb:wordOf y with
   |none=>simp [bodyL,ha,hb]at h
   |some q=>
    simp [bodyL,ha,hb]at h
    obtain ⟨_,rfl,rfl⟩:=h
    exact ⟨hw _ _ lx ha,hw _ _ ly hb⟩
structure Kd.opOk (K:Kd) (now:Int) (r:Tlk×T×Int):Prop where
 e:smE r.2.2
 u:r.2.2=0→r.1.u=K.u
 now:r.2.2=0→r.1.now=now
 client:r.2.2=0→r.1.c.client=K.u.name
 nonce:r.2.2=0→r.1.c.nonce.size≤1099511627776
 done:r.2.2=0→r.1.c.done=[]∨begR r.1.c.done K.u.set=true
 secret:r.2.2=0→r.1.c.secret.lo
 p:r.2.2=0→r.2.1.lo
theorem opOk_err {K:Kd} {now:Int} {x:Tlk} {t:T} {e:Int} (he:smE e) (h0:e≠0):K.opOk now (x,t,e):=
 ⟨he,fun h=>absurd h h0,fun h=>absurd h h0,fun h=>absurd h h0,fun h=>absurd h h0,fun h=>absurd h h0,fun h=>absurd h h0,fun h=>absurd h h0⟩
theorem opens_ok {K:Kd} {t:T} {now:Int} (ht:t.lo):K.opOk now (K.opens t now):=by
 unfold Kd.opens
 have e2:smE 2:=by simp [smE]
 have e3:smE 3:=by simp [smE]
 have e11:smE 11:=by simp [smE]
 have e7:smE 7:=by simp [smE]
 have e0:smE 0:=by simp [smE]
 cases ha:askOf t with
 |none=>exact opOk_err e2 (by decide)
 |some r=>
  obtain ⟨body,armor,sealed⟩:=r
  obtain ⟨m1,m2,m3⟩:=askOf_mem ha
  have l1:=ht.kid m1
  have l3:=ht.kid m3
  show K.opOk now (K.opB t body armor sealed now (bodyOf body))
  cases hb:bodyOf body with
  |none=>exact opOk_err e2 (by decide)
  |some q=>
   obtain ⟨client,nonce⟩:=q
   have hz:=bodyOf_size l1 hb
   show K.opOk now (K.opA t body sealed client nonce now (armOf K.key armor))
   unfold Kd.opA
   have ha:=@armOf_sm K.key armor
   generalize armOf K.key armor=a at *
   by_cases h0:a.2=0
   ·rw [if_pos h0]
    have hr:=@reqOf_sm a.1 body sealed
    have hlo:=reqOf_lo (k:=a.1) (b:=body) l3
    unfold Kd.opR
    generalize reqOf a.1 body sealed=r at *
    by_cases h1:r.2.2=0
    ·rw [if_pos h1]
     by_cases hn:K.u.name=client
     ·rw [if_pos hn]
      cases hi:isNoneT r.2.1 with
      |true=>
       rw [if_pos rfl]
       unfold Kd.opF
       split
       ·exact opOk_err e7 (by decide)
       ·exact ⟨e0,fun _=>rfl,fun _=>rfl,fun _=>hn.symm,fun _=>hz.2,fun _=>.inl rfl,fun _=>tNone_lo,fun _=>hlo.2⟩
      |false=>
       rw [if_neg (by simp)]
       have ho:=@openP_sm K.cookies r.2.1 now
       have hs:=openP_lo (k:=K.cookies) (now:=now) hlo.1
       unfold Kd.opC
       generalize openP K.cookies r.2.1 now=o at *
       by_cases h2:o.2=0
       ·rw [if_pos h2]
        split
        ·rename_i hc
         obtain ⟨hc1,hc2,hc3⟩:=hc
         simp only at hc1 hc2
         unfold Kd.opF
         split
         ·exact opOk_err e7 (by decide)
         ·exact ⟨e0,fun _=>rfl,fun _=>rfl,fun _=>hc1.trans hn.symm,fun _=>by show o.1.nonce.size≤_;rw [hc2];exact hz.2,fun _=>.inr hc3,fun _=>hs,fun _=>hlo.2⟩
        ·exact opOk_err e11 (by decide)
       ·rw [if_neg h2];exact opOk_err ho h2
     ·rw [if_neg hn];exact opOk_err e3 (by decide)
    ·rw [if_neg h1];exact opOk_err hr h1
   ·rw [if_neg h0];exact opOk_err ha h0
abbrev Isd:=Option (ByteArray×ByteArray×List ByteArray×T)
def Tlk.more (x:Tlk) (nx:ByteArray):Tlk:={x with c:={x.c with done:=x.c.done++[nx]}}
def Kd.reqD (K:Kd) (x:Tlk) (base:T):T×Kd×Isd:=if x.c.done.length=x.u.set.length then (K.tktT x base,K.tktK,some (x.c.client,x.c.nonce,x.c.done,drawT (K.n+1))) else
 match x.u.set[x.c.done.length]? with
 |some nx=>(K.offT x nx,K.offK nx,none)
 |none=>(tZ,K,none)
def Kd.reqO (K:Kd) (x:Tlk) (base:T) (a:Tk×Int×Int):T×Kd×Isd:=
 if 5≤K.u.fails then (tRefuse 7,K,none) else
 if a.2.2=0 then Kd.reqD {K with u:={K.u with tok:=a.1}} x base else (tRefuse a.2.2,{K with u:={K.u with tok:=a.1}},none)
def Kd.reqS (K:Kd) (x:Tlk) (nx:ByteArray) (r:T×List Int×Int) (s:Int×List (ByteArray×Int)):T×Kd×Isd:=
 if s.1=0 then (if nx=otpB then Kd.reqO {K with cache:=s.2} (x.more nx) r.1 (K.u.tok.accept r.2.1) else Kd.reqD {K with cache:=s.2} (x.more nx) r.1) else (tRefuse s.1,{K with cache:=s.2},none)
def Kd.reqC (K:Kd) (x:Tlk) (p:T) (nx:ByteArray) (now:Int) (r:T×List Int×Int):T×Kd×Isd:=
 if r.2.2=0 then K.reqS x nx r (Rf.seenR K.room K.cache p.txt (now+100+1) now) else (tRefuse r.2.2,if r.2.2=6 then {K with u:={K.u with fails:=K.u.fails+1}} else K,none)
noncomputable def Kd.reqN (K:Kd) (x:Tlk) (p:T) (now:Int) (nx:ByteArray):T×Kd×Isd:=
 if isNoneT p=true then (K.offT x nx,K.offK nx,none) else
 if tagT p=nx∧(nx=chalB∨isNoneT x.c.secret=false) then K.reqC x p nx now (chkR x p nx) else (tRefuse 11,K,none)
noncomputable def Kd.reqX (K:Kd) (now:Int) (r:Tlk×T×Int):T×Kd×Isd:=
 if r.2.2=0 then (match r.1.u.set[r.1.c.done.length]? with
  |some nx=>K.reqN r.1 r.2.1 now nx
  |none=>(tZ,K,none)) else (tRefuse r.2.2,K,none)
noncomputable def Kd.req (K:Kd) (t:T) (now:Int):T×Kd×Isd:=K.reqX now (K.opens t now)
theorem appD {S:AS} {l:List ByteArray} {nx:ByteArray} (hro:S.ro≤S.n) (hl:l.length≤1000):∃v1 S1 id S2,(∀d rg,opev (.append 1 16) d rg S [.lst 1 true [],lstS l]=some (v1,none,S1))∧v1.isReg=false∧
 (∀d rg,opev (.append 1 16) d rg S1 [v1,.lst 1 true [[.sc (.string nx)]]]=some (.arr id 1 0 (l++[nx]).length none,none,S2))∧S2.heap id=some (.rows 1 (sRow (l++[nx])))∧S.n≤id∧id < S2.n∧S2.ro=S.ro∧S.n≤S2.n∧∀j,j < S.n→S2.heap j=S.heap j:=by
 have hr:=lstS_rows S l
 have hlen:(sRow l).length=l.length:=sRow_len ..
 refine ⟨.arr S.n 1 0 l.length none,S.new (.rows 1 (sRow l)),S.n+1,((S.new (.rows 1 (sRow l))).set S.n none).new (.rows 1 (sRow (l++[nx]))),fun d rg=>?_,rfl,fun d rg=>?_,heap_new,Nat.le_succ _,Nat.lt_succ_self _,rfl,?_,fun j hj=>?_⟩
 ·simp only [opev,hr,Option.bind_some]
  cases l with
  |nil=>simp [appendA,sRow]
  |cons a l=>
   unfold appendA
   simp only [show (sRow (a::l)).isEmpty=false from rfl,Bool.false_eq_true,if_false,List.isEmpty_nil,Bool.true_or,Bool.true_and,List.length_nil,Nat.zero_add,decide_eq_true_eq,List.nil_append]
   rw [if_pos (by rw [hlen];simp at hl;simp;omega),hlen];rfl
 ·have hs:IsSl (S.new (.rows 1 (sRow l))) S.n 1 (sRow l):=⟨heap_new,hro,Nat.lt_succ_self _⟩
  have:=opev_app (d:=d) (rg:=rg) (bytes:=16) hs (ys:=[[.sc (.string nx)]]) (by simp) (by rw [hlen];simp;omega)
  rw [hlen]at this
  have hn:(S.new (.rows 1 (sRow l))).n=S.n+1:=rfl
  rw [hn]at this
  simpa [sRow] using this
 ·show S.n≤S.n+1+1;omega
 ·show (if j=S.n+1 then _ else (if j=S.n then _ else (if j=S.n then _ else _)))=_
  rw [if_neg (by omega),if_neg (by omega),if_neg (by omega)]
structure Kd.okk (K:Kd):Prop where
 cookies:K.cookies.lo
 set1:1≤K.u.set.length
 set2:K.u.set.length≤1000
 names:∀s∈K.u.set,s.size≤1099511627776
 name:K.u.name.size≤1099511627776
 tok:K.u.tok.fails < 4611686018427387904
 fails:0≤K.u.fails∧K.u.fails < 4611686018427387904
 n:0≤K.n∧K.n < 4611686018427387000
 cache:K.cache.length≤1000
def IssRel (S S':AS) (o:Nat→Prop) (R R':List (List AV)):Isd→Prop
 |none=>R'=R
 |some (c,n,d,s)=>∃id,R'=R++[issR c n (.arr id 1 0 d.length none) s]∧S'.heap id=some (.rows 1 (sRow d))∧S.n≤id∧id < S'.n∧¬o id
theorem reqN_off {K:Kd} {x:Tlk} {p:T} {now:Int} {nx:ByteArray} (h:isNoneT p=true):K.reqN x p now nx=(K.offT x nx,K.offK nx,none):=if_pos h
theorem reqN_bad {K:Kd} {x:Tlk} {p:T} {now:Int} {nx:ByteArray} (h:isNoneT p=false) (h2:¬(tagT p=nx∧(nx=chalB∨isNoneT x.c.secret=false))):K.reqN x p now nx=(tRefuse 11,K,none):=by
 unfold Kd.reqN;rw [if_neg (by rw [h];simp),if_neg h2]
theorem reqN_chk {K:Kd} {x:Tlk} {p:T} {now:Int} {nx:ByteArray} (h:isNoneT p=false) (h2:tagT p=nx∧(nx=chalB∨isNoneT x.c.secret=false)):K.reqN x p now nx=K.reqC x p nx now (chkR x p nx):=by
 unfold Kd.reqN;rw [if_neg (by rw [h];simp),if_pos h2]
theorem seenR_sm {room t now:Int} {l:List (ByteArray×Int)} {id:ByteArray}:smE (Rf.seenR room l id t now).1:=by
 unfold Rf.seenR
 split
 ·simp [smE]
 ·split
  ·simp [smE]
  ·split<;>simp [smE]
theorem accept_sm {t:Tk} {l:List Int}:smE (t.accept l).2.2:=by
 unfold Tk.accept
 split
 ·split
  ·simp [smE]
  ·split
   ·simp [smE]
   ·split<;>simp [smE]
 ·simp [smE]
theorem hitN_le (t:Tk):hitN t≤71:=by unfold hitN;omega
theorem hitsR_len {t:Tk} {s b:T}:(hitsR t s b).length≤73:=by
 have h0:=hitN_le t
 have h1:=@hitsM_len t s b (hitN t)
 have h2:(hitsE t s b).length≤72:=by
  unfold hitsE
  split
  ·simp;omega
  ·omega
 unfold hitsR
 split
 ·split
  ·simp;omega
  ·omega
 ·simp
theorem chkR_len {x:Tlk} {p:T} {nx:ByteArray}:(chkR x p nx).2.1.length≤4611686018427387904:=by
 have h:∀ak n p s t,(hitTR ak n p s t).1.length≤73:=by
  intro ak n p s t
  unfold hitTR
  split
  ·unfold hitUR
   split
   ·split
    ·unfold hitLR
     split
     ·split
      ·exact hitsR_len
      ·simp
     ·simp
    ·simp
   ·simp
  ·simp
 unfold chkR
 split
 ·exact Nat.le_trans (h _ _ _ _ _) (by omega)
 ·split<;>simp
section
variable {S:AS} {k:Nat} {L:Loc} {K:Kd} {R:List (List AV)}
theorem IsKd.same (h:IsKd S k L K R) {S':AS} (hr:S'.ro=S.ro) (hn:S.n≤S'.n) (hh:∀j,j < S.n→S'.heap j=S.heap j):IsKd S' k L K R∧Chg S S' (ownK k L) (ownK k L):=
 ⟨h.keep hr hn fun x hx _=>hh x hx,hr,hn,fun x hx ho=>⟨hh x hx,ho⟩⟩
set_option maxHeartbeats 16000000 in
set_option maxRecDepth 100000 in
theorem c137 (h:IsKd S k L K R) (hK:K.okk) (hR:R.length≤1000) {t:T} {now:Int} (ht:t.lo) (hnow:now.natAbs≤100000000000000):
 ∃S' L' R',call 137 [.ptr k 0 0,.agg t.cells,.sc (.int .i64 now)] S=some (.agg (K.req t now).1.cells,S')∧IsKd S' k L' (K.req t now).2.1 R'∧Chg S S' (ownK k L) (ownK k L')∧IssRel S S' (ownK k L') R R' (K.req t now).2.2:=by
 rw [call_keep a137 (by simp) rfl]
 have e239:=s239 h.at_ (t:=t) (now:=now) ht hK.cookies hK.set2
 have ok:=opens_ok (K:=K) (now:=now) ht
 unfold Kd.req
 generalize K.opens t now=r at *
 obtain ⟨x,p,e⟩:=r
 unfold resT at e239
 simp only at e239
 have xc:=@Tlk.cell x (lstS x.c.done) rfl
 have e73:∀S n,smE n→call 73 [.sc (.int .i64 n)] S=some (.agg (tRefuse n).cells,S):=fun S n hn=>s73 (by unfold inI;unfold smE at hn;omega) (by unfold smE at hn;omega)
 by_cases h0:e=0
 case neg=>
  have hr:K.reqX now (x,p,e)=(tRefuse e,K,none):=if_neg h0
  rw [hr]
  refine ⟨S,L,R,?_,h,Chg.refl,rfl⟩
  have e73':=fun S=>e73 S e ok.e
  simp [f137,f137b,e239,xc,h0,e73']
 subst h0
 have xu:=ok.u rfl
 have xn:=ok.now rfl
 have xcl:=ok.client rfl
 have xno:=ok.nonce rfl
 have xd:=ok.done rfl
 have xs:=ok.secret rfl
 have xp:=ok.p rfl
 simp only at xu xn xcl xno xd xs xp
 have hlt:x.c.done.length < x.u.set.length:=by
  rw [xu]
  rcases xd with e|e
  ·rw [e];exact hK.set1
  ·unfold begR at e;simp at e;exact e.1
 have hmem:∀s∈x.c.done,s∈K.u.set:=by
  rcases xd with e|e
  ·rw [e];intro s hs;cases hs
  ·unfold begR at e;simp at e
   intro s hs;rw [←e.2]at hs;exact List.mem_of_mem_take hs
 have hs2:=hK.set2
 have xk:x.okk:=⟨by rw [xcl];exact hK.name,xno,by rw [xu]at hlt;omega,fun s hs=>hK.names s (hmem s hs),by rw [xn];omega⟩
 obtain ⟨nx,hnx⟩:∃nx,x.u.set[x.c.done.length]?=some nx:=⟨x.u.set[x.c.done.length],by simp [hlt]⟩
 have hnxm:nx∈K.u.set:=by rw [←xu];exact List.mem_of_getElem? hnx
 have hr:K.reqX now (x,p,0)=K.reqN x p now nx:=by unfold Kd.reqX;simp only [if_true,hnx]
 rw [hr]
 have hat:=lstS_at hnx
 have e84:=fun S=>@s84 S p
 have hS:=h.hS
 cases hi:isNoneT p with
 |true=>
  rw [hi]at e84
  rw [reqN_off hi]
  obtain ⟨S',e240,h',g'⟩:=c240 h (by have:=hK.n;omega) hK.cookies xk (.inl rfl) hnx
  refine ⟨S',L,R,?_,h',g',rfl⟩
  simp [f137,f137b,e239,xc,e84,e240]
 |false=>
 rw [hi]at e84
 have e82:=fun S=>@s82 S p
 have e84s:=fun S=>@s84 S x.c.secret
 have e73b:=fun S=>e73 S 11 (by simp [smE])
 by_cases htg:tagT p=nx
 case neg=>
  rw [reqN_bad hi (fun h=>htg h.1)]
  refine ⟨S,L,R,?_,h,Chg.refl,rfl⟩
  have e73c:∀S,call 73 [AV.i 11] S=some (AV.agg (tRefuse 11).cells,S):=e73b
  simp [f137,f137b,e239,xc,e84,hat,e82,htg,e73c]
 have e241:=fun S=>@s241 S x p nx xp xs (by rw [xn];omega)
 have csm:=@chkR_sm x p nx
 by_cases hc:nx=chalB
 ·have n1:(nx=⟨#[99,104,97,108,108,101,110,103,101]⟩)=True:=eq_true hc
  have hg:tagT p=nx∧(nx=chalB∨isNoneT x.c.secret=false):=⟨htg,.inl hc⟩
  rw [reqN_chk hi hg]
  unfold Kd.reqC
  generalize chkR x p nx=c at *
  unfold resC at e241
  by_cases f0:c.2.2=0
  case neg=>
   rw [if_neg f0]
   have e73c:=fun S=>e73 S c.2.2 csm
   by_cases f6:c.2.2=6
   ·obtain ⟨S1,e242,b1,g1⟩:=c242 h.b hK.fails
    obtain ⟨h1,G1⟩:=h.upB b1 g1
    rw [←xcl]at e242
    rw [if_pos f6]
    refine ⟨S1,L,R,?_,h1,G1,rfl⟩
    rw [f6]at e241 e73c ⊢
    simp [f137,f137b,e239,xc,e84,hat,e82,htg,n1,e241,h.at_.users,e242,e73c]
   ·rw [if_neg f6]
    refine ⟨S,L,R,?_,h,Chg.refl,rfl⟩
    simp [f137,f137b,e239,xc,e84,hat,e82,htg,n1,e241,f0,f6,e73c]
  rw [if_pos f0]
  rw [f0]at e241
  have e243:=fun S=>@s243 S p xp
  have w1:IntKind.i64.wrap (now+100)=now+100:=w64 (by omega)
  have w2:IntKind.i64.wrap (now+100+1)=now+100+1:=w64 (by omega)
  obtain ⟨S1,ids1,cv1,e56,c1,g1⟩:=Rf.cSeen (t:=now+100+1) (now:=now) (id:=p.txt) h.c hK.cache
  have ssm:smE (Rf.seenR K.room K.cache p.txt (now+100+1) now).1:=seenR_sm
  generalize Rf.seenR K.room K.cache p.txt (now+100+1) now=q at *
  obtain ⟨h1,G1⟩:=h.upC c1 g1
  generalize hL1:({L with ids:=ids1,cv:=cv1}:Loc)=L1 at *
  unfold Kd.reqS
  have hcc:=h.at_.cch
  by_cases q0:q.1=0
  case neg=>
   rw [if_neg q0]
   have e73c:=fun S=>e73 S q.1 ssm
   refine ⟨S1,L1,R,?_,h1,G1,rfl⟩
   simp [f137,f137b,e239,xc,e84,hat,e82,htg,n1,e241,e243,w1,w2,hcc,e56,q0,e73c]
  rw [if_pos q0]
  rw [q0]at e56
  have no:nx≠otpB:=by rw [hc];decide
  have no':(nx=⟨#[111,116,112]⟩)=False:=eq_false no
  rw [if_neg no]
  obtain ⟨v1,S3',id,S3,a1,a2,a3,a4,a5,a6,a7,a8,a9⟩:=@appD S1 x.c.done nx h1.hS xk.done
  obtain ⟨h3,G3⟩:=h1.same a7 a8 a9
  have G3:=G1.trans G3
  have hid:¬ownK k L1 id:=fun e=>by have:=h1.own_lt e;omega
  have hD:DV S3 (ownK k L1) (.arr id 1 0 (x.c.done++[nx]).length none) (x.more nx).c.done:=.inr ⟨id,rfl,a4,a6,hid⟩
  have hsd:List.take 8 (x.cells (lstS x.c.done))++.arr id 1 0 (x.c.done++[nx]).length none::List.drop 9 (x.cells (lstS x.c.done))=(x.more nx).cells (.arr id 1 0 (x.c.done++[nx]).length none):=rfl
  have xc3:((x.more nx).cells (.arr id 1 0 (x.c.done++[nx]).length none)).all AV.isCell=true:=Tlk.cell rfl
  have t8:List.take 1 (List.drop 8 ((x.more nx).cells (.arr id 1 0 (x.c.done++[nx]).length none)))=[.arr id 1 0 (x.c.done++[nx]).length none]:=rfl
  have t17:List.take 1 (List.drop 17 ((x.more nx).cells (.arr id 1 0 (x.c.done++[nx]).length none)))=[lstS x.u.set]:=rfl
  have t29:List.take 29 ((x.more nx).cells (.arr id 1 0 (x.c.done++[nx]).length none))=(x.more nx).cells (.arr id 1 0 (x.c.done++[nx]).length none):=rfl
  have l29:((x.more nx).cells (.arr id 1 0 (x.c.done++[nx]).length none)).length=29:=rfl
  have xk3:(x.more nx).okk:=⟨xk.client,xk.nonce,by show (x.c.done++[nx]).length≤1000;rw [xu]at hlt;simp;omega,fun s hs=>(List.mem_append.1 hs).elim (xk.names s) fun hs=>by rw [List.mem_singleton.1 hs];exact hK.names nx hnxm,xk.now⟩
  unfold Kd.reqD
  by_cases hm:(x.more nx).c.done.length=(x.more nx).u.set.length
  ·rw [if_pos hm]
   obtain ⟨S4,v4,e245,h4,G4⟩:=c245 h3 (by have:=hK.n;show 0≤K.n∧K.n < _;omega) hR xk3 hD (xcl:(x.more nx).c.client=K.u.name) (base:=c.1)
   refine ⟨S4,{L1 with iv:=v4},_,?_,h4,G3.trans G4,⟨id,rfl,?_,?_,?_,?_⟩⟩
   ·have hm':(x.c.done++[nx]).length=x.u.set.length:=hm
    generalize (x.c.done++[nx]).length=m at *
    have hmI:((m:Int)=(x.u.set.length:Int))=True:=eq_true (by rw [hm'])
    clear hm'
    generalize (x.more nx).cells (.arr id 1 0 m none)=X3 at *
    simp [f137,f137b,e239,xc,e84,hat,e82,htg,n1,e241,e243,w1,w2,hcc,e56,no',fillR,a1,a2,a3,hsd,xc3,t8,t17,t29,l29,hmI,e245]
   ·exact (G4.2.2 id a6 hid).1.trans a4
   ·have:=G1.2.1;omega
   ·have:=G4.2.1;omega
   ·exact (G4.2.2 id a6 hid).2
  ·rw [if_neg hm]
   have hlt3:(x.more nx).c.done.length < (x.more nx).u.set.length:=by have:(x.more nx).c.done.length=x.c.done.length+1:=by {show (x.c.done++[nx]).length=_;simp};have:(x.more nx).u.set.length=x.u.set.length:=rfl;omega
   obtain ⟨nx3,hnx3⟩:∃nx3,(x.more nx).u.set[(x.more nx).c.done.length]?=some nx3:=⟨(x.more nx).u.set[(x.more nx).c.done.length],by simp [hlt3]⟩
   simp only [hnx3]
   obtain ⟨S4,e240,h4,G4⟩:=c240 h3 (by have:=hK.n;show 0≤K.n∧K.n < _;omega) hK.cookies xk3 hD hnx3
   refine ⟨S4,L1,R,?_,h4,G3.trans G4,rfl⟩
   have hm':¬(x.c.done++[nx]).length=x.u.set.length:=hm
   generalize (x.c.done++[nx]).length=m at *
   have hmI:((m:Int)=(x.u.set.length:Int))=False:=eq_false (by omega)
   generalize (x.more nx).cells (.arr id 1 0 m none)=X3 at *
   simp [f137,f137b,e239,xc,e84,hat,e82,htg,n1,e241,e243,w1,w2,hcc,e56,no',fillR,a1,a2,a3,hsd,xc3,t8,t17,t29,l29,hmI,e240]
 ·have n1:(nx=⟨#[99,104,97,108,108,101,110,103,101]⟩)=False:=eq_false hc
  cases hsn:isNoneT x.c.secret with
  |true=>
   rw [hsn]at e84s
   rw [reqN_bad hi (fun h=>h.2.elim hc fun h=>by rw [hsn]at h;cases h)]
   refine ⟨S,L,R,?_,h,Chg.refl,rfl⟩
   have e73c:∀S,call 73 [AV.i 11] S=some (AV.agg (tRefuse 11).cells,S):=e73b
   simp [f137,f137b,e239,xc,e84,hat,e82,htg,n1,e84s,e73c]
  |false=>
   rw [hsn]at e84s
   have hg:tagT p=nx∧(nx=chalB∨isNoneT x.c.secret=false):=⟨htg,.inr hsn⟩
   have hcl:(chkR x p nx).2.1.length≤4611686018427387904:=chkR_len
   rw [reqN_chk hi hg]
   unfold Kd.reqC
   generalize chkR x p nx=c at *
   unfold resC at e241
   by_cases f0:c.2.2=0
   case neg=>
    rw [if_neg f0]
    have e73c:=fun S=>e73 S c.2.2 csm
    by_cases f6:c.2.2=6
    ·obtain ⟨S1,e242,b1,g1⟩:=c242 h.b hK.fails
     obtain ⟨h1,G1⟩:=h.upB b1 g1
     rw [←xcl]at e242
     rw [if_pos f6]
     refine ⟨S1,L,R,?_,h1,G1,rfl⟩
     rw [f6]at e241 e73c ⊢
     simp [f137,f137b,e239,xc,e84,hat,e82,htg,n1,e84s,e241,h.at_.users,e242,e73c]
    ·rw [if_neg f6]
     refine ⟨S,L,R,?_,h,Chg.refl,rfl⟩
     simp [f137,f137b,e239,xc,e84,hat,e82,htg,n1,e84s,e241,f0,f6,e73c]
   rw [if_pos f0]
   rw [f0]at e241
   have e243:=fun S=>@s243 S p xp
   have w1:IntKind.i64.wrap (now+100)=now+100:=w64 (by omega)
   have w2:IntKind.i64.wrap (now+100+1)=now+100+1:=w64 (by omega)
   obtain ⟨S1,ids1,cv1,e56,c1,g1⟩:=Rf.cSeen (t:=now+100+1) (now:=now) (id:=p.txt) h.c hK.cache
   have ssm:smE (Rf.seenR K.room K.cache p.txt (now+100+1) now).1:=seenR_sm
   generalize Rf.seenR K.room K.cache p.txt (now+100+1) now=q at *
   obtain ⟨h1,G1⟩:=h.upC c1 g1
   generalize hL1:({L with ids:=ids1,cv:=cv1}:Loc)=L1 at *
   unfold Kd.reqS
   have hcc:=h.at_.cch
   by_cases q0:q.1=0
   case neg=>
    rw [if_neg q0]
    have e73c:=fun S=>e73 S q.1 ssm
    refine ⟨S1,L1,R,?_,h1,G1,rfl⟩
    simp [f137,f137b,e239,xc,e84,hat,e82,htg,n1,e84s,e241,e243,w1,w2,hcc,e56,q0,e73c]
   rw [if_pos q0]
   rw [q0]at e56
   by_cases no:nx=otpB
   case neg=>
    have no':(nx=⟨#[111,116,112]⟩)=False:=eq_false no
    rw [if_neg no]
    obtain ⟨v1,S3',id,S3,a1,a2,a3,a4,a5,a6,a7,a8,a9⟩:=@appD S1 x.c.done nx h1.hS xk.done
    obtain ⟨h3,G3⟩:=h1.same a7 a8 a9
    have G3:=G1.trans G3
    have hid:¬ownK k L1 id:=fun e=>by have:=h1.own_lt e;omega
    have hD:DV S3 (ownK k L1) (.arr id 1 0 (x.c.done++[nx]).length none) (x.more nx).c.done:=.inr ⟨id,rfl,a4,a6,hid⟩
    have hsd:List.take 8 (x.cells (lstS x.c.done))++.arr id 1 0 (x.c.done++[nx]).length none::List.drop 9 (x.cells (lstS x.c.done))=(x.more nx).cells (.arr id 1 0 (x.c.done++[nx]).length none):=rfl
    have xc3:((x.more nx).cells (.arr id 1 0 (x.c.done++[nx]).length none)).all AV.isCell=true:=Tlk.cell rfl
    have t8:List.take 1 (List.drop 8 ((x.more nx).cells (.arr id 1 0 (x.c.done++[nx]).length none)))=[.arr id 1 0 (x.c.done++[nx]).length none]:=rfl
    have t17:List.take 1 (List.drop 17 ((x.more nx).cells (.arr id 1 0 (x.c.done++[nx]).length none)))=[lstS x.u.set]:=rfl
    have t29:List.take 29 ((x.more nx).cells (.arr id 1 0 (x.c.done++[nx]).length none))=(x.more nx).cells (.arr id 1 0 (x.c.done++[nx]).length none):=rfl
    have l29:((x.more nx).cells (.arr id 1 0 (x.c.done++[nx]).length none)).length=29:=rfl
    have xk3:(x.more nx).okk:=⟨xk.client,xk.nonce,by show (x.c.done++[nx]).length≤1000;rw [xu]at hlt;simp;omega,fun s hs=>(List.mem_append.1 hs).elim (xk.names s) fun hs=>by rw [List.mem_singleton.1 hs];exact hK.names nx hnxm,xk.now⟩
    unfold Kd.reqD
    by_cases hm:(x.more nx).c.done.length=(x.more nx).u.set.length
    ·rw [if_pos hm]
     obtain ⟨S4,v4,e245,h4,G4⟩:=c245 h3 (by have:=hK.n;show 0≤K.n∧K.n < _;omega) hR xk3 hD (xcl:(x.more nx).c.client=K.u.name) (base:=c.1)
     refine ⟨S4,{L1 with iv:=v4},_,?_,h4,G3.trans G4,⟨id,rfl,?_,?_,?_,?_⟩⟩
     ·have hm':(x.c.done++[nx]).length=x.u.set.length:=hm
      generalize (x.c.done++[nx]).length=m at *
      have hmI:((m:Int)=(x.u.set.length:Int))=True:=eq_true (by rw [hm'])
      clear hm'
      generalize (x.more nx).cells (.arr id 1 0 m none)=X3 at *
      simp [f137,f137b,e239,xc,e84,hat,e82,htg,n1,e84s,e241,e243,w1,w2,hcc,e56,no',fillR,a1,a2,a3,hsd,xc3,t8,t17,t29,l29,hmI,e245]
     ·exact (G4.2.2 id a6 hid).1.trans a4
     ·have:=G1.2.1;omega
     ·have:=G4.2.1;omega
     ·exact (G4.2.2 id a6 hid).2
    ·rw [if_neg hm]
     have hlt3:(x.more nx).c.done.length < (x.more nx).u.set.length:=by have:(x.more nx).c.done.length=x.c.done.length+1:=by {show (x.c.done++[nx]).length=_;simp};have:(x.more nx).u.set.length=x.u.set.length:=rfl;omega
     obtain ⟨nx3,hnx3⟩:∃nx3,(x.more nx).u.set[(x.more nx).c.done.length]?=some nx3:=⟨(x.more nx).u.set[(x.more nx).c.done.length],by simp [hlt3]⟩
     simp only [hnx3]
     obtain ⟨S4,e240,h4,G4⟩:=c240 h3 (by have:=hK.n;show 0≤K.n∧K.n < _;omega) hK.cookies xk3 hD hnx3
     refine ⟨S4,L1,R,?_,h4,G3.trans G4,rfl⟩
     have hm':¬(x.c.done++[nx]).length=x.u.set.length:=hm
     generalize (x.c.done++[nx]).length=m at *
     have hmI:((m:Int)=(x.u.set.length:Int))=False:=eq_false (by omega)
     generalize (x.more nx).cells (.arr id 1 0 m none)=X3 at *
     simp [f137,f137b,e239,xc,e84,hat,e82,htg,n1,e84s,e241,e243,w1,w2,hcc,e56,no',fillR,a1,a2,a3,hsd,xc3,t8,t17,t29,l29,hmI,e240]
   have no':(nx=⟨#[111,116,112]⟩)=True:=eq_true no
   rw [if_pos no]
   have hus1:∀d rg,opev (.ld none 1 false) d rg S1 [.ptr k 0 6]=some (.ptr L.kb 0 0,none,S1):=by have:=h1.at_.users;rw [←hL1]at this;exact this
   have b1:IsB S1 L.kb L.ub K.u:=by have:=h1.b;rw [←hL1]at this;exact this
   obtain ⟨S2,e244,b2,g2⟩:=c244 b1 (l:=c.2.1) hcl hK.tok
   have hLk:L1.kb=L.kb:=by rw [←hL1]
   have hLu:L1.ub=L.ub:=by rw [←hL1]
   rw [←hLk,←hLu]at b2 g2
   obtain ⟨h2,G2⟩:=h1.upB b2 g2
   have G2:=G1.trans G2
   rw [←xcl]at e244
   unfold Kd.reqO
   show ∃S' L' R',_=some (AV.agg (if 5≤K.u.fails then _ else _:T×Kd×Isd).1.cells,S')∧_
   by_cases h5:5≤K.u.fails
   case pos=>
    rw [if_pos h5]at e244 h2 ⊢
    have e73c:∀S,call 73 [AV.i 7] S=some (AV.agg (tRefuse 7).cells,S):=fun S=>e73 S 7 (by simp [smE])
    refine ⟨S2,L1,R,?_,h2,G2,rfl⟩
    simp [f137,f137b,e239,xc,e84,hat,e82,htg,n1,e84s,e241,e243,w1,w2,hcc,e56,no',hus1,e244,e73c]
   rw [if_neg h5]at e244 h2 ⊢
   have asm:smE (K.u.tok.accept c.2.1).2.2:=accept_sm
   generalize K.u.tok.accept c.2.1=a at *
   by_cases a0:a.2.2=0
   case neg=>
    rw [if_neg a0]
    have e73c:=fun S=>e73 S a.2.2 asm
    refine ⟨S2,L1,R,?_,h2,G2,rfl⟩
    simp [f137,f137b,e239,xc,e84,hat,e82,htg,n1,e84s,e241,e243,w1,w2,hcc,e56,no',hus1,e244,a0,e73c]
   rw [if_pos a0]
   rw [a0]at e244
   obtain ⟨v1,S3',id,S3,a1,a2,a3,a4,a5,a6,a7,a8,a9⟩:=@appD S2 x.c.done nx h2.hS xk.done
   obtain ⟨h3,G3⟩:=h2.same a7 a8 a9
   have G3:=G2.trans G3
   have hid:¬ownK k L1 id:=fun e=>by have:=h2.own_lt e;omega
   have hD:DV S3 (ownK k L1) (.arr id 1 0 (x.c.done++[nx]).length none) (x.more nx).c.done:=.inr ⟨id,rfl,a4,a6,hid⟩
   have hsd:List.take 8 (x.cells (lstS x.c.done))++.arr id 1 0 (x.c.done++[nx]).length none::List.drop 9 (x.cells (lstS x.c.done))=(x.more nx).cells (.arr id 1 0 (x.c.done++[nx]).length none):=rfl
   have xc3:((x.more nx).cells (.arr id 1 0 (x.c.done++[nx]).length none)).all AV.isCell=true:=Tlk.cell rfl
   have t8:List.take 1 (List.drop 8 ((x.more nx).cells (.arr id 1 0 (x.c.done++[nx]).length none)))=[.arr id 1 0 (x.c.done++[nx]).length none]:=rfl
   have t17:List.take 1 (List.drop 17 ((x.more nx).cells (.arr id 1 0 (x.c.done++[nx]).length none)))=[lstS x.u.set]:=rfl
   have t29:List.take 29 ((x.more nx).cells (.arr id 1 0 (x.c.done++[nx]).length none))=(x.more nx).cells (.arr id 1 0 (x.c.done++[nx]).length none):=rfl
   have l29:((x.more nx).cells (.arr id 1 0 (x.c.done++[nx]).length none)).length=29:=rfl
   have xk3:(x.more nx).okk:=⟨xk.client,xk.nonce,by show (x.c.done++[nx]).length≤1000;rw [xu]at hlt;simp;omega,fun s hs=>(List.mem_append.1 hs).elim (xk.names s) fun hs=>by rw [List.mem_singleton.1 hs];exact hK.names nx hnxm,xk.now⟩
   unfold Kd.reqD
   by_cases hm:(x.more nx).c.done.length=(x.more nx).u.set.length
   ·rw [if_pos hm]
    obtain ⟨S4,v4,e245,h4,G4⟩:=c245 h3 (by have:=hK.n;show 0≤K.n∧K.n < _;omega) hR xk3 hD (xcl:(x.more nx).c.client=K.u.name) (base:=c.1)
    refine ⟨S4,{L1 with iv:=v4},_,?_,h4,G3.trans G4,⟨id,rfl,?_,?_,?_,?_⟩⟩
    ·have hm':(x.c.done++[nx]).length=x.u.set.length:=hm
     generalize (x.c.done++[nx]).length=m at *
     have hmI:((m:Int)=(x.u.set.length:Int))=True:=eq_true (by rw [hm'])
     clear hm'
     generalize (x.more nx).cells (.arr id 1 0 m none)=X3 at *
     simp [f137,f137b,e239,xc,e84,hat,e82,htg,n1,e84s,e241,e243,w1,w2,hcc,e56,no',hus1,e244,fillR,a1,a2,a3,hsd,xc3,t8,t17,t29,l29,hmI,e245]
    ·exact (G4.2.2 id a6 hid).1.trans a4
    ·have:=G2.2.1;omega
    ·have:=G4.2.1;omega
    ·exact (G4.2.2 id a6 hid).2
   ·rw [if_neg hm]
    have hlt3:(x.more nx).c.done.length < (x.more nx).u.set.length:=by have:(x.more nx).c.done.length=x.c.done.length+1:=by {show (x.c.done++[nx]).length=_;simp};have:(x.more nx).u.set.length=x.u.set.length:=rfl;omega
    obtain ⟨nx3,hnx3⟩:∃nx3,(x.more nx).u.set[(x.more nx).c.done.length]?=some nx3:=⟨(x.more nx).u.set[(x.more nx).c.done.length],by simp [hlt3]⟩
    simp only [hnx3]
    obtain ⟨S4,e240,h4,G4⟩:=c240 h3 (by have:=hK.n;show 0≤K.n∧K.n < _;omega) hK.cookies xk3 hD hnx3
    refine ⟨S4,L1,R,?_,h4,G3.trans G4,rfl⟩
    have hm':¬(x.c.done++[nx]).length=x.u.set.length:=hm
    generalize (x.c.done++[nx]).length=m at *
    have hmI:((m:Int)=(x.u.set.length:Int))=False:=eq_false (by omega)
    generalize (x.more nx).cells (.arr id 1 0 m none)=X3 at *
    simp [f137,f137b,e239,xc,e84,hat,e82,htg,n1,e84s,e241,e243,w1,w2,hcc,e56,no',hus1,e244,fillR,a1,a2,a3,hsd,xc3,t8,t17,t29,l29,hmI,e240]
end
def Cl.new (name:ByteArray) (pass seed:T) (counter:Int) (ticket host:T):Cl:=
 {on:=false,done:=false,ended:=false,nonce:=⟨#[]⟩,body:=tZ,wrap:=tZ,ak:=tZ,base:=tZ,session:=tZ,name:=name,pass:=pass,seed:=seed,counter:=counter,ticket:=ticket,host:=host,key:=tLong pass name,marks:=[],z1:=true,z2:=true,z3:=true}
def cfgV (name:ByteArray) (pass seed:T) (counter:Int) (ticket host:T):List AV:=
 .sc (.string name)::(pass.cells++(seed.cells++(.sc (.int .i64 counter)::(ticket.cells++host.cells))))
theorem cfgV_def {name:ByteArray} {pass seed ticket host:T} {counter:Int}:cfgV name pass seed counter ticket host=[.sc (.string name),.sc (.int .i64 pass.kind),.sc (.string pass.name),lstT pass.kids,.sc (.int .i64 seed.kind),.sc (.string seed.name),lstT seed.kids,.sc (.int .i64 counter),
 .sc (.int .i64 ticket.kind),.sc (.string ticket.name),lstT ticket.kids,.sc (.int .i64 host.kind),.sc (.string host.name),lstT host.kids]:=by
 unfold cfgV;rw [cells_T pass,cells_T seed,cells_T ticket,cells_T host];rfl
theorem new_frm {S:AS} {o:AObj} {cols:List Nat}:Frm cols S (S.new o):=by
 intro id q hid ho
 have e:(S.new o).heap id=S.heap id:=if_neg (by omega)
 cases q with
 |map es=>exact e.trans ho
 |rows z rs=>exact ⟨rs,e.trans ho,fun r cs hc=>⟨cs,hc,rfl,fun _ _=>rfl⟩⟩
section
variable {S:AS}
theorem c204 {name:ByteArray} {pass seed ticket host:T} {counter:Int} (hS:S.ro≤S.n) (hn:name.size≤4611686018427387904):
 ∃S',call 204 [.agg (cfgV name pass seed counter ticket host)] S=some (.ptr S.n 0 0,S')∧IsCl S' S.n (Cl.new name pass seed counter ticket host) (.lst 0 true [])∧Chg S S' (fun _=>False) (ownC S.n (.lst 0 true [])):=by
 obtain ⟨c,hc⟩:∃c,c=Cl.new name pass seed counter ticket host:=⟨_,rfl⟩
 refine ⟨S.new (.rows 37 [c.row (.lst 0 true [])]),?_,?_,?_⟩
 ·have e200:=fun S=>@s200 S pass name hn
  refine docall_keepF a204.1 a204.2.1 a204.2.2 (by simp) (by show 1≤11;omega) ?_ new_frm
  have d:=@cfgV_def name pass seed ticket host counter
  have t1:((cfgV name pass seed counter ticket host).drop 1).take 3=pass.cells:=by rw [d,←tri pass];rfl
  have t0:(cfgV name pass seed counter ticket host).take 1=[.sc (.string name)]:=by rw [d];rfl
  have t14:(cfgV name pass seed counter ticket host).take 14=cfgV name pass seed counter ticket host:=by rw [d];rfl
  have hl:(cfgV name pass seed counter ticket host).length=14:=by rw [d];rfl
  have hcell:(cfgV name pass seed counter ticket host).all AV.isCell=true:=by rw [d];rfl
  have hcell':∀x∈cfgV name pass seed counter ticket host,x.isCell=true:=List.all_eq_true.1 hcell
  have hb:pev (.build [.b false,.b false,.b false,.s ⟨#[]⟩,.i 0,.s ⟨#[]⟩,.lst 0 true [],.i 0,.s ⟨#[]⟩,.lst 0 true [],.i 0,.s ⟨#[]⟩,.lst 0 true [],.i 0,.s ⟨#[]⟩,.lst 0 true [],.i 0,.s ⟨#[]⟩,.lst 0 true [],.s ⟨#[]⟩,.i 0,.s ⟨#[]⟩,.lst 0 true [],.i 0,.s ⟨#[]⟩,.lst 0 true [],.i 0,.i 0,.s ⟨#[]⟩,.lst 0 true [],.i 0,.s ⟨#[]⟩,.lst 0 true [],.i 0,.s ⟨#[]⟩,.lst 0 true [],.lst 0 true []] [(19,14),(33,3)])
   [.agg (cfgV name pass seed counter ticket host),.agg (tLong pass name).cells]=some (.agg (c.row (.lst 0 true []))):=by
   rw [d,cells_T (tLong pass name),hc]
   rfl
  have hbx:∀d rg,opev (.box .heap) d rg S [.agg (c.row (.lst 0 true []))]=some (.ptr S.n 0 0,none,S.new (.rows 37 [c.row (.lst 0 true [])])):=fun d rg=>by
   rw [hc]
   rfl
  generalize cfgV name pass seed counter ticket host=q at *
  generalize c.row (.lst 0 true [])=r at *
  have t1':(q.tail).take 3=pass.cells:=by rw [←List.drop_one];exact t1
  simp [f204,f204b,t0,t1,t1',t14,hl,hcell,hcell',e200,hb,hbx]
 ·rw [←hc]
  exact ⟨heap_new,.inl ⟨by rw [hc];rfl,rfl⟩,hS,Nat.lt_succ_self _,by rintro ⟨a,b,c,d,e⟩;cases e⟩
 ·refine ⟨rfl,Nat.le_succ _,fun x hx _=>⟨if_neg (by omega),?_⟩⟩
  rintro (e|⟨a,b,c,d,e⟩)
  ·omega
  ·cases e
end
def kdcB:ByteArray:=⟨#[107,100,99]⟩
def cokB:ByteArray:=⟨#[99,111,111,107,105,101]⟩
def pwaB:ByteArray:=⟨#[112,97,115,115,119,111,114,100,32,97]⟩
def sdaB:ByteArray:=⟨#[115,101,101,100,32,97]⟩
def naB:ByteArray:=⟨#[97]⟩
def hostT:T:=tAtom hostB
def tickT:T:=tTick (tAtom kdcB) hostT
section
variable {S:AS}
theorem s140 {s:ByteArray}:call 140 [.sc (.string s)] S=some (.agg (tAtom s).cells,S):=by
 rw [call_calm a140 rfl (by simp) rfl]
 simp [f140,f140b]
theorem s233:call 233 [] S=some (.agg tickT.cells,S):=by
 rw [call_calm a233 rfl rfl rfl]
 have e1:=fun S=>@s286 S (tAtom kdcB) hostT
 have e2:=fun S s=>@s140 S s
 unfold kdcB hostT hostB at e1
 simp [f233,f233b,e2,e1]
 rfl
def dRow (name:ByteArray) (key seed:T) (counter:Int) (ticket host:T):List AV:=
 [.sc (.string name),.sc (.int .i64 key.kind),.sc (.string key.name),lstT key.kids,.sc (.int .i64 seed.kind),.sc (.string seed.name),lstT seed.kids,.sc (.int .i64 counter),
  .sc (.int .i64 ticket.kind),.sc (.string ticket.name),lstT ticket.kids,.sc (.int .i64 host.kind),.sc (.string host.name),lstT host.kids,
  .b false,.s ⟨#[]⟩,.i (0),.s ⟨#[]⟩,.lst 0 true [],.i (0),.s ⟨#[]⟩,.lst 0 true [],.i (0),.s ⟨#[]⟩,.lst 0 true [],.i (0),.s ⟨#[]⟩,.lst 0 true [],.b false,.lst 0 true [],.i (0),.s ⟨#[]⟩,.lst 0 true [],.b false]
theorem c234 {name:ByteArray} {pass seed ticket host:T} {counter:Int} (hS:S.ro≤S.n) (hn:name.size≤4611686018427387904):
 call 234 [.sc (.string name),.agg pass.cells,.agg seed.cells,.sc (.int .i64 counter),.agg ticket.cells,.agg host.cells] S=some (.ptr S.n 0 0,S.new (.rows 34 [dRow name (tLong pass name) seed counter ticket host])):=by
 rw [call_keep a234 (by simp) rfl]
 have e145:=fun S=>@s145n S pass name hn
 have hb:pev (.build [.s ⟨#[]⟩,.i (0),.s ⟨#[]⟩,.lst 0 true [],.i (0),.s ⟨#[]⟩,.lst 0 true [],.i (0),.i (0),.s ⟨#[]⟩,.lst 0 true [],.i (0),.s ⟨#[]⟩,.lst 0 true [],.b false,.s ⟨#[]⟩,.i (0),.s ⟨#[]⟩,.lst 0 true [],.i (0),.s ⟨#[]⟩,.lst 0 true [],.i (0),.s ⟨#[]⟩,.lst 0 true [],.i (0),.s ⟨#[]⟩,.lst 0 true [],.b false,.lst 0 true [],.i (0),.s ⟨#[]⟩,.lst 0 true [],.b false] [(0,1),(1,3),(4,3),(7,1),(8,3),(11,3)])
  [.sc (.string name),.agg (tLong pass name).cells,.agg seed.cells,.sc (.int .i64 counter),.agg ticket.cells,.agg host.cells]=some (.agg (dRow name (tLong pass name) seed counter ticket host)):=by
  rw [cells_T (tLong pass name),cells_T seed,cells_T ticket,cells_T host];simp;rfl
 have hbx:∀d rg,opev (.box .heap) d rg S [.agg (dRow name (tLong pass name) seed counter ticket host)]=some (.ptr S.n 0 0,none,S.new (.rows 34 [dRow name (tLong pass name) seed counter ticket host])):=fun d rg=>rfl
 generalize dRow name (tLong pass name) seed counter ticket host=r at *
 simp [-pev_build,f234,f234b,e145,hb,hbx]
def c0 (pass seed:T):Cl:=Cl.new naB pass seed 2 tickT hostT
theorem cfg_bld {pass seed:T}:pev (.build [.s ⟨#[]⟩,.i (0),.s ⟨#[]⟩,.lst 0 true [],.i (0),.s ⟨#[]⟩,.lst 0 true [],.i (0),.i (0),.s ⟨#[]⟩,.lst 0 true [],.i (0),.s ⟨#[]⟩,.lst 0 true []] [(0,1),(1,3),(4,3),(7,1),(8,3),(11,3)])
 [.sc (.string ⟨#[97]⟩),.agg pass.cells,.agg seed.cells,.i 2,.agg tickT.cells,.agg hostT.cells]=some (.agg (cfgV naB pass seed 2 tickT hostT)):=by
 rw [cfgV_def,cells_T pass,cells_T seed,cells_T tickT,cells_T hostT];simp;rfl
theorem na_size:naB.size≤4611686018427387904:=by show 1≤_;omega
theorem c132 (hS:S.ro≤S.n):∃S' b,call 132 [] S=some (.tup [.ptr S.n 0 0,.ptr b 0 0],S')∧IsCl S' S.n (c0 (tAtom pwaB) (tAtom sdaB)) (.lst 0 true [])∧S'.heap b=some (.rows 34 [dRow naB (tLong (tAtom pwaB) naB) (tAtom sdaB) 2 tickT hostT])∧S.n < b∧b < S'.n∧Chg S S' (fun _=>False) (fun x=>x=S.n∨x=b):=by
 rw [call_keep a132 (by simp) rfl]
 have e140:=fun S s=>@s140 S s
 have e233:=fun S=>@s233 S
 obtain ⟨S1,d1,h1,g1⟩:=c204 (S:=S) (pass:=tAtom pwaB) (seed:=tAtom sdaB) (counter:=2) (ticket:=tickT) (host:=hostT) hS na_size
 have hS1:S1.ro≤S1.n:=by have:=g1.1;have:=g1.2.1;omega
 have d2:=c234 (S:=S1) (pass:=tAtom pwaB) (seed:=tAtom sdaB) (counter:=2) (ticket:=tickT) (host:=hostT) hS1 na_size
 have hb:=@cfg_bld (tAtom pwaB) (tAtom sdaB)
 have hlt:=h1.lt
 refine ⟨S1.new (.rows 34 [dRow naB (tLong (tAtom pwaB) naB) (tAtom sdaB) 2 tickT hostT]),S1.n,?_,h1.keep rfl (Nat.le_succ _) (fun x hx _=>if_neg (by omega)),heap_new,hlt,Nat.lt_succ_self _,g1.1,Nat.le_trans g1.2.1 (Nat.le_succ _),fun x hx _=>⟨?_,?_⟩⟩
 ·have k1:hostT=tAtom ⟨#[104,111,115,116]⟩:=rfl
  have k2:pwaB=⟨#[112,97,115,115,119,111,114,100,32,97]⟩:=rfl
  have k3:sdaB=⟨#[115,101,101,100,32,97]⟩:=rfl
  have k4:naB=⟨#[97]⟩:=rfl
  rw [k1,k2,k3]at hb d1 d2
  rw [k4]at d2
  rw [k1,k2,k3,k4]
  generalize S1.new _=S2 at *
  generalize cfgV _ _ _ _ _ _=cf at *
  simp [-pev_build,f132,f132b,e140,e233,hb,d1,d2]
 ·rw [show (S1.new _).heap x=S1.heap x from if_neg (by have:=g1.2.1;omega)]
  exact (g1.2.2 x hx (fun e=>e)).1
 ·have:=g1.2.1
  rintro (e|e)<;>omega
def setL:Nat→List ByteArray
 |0=>[chalB]
 |1=>[otpB]
 |2=>[spkB]
 |3=>[chalB,otpB]
 |4=>[otpB,spkB]
 |5=>[spkB,chalB]
 |6=>[chalB,otpB,spkB]
 |_=>[spkB,otpB,chalB]
theorem s134 {n:Int}:call 134 [.sc (.int .i64 n)] S=some (lstS (setL (n % 8).toNat),S):=by
 rw [call_calm a134 rfl (by simp) rfl]
 have h0:0≤n % 8∧n % 8 < 8:=⟨Int.emod_nonneg _ (by omega),Int.emod_lt_of_pos _ (by omega)⟩
 have hj:n % 8=0∨n % 8=1∨n % 8=2∨n % 8=3∨n % 8=4∨n % 8=5∨n % 8=6∨n % 8=7:=by omega
 rcases hj with h|h|h|h|h|h|h|h
 ·have hi:∀a0 a1 a2 a3 a4 a5 a6 a7:AV,pev (.iaddr 1) [.lst 1 true [[a0],[a1],[a2],[a3],[a4],[a5],[a6],[a7]],.i 0]=some (.iptr [a0]):=by intros;simp [pev]
  rw [h];simp [f134,f134b,h,hi,fillR];rfl
 ·have hi:∀a0 a1 a2 a3 a4 a5 a6 a7:AV,pev (.iaddr 1) [.lst 1 true [[a0],[a1],[a2],[a3],[a4],[a5],[a6],[a7]],.i 1]=some (.iptr [a1]):=by intros;simp [pev]
  rw [h];simp [f134,f134b,h,hi,fillR];rfl
 ·have hi:∀a0 a1 a2 a3 a4 a5 a6 a7:AV,pev (.iaddr 1) [.lst 1 true [[a0],[a1],[a2],[a3],[a4],[a5],[a6],[a7]],.i 2]=some (.iptr [a2]):=by intros;simp [pev]
  rw [h];simp [f134,f134b,h,hi,fillR];rfl
 ·have hi:∀a0 a1 a2 a3 a4 a5 a6 a7:AV,pev (.iaddr 1) [.lst 1 true [[a0],[a1],[a2],[a3],[a4],[a5],[a6],[a7]],.i 3]=some (.iptr [a3]):=by intros;simp [pev]
  rw [h];simp [f134,f134b,h,hi,fillR];rfl
 ·have hi:∀a0 a1 a2 a3 a4 a5 a6 a7:AV,pev (.iaddr 1) [.lst 1 true [[a0],[a1],[a2],[a3],[a4],[a5],[a6],[a7]],.i 4]=some (.iptr [a4]):=by intros;simp [pev]
  rw [h];simp [f134,f134b,h,hi,fillR];rfl
 ·have hi:∀a0 a1 a2 a3 a4 a5 a6 a7:AV,pev (.iaddr 1) [.lst 1 true [[a0],[a1],[a2],[a3],[a4],[a5],[a6],[a7]],.i 5]=some (.iptr [a5]):=by intros;simp [pev]
  rw [h];simp [f134,f134b,h,hi,fillR];rfl
 ·have hi:∀a0 a1 a2 a3 a4 a5 a6 a7:AV,pev (.iaddr 1) [.lst 1 true [[a0],[a1],[a2],[a3],[a4],[a5],[a6],[a7]],.i 6]=some (.iptr [a6]):=by intros;simp [pev]
  rw [h];simp [f134,f134b,h,hi,fillR];rfl
 ·have hi:∀a0 a1 a2 a3 a4 a5 a6 a7:AV,pev (.iaddr 1) [.lst 1 true [[a0],[a1],[a2],[a3],[a4],[a5],[a6],[a7]],.i 7]=some (.iptr [a7]):=by intros;simp [pev]
  rw [h];simp [f134,f134b,h,hi,fillR];rfl
def us0 (set:List ByteArray):Us:=⟨naB,tLong (tAtom pwaB) naB,set,tAtom sdaB,⟨1,3,10,0,0,5⟩,0⟩
def kd0 (set:List ByteArray):Kd:=⟨tAtom kdcB,tAtom cokB,us0 set,16,[],0⟩
theorem setL_ok {j:Nat}:1≤(setL j).length∧(setL j).length≤3∧(∀s∈setL j,isM s)∧∀(i k:Nat) (s:ByteArray),(setL j)[i]?=some s→(setL j)[k]?=some s→i=k:=by
 have n1:chalB≠otpB:=by decide
 have n2:chalB≠spkB:=by decide
 have n3:otpB≠spkB:=by decide
 have m1:isM chalB:=.inl rfl
 have m2:isM otpB:=.inr (.inl rfl)
 have m3:isM spkB:=.inr (.inr rfl)
 have one:∀a,isM a→1≤[a].length∧[a].length≤3∧(∀s∈[a],isM s)∧∀(i k:Nat) (s:ByteArray),[a][i]?=some s→[a][k]?=some s→i=k:=by
  intro a ha
  refine ⟨by simp,by simp,by simpa using ha,?_⟩
  rintro (_|i) (_|k) s h h'<;>simp_all
 have two:∀a b,isM a→isM b→a≠b→1≤[a,b].length∧[a,b].length≤3∧(∀s∈[a,b],isM s)∧∀(i k:Nat) (s:ByteArray),[a,b][i]?=some s→[a,b][k]?=some s→i=k:=by
  intro a b ha hb hab
  refine ⟨by simp,by simp,by simp [ha,hb],?_⟩
  rintro (_|_|i) (_|_|k) s h h'<;>simp_all
 have three:∀a b c,isM a→isM b→isM c→a≠b→a≠c→b≠c→1≤[a,b,c].length∧[a,b,c].length≤3∧(∀s∈[a,b,c],isM s)∧∀(i k:Nat) (s:ByteArray),[a,b,c][i]?=some s→[a,b,c][k]?=some s→i=k:=by
  intro a b c ha hb hc hab hac hbc
  refine ⟨by simp,by simp,by simp [ha,hb,hc],?_⟩
  rintro (_|_|_|i) (_|_|_|k) s h h'<;>simp_all
 match j with
 |0=>exact one _ m1
 |1=>exact one _ m2
 |2=>exact one _ m3
 |3=>exact two _ _ m1 m2 n1
 |4=>exact two _ _ m2 m3 n3
 |5=>exact two _ _ m3 m1 n2.symm
 |6=>exact three _ _ _ m1 m2 m3 n1 n2 n3
 |_+7=>exact three _ _ _ m3 m2 m1 n3.symm n2.symm n1.symm
theorem us0_okk {j:Nat}:(us0 (setL j)).okk:=by
 obtain ⟨h1,h2,h3,h4⟩:=@setL_ok j
 exact ⟨by show naB≠_;decide,⟨h1,h2⟩,by show 0≤(0:Int)∧(0:Int)≤_;omega,rfl,h3,h4⟩
theorem bld235 {key cookies:T} {kb wid:Nat} {room:Int} {u:Us} {cache:List (ByteArray×Int)}:pev (.build [.i (0),.s ⟨#[]⟩,.lst 0 true [],.i (0),.s ⟨#[]⟩,.lst 0 true [],.sc (.pointer none),.i (0),.sc (.pointer none),.i (0),.lst 0 true []] [(0,3),(3,3),(6,1),(7,1),(8,1)])
 [.agg key.cells,.agg cookies.cells,.ptr kb 0 0,.sc (.int .i64 room),.ptr wid 0 0]=some (.agg ((Kd.mk key cookies u room cache 0).row kb wid (.lst 0 true []))):=by
 rw [cells_T key,cells_T cookies];simp;rfl
set_option maxHeartbeats 1000000 in
theorem c235 {key cookies:T} {u:Us} {f:Bool} (h:u.okk) (hro:S.ro≤S.n):∃S' k L,call 235 [.agg key.cells,.agg cookies.cells,.lst 15 f [u.row],.i 16] S=some (.tup [.ptr k 0 0,.i 0],S')∧IsKd S' k L ⟨key,cookies,u,16,[],0⟩ []∧Chg S S' (fun _=>False) (ownK k L):=by
 rw [call_keep a235 (by simp) rfl]
 obtain ⟨S1,d1,b1,g1⟩:=c329 (f:=f) h hro
 have hS1:S1.ro≤S1.n:=by have:=g1.1;have:=g1.2.1;omega
 obtain ⟨S2,d2,r2,g2⟩:=Rf.cNew (S:=S1) (room:=16) hS1
 have hmax:max (16:Int) 0=16:=by omega
 rw [hmax]at r2
 have hb:=fun kb wid=>@bld235 key cookies kb wid 16 u []
 have hbx:∀d rg,opev (.box .heap) d rg S2 [.agg ((Kd.mk key cookies u 16 [] 0).row S.n S1.n (.lst 0 true []))]=some (.ptr S2.n 0 0,none,S2.new (.rows 11 [(Kd.mk key cookies u 16 [] 0).row S.n S1.n (.lst 0 true [])])):=fun d rg=>rfl
 have hl1:=b1.l1
 have hl2:=b1.l2
 have hw:=r2.lt
 have gn1:=g1.2.1
 have gn2:=g2.2.1
 have hb2:IsB S2 S.n (S.n+1) u:=b1.keep g2.1 g2.2.1 fun x hx _=>(g2.2.2 x hx (fun e=>e)).1
 have nr:∀x,x < S1.n→¬Rf.ownR S1.n [] x:=by
  rintro x hx (e|e)
  ·omega
  ·cases e
 have na:∀x,¬IsArr (.lst 0 true []) x:=by
  rintro x ⟨a,b,c,d,e⟩;cases e
 refine ⟨S2.new (.rows 11 [(Kd.mk key cookies u 16 [] 0).row S.n S1.n (.lst 0 true [])]),S2.n,⟨S.n,S.n+1,S1.n,[],.lst 0 true [],.lst 0 true []⟩,?_,⟨heap_new,?_,?_,.inl ⟨rfl,rfl⟩,?_,Nat.lt_succ_self _,?_,?_,?_⟩,?_⟩
 ·have hb:=hb S.n S1.n
  generalize (Kd.mk key cookies u 16 [] 0).row S.n S1.n (.lst 0 true [])=r at *
  simp [-pev_build,f235,f235b,d1,d2,hb,hbx]
 ·exact hb2.keep rfl (Nat.le_succ _) fun x hx _=>if_neg (by omega)
 ·exact r2.keep rfl (Nat.le_succ _) fun x hx _=>if_neg (by omega)
 ·show S2.ro≤S2.n;have:=g2.1;omega
 ·rintro x (rfl|rfl)
  ·exact ⟨fun e=>by have e:S.n=S2.n:=e;omega,nr _ hl1,na _⟩
  ·exact ⟨fun e=>by have e:S.n+1=S2.n:=e;omega,nr _ hl2,na _⟩
 ·rintro x (rfl|e)
  ·exact ⟨fun e=>by have e:S1.n=S2.n:=e;omega,na _⟩
  ·cases e
 ·rintro ⟨a,b,c,d,e⟩;cases e
 ·refine ⟨g2.1.trans g1.1,by show S.n≤S2.n+1;omega,fun x hx _=>⟨?_,?_⟩⟩
  ·rw [show (S2.new _).heap x=S2.heap x from if_neg (by omega),(g2.2.2 x (by omega) (fun e=>e)).1]
   exact (g1.2.2 x hx (fun e=>e)).1
  ·rintro (e|(e|e)|(e|e)|⟨a,b,c,d,e⟩)
   ·omega
   ·have e:x=S.n:=e;omega
   ·have e:x=S.n+1:=e;omega
   ·have e:x=S1.n:=e;omega
   ·cases e
   ·cases e
theorem bld11 {set:List ByteArray}:pev (.build [.s ⟨#[]⟩,.i (0),.s ⟨#[]⟩,.lst 0 true [],.lst 0 true [],.i (0),.s ⟨#[]⟩,.lst 0 true [],.i (0),.i (0),.i (0),.i (0),.i (0),.i (0),.i (0)] [(0,1),(1,3),(4,1),(5,3),(8,6)])
 [.sc (.string ⟨#[97]⟩),.agg (tLong (tAtom pwaB) naB).cells,lstS set,.agg (tAtom sdaB).cells,.agg [.i 1,.i 3,.i 10,.i 0,.i 0,.i 5]]=some (.agg (us0 set).row):=by
 rw [cells_T (tLong (tAtom pwaB) naB),cells_T (tAtom sdaB)];simp;rfl
theorem bld10:pev (.build [.i (0),.i (0),.i (0),.i (0),.i (0),.i (0)] [(0,1),(1,1),(2,1),(5,1)]) [.i 1,.i 3,.i 10,.i 5]=some (.agg [.i 1,.i 3,.i 10,.i 0,.i 0,.i 5]):=by simp
theorem c133 {j:Nat} (hro:S.ro≤S.n):∃S' k L,call 133 [lstS (setL j)] S=some (.ptr k 0 0,S')∧IsKd S' k L (kd0 (setL j)) []∧Chg S S' (fun _=>False) (ownK k L):=by
 rw [call_keep a133 (by simp) rfl]
 have e140:=fun S s=>@s140 S s
 have e145:=fun S=>@s145n S (tAtom pwaB) naB na_size
 obtain ⟨S',k,L,d,h,g⟩:=c235 (S:=S) (key:=tAtom kdcB) (cookies:=tAtom cokB) (f:=true) (@us0_okk j) hro
 refine ⟨S',k,L,?_,h,g⟩
 have hb:=@bld11 (setL j)
 have rc:=@Us.row_cell (us0 (setL j))
 have rl:=@Us.row_len (us0 (setL j))
 have rt:=@Us.take (us0 (setL j))
 have k2:pwaB=⟨#[112,97,115,115,119,111,114,100,32,97]⟩:=rfl
 have k3:sdaB=⟨#[115,101,101,100,32,97]⟩:=rfl
 have k4:naB=⟨#[97]⟩:=rfl
 have k5:kdcB=⟨#[107,100,99]⟩:=rfl
 have k6:cokB=⟨#[99,111,111,107,105,101]⟩:=rfl
 rw [k2,k3,k4]at hb
 rw [k2,k4]at e145
 rw [k5,k6]at d
 have b10:=bld10
 generalize (us0 (setL j)).row=r at *
 generalize setL j=l at *
 simp [-pev_build,f133,f133b,e140,e145,b10,hb,rc,rl,rt,fillR,d]
end
structure Kd.sz (K:Kd) (b:Nat):Prop where
 cookies:K.cookies.lo
 set1:1≤K.u.set.length
 set2:K.u.set.length≤1000
 names:∀s∈K.u.set,s.size≤1099511627776
 name:K.u.name.size≤1099511627776
 tok:K.u.tok.fails≤(b:Int)
 fails:0≤K.u.fails∧K.u.fails≤(b:Int)
 n:0≤K.n∧K.n≤(b:Int)
 cache:K.cache.length≤b
theorem Kd.sz.okk {K:Kd} {b:Nat} (h:K.sz b) (hb:b≤900):K.okk:=
 ⟨h.cookies,h.set1,h.set2,h.names,h.name,by have:=h.tok;omega,by have:=h.fails;omega,by have:=h.n;omega,by have:=h.cache;omega⟩
theorem Kd.sz.mono {K:Kd} {b b':Nat} (h:K.sz b) (hb:b≤b'):K.sz b':=
 ⟨h.cookies,h.set1,h.set2,h.names,h.name,by have:=h.tok;omega,by have:=h.fails;omega,by have:=h.n;omega,by have:=h.cache;omega⟩
theorem Kd.sz.offK {K:Kd} {b:Nat} {nx:ByteArray} (h:K.sz b):(K.offK nx).sz (b+2):=by
 unfold Kd.offK
 split
 ·exact h.mono (by omega)
 ·exact ⟨h.cookies,h.set1,h.set2,h.names,h.name,by have:=h.tok;show K.u.tok.fails≤_;omega,by have:=h.fails;show 0≤K.u.fails∧K.u.fails≤_;omega,by have:=h.n;show 0≤K.n+1∧K.n+1≤_;omega,by have:=h.cache;show K.cache.length≤_;omega⟩
theorem Kd.sz.tktK {K:Kd} {b:Nat} (h:K.sz b):K.tktK.sz (b+2):=
 ⟨h.cookies,h.set1,h.set2,h.names,h.name,by have:=h.tok;show K.u.tok.fails≤_;omega,by show 0≤(0:Int)∧(0:Int)≤_;omega,by have:=h.n;show 0≤K.n+1+1∧K.n+1+1≤_;omega,by have:=h.cache;show K.cache.length≤_;omega⟩
theorem Kd.sz.reqD {K:Kd} {b:Nat} (h:K.sz b) {x:Tlk} {base:T}:(K.reqD x base).2.1.sz (b+2):=by
 unfold Kd.reqD
 split
 ·exact h.tktK
 ·split
  ·exact h.offK
  ·exact h.mono (by omega)
theorem accept_fails {t:Tk} {l:List Int} {b:Nat} (h:t.fails≤(b:Int)):(t.accept l).1.fails≤((b+1:Nat):Int):=by
 unfold Tk.accept
 split
 ·split
  ·show t.fails≤_;omega
  ·split
   ·show (0:Int)≤_;omega
   ·split
    ·show t.fails+1≤_;omega
    ·show t.fails+1≤_;omega
 ·show t.fails≤_;omega
theorem Kd.sz.reqO {K:Kd} {b:Nat} (h:K.sz b) {x:Tlk} {base:T} {l:List Int}:(K.reqO x base (K.u.tok.accept l)).2.1.sz (b+3):=by
 have h1:({K with u:={K.u with tok:=(K.u.tok.accept l).1}}:Kd).sz (b+1):=
  ⟨h.cookies,h.set1,h.set2,h.names,h.name,accept_fails h.tok,by have:=h.fails;show 0≤K.u.fails∧K.u.fails≤_;omega,by have:=h.n;show 0≤K.n∧K.n≤_;omega,by have:=h.cache;show K.cache.length≤_;omega⟩
 unfold Kd.reqO
 split
 ·exact h.mono (by omega)
 ·split
  ·exact h1.reqD
  ·exact h1.mono (by omega)
theorem Kd.sz.req {K:Kd} {b:Nat} (h:K.sz b) {m:T} {now:Int}:(K.req m now).2.1.sz (b+4):=by
 have hm:K.sz (b+4):=h.mono (by omega)
 unfold Kd.req Kd.reqX
 split
 ·split
  ·unfold Kd.reqN
   split
   ·exact h.offK.mono (by omega)
   ·split
    ·unfold Kd.reqC
     split
     ·have hs:=@Rf.seenR_len K.cache K.room (now+100+1) now (K.opens m now).2.1.txt
      unfold Kd.reqS
      generalize Rf.seenR K.room K.cache (K.opens m now).2.1.txt (now+100+1) now=q at *
      have h1:({K with cache:=q.2}:Kd).sz (b+1):=
       ⟨h.cookies,h.set1,h.set2,h.names,h.name,by have:=h.tok;show K.u.tok.fails≤_;omega,by have:=h.fails;show 0≤K.u.fails∧K.u.fails≤_;omega,by have:=h.n;show 0≤K.n∧K.n≤_;omega,by have:=h.cache;show q.2.length≤_;omega⟩
      split
      ·split
       ·exact Kd.sz.reqO (K:={K with cache:=q.2}) h1
       ·exact h1.reqD.mono (by omega)
      ·exact h1.mono (by omega)
     ·show (if _ then _ else _:Kd).sz _
      split
      ·exact ⟨h.cookies,h.set1,h.set2,h.names,h.name,by have:=h.tok;show K.u.tok.fails≤_;omega,by have:=h.fails;show 0≤K.u.fails+1∧K.u.fails+1≤_;omega,by have:=h.n;show 0≤K.n∧K.n≤_;omega,by have:=h.cache;show K.cache.length≤_;omega⟩
      ·exact hm
    ·exact hm
  ·exact hm
 ·exact hm
structure Cl.sz (c:Cl) (b:Nat):Prop where
 z1:c.on=true→c.z1=false
 z1d:c.done=true→c.z1=false
 z2:c.done=true→c.z2=false
 z3:c.ended=true→c.z3=false
 nonce:c.nonce.size≤1099511627776
 name:c.name.size≤1099511627776
 counter:0≤c.counter∧c.counter≤(b:Int)
 marks:c.marks.length≤b
theorem Cl.sz.ok {c:Cl} {b:Nat} (h:c.sz b) (hb:b≤900):c.ok:=
 ⟨h.z1,h.z1d,h.z2,h.z3,by have:=h.nonce;omega,by have:=h.name;omega,by have:=h.counter;omega,by have:=h.marks;omega⟩
theorem Cl.sz.mono {c:Cl} {b b':Nat} (h:c.sz b) (hb:b≤b'):c.sz b':=
 ⟨h.z1,h.z1d,h.z2,h.z3,h.nonce,h.name,by have:=h.counter;omega,by have:=h.marks;omega⟩
theorem Cl.sz.start {c:Cl} {b:Nat} (h:c.sz b) {nonce:ByteArray} {sub:T} (hn:nonce.size≤1099511627776):(c.start nonce sub).sz b:=
 ⟨fun _=>rfl,fun e=>(by cases e),fun e=>(by cases e),fun e=>(by cases e),hn,h.name,h.counter,h.marks⟩
theorem does_cnt {c:Cl} {o x:T} {now:Int} {b:Nat} (h:0≤c.counter∧c.counter≤(b:Int)):0≤(c.does o now x).1.counter∧(c.does o now x).1.counter≤((b+1:Nat):Int):=by
 unfold Cl.does
 split
 ·exact ⟨h.1,by show c.counter≤_;omega⟩
 ·split
  ·show 0≤(if _ then _ else c:Cl).counter∧_
   split
   ·exact ⟨by show 0≤c.counter+1;omega,by show c.counter+1≤_;omega⟩
   ·exact ⟨h.1,by show c.counter≤_;omega⟩
  ·split<;>exact ⟨h.1,by show c.counter≤_;omega⟩
theorem ends_sz {c:Cl} {t e f:T} {b:Nat} (h:c.sz b) (hon:c.on=true):(c.ends t e f).1.sz b:=by
 have key:∀r,(c.endL t r).1.sz b:=by
  intro r
  unfold Cl.endL
  split
  ·split
   ·exact ⟨fun e=>(by cases e),h.z1d,h.z2,fun _=>rfl,h.nonce,h.name,h.counter,h.marks⟩
   ·exact h
  ·exact h
 unfold Cl.ends
 split
 ·unfold Cl.endF
  split
  ·split
   ·exact key _
   ·exact h
  ·exact h
 ·exact h
theorem Cl.sz.take {c:Cl} {b:Nat} (h:c.sz b) {t x:T} {now:Int}:(c.take t now x).1.sz (b+1):=by
 have hm:c.sz (b+1):=h.mono (by omega)
 unfold Cl.take
 cases hon:c.on with
 |false=>exact hm
 |true=>
  rw [if_pos rfl]
  split
  ·exact ⟨fun e=>(by cases e),h.z1d,h.z2,h.z3,h.nonce,h.name,by have:=h.counter;show 0≤c.counter∧c.counter≤_;omega,by have:=h.marks;show c.marks.length≤_;omega⟩
  ·split
   ·exact (ends_sz h hon).mono (by omega)
   ·unfold Cl.takeM
    split
    ·rename_i o k _
     have hc:=does_cnt (o:=o) (x:=x) (now:=now) h.counter
     obtain ⟨n,hn⟩:=@does_same c o x now
     unfold Cl.takeD
     rw [hn]at hc ⊢
     simp only at hc
     split
     ·exact ⟨fun _=>h.z1 hon,fun _=>h.z1 hon,fun _=>rfl,h.z3,h.nonce,h.name,hc,by have:=h.marks;simp;omega⟩
     ·exact ⟨h.z1,h.z1d,h.z2,h.z3,h.nonce,h.name,hc,by have:=h.marks;show c.marks.length≤_;omega⟩
    ·exact hm
structure Pr (S:AS) (a:Nat) (c:Cl) (mv:AV) (k:Nat) (L:Loc) (K:Kd) (R:List (List AV)) (b:Nat):Prop where
 cl:IsCl S a c mv
 kd:IsKd S k L K R
 dj:∀x,ownC a mv x→¬ownK k L x
 cs:c.sz b
 ks:K.sz b
 r:R.length≤b
def Pr.own (a:Nat) (mv:AV) (k:Nat) (L:Loc) (x:Nat):Prop:=ownC a mv x∨ownK k L x
section
variable {S:AS} {a:Nat} {c:Cl} {mv:AV} {k:Nat} {L:Loc} {K:Kd} {R:List (List AV)} {b:Nat}
theorem Pr.client (h:Pr S a c mv k L K R b) {S':AS} {c':Cl} {mv':AV} (h':IsCl S' a c' mv') (g:Chg S S' (ownC a mv) (ownC a mv')) {b':Nat} (hb:b≤b') (hc:c'.sz b'):
 Pr S' a c' mv' k L K R b'∧Chg S S' (Pr.own a mv k L) (Pr.own a mv' k L):=by
 have hk:IsKd S' k L K R:=h.kd.keep g.1 g.2.1 fun x hx ho=>(g.2.2 x hx fun e=>h.dj x e ho).1
 refine ⟨⟨h',hk,fun x hx ho=>?_,hc,h.ks.mono hb,Nat.le_trans h.r hb⟩,Chg.big g (fun x e=>.inl e) fun x e=>?_⟩
 ·have hlt:=h.kd.own_lt ho
  by_cases hc:ownC a mv x
  ·exact h.dj x hc ho
  ·exact (g.2.2 x hlt hc).2 hx
 ·rcases e with e|e
  ·exact .inl e
  ·exact .inr (.inr e)
theorem Pr.kdc (h:Pr S a c mv k L K R b) {S':AS} {L':Loc} {K':Kd} {R':List (List AV)} (h':IsKd S' k L' K' R') (g:Chg S S' (ownK k L) (ownK k L')) {b':Nat} (hb:b≤b') (hk:K'.sz b') (hr:R'.length≤b'):
 Pr S' a c mv k L' K' R' b'∧Chg S S' (Pr.own a mv k L) (Pr.own a mv k L'):=by
 have hc:IsCl S' a c mv:=h.cl.keep g.1 g.2.1 fun x hx ho=>(g.2.2 x hx (h.dj x ho)).1
 refine ⟨⟨hc,h',fun x hx ho=>?_,h.cs.mono hb,hk,hr⟩,Chg.big g (fun x e=>.inr e) fun x e=>?_⟩
 ·exact (g.2.2 x (h.cl.own_lt hx) (h.dj x hx)).2 ho
 ·rcases e with e|e
  ·exact .inr (.inl e)
  ·exact .inl e
theorem IssRel.len {S S':AS} {o:Nat→Prop} {R R':List (List AV)} {i:Isd} (h:IssRel S S' o R R' i):R'.length≤R.length+1:=by
 unfold IssRel at h
 split at h
 ·rw [h];omega
 ·obtain ⟨id,h1,_⟩:=h;rw [h1];simp
theorem Pr.round (h:Pr S a c mv k L K R b) (hb:b≤880) {m:T} (hm:m.lo) {now:Int} (hnow:now.natAbs≤100000000000000) {x:T} (hx:x.lo) (hlo:(K.req m now).1.lo):
 ∃S1 S2 mv' L' R',call 137 [.ptr k 0 0,.agg m.cells,.sc (.int .i64 now)] S=some (.agg (K.req m now).1.cells,S1)∧
  call 141 [.ptr a 0 0,.agg (K.req m now).1.cells,.sc (.int .i64 now),.agg x.cells] S1=some (.tup [.agg (c.take (K.req m now).1 now x).2.1.cells,.sc (.int .i64 (c.take (K.req m now).1 now x).2.2)],S2)∧
  Pr S2 a (c.take (K.req m now).1 now x).1 mv' k L' (K.req m now).2.1 R' (b+4)∧IssRel S S2 (Pr.own a mv' k L') R R' (K.req m now).2.2∧Chg S S2 (Pr.own a mv k L) (Pr.own a mv' k L'):=by
 obtain ⟨S1,L',R',d1,h1,g1,i1⟩:=c137 h.kd (h.ks.okk (by omega)) (by have:=h.r;omega) hm hnow
 have hrl:=i1.len
 obtain ⟨p1,G1⟩:=h.kdc h1 g1 (b':=b+4) (by omega) h.ks.req (by have:=h.r;omega)
 obtain ⟨S2,mv',d2,h2,g2⟩:=c141 (x:=x) (now:=now) p1.cl (p1.cs.ok (by omega)) hlo hx (by unfold inI;omega)
 obtain ⟨p2,G2⟩:=p1.client h2 g2 (b':=b+4) (by omega) (h.cs.take.mono (by omega))
 refine ⟨S1,S2,mv',L',R',d1,d2,p2,?_,G1.trans G2⟩
 generalize (K.req m now).2.2=i at *
 match i,i1 with
 |none,i1=>exact i1
 |some (cl,n,d,s),⟨id,e1,e2,e3,e4,e5⟩=>
  have hc:¬ownC a mv id:=fun e=>by have:=h.cl.own_lt e;omega
  obtain ⟨q1,q2⟩:=g2.2.2 id e4 hc
  exact ⟨id,e1,q1.trans e2,e3,Nat.lt_of_lt_of_le e4 g2.2.1,fun e=>e.elim q2 e5⟩
end
section
variable {S:AS} {v:AV}
inductive WayR (t:T):Prop
 |no (h:decL t=none) (lk:∀(S:AS) (w:Nat),S.heap w=some (.map W0)→∀d rg,opev (.lookup false (.agg [.sc .nilFunc,.sc .nilFunc]) true) d rg S [.mp w,.sc (.int .i64 t.kind)]=some (.tup [.agg [.sc .nilFunc,.sc .nilFunc],.sc (.bool false)],none,S))
 |yes (k1 k2:Nat) (n g:List T) (z1 z2:Nat) (f1 f2:Bool) (h:decL t=some (n,g)) (lk:∀(S:AS) (w:Nat),S.heap w=some (.map W0)→∀d rg,opev (.lookup false (.agg [.sc .nilFunc,.sc .nilFunc]) true) d rg S [.mp w,.sc (.int .i64 t.kind)]=some (.tup [.agg [.fn k1 [] [],.fn k2 [] []],.sc (.bool true)],none,S))
  (c1:∀S,call k1 [.agg t.cells] S=some (.lst z1 f1 (n.map T.cells),S)) (c2:∀S,call k2 [.agg t.cells] S=some (.lst z2 f2 (g.map T.cells),S)) (q1:n≠[]→z1=3) (q2:g≠[]→z2=3)
structure RdW (S:AS) (kid i j w:Nat) (L:List T) (M:List (ByteArray×Bool)) (v:AV):Prop where
 kn:KN S kid i j L M v
 hw:S.heap w=some (.map W0)
 lw:w < S.n
 nw:¬KOwn kid i j v w
 lo:∀x,x < i→¬KOwn kid i j v x
theorem flat_take {α β:Type} {f:α→List β} {l:List α} {q:Nat} {t:α} (h:l[q]?=some t):(l.take (q+1)).flatMap f=(l.take q).flatMap f++f t:=by
 rw [List.take_add_one,h];simp
end
abbrev N8 (e:Nat→AV):Prop:=NQ [8,9,10,34,35,36,37,38,39,40,41,42,43,44,45,46,47,48,49,50,51,52,53,54,55,56,57,58,59] [8,9] e
abbrev N12 (e:Nat→AV):Prop:=NQ [12,63,64,65,66,67,68,69] [12] e
abbrev NA (e:Nat→AV):Prop:=NQ [6,8,9,10,12,16,17,18,19,20,21,22,23,24,25,26,27,28,29,30,31,32,33,34,35,36,37,38,39,40,41,42,43,44,45,46,47,48,49,50,51,52,53,54,55,56,57,58,59,60,61,62,63,64,65,66,67,68,69] [8,9,12] e
structure AnP (frame U L:List T):Prop where
 nodup:L.Nodup
 has:∀t∈frame,t∈L
 sub:∀t∈L,t∈U
 least:∀Q:List T,(∀t∈frame,t∈Q)→(∀t∈Q,∀u∈moreL Q t,u∈Q)→∀t∈L,t∈Q
structure UOk (U:List T):Prop where
 tidy:∀t∈U,t.tidy
 kids:∀t∈U,∀u∈t.kids,u∈U
 len:U.length≤1000
 klen:∀t∈U,t.kids.length≤500
section
variable {S:AS}
end
structure KnowL (frame U L:List T):Prop where
 has:∀t∈frame,t∈L
 sub:∀t∈L,t∈U
 least:∀Q:List T,(∀t∈frame,t∈Q)→(∀t∈Q,∀u∈moreL Q t,u∈Q)→∀t∈L,t∈Q
 closed:∀t∈L,∀u∈moreL L t,u∈L
section
variable {S:AS}
end
section
variable {S:AS}
end
structure VC where
 k1:Nat
 i1:Nat
 j1:Nat
 v1:AV
 L1:List T
 k2:Nat
 i2:Nat
 j2:Nat
 v2:AV
 L2:List T
 m:Nat
 TH:List T
structure Vw (c:VC) (S:AS):Prop where
 ex:∃M1 M2,KN S c.k1 c.i1 c.j1 c.L1 M1 c.v1∧KN S c.k2 c.i2 c.j2 c.L2 M2 c.v2
 ap:∀x,KOwn c.k1 c.i1 c.j1 c.v1 x→¬KOwn c.k2 c.i2 c.j2 c.v2 x
 hm:S.heap c.m=some (.map (entI c.TH))
 m1:c.m≠c.j1
 m2:c.m≠c.j2
 lm:c.m < S.n
 th:∀u∈c.TH,u.rshp=true
def Rl (c:VC) (S S':AS):Prop:=S'.ro=S.ro∧S.n≤S'.n∧∀x,x < S.n→x≠c.j1→x≠c.j2→S'.heap x=S.heap x
def VQ (c:VC) (S S':AS):Prop:=Vw c S'∧Rl c S S'
section
variable {c:VC} {S:AS}
structure RW where
 z:Nat
 f:Bool
 l:List T
def RW.v (r:RW):AV:=.lst r.z r.f (r.l.map T.cells)
structure RW.ok (r:RW):Prop where
 z:r.l≠[]→r.z=3
 len:r.l.length≤4611686018427387904
 tidy:∀t∈r.l,t.tidy
@[simp] theorem RW.reg {r:RW}:r.v.isReg=false:=rfl
@[simp] theorem RW.cell {r:RW}:r.v.isCell=true:=rfl
def vcV (c:VC):AV:=.iptr [.ptr c.k1 0 0,.ptr c.k2 0 0,.mp c.m]
@[simp] theorem vcV_reg:(vcV c).isReg=false:=rfl
def gn (c:VC) (rows:List RW):Bool:=rows.any (fun r=>r.l.all (mkP c.L2)) && !rows.any (fun r=>r.l.all (mkP c.L1))
end
section
variable {c:VC} {S:AS}
def TsOk (c:VC) (k:Nat) (t:T) (b:Bool):Prop:=∀S,Vw c S→S.ro≤S.n→∃S',VQ c S S'∧call k [.agg t.cells,vcV c] S=some (.sc (.bool b),S')
end
end Abs
