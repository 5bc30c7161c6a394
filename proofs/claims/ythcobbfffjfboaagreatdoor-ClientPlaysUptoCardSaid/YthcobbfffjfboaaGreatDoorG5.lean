/- The document's users: of one user. -/
import Derived.Test.YthcobbfffjfboaaGreatDoorG4
import Derived.Test.YthcobbfffjfboaaGreatDoorG3
set_option linter.unusedVariables false
set_option linter.unusedSimpArgs false
set_option linter.unusedSectionVars false
namespace Abs
open Go
structure Us where
 name:ByteArray
 key:T
 set:List ByteArray
 seed:T
 tok:Tk
 fails:Int
def Us.row (u:Us):List AV:=[.sc (.string u.name),.sc (.int .i64 u.key.kind),.sc (.string u.key.name),lstT u.key.kids,lstS u.set,.sc (.int .i64 u.seed.kind),.sc (.string u.seed.name),lstT u.seed.kids,
 .sc (.int .i64 u.tok.counter),.sc (.int .i64 u.tok.look),.sc (.int .i64 u.tok.sync),.sc (.int .i64 u.tok.pending),.sc (.int .i64 u.tok.fails),.sc (.int .i64 u.tok.limit),.sc (.int .i64 u.fails)]
theorem Us.row_len {u:Us}:u.row.length=15:=rfl
theorem Us.row_cell {u:Us}:u.row.all AV.isCell=true:=rfl
@[simp] theorem Us.frz {S:AS} {b d:Nat} {u:Us}:mapO (S.frzTo b d) u.row=some u.row:=by unfold Us.row;simp
@[simp] theorem Us.pure {u:Us}:pureL u.row=true:=by unfold Us.row;simp
@[simp] theorem Us.nrm {u:Us}:nrmL u.row=u.row:=by unfold Us.row;simp
theorem Us.take {u:Us}:List.take 15 u.row=u.row:=rfl
def zU:Us:=⟨⟨#[]⟩,tZ,[],tZ,⟨0,0,0,0,0,0⟩,0⟩
theorem zU_row:zU.row=[.s ⟨#[]⟩,.i 0,.s ⟨#[]⟩,lstN 0 [],lstN 0 [],.i 0,.s ⟨#[]⟩,lstN 0 [],.i 0,.i 0,.i 0,.i 0,.i 0,.i 0,.i 0]:=rfl
structure AtB (S:AS) (kb ub:Nat) (u:Us):Prop where
 h1:S.heap kb=some (.rows 1 [[.arr ub 15 0 1 none]])
 h2:S.heap ub=some (.rows 15 [u.row])
structure IsB (S:AS) (kb ub:Nat) (u:Us):Prop extends AtB S kb ub u where
 r1:S.ro≤kb
 r2:S.ro≤ub
 l1:kb < S.n
 l2:ub < S.n
 ne:kb≠ub
def ownB (kb ub x:Nat):Prop:=x=kb∨x=ub
section
variable {S:AS} {kb ub:Nat} {u:Us}
theorem AtB.ro (h:AtB S kb ub u) (r:Nat):AtB {S with ro:=r} kb ub u:=⟨h.h1,h.h2⟩
theorem AtB.list (h:AtB S kb ub u) (d:Option Nat) (rg:Nat→Option (List AV)):opev (.ld none 1 false) d rg S [.ptr kb 0 0]=some (.arr ub 15 0 1 none,none,S):=by rw [opev_ld_ptr h.h1];rfl
theorem at0:pev (.iaddr 15) [.arr ub 15 0 1 none,.sc (.int .i64 0)]=some (.ptr ub 0 0):=by
 rw [show (0:Int)=((0:Nat):Int) from rfl,pev_iaddrA (by omega) (by omega)];rfl
theorem AtB.uname (h:AtB S kb ub u) (d:Option Nat) (rg:Nat→Option (List AV)):opev (.ld none 1 false) d rg S [.ptr ub 0 0]=some (.sc (.string u.name),none,S):=by rw [opev_ld_ptr h.h2];rfl
theorem AtB.ufails (h:AtB S kb ub u) (d:Option Nat) (rg:Nat→Option (List AV)):opev (.ld none 1 false) d rg S [.ptr ub 0 14]=some (.sc (.int .i64 u.fails),none,S):=by rw [opev_ld_ptr h.h2];rfl
theorem AtB.utok (h:AtB S kb ub u) (d:Option Nat) (rg:Nat→Option (List AV)):opev (.ld none 6 true) d rg S [.ptr ub 0 8]=some (.agg u.tok.cells,none,S):=by rw [opev_ld_ptr h.h2];rfl
theorem AtB.urow (h:AtB S kb ub u) (d:Option Nat) (rg:Nat→Option (List AV)):opev (.ld none 15 true) d rg S [.ptr ub 0 0]=some (.agg u.row,none,S):=by rw [opev_ld_ptr h.h2];rfl
def u0 (u:Us) (n:ByteArray):Int:=if u.name=n then 0 else -1
theorem s345 (h:AtB S kb ub u) {n:ByteArray}:call 345 [.ptr kb 0 0,.sc (.string n)] S=some (.sc (.int .i64 (u0 u n)),S):=by
 rw [call_calm a345 rfl (by simp) rfl]
 simp only [f345]
 simp [-calmR_some,f345b]
 have h':=h.ro S.n
 refine loop_gen (α:=Nat) (R:=fun _ r=>calmR S r=some (.sc (.int .i64 (u0 u n)),S)) (fun i e rg S'=>i≤1∧S'={S with ro:=S.n}∧e 0=.ptr kb 0 0∧e 1=.sc (.string n)∧e 5=.sc (.int .i64 (i:Nat))∧(i=1→u.name≠n)) (fun i=>1 - i) ?_ 0 _ _ _ ?_
 rotate_left
 ·exact ⟨by omega,rfl,by simp,by simp,by simp,by intro h;omega⟩
 intro kk hkk i e rg S' ⟨hi,hS',h0,h1,h5,hno⟩ ih
 subst hS'
 by_cases hc:i < 1
 ·have hi0:i=0:=by omega
  subst hi0
  by_cases hn:u.name=n
  ·simp [-calmR_some,f345_l0,h0,h1,h5,h'.list,at0,h'.uname,hn]
   rw [hkk]
   simp [u0,hn]
  ·simp [-calmR_some,f345_l0,h0,h1,h5,h'.list,at0,h'.uname,hn]
   exact ih 1 _ _ _ (by omega) (fun _ h=>h) ⟨by omega,rfl,by simp [h0],by simp [h1],by simp;rfl,fun _=>hn⟩
 ·have hi1:i=1:=by omega
  subst hi1
  simp [-calmR_some,f345_l0,h0,h5,h'.list]
  rw [hkk]
  simp [u0,hno rfl]
theorem s339 (h:AtB S kb ub u) {n:ByteArray}:call 339 [.ptr kb 0 0,.sc (.string n)] S=some (if u.name=n then .tup [.agg u.row,.b true] else .tup [.agg zU.row,.b false],S):=by
 rw [call_calm a339 rfl (by simp) rfl]
 have h':=h.ro S.n
 have e345:=s345 (n:=n) h'
 have hro:=h'.urow
 by_cases hn:u.name=n
 ·simp only [u0,if_pos hn]at e345
  rw [if_pos hn]
  have hc:=@Us.row_cell u
  have hl:=@Us.row_len u
  have hk:=@Us.take u
  have hf:=fun S b d=>@Us.frz S b d u
  have hp:=@Us.pure u
  generalize u.row=r at *
  simp [f339,f339b,e345,h'.list,at0,hro,hc,hl,hk,hf,hp]
 ·simp only [u0,if_neg hn]at e345
  rw [if_neg hn]
  simp [f339,f339b,e345,zU_row]
theorem s341 (h:AtB S kb ub u) {n:ByteArray}:call 341 [.ptr kb 0 0,.sc (.string n)] S=some (.sc (.bool (!(decide (u.name=n)) ||decide (5≤u.fails))),S):=by
 rw [call_calm a341 rfl (by simp) rfl]
 have h':=h.ro S.n
 have e339:=s339 (n:=n) h'
 by_cases hn:u.name=n
 ·rw [if_pos hn]at e339
  simp [f341,f341b,e339,hn,Us.row]
 ·rw [if_neg hn]at e339
  simp [f341,f341b,e339,hn,zU_row]
theorem IsB.keep (h:IsB S kb ub u) {S':AS} (hr:S'.ro=S.ro) (hn:S.n≤S'.n) (hh:∀x,x < S.n→ownB kb ub x→S'.heap x=S.heap x):IsB S' kb ub u:=
 ⟨⟨(hh _ h.l1 (.inl rfl)).trans h.h1,(hh _ h.l2 (.inr rfl)).trans h.h2⟩,by rw [hr];exact h.r1,by rw [hr];exact h.r2,Nat.lt_of_lt_of_le h.l1 hn,Nat.lt_of_lt_of_le h.l2 hn,h.ne⟩
theorem IsB.lts (h:IsB S kb ub u) {x:Nat} (hx:ownB kb ub x):x < S.n:=by
 rcases hx with rfl|rfl
 ·exact h.l1
 ·exact h.l2
theorem IsB.st (h:IsB S kb ub u) {col sz:Nat} {x:AV} {u':Us} (hl:x.cells.length=sz) (hc:x.cells.all AV.isCell=true) (hr:setCells u.row col x.cells=u'.row) (hle:col+sz≤15) (d:Option Nat) (rg:Nat→Option (List AV)):
 opev (.st none sz) d rg S [.ptr ub 0 col,x]=some (.junk,none,S.set ub (some (.rows 15 [u'.row]))):=by
 simp only [opev,h.h2]
 rw [if_pos ⟨h.r2,hc,hl⟩]
 simp only [List.getElem?_cons_zero,Option.bind_some]
 rw [if_pos (show col+sz≤u.row.length from hle),hr];rfl
theorem IsB.set (h:IsB S kb ub u) {u':Us}:IsB (S.set ub (some (.rows 15 [u'.row]))) kb ub u':=
 ⟨⟨(if_neg h.ne).trans h.h1,if_pos rfl⟩,h.r1,h.r2,h.l1,h.l2,h.ne⟩
theorem IsB.chg {u':Us}:Chg S (S.set ub (some (.rows 15 [u'.row]))) (ownB kb ub) (ownB kb ub):=⟨rfl,Nat.le_refl _,fun x _ hx=>⟨if_neg fun e=>hx (.inr e),hx⟩⟩
theorem c242 (h:IsB S kb ub u) (hf:0≤u.fails∧u.fails < 4611686018427387904):∃S',call 242 [.ptr kb 0 0,.sc (.string u.name)] S=some (.sc (.int .i64 0),S')∧IsB S' kb ub {u with fails:=u.fails+1}∧Chg S S' (ownB kb ub) (ownB kb ub):=by
 rw [call_keep a242 (by simp) rfl]
 have e345:=s345 (n:=u.name) h.toAtB
 simp only [u0,if_true]at e345
 have w1:IntKind.i64.wrap (u.fails+1)=u.fails+1:=w64 (by omega)
 have hst:=h.st (col:=14) (sz:=1) (x:=.sc (.int .i64 (u.fails+1))) (u':={u with fails:=u.fails+1}) rfl rfl rfl (by omega)
 refine ⟨_,?_,h.set (u':={u with fails:=u.fails+1}),IsB.chg⟩
 simp [f242,f242b,e345,h.list,at0,h.ufails,w1,hst]
theorem c349 (h:IsB S kb ub u):∃S',call 349 [.ptr kb 0 0,.sc (.string u.name)] S=some (.sc (.int .i64 0),S')∧IsB S' kb ub {u with fails:=0}∧Chg S S' (ownB kb ub) (ownB kb ub):=by
 rw [call_keep a349 (by simp) rfl]
 have e345:=s345 (n:=u.name) h.toAtB
 simp only [u0,if_true]at e345
 have hst:=h.st (col:=14) (sz:=1) (x:=.sc (.int .i64 0)) (u':={u with fails:=0}) rfl rfl rfl (by omega)
 refine ⟨_,?_,h.set (u':={u with fails:=0}),IsB.chg⟩
 simp [f349,f349b,e345,h.list,at0,hst]
theorem c244 (h:IsB S kb ub u) {l:List Int} (hl:l.length≤4611686018427387904) (hf:u.tok.fails < 4611686018427387904):
 ∃S',call 244 [.ptr kb 0 0,.sc (.string u.name),lstI l] S=some (.tup (if 5≤u.fails then [.i 0,.i 7] else [.sc (.int .i64 (u.tok.accept l).2.1),.sc (.int .i64 (u.tok.accept l).2.2)]),S')∧IsB S' kb ub (if 5≤u.fails then u else {u with tok:=(u.tok.accept l).1})∧Chg S S' (ownB kb ub) (ownB kb ub):=by
 rw [call_keep a244 (by simp) rfl]
 have e345:=s345 (n:=u.name) h.toAtB
 simp only [u0,if_true]at e345
 by_cases h5:5≤u.fails
 ·refine ⟨S,?_,by rw [if_pos h5];exact h,Chg.refl⟩
  simp [f244,f244b,e345,h.list,at0,h.ufails,h5]
 ·rw [if_neg h5,if_neg h5]
  have e348:=fun S=>@s348 S u.tok l hl hf
  have hst:=h.st (col:=8) (sz:=6) (x:=.agg (u.tok.accept l).1.cells) (u':={u with tok:=(u.tok.accept l).1}) rfl rfl rfl (by omega)
  refine ⟨_,?_,h.set (u':={u with tok:=(u.tok.accept l).1}),IsB.chg⟩
  generalize u.tok.accept l=r at *
  unfold resK at e348
  have hc:r.1.cells.all AV.isCell=true:=rfl
  have hl:r.1.cells.length=6:=rfl
  have ht:List.take 6 r.1.cells=r.1.cells:=rfl
  generalize r.1.cells=rc at *
  generalize S.set ub _=S' at *
  simp [f244,f244b,e345,h.list,at0,h.ufails,h5,h.utok,e348,resK,hc,hl,ht,hst]
def isM (s:ByteArray):Prop:=s=chalB∨s=otpB∨s=spkB
theorem s464 {s:ByteArray} (h:isM s):call 464 [.sc (.string s)] S=some (.sc (.bool true),S):=by
 rw [call_calm a464 rfl (by simp) rfl]
 rcases h with rfl|rfl|rfl<;>simp [f464,f464b,chalB,otpB,spkB]
def Us.okk (u:Us):Prop:=u.name≠⟨#[]⟩∧(1≤u.set.length∧u.set.length≤3)∧(0≤u.fails∧u.fails≤1099511627776)∧u.tok.right=true∧(∀s∈u.set,isM s)∧∀(i j:Nat) (s:ByteArray),u.set[i]?=some s→u.set[j]?=some s→i=j
set_option maxHeartbeats 1000000 in
theorem s416 (h:u.okk):call 416 [.agg u.row] S=some (.sc (.bool true),S):=by
 obtain ⟨hn,⟨hl1,hl3⟩,⟨hf0,hf1⟩,ht,hm,hd⟩:=h
 rw [call_calm a416 rfl (by simp) rfl]
 have e421:=fun S=>@s421 S u.tok
 rw [ht]at e421
 have hc:=@Us.row_cell u
 have hl:=@Us.row_len u
 have hk:=@Us.take u
 have r0:u.row.take 1=[.sc (.string u.name)]:=rfl
 have r4:(u.row.drop 4).take 1=[lstS u.set]:=rfl
 have r8:(u.row.drop 8).take 6=u.tok.cells:=rfl
 have r14:(u.row.drop 14).take 1=[.sc (.int .i64 u.fails)]:=rfl
 have n1:¬(u.set.length:Int) < 1:=by omega
 have n2:¬(3:Int) < u.set.length:=by omega
 have n3:¬u.fails < 0:=by omega
 have n4:¬1099511627776 < u.fails:=by omega
 have r14':u.row.drop 14=[.sc (.int .i64 u.fails)]:=rfl
 generalize u.row=r at *
 simp only [f416]
 simp [-calmR_some,f416b,hc,hl,hk,r0,r4,r8,r14,r14',hn,n1,n2,n3,n4,e421]
 have out:∀(r:Option (AV×AS)),r=some (.sc (.bool true),{S with ro:=S.n})→calmR S r=some (.sc (.bool true),S):=by rintro _ rfl;simp
 refine loop_gen (α:=Nat) (R:=fun _ r=>calmR S r=some (.sc (.bool true),S)) (fun i e rg S'=>i≤u.set.length∧S'={S with ro:=S.n}∧rg 1=some r∧e 1=.reg 1 0∧e 3=.sc (.int .i64 (i:Nat))) (fun i=>u.set.length - i) ?_ 0 _ _ _ ?_
 rotate_left
 ·refine ⟨by omega,rfl,by simp,?_,by simp⟩
  simp
 intro kk hkk i e rg S' ⟨hi,hS',hrg,h1,h3⟩ ih
 subst hS'
 by_cases hc:i < u.set.length
 ·obtain ⟨s,hs⟩:∃s,u.set[i]?=some s:=⟨u.set[i],by simp [hc]⟩
  have hci:(i:Int) < (u.set.length:Int):=by omega
  have e464:=fun S=>@s464 S s (hm s (List.mem_of_getElem? hs))
  have hat:=lstS_at hs
  have w1:IntKind.i64.wrap ((i:Int)+1)=((i+1:Nat):Int):=w64 (by omega)
  simp [-calmR_some,f416_l1,hl,hrg,h1,h3,r4,hci,hat,e464]
  refine loop_gen (α:=Nat) (R:=fun _ r=>calmR S r=some (.sc (.bool true),S)) (fun k e rg S'=>k≤i∧S'={S with ro:=S.n}∧rg 1=some r∧e 1=.reg 1 0∧e 3=.sc (.int .i64 (i:Nat))∧e 4=.sc (.int .i64 (k:Nat))) (fun k=>i - k) ?_ 0 _ _ _ ?_
  rotate_left
  ·exact ⟨by omega,rfl,by simp [hrg],by simp [h1],by simp [h3],by simp⟩
  intro kk2 hkk2 k e rg S' ⟨hk',hS',hrg,h1,h3,h4⟩ ih2
  subst hS'
  by_cases hc2:k < i
  ·obtain ⟨s',hs'⟩:∃s,u.set[k]?=some s:=⟨u.set[k]'(by omega),by simp [show k < u.set.length by omega]⟩
   have hci2:(k:Int) < (i:Int):=by omega
   have hat':=lstS_at hs'
   have hne:s'≠s:=fun e=>by rw [e]at hs';have:=hd k i s hs' hs;omega
   have w2:IntKind.i64.wrap ((k:Int)+1)=((k+1:Nat):Int):=w64 (by omega)
   simp [-calmR_some,f416_l0,hl,hrg,h1,h3,h4,r4,hci2,hat,hat',hne.symm,hne,w2]
   exact ih2 (k+1) _ _ _ (by omega) (fun _ h=>h) ⟨by omega,rfl,by simp [hrg],by simp [h1],by simp [h3],by simp⟩
  ·have hci2:¬(k:Int) < (i:Int):=by omega
   simp [-calmR_some,f416_l0,hl,hrg,h1,h3,h4,hci2]
   rw [hkk2]
   simp [-calmR_some,h3,w1]
   exact ih (i+1) _ _ _ (by omega) (fun _ h=>h) ⟨by omega,rfl,by simp [hrg],by simp [h1],by simp⟩
 ·have hci:¬(i:Int) < (u.set.length:Int):=by omega
  simp [-calmR_some,f416_l1,hl,hrg,h1,h3,r4,hci]
  rw [hkk]
  simp
end
def Cl.start (c:Cl) (nonce:ByteArray) (sub:T):Cl:={c with on:=true,done:=false,ended:=false,nonce:=nonce,body:=tBody c.name nonce,wrap:=tWrap c.ticket c.host sub,ak:=tArm sub c.host,base:=tZ,session:=tZ,z1:=false,z2:=true,z3:=true}
theorem mrow_frz {S:AS} {b d:Nat}:∀{l:List (ByteArray×ByteArray)},mapO (mapO (S.frzTo b d)) (Cl.mrow l)=some (Cl.mrow l)
 |[]=>rfl
 |m::l=>by
  have h:mapO (S.frzTo b d) [.sc (.string m.1),.sc (.string m.2)]=some [.sc (.string m.1),.sc (.string m.2)]:=by
   cases d<;>rfl
  have e:Cl.mrow (m::l)=[.sc (.string m.1),.sc (.string m.2)]::Cl.mrow l:=rfl
  rw [e]
  show (mapO (S.frzTo b d) [.sc (.string m.1),.sc (.string m.2)]).bind (fun x=>(mapO (mapO (S.frzTo b d)) (Cl.mrow l)).map (x::·))=_
  rw [h,mrow_frz];rfl
theorem mrow_pure:∀{l:List (ByteArray×ByteArray)},pureR (Cl.mrow l)=true
 |[]=>rfl
 |m::l=>by
  have e:Cl.mrow (m::l)=[.sc (.string m.1),.sc (.string m.2)]::Cl.mrow l:=rfl
  rw [e,pureR,mrow_pure];rfl
theorem calm_arrR {S S':AS} {id sz:Nat} {R:List (List AV)} (hid:S.n≤id) (hh:S'.heap id=some (.rows sz R)) (hf:mapO (mapO (S'.frzTo S.n 1)) R=some R) (hp:pureR R=true):calmR S (some (.arr id sz 0 R.length none,S'))=some (lstN sz R,S):=by
 have e2:S'.frzTo S.n 2 (.arr id sz 0 R.length none)=some (lstN sz R):=by
  show ((S'.slice S.n id sz 0 R.length).bind fun r=>mapO (mapO (S'.frzTo S.n 1)) r).map (lstN sz)=_
  rw [slice_of hh hid]
  exact congrArg (Option.map (lstN sz)) hf
 show (S'.frzTo S.n 2 _).bind _=_
 rw [e2]
 have:(lstN sz R).pure=true:=hp
 simp [this]
def marksV (l:List (ByteArray×ByteArray)):AV:=lstN 2 (Cl.mrow l)
section
variable {S:AS} {id:Nat} {c:Cl} {mv:AV}
theorem c138 {nonce:ByteArray} {sub:T} (h:IsCl S id c mv) (hn:nonce.size≤4611686018427387904) (hc:c.name.size≤4611686018427387904):
 ∃S',call 138 [.ptr id 0 0,.sc (.string nonce),.agg sub.cells] S=some (.agg ((c.start nonce sub).says tNone tNone).cells,S')∧IsCl S' id (c.start nonce sub) mv∧Chg S S' (ownC id mv) (ownC id mv):=by
 rw [call_keep a138 (by simp) rfl]
 have e76:=fun S=>@s76 S c.name nonce hc hn
 have e246:=fun S=>@s246 S c.ticket c.host sub
 have e247:=fun S=>@s247 S sub c.host
 have hb:pev (.build [.b false,.b false,.b false,.s ⟨#[]⟩,.i 0,.s ⟨#[]⟩,.lst 0 true [],.i 0,.s ⟨#[]⟩,.lst 0 true [],.i 0,.s ⟨#[]⟩,.lst 0 true [],.i 0,.s ⟨#[]⟩,.lst 0 true [],.i 0,.s ⟨#[]⟩,.lst 0 true []] [(0,1),(3,1),(4,3),(7,3),(10,3)])
  [.b true,.sc (.string nonce),.agg (tBody c.name nonce).cells,.agg (tWrap c.ticket c.host sub).cells,.agg (tArm sub c.host).cells]=some (.agg (((c.start nonce sub).row mv).take 19)):=by
  rw [cells_T (tBody c.name nonce),cells_T (tWrap c.ticket c.host sub),cells_T (tArm sub c.host)]
  simp
  rfl
 have hst:=h.st (col:=0) (sz:=19) (x:=.agg (((c.start nonce sub).row mv).take 19)) (c':=c.start nonce sub) (mv':=mv) rfl rfl rfl (by omega)
 have h':=h.set (c':=c.start nonce sub) rfl
 have hg:=h.chg (c':=c.start nonce sub)
 generalize S.set id _=S' at *
 have e248:=s248 (p:=tNone) (k:=tNone) h' rfl
 refine ⟨S',?_,h',hg⟩
 generalize List.take 19 _=r19 at *
 simp [f138,f138b,h.name,h.ticket,h.host,e76,e246,e247,hb,hst,e248]
theorem c120 (h:IsCl S id c mv) (hl:c.marks.length * 32≤140737488355328):call 120 [.ptr id 0 0] S=some (marksV c.marks,S):=by
 rw [call_calm a120 rfl (by simp) rfl]
 have e1:∀d rg,opev (.ld none 1 false) d rg {S with ro:=S.n} [.ptr id 0 36]=some (mv,none,{S with ro:=S.n}):=fun d rg=>by rw [opev_ld_ptr (S:={S with ro:=S.n}) h.hh];rfl
 have hr:=h.gv.reg
 have hrow:rowsOf 2 {S with ro:=S.n} mv=some (Cl.mrow c.marks):=h.gv.rows
 have hml:(Cl.mrow c.marks).length=c.marks.length:=by simp [Cl.mrow]
 have e2:call 226 [mv] {S with ro:=S.n}=some (.arr S.n 2 0 c.marks.length none,AS.new {S with ro:=S.n} (.rows 2 (Cl.mrow c.marks))):=by
  rw [call_ext a226 (by simp [hr])]
  simp [cloneG,hrow,hml,hl]
 simp [-calmR_some,f120,f120b,e1,hr,e2]
 rw [←hml]
 exact calm_arrR (Nat.le_refl _) heap_new mrow_frz mrow_pure
end
def finB:ByteArray:=⟨#[102,105,110,105,115,104]⟩
def encB:ByteArray:=⟨#[101,110,99]⟩
def Cl.endL (c:Cl) (ticket:T):List T×Int→Cl×Int
 |([l0,l1,l2],0)=>if l1.same (tWord c.nonce) && l2.same (tHash ticket) then ({c with session:=l0,ended:=true,on:=false,z3:=false},0) else (c,6)
 |(_,e)=>(c,e)
def Cl.endF (c:Cl) (ticket enc:T):List T×Int→Cl×Int
 |([f0,f1],0)=>if f1.same (tHash ticket) then c.endL ticket (opnL encB 3 (unsT (tRep f0 c.base) 3 enc)) else (c,6)
 |(_,e)=>(c,e)
def Cl.ends (c:Cl) (ticket enc finish:T):Cl×Int:=if c.done then c.endF ticket enc (opnL finB 2 (ansOf c.ak c.nonce finish)) else (c,11)
theorem ansOf_bb {k t:T} {n:ByteArray} (h:t.bb):(ansOf k n t).1.bb:=by
 have hb:=sealD_bb (k:=k) (u:=52) (tag:=answB) (n:=2) h
 unfold ansOf
 rcases sealD_cases (k:=k) (t:=t) (u:=52) (tag:=answB) (n:=2) with ⟨l,hl,hlen⟩|⟨e,hne,hl⟩
 ·obtain ⟨a,b,rfl⟩:=len2 hlen
  rw [hl]at hb ⊢
  unfold ansL
  simp only
  split
  ·exact hb b (by simp)
  ·exact tZ_bb
 ·rw [hl];exact tZ_bb
theorem opnL_or {tag:ByteArray} {n:Nat} {r:T×Int}:(∃l,opnL tag n r=(l,0)∧l.length=n)∨(∃e,e≠0∧opnL tag n r=([],e)):=by
 rcases opnL_cases (tag:=tag) (n:=n) (r:=r) with ⟨l,_,e,h,_⟩|⟨e',hne,e,_⟩
 ·exact .inl ⟨l,e,h⟩
 ·exact .inr ⟨e',hne,e⟩
section
variable {S:AS} {id:Nat} {c:Cl} {mv:AV}
theorem j3:inI 3:=by unfold inI;omega
theorem cell_T {t:T}:(AV.agg t.cells).cells.all AV.isCell=true:=by
 show t.cells.all AV.isCell=true
 rw [cells_T];rfl
theorem len_T {t:T}:(AV.agg t.cells).cells.length=3:=by
 show t.cells.length=3
 rw [cells_T];rfl
set_option maxHeartbeats 2000000 in
set_option maxRecDepth 100000 in
theorem c250 {t e f:T} (h:IsCl S id c mv) (hz1:c.done=true→c.z1=false) (hz2:c.done=true→c.z2=false) (hn:c.nonce.size≤4611686018427387904) (he:e.bb) (hf:f.bb):
 ∃S',call 250 [.ptr id 0 0,.agg t.cells,.agg e.cells,.agg f.cells] S=some (.sc (.int .i64 (c.ends t e f).2),S')∧IsCl S' id (c.ends t e f).1 mv∧Chg S S' (ownC id mv) (ownC id mv):=by
 rw [call_keep a250 (by simp) rfl]
 have hd:=h.done
 unfold Cl.ends
 cases hdn:c.done with
 |false=>
  rw [hdn]at hd
  exact ⟨S,by simp [f250,f250b,hd],h,Chg.refl⟩
 |true=>
  rw [hdn]at hd
  have z1:=hz1 hdn
  have z2:=hz2 hdn
  have ha:=h.ak z1
  have hba:=h.base z2
  have hno:=h.nonce
  have e251:=fun S=>@s251 S c.ak f c.nonce hn hf
  have ba:=ansOf_bb (k:=c.ak) (n:=c.nonce) hf
  have e252:=fun S=>@s252 S (ansOf c.ak c.nonce f).1 (ansOf c.ak c.nonce f).2 finB 2 2 rfl ba
  have hob:=opnL_bb (tag:=finB) (n:=2) (r:=ansOf c.ak c.nonce f) ba
  unfold finB at e252
  rcases opnL_or (tag:=finB) (n:=2) (r:=ansOf c.ak c.nonce f) with ⟨l,hl,hlen⟩|⟨er,hne,hl⟩
  ·obtain ⟨f0,f1,rfl⟩:=len2 hlen
   rw [hl]at hob
   have hl':=hl
   unfold finB at hl'
   rw [hl']at e252
   rw [hl]
   have ff:f1.fits:=T.bb_fits (hob f1 (by simp))
   rw [if_pos rfl]
   unfold Cl.endF
   simp only
   cases hs:f1.same (tHash t) with
   |false=>exact ⟨S,by simp [f250,f250b,hd,ha,hno,e251,resU,e252,resL,at2a,at2b,ff,hs],h,Chg.refl⟩
   |true=>
    have e263:=fun S=>@s263 S (tRep f0 c.base) e 3 j3 (T.bb_fits he)
    have bu:=unsT_bb (k:=tRep f0 c.base) (n:=3) he
    have e252':=fun S=>@s252 S (unsT (tRep f0 c.base) 3 e).1 (unsT (tRep f0 c.base) 3 e).2 encB 3 3 rfl bu
    have hob':=opnL_bb (tag:=encB) (n:=3) (r:=unsT (tRep f0 c.base) 3 e) bu
    have e352:=fun S=>@s352 S f0 c.base
    have e64:=fun S=>@s64 S c.nonce hn
    unfold encB at e252'
    rw [if_pos rfl]
    rcases opnL_or (tag:=encB) (n:=3) (r:=unsT (tRep f0 c.base) 3 e) with ⟨l,hl2,hlen⟩|⟨er,hne,hl2⟩
    ·obtain ⟨l0,l1,l2,rfl⟩:=len3 hlen
     rw [hl2]at hob'
     have hl2':=hl2
     unfold encB at hl2'
     rw [hl2']at e252'
     rw [hl2]
     have f1':l1.fits:=T.bb_fits (hob' l1 (by simp))
     have f2':l2.fits:=T.bb_fits (hob' l2 (by simp))
     unfold Cl.endL
     simp only
     cases hs1:l1.same (tWord c.nonce) with
     |false=>exact ⟨S,by simp [f250,f250b,hd,ha,hno,hba,e251,resU,e252,resL,at2a,at2b,at3a,at3b,at3c,ff,hs,e263,e252',e352,e64,f1',f2',hs1],h,Chg.refl⟩
     |true=>
      cases hs2:l2.same (tHash t) with
      |false=>exact ⟨S,by simp [f250,f250b,hd,ha,hno,hba,e251,resU,e252,resL,at2a,at2b,at3a,at3b,at3c,ff,hs,e263,e252',e352,e64,f1',f2',hs1,hs2],h,Chg.refl⟩
      |true=>
       have s1:=h.st (col:=16) (sz:=3) (x:=.agg l0.cells) (c':={c with session:=l0,z3:=false}) (mv':=mv) len_T cell_T (by show setCells _ _ l0.cells=_;rw [cells_T];rfl) (by omega)
       have h1:=h.set (c':={c with session:=l0,z3:=false}) rfl
       have g1:=h.chg (c':={c with session:=l0,z3:=false})
       generalize S.set id _=S1 at s1 h1 g1
       have s2:=h1.st (col:=2) (sz:=1) (x:=.b true) (c':={c with session:=l0,z3:=false,ended:=true}) (mv':=mv) rfl rfl rfl (by omega)
       have h2:=h1.set (c':={c with session:=l0,z3:=false,ended:=true}) rfl
       have g2:=h1.chg (c':={c with session:=l0,z3:=false,ended:=true})
       generalize S1.set id _=S2 at s2 h2 g2
       have s3:=h2.st (col:=0) (sz:=1) (x:=.b false) (c':={c with session:=l0,z3:=false,ended:=true,on:=false}) (mv':=mv) rfl rfl rfl (by omega)
       have h3:=h2.set (c':={c with session:=l0,z3:=false,ended:=true,on:=false}) rfl
       have g3:=h2.chg (c':={c with session:=l0,z3:=false,ended:=true,on:=false})
       generalize S2.set id _=S3 at s3 h3 g3
       refine ⟨S3,by simp [f250,f250b,hd,ha,hno,hba,e251,resU,e252,resL,at2a,at2b,at3a,at3b,at3c,ff,hs,e263,e252',e352,e64,f1',f2',hs1,hs2,s1,s2,s3],h3,(g1.trans g2).trans g3⟩
    ·have hl2':=hl2
     unfold encB at hl2'
     rw [hl2']at e252'
     rw [hl2]
     have hr:c.endL t ([],er)=(c,er):=by unfold Cl.endL;rfl
     rw [hr]
     exact ⟨S,by simp [f250,f250b,hd,ha,hno,hba,e251,resU,e252,resL,at2a,at2b,ff,hs,e263,e252',e352,hne],h,Chg.refl⟩
  ·have hl':=hl
   unfold finB at hl'
   rw [hl']at e252
   rw [hl]
   have hr:c.endF t e ([],er)=(c,er):=by unfold Cl.endF;rfl
   rw [if_pos rfl,hr]
   exact ⟨S,by simp [f250,f250b,hd,ha,hno,e251,resU,e252,resL,hne],h,Chg.refl⟩
end
section
variable {S:AS}
end
structure Ck.bd (c:Ck):Prop where
 client:c.client.size+1≤140737488355328
 nonce:c.nonce.size+1≤140737488355328
 done:c.done.length * 48≤140737488355328
 names:∀s∈c.done,s.size+1≤140737488355328
 upto:inI c.upto
 secret:c.secret.bd 140737488355328
 ofit:c.secret.ofit
section
variable {S:AS}
theorem sealT_fit {key:T} {c:Ck} (hk:key.fit=true) (hs:c.secret.fit=true):sealT key c=tEnc key (tPair (bodyT c)):=by
 unfold sealT;rw [hk,hs];rfl
theorem mk_bulk {k:Int} {n:ByteArray} {l:List T}:(T.mk k n l).bulk=n.size+bulkL l+4:=by rw [T.bulk];omega
theorem bulkL_nil:bulkL []=0:=by rw [bulkL]
theorem bulkL_cons {t:T} {l:List T}:bulkL (t::l)=t.bulk+bulkL l:=by rw [bulkL]
theorem n0:(⟨#[]⟩:ByteArray).size=0:=rfl
theorem data_bulk {s:ByteArray}:(tData s).bulk=s.size+4:=by unfold tData;rw [mk_bulk,bulkL_nil]
theorem atom_bulk {s:ByteArray}:(tAtom s).bulk=s.size+4:=by unfold tAtom;rw [mk_bulk,bulkL_nil]
theorem pair_bulk {l:List T}:(tPair l).bulk=bulkL l+4:=by unfold tPair;rw [mk_bulk,n0];omega
theorem enc_bulk {a b:T}:(tEnc a b).bulk=a.bulk+b.bulk+4:=by unfold tEnc;rw [mk_bulk,n0,bulkL_cons,bulkL_cons,bulkL_nil];omega
def doneB:List ByteArray→Nat
 |[]=>0
 |s::l=>s.size+5+doneB l
theorem doneT_bulk:∀{l:List ByteArray},bulkL (doneT l)=doneB l
 |[]=>bulkL_nil
 |s::l=>by
  have e:doneT (s::l)=tData (⟨#[100]⟩++s)::doneT l:=rfl
  rw [e,bulkL_cons,data_bulk,doneT_bulk,ByteArray.size_append,doneB]
  have:(⟨#[100]⟩:ByteArray).size=1:=rfl
  omega
theorem body_bulk {c:Ck} (h:inI c.upto):bulkL (bodyT c)≤c.client.size+c.nonce.size+doneB c.done+c.secret.bulk+100:=by
 have h9:=itoaB_le h.1 h.2
 have n6:(⟨#[99,111,111,107,105,101]⟩:ByteArray).size=6:=rfl
 have e1:(⟨#[99]⟩:ByteArray).size=1:=rfl
 have e2:(⟨#[110]⟩:ByteArray).size=1:=rfl
 have e3:(⟨#[117]⟩:ByteArray).size=1:=rfl
 unfold bodyT
 rw [bulkL_cons,bulkL_cons,bulkL_cons,bulkL_cons,bulkL_cons,bulkL_cons,bulkL_nil,data_bulk,data_bulk,data_bulk,data_bulk,pair_bulk,doneT_bulk,ByteArray.size_append,ByteArray.size_append,ByteArray.size_append]
 omega
theorem seal_bulk {key:T} {c:Ck} (h:inI c.upto):(sealT key c).bulk≤key.bulk+c.client.size+c.nonce.size+doneB c.done+c.secret.bulk+200:=by
 unfold sealT
 split
 ·have:=body_bulk h
  rw [enc_bulk,pair_bulk];omega
 ·unfold tZero;rw [mk_bulk,n0,bulkL_nil];omega
end
@[simp] theorem Ck.dr7 (c:Ck):c.cells.drop 7=[]:=rfl
structure Ck.sm (c:Ck):Prop where
 client:c.client.size≤1073741824
 nonce:c.nonce.size≤1073741824
 done:doneB c.done≤1073741824
 secret:c.secret.bulk≤1073741824
 upto:inI c.upto
mutual
theorem T.bd_mono {r b:Nat} (hr:r≤b):∀{t:T},t.bd r→t.bd b
 | .mk _ _ l,h=>⟨by have:=h.1;omega,by have:=h.2.1;omega,bdL_mono hr h.2.2⟩
theorem bdL_mono {r b:Nat} (hr:r≤b):∀{l:List T},bdL r l→bdL b l
 |[],_=>trivial
 |t::l,h=>⟨T.bd_mono hr h.1,bdL_mono hr h.2⟩
end
theorem bulk_bd {t:T} (h:t.bulk≤1099511627776):t.bd 140737488355328:=T.bd_mono (r:=48 * 1099511627776) (by omega) (T.bd_bulk h)
section
variable {S:AS}
theorem seal_kind {key:T} {c:Ck}:(sealT key c).kind=if key.fit && c.secret.fit then 4 else 0:=by
 unfold sealT;split<;>rfl
end
def T.lo (t:T):Prop:=t.bulk≤1099511627776
theorem T.lo.bb {t:T} (h:t.lo):t.bb:=bulk_bd h
theorem T.lo.kid {t u:T} (h:t.lo) (hu:u∈t.kids):u.lo:=by have:=T.bulk_kid hu;unfold T.lo at *;omega
theorem tZ_lo:tZ.lo:=by show (T.mk 0 ⟨#[]⟩ []).bulk≤_;rw [T.bulk,bulkL_nil];show 0+0+4≤_;omega
theorem unsT_lo {k t:T} {n:Int} (h:t.lo):(unsT k n t).1.lo:=by
 unfold unsT
 split
 ·unfold unsL
  split
  ·rename_i a b heq
   split
   ·exact h.kid (by rw [heq];simp)
   ·exact tZ_lo
  ·exact tZ_lo
 ·exact tZ_lo
theorem opnL_lo {tag:ByteArray} {n:Nat} {r:T×Int} (h:r.1.lo):∀u∈(opnL tag n r).1,u.lo:=by
 rcases opnL_cases (tag:=tag) (n:=n) (r:=r) with ⟨l,_,e,_,hm,_⟩|⟨e',_,e,_⟩
 ·rw [e];exact fun u hu=>h.kid (hm u hu)
 ·rw [e];intro u hu;cases hu
theorem sealD_lo {k t:T} {u:Int} {tag:ByteArray} {n:Nat} (h:t.lo):∀x∈(sealD k u t tag n).1,x.lo:=opnL_lo (unsT_lo h)
theorem ansOf_lo {k t:T} {n:ByteArray} (h:t.lo):(ansOf k n t).1.lo:=by
 have hb:=sealD_lo (k:=k) (u:=52) (tag:=answB) (n:=2) h
 unfold ansOf
 rcases sealD_cases (k:=k) (t:=t) (u:=52) (tag:=answB) (n:=2) with ⟨l,hl,hlen⟩|⟨e,hne,hl⟩
 ·obtain ⟨a,b,rfl⟩:=len2 hlen
  rw [hl]at hb ⊢
  unfold ansL
  simp only
  split
  ·exact hb b (by simp)
  ·exact tZ_lo
 ·rw [hl];exact tZ_lo
theorem expT_lo {u l:T} (h:l.lo):(expT u l).1.lo:=by
 unfold expT
 split
 ·split
  ·rename_i p w heq
   have hp:p.lo:=h.kid (by rw [heq];simp)
   unfold expP
   split
   ·split
    ·rename_i x heq2
     split
     ·exact hp.kid (by rw [heq2];simp)
     ·exact tZ_lo
    ·exact tZ_lo
   ·exact tZ_lo
  ·exact tZ_lo
 ·exact tZ_lo
theorem shOk_lo {x y:T} (hx:x.lo) (hy:y.lo):ShOk x y:=fun S=>s127 hx hy
def Cl.does (c:Cl) (o:T) (now:Int) (x:T):Cl×T×T×Int:=
 if tagT o=chalB then (c,tChal c.ak c.key c.body now,c.key,0)
 else if tagT o=otpB then (if (ansO c.ak o (tOtp c.seed c.counter)).2=0 then {c with counter:=c.counter+1} else c,(ansO c.ak o (tOtp c.seed c.counter)).1,tUse c.ak 46,(ansO c.ak o (tOtp c.seed c.counter)).2)
 else if tagT o=spkB then (c,ansS c.key c.body o x)
 else (c,tZ,tZ,2)
section
variable {S:AS} {id:Nat} {c:Cl} {mv:AV}
theorem len_T' {t:T}:t.cells.length=3:=by rw [cells_T];rfl
theorem cell_T' {t:T}:t.cells.all AV.isCell=true:=by rw [cells_T];rfl
theorem i46:inI 46:=by unfold inI;omega
set_option maxHeartbeats 2000000 in
set_option maxRecDepth 100000 in
theorem c253 {o x:T} {now:Int} (h:IsCl S id c mv) (hz:c.z1=false) (hc:0≤c.counter∧c.counter < 4611686018427387904) (ho:o.lo) (hx:x.lo) (hn:inI now):
 ∃S' p b,call 253 [.ptr id 0 0,.agg o.cells,.sc (.int .i64 now),.agg x.cells] S=some (.tup [.agg p,.agg b,.sc (.int .i64 (c.does o now x).2.2.2)],S')∧IsCl S' id (c.does o now x).1 mv∧Chg S S' (ownC id mv) (ownC id mv)∧
  (p.length=3∧p.all AV.isCell=true)∧(b.length=3∧b.all AV.isCell=true)∧((c.does o now x).2.2.2=0→p=(c.does o now x).2.1.cells∧b=(c.does o now x).2.2.1.cells):=by
 rw [call_keep a253 (by simp) rfl]
 have e81:=fun S=>@s81 S o
 have ha:=h.ak hz
 have hb:=h.body hz
 have hk:=h.key
 unfold Cl.does
 by_cases h1:tagT o=chalB
 ·rw [if_pos h1]
  have e148:=fun S=>@s148 S c.ak c.key c.body now hn
  rw [h1]at e81
  unfold chalB at e81
  exact ⟨S,(tChal c.ak c.key c.body now).cells,c.key.cells,by simp [f253,f253b,e81,ha,hb,hk,e148],h,Chg.refl,⟨len_T',cell_T'⟩,⟨len_T',cell_T'⟩,fun _=>⟨rfl,rfl⟩⟩
 ·rw [if_neg h1]
  have n1:(tagT o=⟨#[99,104,97,108,108,101,110,103,101]⟩)=False:=eq_false h1
  by_cases h2:tagT o=otpB
  ·rw [if_pos h2]
   have n2:(tagT o=⟨#[111,116,112]⟩)=True:=eq_true h2
   have ic:inI c.counter:=by unfold inI;omega
   have e278:=fun S=>@s278 S c.seed c.counter ic
   have e156:=fun S=>@s156 S c.ak o (tOtp c.seed c.counter) ho.bb
   have e354:=fun S=>@s354 S c.ak 46 i46
   have hs:=h.seed
   have hcn:=h.counter
   generalize ansO c.ak o (tOtp c.seed c.counter)=r at *
   by_cases h0:r.2=0
   ·have w1:IntKind.i64.wrap (c.counter+1)=c.counter+1:=w64 (by omega)
    have s1:=h.st (col:=26) (sz:=1) (x:=.sc (.int .i64 (c.counter+1))) (c':={c with counter:=c.counter+1}) (mv':=mv) rfl rfl rfl (by omega)
    have h':=h.set (c':={c with counter:=c.counter+1}) rfl
    have g':=h.chg (c':={c with counter:=c.counter+1})
    generalize S.set id _=S1 at s1 h' g'
    have ha':=h'.ak hz
    simp only at ha'
    refine ⟨S1,r.1.cells,(tUse c.ak 46).cells,?_,by rw [if_pos h0];exact h',g',⟨len_T',cell_T'⟩,⟨len_T',cell_T'⟩,fun _=>⟨rfl,rfl⟩⟩
    simp [f253,f253b,e81,n1,n2,ha,hs,hcn,e278,e156,resU,h0,w1,s1,ha',e354]
   ·refine ⟨S,r.1.cells,(tUse c.ak 46).cells,?_,by rw [if_neg h0];exact h,Chg.refl,⟨len_T',cell_T'⟩,⟨len_T',cell_T'⟩,fun _=>⟨rfl,rfl⟩⟩
    simp [f253,f253b,e81,n1,n2,ha,hs,hcn,e278,e156,resU,h0,e354]
  ·rw [if_neg h2]
   have n2:(tagT o=⟨#[111,116,112]⟩)=False:=eq_false h2
   by_cases h3:tagT o=spkB
   ·rw [if_pos h3]
    have n3:(tagT o=⟨#[115,112,97,107,101]⟩)=True:=eq_true h3
    have e154:=fun S=>@s154 S c.key c.body o x ho.bb (fun l y hl hy=>shOk_lo hx (by
     have hlm:=(unpT_len (n:=1) hl).2 l (by simp)
     have:=expT_lo (u:=c.key) (ho.kid hlm)
     rw [hy]at this;exact this))
    generalize ansS c.key c.body o x=r at *
    refine ⟨S,r.1.cells,r.2.1.cells,?_,h,Chg.refl,⟨len_T',cell_T'⟩,⟨len_T',cell_T'⟩,fun _=>⟨rfl,rfl⟩⟩
    simp [f253,f253b,e81,n1,n2,n3,hb,hk,e154,resA]
   ·rw [if_neg h3]
    have n3:(tagT o=⟨#[115,112,97,107,101]⟩)=False:=eq_false h3
    refine ⟨S,[.i 0,.s ⟨#[]⟩,.lst 0 true []],[.i 0,.s ⟨#[]⟩,.lst 0 true []],?_,h,Chg.refl,⟨rfl,rfl⟩,⟨rfl,rfl⟩,fun h0=>by cases h0⟩
    simp [f253,f253b,e81,n1,n2,n3]
end
section
variable {S:AS}
@[simp] theorem s437 {a:T}:call 437 [.agg a.cells] S=some (.agg (tWd a).cells,S):=by
 rw [call_calm a437 rfl (by simp) rfl]
 simp [f437,f437b,tWd]
theorem s370 {x u:T}:call 370 [.agg x.cells,.agg u.cells] S=some (.agg (tMsk x u).cells,S):=by
 rw [call_calm a370 rfl (by simp) rfl]
 simp [f370,f370b,tMsk]
theorem s438 {s w o a b:T} {n:Int} (hn:inI n) (h0:n≠ -9223372036854775808):call 438 [.agg s.cells,.agg w.cells,.agg o.cells,.agg a.cells,.agg b.cells,.sc (.int .i64 n)] S=some (.agg (tSecond s w o a b n).cells,S):=by
 rw [call_calm a438 rfl (by simp) rfl]
 have e1:∀(S:AS),call 385 [.lst 3 true [s.cells,w.cells,o.cells,a.cells,b.cells]] S=some (.agg (tPair [s,w,o,a,b]).cells,S):=fun S=>p385 (l:=[s,w,o,a,b]) (by simp) (by simp)
 have e2:=fun S k=>@s336 S k n hn h0
 simp [f438,f438b,e1,e2,tSecond,fillR]
theorem s371 {sh u o a b:T} {n:Int} (hn:inI n) (h0:n≠ -9223372036854775808):call 371 [.agg sh.cells,.agg u.cells,.agg o.cells,.agg a.cells,.agg b.cells,.sc (.int .i64 n)] S=some (.agg (tSecond sh (tWd u) o a (tHash b) n).cells,S):=by
 rw [call_calm a371 rfl (by simp) rfl]
 have e2:=fun S=>@s438 S sh (tWd u) o a (tHash b) n hn h0
 simp [f371,f371b,e2]
theorem s372 {a b:T} (ha:a.lo) (hb:b.lo):call 372 [.agg a.cells,.agg b.cells] S=some (.agg (tShare a b).cells,S):=by
 rw [call_calm a372 rfl (by simp) rfl]
 have e1:=fun S=>@s243 S b hb
 have e2:=fun S=>@s243 S a ha
 unfold tShare
 cases hs:sLt b.txt a.txt with
 |true=>simp [f372,f372b,e1,e2,hs,T.cells,rowsT,fillR]
 |false=>simp [f372,f372b,e1,e2,hs,T.cells,rowsT,fillR]
theorem s373 {k:T}:call 373 [.agg k.cells] S=some (.agg (tSeal k 60 (tPack facB [])).cells,S):=by
 rw [call_calm a373 rfl (by simp) rfl]
 have e2:=fun S t=>@s266 S k t 60 i60 (by omega)
 simp [f373,f373b,e2]
 rfl
theorem s369 {u t:T} (ht:t.bb):call 369 [.agg t.cells,.agg u.cells] S=some (resU (expT u t),S):=by
 rw [call_calm a369 rfl (by simp) rfl]
 by_cases h10:t.kind=10
 ·by_cases h2:t.kids.length=2
  ·obtain ⟨p,w,hpw⟩:=len2 h2
   have fw:w.fits:=T.bb_fits (bb_kid ht (by rw [hpw];simp))
   have hr:expT u t=expP u w p:=by unfold expT;rw [if_pos h10,hpw]
   rw [hr]
   by_cases h8:p.kind=8
   ·by_cases h1:p.kids.length=1
    ·obtain ⟨x,hx⟩:=len1 h1
     have hr:expP u w p=if w.same (tWd u) then (x,0) else (tZ,6):=by unfold expP;rw [if_pos h8,hx]
     rw [hr]
     cases hs:w.same (tWd u) with
     |true=>simp [f369,f369b,h10,hpw,at2a,at2b,h8,hx,at1a,fw,hs,resU]
     |false=>simp [f369,f369b,h10,hpw,at2a,at2b,h8,hx,at1a,fw,hs,resU,tZ_zT];rfl
    ·have hr:expP u w p=(tZ,2):=by
      unfold expP;rw [if_pos h8]
      split
      ·rename_i heq;rw [heq]at h1;simp at h1
      ·rfl
     rw [hr]
     have h1':¬(p.kids.length:Int)=1:=by omega
     simp [f369,f369b,h10,hpw,at2a,at2b,h8,h1',resU,tZ_zT];rfl
   ·have hr:expP u w p=(tZ,2):=by unfold expP;rw [if_neg h8]
    rw [hr]
    simp [f369,f369b,h10,hpw,at2a,at2b,h8,resU,tZ_zT];rfl
  ·have hr:expT u t=(tZ,2):=by
    unfold expT;rw [if_pos h10]
    split
    ·rename_i heq;rw [heq]at h2;simp at h2
    ·rfl
   rw [hr]
   have h2':¬(t.kids.length:Int)=2:=by omega
   simp [f369,f369b,h10,h2',resU,tZ_zT];rfl
 ·have hr:expT u t=(tZ,2):=by unfold expT;rw [if_neg h10]
  rw [hr]
  simp [f369,f369b,h10,resU,tZ_zT];rfl
theorem s283 {n:T}:call 283 [.agg n.cells] S=some (.agg (tOffer n).cells,S):=by
 rw [call_calm a283 rfl (by simp) rfl]
 simp [f283,f283b,fillR]
 rfl
theorem s331 {u y:T}:call 331 [.agg u.cells,.agg y.cells] S=some (.agg (tPoint u y).cells,S):=by
 rw [call_calm a331 rfl (by simp) rfl]
 have e:=fun S=>@s370 S y u
 simp [f331,f331b,e,fillR]
 rfl
theorem s344 {u b y p:T} (hp:p.lo) (hy:y.lo):call 344 [.agg u.cells,.agg b.cells,.agg y.cells,.agg p.cells] S=some (resU (chkS u b y p),S):=by
 rw [call_calm a344 rfl (by simp) rfl]
 have e0:=fun S=>@s79 S spkB 2 p (by omega)
 unfold chkS
 cases hu:unpT spkB 2 p with
 |none=>
  rw [hu]at e0
  unfold spkB at e0
  simp [f344,f344b,e0,optL,resU,tZ_zT];rfl
 |some l=>
  rw [hu]at e0
  obtain ⟨h2,hm⟩:=unpT_len (n:=2) hu
  obtain ⟨l,f,rfl⟩:=len2 h2
  unfold spkB at e0
  have ll:l.lo:=hp.kid (hm l (by simp))
  have lf:f.lo:=hp.kid (hm f (by simp))
  have e1:=fun S=>@s369 S u l ll.bb
  have lx:=expT_lo (u:=u) ll
  have e2:=fun S=>@s370 S y u
  show _=some (resU (chkP u b y l f (expT u l)),S)
  unfold chkP
  generalize expT u l=r at *
  by_cases h0:r.2=0
  ·rw [if_pos h0]
   have e3:=fun S=>@s372 S r.1 y lx hy
   have e4:=fun S=>@s371 S (tShare r.1 y) u (tMsk y u) l b 1 i1 (by omega)
   have e4':=fun S=>@s371 S (tShare r.1 y) u (tMsk y u) l b 0 i0 (by omega)
   have e5:=fun S k=>@s373 S k
   have ff:f.fits:=T.bb_fits lf.bb
   have hx1:tSeal (tSecond (tShare r.1 y) (tWd u) (tMsk y u) l (tHash b) 1) 60 (tPack facB [])=tFac r.1 y u (tMsk y u) l b:=rfl
   have hx0:tSecond (tShare r.1 y) (tWd u) (tMsk y u) l (tHash b) 0=xKey r.1 y u (tMsk y u) l b 0:=rfl
   cases hs:f.same (tFac r.1 y u (tMsk y u) l b) with
   |true=>simp [f344,f344b,e0,optL,at2a,at2b,e1,resU,h0,e2,e3,e4,e4',e5,hx1,hx0,ff,hs]
   |false=>simp [f344,f344b,e0,optL,at2a,at2b,e1,resU,h0,e2,e3,e4,e5,hx1,ff,hs,tZ_zT];rfl
  ·rw [if_neg h0]
   simp [f344,f344b,e0,optL,at2a,at2b,e1,resU,h0,tZ_zT];rfl
end
section
variable {S:AS}
set_option maxHeartbeats 1000000 in
theorem q111 {key:T} {c:Ck} {x:AV} (hx:IsSs S x c.done) (hb:key.bulk≤1099511627776) (hs:c.secret.bulk≤1099511627776) (hc:c.ok):call 111 [.agg key.cells,.agg (ckX c x)] S=some (.agg (sealT key c).cells,S):=by
 rw [call_calm' a111 (args':=[.agg key.cells,.agg (ckX c x.nrm)]) (by simp) (by simp) rfl]
 have hy:=hx.nrm
 have hyn:=hx.nn
 generalize x.nrm=y at hy hyn
 have hyr:=hy.reg
 have hyc:=ckX_cell c y (hy.cell hyn)
 have hyc':=hy.cell hyn
 have hyl:=hy.len
 rw [hyn]at hyl
 have e1:=fun S=>@s211 S key hb
 have e2:=fun S=>@s211 S c.secret hs
 unfold sealT
 cases hk:key.fit with
 |false=>
  rw [hk]at e1
  cases hs:c.secret.fit with
  |false=>rw [hs]at e2;simp [f111,f111b,hyc,e1,e2,tZero,T.cells,rowsT,lstN]
  |true=>rw [hs]at e2;simp [f111,f111b,hyc,e1,e2,tZero,T.cells,rowsT,lstN]
 |true=>
  rw [hk]at e1
  cases hs:c.secret.fit with
  |false=>rw [hs]at e2;simp [f111,f111b,hyc,e1,e2,tZero,T.cells,rowsT,lstN]
  |true=>
   rw [hs]at e2
   simp only [f111]
   simp [-calmR_some,f111b,hyc,hyr,hyl,e1,e2,fillR]
   let S0:AS:=⟨S.heap,S.n,S.n⟩
   refine loop_gen (α:=Nat) (R:=fun _ r=>calmR S r=some (.agg (tEnc key (tPair (bodyT c))).cells,S)) (fun i e rg S'=>i≤c.done.length∧e 2=.reg 2 0∧rg 2=some key.cells∧e 3=.reg 3 0∧rg 3=some (ckX c y)∧e 4=.reg 4 0∧rg 4=some [.i 0,.s ⟨#[]⟩,.lst 0 true []]∧e 8=.sc (.int .i64 (i:Nat))∧Own S0 S' 3 (e 7) ((doneT (c.done.take i)).map T.cells)) (fun i=>c.done.length - i) ?_ 0 _ _ _ ?_
   rotate_left
   ·refine ⟨by omega,by simp,by simp,by simp,by simp,by simp,by simp,by simp,?_⟩
    simp [doneT];exact own_lst (Nat.le_refl _)
   intro kk hkk i e rg S' ⟨hi,h2,g2,h3,g3,h4,g4,h8,hO⟩ ih
   have h100:(⟨#[100]⟩:ByteArray).size=1:=rfl
   have h99:(⟨#[99]⟩:ByteArray).size=1:=rfl
   have h110:(⟨#[110]⟩:ByteArray).size=1:=rfl
   have h117:(⟨#[117]⟩:ByteArray).size=1:=rfl
   have hdl:=hc.done
   by_cases hlt:i < c.done.length
   ·obtain ⟨s,hs⟩:=get_of_lt hlt
    obtain ⟨pt,hpt,hpr,hld⟩:=hy.at hs
    rw [hyn]at hpt
    have hld:=hld S' (fun id hid=>hO.old.heap id hid)
    have w2:IntKind.i64.wrap ((i:Int)+1)=((i+1:Nat):Int):=w64 (by omega)
    have hss:=hc.names s (List.mem_of_getElem? hs)
    have p:pev (.bin .add) [.s ⟨#[100]⟩,.sc (.string s)]=some (.sc (.string (⟨#[100]⟩++s))):=pev_sadd (by omega)
    have hil:(c.done.take i).length=i:=by rw [List.length_take];omega
    obtain ⟨v',S'',ha,hO',q1,q2,q3⟩:=hO.push (n:=i) (bytes:=48) (r:=(tData (⟨#[100]⟩++s)).cells) (f:=true) (d:=some 39) (rg:=rg) (by rw [List.length_map,doneT_len,hil]) (by omega)
    have h7r:=hO.reg
    rw [←doneT_take hs]at hO'
    simp [-calmR_some,f111_l0,h3,g3,h8,hlt,hyr,hyl,hpt,hpr,hld,p,h7r,fillR]
    rw [ha]
    simp [-calmR_some,q1,w2,h8]
    refine ih (i+1) _ _ _ (by omega) (fun _ h=>h) ?_
    exact ⟨by omega,by simp [h2],g2,by simp [h3],g3,by simp [h4],g4,by simp,by simpa using hO'⟩
   ·have hi':i=c.done.length:=by omega
    subst hi'
    rw [List.take_length]at hO
    have hf:=hO.frzT (b:=S.n) (d:=1) (Nat.le_refl _)
    have h7r:=hO.reg
    have h7c:=hO.cell
    have h7s:=hO.cells
    have hit:=itoaB_le (n:=c.upto) (by have:=hc.upto;unfold inI at this;omega) (by have:=hc.upto;unfold inI at this;omega)
    have e213:=fun S=>@s213 S c.upto hc.upto
    have p1:pev (.bin .add) [.s ⟨#[117]⟩,.sc (.string (itoaB c.upto))]=some (.sc (.string (⟨#[117]⟩++itoaB c.upto))):=pev_sadd (by omega)
    have p2:pev (.bin .add) [.s ⟨#[99]⟩,.sc (.string c.client)]=some (.sc (.string (⟨#[99]⟩++c.client))):=pev_sadd (by have:=hc.client;omega)
    have p3:pev (.bin .add) [.s ⟨#[110]⟩,.sc (.string c.nonce)]=some (.sc (.string (⟨#[110]⟩++c.nonce))):=pev_sadd (by have:=hc.nonce;omega)
    simp [-calmR_some,f111_l0,h3,g3,h8,hyr,hyl]
    rw [hkk]
    generalize hv7:e 7=v7 at *
    simp [-calmR_some,h2,g2,h3,g3,h4,g4,hv7,hyr,h7r,h7c,h7s,e213,p1,p2,p3,fillR]
    simp [hf]
    rw [show lstT (doneT c.done)=lstN 3 (rowsT (doneT c.done)) by rw [rowsT_map];rfl]
    simp only [tEnc,tPair,bodyT,T.cells,rowsT,tData]
    try rfl
theorem q69 {x:AV} {l:List ByteArray} (hx:IsSs S x l) (hs:∀s∈l,s.size≤4611686018427387904) (hl:l.length * 48≤140737488355328):call 69 [x] S=some (.agg (tPair (wordsT l)).cells,S):=by
 have hr:=hx.reg
 rw [call_calm' a69 (args':=[x.nrm]) (by simp [hr]) (by simp) rfl]
 have hy:=hx.nrm
 have hyn:=hx.nn
 generalize x.nrm=y at hy hyn
 have hyr:=hy.reg
 have hyl:=hy.len
 rw [hyn]at hyl
 simp only [f69]
 simp [-calmR_some,f69b,hyr]
 rw [show (some (AV.agg (tPair (wordsT l)).cells,S):Option (AV×AS))=calmR S (some (AV.agg (tPair (wordsT l)).cells,S)) by simp]
 let S0:AS:=⟨S.heap,S.n,S.n⟩
 refine loop_gen (α:=Nat) (R:=fun _ r=>calmR S r=calmR S (some (.agg (tPair (wordsT l)).cells,S))) (fun i e rg S'=>i≤l.length∧e 0=y∧e 2=.reg 2 0∧rg 2=some zT∧e 3=.reg 3 0∧e 4=.sc (.int .i64 (i:Nat))∧∃v,rg 3=some [.sc (.int .i64 3),.sc (.string ⟨#[]⟩),v]∧Own S0 S' 3 v ((wordsT (l.take i)).map T.cells)) (fun i=>l.length - i) ?_ 0 _ _ _ ?_
 rotate_left
 ·refine ⟨by omega,by simp,by simp,by simp [zT],by simp,by simp,.lst 0 true [],by simp,?_⟩
  exact own_nil (Nat.le_refl _)
 intro kk hkk i e rg S' ⟨hi,h0,h2,h22,h3,h4,v,h33,hO⟩ ih
 by_cases hc:i < l.length
 ·obtain ⟨t,ht⟩:=get_of_lt hc
  obtain ⟨pt,hpt,hpr,hld⟩:=hy.at ht
  rw [hyn]at hpt
  have hld:=hld S' (fun id hid=>hO.old.heap id hid)
  have hts:=hs t (List.mem_of_getElem? ht)
  obtain ⟨v',S'',ha,hO',q1,q2,q3⟩:=hO.push (n:=i) (bytes:=48) (r:=(tWord t).cells) (f:=true) (d:=some 20) (rg:=rg) (by simp [wordsT];omega) (by omega)
  have w2:IntKind.i64.wrap ((i:Int)+1)=((i+1:Nat):Int):=w64 (by omega)
  simp [-calmR_some,f69_l0,h0,h3,h4,h33,hc,hyr,hyl,hpt,hpr,hld,s65 t hts,ha,w2,q1,q2,q3,fillR]
  refine ih (i+1) _ _ _ (by omega) (fun _ h=>h) ?_
  refine ⟨by omega,by simp [h0],by simp [h2],by simp [h22],by simp [h3],by simp,v',by simp,?_⟩
  have:(wordsT (l.take (i+1))).map T.cells=(wordsT (l.take i)).map T.cells++[(tWord t).cells]:=by
   unfold wordsT
   rw [List.take_add_one,ht];simp
  rw [this];exact hO'
 ·have hi':i=l.length:=by omega
  subst hi'
  rw [List.take_length]at hO
  simp [-calmR_some,f69_l0,h0,h4,hyr,hyl]
  rw [hkk]
  have hcell:=hO.cell
  have hf:=hO.frzT (b:=S.n) (d:=1) (Nat.le_refl _)
  simp [h2,h22,h3,h33,hcell,hf,zT]
  rw [cells_T];rfl
def begR (a b:List ByteArray):Bool:=decide (a.length < b.length) && decide (b.take a.length=a)
theorem begR_no {a b:List ByteArray} {i:Nat} {x y:ByteArray} (hx:a[i]?=some x) (hy:b[i]?=some y) (h:x≠y):begR a b=false:=by
 unfold begR
 have:b.take a.length≠a:=fun e=>by
  have hi:i < a.length:=(List.getElem?_eq_some_iff.1 hx).1
  rw [←e,List.getElem?_take,if_pos hi,hy]at hx
  cases hx;exact h rfl
 simp [this]
theorem begR_yes {a b:List ByteArray} (hl:a.length < b.length) (h:∀(i:Nat) (x:ByteArray),a[i]?=some x→b[i]?=some x):begR a b=true:=by
 unfold begR
 have:b.take a.length=a:=by
  apply List.ext_getElem?
  intro i
  rw [List.getElem?_take]
  split
  ·rename_i hi
   have:=h i a[i] (by simp [hi])
   rw [this];simp [hi]
  ·rename_i hi
   rw [List.getElem?_eq_none (by omega)]
 simp [hl,this]
theorem s340 {a b:List ByteArray} (hb:b.length≤4611686018427387904):call 340 [lstS a,lstS b] S=some (.sc (.bool (begR a b)),S):=by
 rw [call_calm a340 rfl (by simp) rfl]
 simp only [f340]
 by_cases hab:b.length≤a.length
 ·have:begR a b=false:=by unfold begR;simp;omega
  simp [f340b,hab,this]
 ·simp [-calmR_some,f340b,hab]
  refine loop_gen (α:=Nat) (R:=fun _ r=>calmR S r=some (.sc (.bool (begR a b)),S)) (fun i e rg S'=>i≤a.length∧S'={S with ro:=S.n}∧e 0=lstS a∧e 1=lstS b∧e 5=.sc (.int .i64 (i:Nat))∧∀(j:Nat) (x:ByteArray),j < i→a[j]?=some x→b[j]?=some x) (fun i=>a.length - i) ?_ 0 _ _ _ ?_
  rotate_left
  ·exact ⟨by omega,rfl,by simp,by simp,by simp,by intro j x hj;omega⟩
  intro kk hkk i e rg S' ⟨hi,hS',h0,h1,h5,hall⟩ ih
  subst hS'
  by_cases hc:i < a.length
  ·obtain ⟨x,hx⟩:=get_of_lt hc
   obtain ⟨y,hy⟩:=get_of_lt (l:=b) (i:=i) (by omega)
   have w2:IntKind.i64.wrap ((i:Int)+1)=((i+1:Nat):Int):=w64 (by omega)
   by_cases hxy:x=y
   ·simp [-calmR_some,f340_l0,h0,h1,h5,hc,lstS_at hx,lstS_at hy,hxy,w2]
    refine ih (i+1) _ _ _ (by omega) (fun _ h=>h) ⟨by omega,rfl,by simp [h0],by simp [h1],by simp,?_⟩
    intro j z hj hz
    by_cases hji:j=i
    ·subst hji;rw [hx]at hz;cases hz;rw [hy,hxy]
    ·exact hall j z (by omega) hz
   ·simp [-calmR_some,f340_l0,h0,h1,h5,hc,lstS_at hx,lstS_at hy,hxy]
    rw [hkk]
    simp [begR_no hx hy hxy]
  ·have hi':i=a.length:=by omega
   subst hi'
   simp [-calmR_some,f340_l0,h0,h5]
   rw [hkk]
   simp [begR_yes (by omega:a.length < b.length) fun j x hj=>hall j x (List.getElem?_eq_some_iff.1 hj).1 hj]
end
section
variable {S:AS} {kb ub:Nat} {u:Us}
theorem e345 {n:ByteArray} (h:S.heap kb=some (.rows 1 [[.lst 0 true []]])):call 345 [.ptr kb 0 0,.sc (.string n)] S=some (.sc (.int .i64 (-1)),S):=by
 rw [call_calm a345 rfl (by simp) rfl]
 have hld:∀d rg,opev (.ld none 1 false) d rg {S with ro:=S.n} [.ptr kb 0 0]=some (.lst 0 true [],none,{S with ro:=S.n}):=fun d rg=>by
  rw [opev_ld_ptr (S:={S with ro:=S.n}) h];rfl
 simp only [f345]
 simp [-calmR_some,f345b]
 rw [exec_loop]
 simp [-calmR_some,f345_l0,hld]
 simp
theorem app15 (hro:S.ro≤S.n) {f:Bool} (d:Option Nat) (rg:Nat→Option (List AV)):opev (.append 15 192) d rg S [.lst 0 true [],.lst 15 f [u.row]]=some (.arr S.n 15 0 1 none,none,S.new (.rows 15 [u.row])):=by
 simp [opev,rowsOf,appendA]
set_option maxHeartbeats 1000000 in
theorem c329 {f:Bool} (h:u.okk) (hro:S.ro≤S.n):∃S',call 329 [.lst 15 f [u.row]] S=some (.tup [.ptr S.n 0 0,.i 0],S')∧IsB S' S.n (S.n+1) u∧Chg S S' (fun _=>False) (ownB S.n (S.n+1)):=by
 rw [call_keep a329 (by simp) rfl]
 have e416:=fun S=>@s416 S u h
 have hc:=@Us.row_cell u
 have hl:=@Us.row_len u
 have hk:=@Us.take u
 have r0:u.row.take 1=[.sc (.string u.name)]:=rfl
 have hap:=fun S hro d rg=>@app15 S u hro true d rg
 refine ⟨((S.new (.rows 1 [[.lst 0 true []]])).new (.rows 15 [u.row])).set S.n (some (.rows 1 [[.arr (S.n+1) 15 0 1 none]])),?_,?_,?_⟩
 ·generalize u.row=r at *
  have e1:call 345 [.ptr S.n 0 0,.sc (.string u.name)] (S.new (.rows 1 [[.lst 0 true []]]))=_:=e345 (heap_new)
  have hld:∀d rg,opev (.ld none 1 false) d rg (S.new (.rows 1 [[.lst 0 true []]])) [.ptr S.n 0 0]=some (.lst 0 true [],none,S.new (.rows 1 [[.lst 0 true []]])):=fun d rg=>by rw [opev_ld_ptr heap_new];rfl
  have hap:=hap (S.new (.rows 1 [[.lst 0 true []]])) (Nat.le_succ_of_le hro)
  have hst:∀d rg,opev (.st none 1) d rg ((S.new (.rows 1 [[.lst 0 true []]])).new (.rows 15 [r])) [.ptr S.n 0 0,.arr (S.n+1) 15 0 1 none]=some (.junk,none,((S.new (.rows 1 [[.lst 0 true []]])).new (.rows 15 [r])).set S.n (some (.rows 1 [[.arr (S.n+1) 15 0 1 none]]))):=fun d rg=>by
   have hh:((S.new (.rows 1 [[.lst 0 true []]])).new (.rows 15 [r])).heap S.n=some (.rows 1 [[.lst 0 true []]]):=by
    show (if S.n=S.n+1 then _ else if S.n=S.n then _ else _)=_
    rw [if_neg (by omega),if_pos rfl]
   simp only [opev,hh]
   rw [if_pos ⟨hro,rfl,rfl⟩];rfl
  have hn1:(S.new (.rows 1 [[.lst 0 true []]])).n=S.n+1:=rfl
  rw [hn1]at hap
  generalize S.set S.n _=S2 at *
  simp only [f329]
  simp [f329b,fillA,opev]
  rw [exec_loop]
  have hi:pev (.iaddr 15) [.lst 15 f [r],.i 0]=some (.iptr r):=by simp [pev]
  generalize hkk:Kn.loop _ _ f329_l0::_=kk
  have hw:IntKind.i64.wrap 1=1:=w64 (by omega)
  simp [f329_l0,e1,hc,hl,hk,r0,e416,hld,hap,hst,fillR,hi,hw]
  rw [←hkk,unw_loop,exec_loop]
  simp [f329_l0]
 ·refine ⟨⟨if_pos rfl,?_⟩,hro,Nat.le_succ_of_le hro,?_,?_,by omega⟩
  ·show (if S.n+1=S.n then _ else if S.n+1=S.n+1 then _ else _)=_
   rw [if_neg (by omega),if_pos rfl]
  ·show S.n < S.n+1+1;omega
  ·show S.n+1 < S.n+1+1;omega
 ·refine ⟨rfl,?_,fun x hx _=>⟨?_,?_⟩⟩
  ·show S.n≤S.n+1+1;omega
  ·show (if x=S.n then _ else if x=S.n+1 then _ else if x=S.n then _ else _)=_
   rw [if_neg (by omega),if_neg (by omega),if_neg (by omega)]
  ·rintro (rfl|rfl)<;>omega
end
def hitB (t:Tk) (s b:T) (c:Int):Bool:=b.same (tOtp s c) && (decide (c≤t.counter+t.look+t.sync) ||decide (c=t.pending))
def hitsM (t:Tk) (s b:T) (n:Nat):List Int:=(rng t.counter n).filter (hitB t s b)
def hitN (t:Tk):Nat:=(min (max (t.counter+t.look+t.sync) t.pending) (t.counter+70) - t.counter+1).toNat
def hitsE (t:Tk) (s b:T):List Int:=if t.counter+70 < t.pending∧b.same (tOtp s t.pending)=true then hitsM t s b (hitN t)++[t.pending] else hitsM t s b (hitN t)
def hitsR (t:Tk) (s b:T):List Int:=if t.right then (if t.pending < t.counter∧b.same (tOtp s t.pending)=true then t.pending::hitsE t s b else hitsE t s b) else []
def hitLR (nonce seed:T) (t:Tk):List T→List Int×Int
 |[a,b]=>if a.same nonce then (hitsR t seed b,0) else ([],6)
 |_=>([],2)
def hitUR (nonce seed:T) (t:Tk) (r:T×Int):List Int×Int:=if r.2=0 then (match unpT codeB 2 r.1 with|some l=>hitLR nonce seed t l|none=>([],2)) else ([],r.2)
def hitTR (ak nonce p seed:T) (t:Tk):List Int×Int:=match unpT otpB 1 p with
 |some [x]=>hitUR nonce seed t (unsT ak 45 x)
 |_=>([],2)
theorem hitsM_succ {t:Tk} {s b:T} {n:Nat}:hitsM t s b (n+1)=if hitB t s b (t.counter+(n:Int)) then hitsM t s b n++[t.counter+(n:Int)] else hitsM t s b n:=by
 unfold hitsM
 rw [rng_succ,List.filter_append]
 cases h:hitB t s b (t.counter+(n:Int))<;>simp [h]
theorem hitsM_len {t:Tk} {s b:T} {n:Nat}:(hitsM t s b n).length≤n:=by
 unfold hitsM
 exact Nat.le_trans (List.length_filter_le _ _) (by rw [rng_len];exact Nat.le_refl _)
section
variable {S:AS}
theorem Own.rowsI {S0 S':AS} {v:AV} {l:List Int} (h:Own S0 S' 1 v (iRow l)):rowsOf 1 S' v=some (iRow l):=by
 rcases h.h with ⟨z,rfl,hz⟩|⟨id,rfl,hh,_,_⟩
 ·rcases hz with hz|rfl
  ·rw [hz];simp [rowsOf]
  ·simp [rowsOf]
 ·simp only [rowsOf,if_true]
  exact slice_of hh (Nat.zero_le _)
theorem calm_H {S0 S':AS} {v:AV} {l:List Int} {n:Int} (hS:S0.n=S.n) (h:Own S0 S' 1 v (iRow l)):calmR S (some (.tup [v,.sc (.int .i64 n)],S'))=some (resH (l,n),S):=by
 have e:S'.frzTo S.n 2 v=some (lstI l):=h.frzI (b:=S.n) (d:=1) (by omega)
 simp [e,resH]
theorem Own.pre {S0 S':AS} {v:AV} {l:List Int} {x:Int} (h:Own S0 S' 1 v (iRow l)) (hl:l.length≤1000):
 ∃v' S'',(∀d rg,opev (.append 1 8) d rg S' [.lst 1 true [[.sc (.int .i64 x)]],v]=some (v',none,S''))∧Own S0 S'' 1 v' (iRow (x::l))∧v'.isReg=false:=by
 have h1:Own S0 S' 1 (.lst 1 true [[.sc (.int .i64 x)]]) [[.sc (.int .i64 x)]]:=⟨h.old,h.ro,.inl ⟨1,rfl,.inr rfl⟩⟩
 have hr:=h.rowsI
 cases l with
 |nil=>
  refine ⟨_,S',fun d rg=>?_,h1,rfl⟩
  simp only [opev,hr];rfl
 |cons y l=>
  obtain ⟨v',S'',ha,hO⟩:=h1.app (d:=none) (rg:=fun _=>none) (bytes:=8) hr (by simp [iRow]) (by simp [iRow];simp at hl;omega)
  exact ⟨v',S'',fun d rg=>by simpa [opev] using ha,hO,hO.reg⟩
theorem Own.push1 {S0 S':AS} {v:AV} {l:List Int} {x:Int} (h:Own S0 S' 1 v (iRow l)) (hl:l.length≤1000):
 ∃v' S'',(∀d rg,opev (.append 1 8) d rg S' [v,.lst 1 true [[.sc (.int .i64 x)]]]=some (v',none,S''))∧Own S0 S'' 1 v' (iRow (l++[x]))∧v'.isReg=false:=by
 obtain ⟨v',S2,hap,hO',q1,q2,q3⟩:=h.push (n:=l.length) (bytes:=8) (r:=[.sc (.int .i64 x)]) (f:=true) (d:=none) (rg:=fun _=>none) (by simp [iRow]) (by omega)
 have hap2:=opev_appB (ys:=[[.sc (.int .i64 x)]]) (by simp [rowsOf]) hap
 exact ⟨v',S2,fun d rg=>by simp [opev,rowsOf,hap2],by rw [iRow_snoc];exact hO',q1⟩
set_option maxHeartbeats 4000000 in
set_option maxRecDepth 100000 in
theorem s343 {ak nonce p seed:T} {t:Tk} (hp:p.bb):call 343 [.agg ak.cells,.agg nonce.cells,.agg p.cells,.agg seed.cells,.agg t.cells] S=some (resH (hitTR ak nonce p seed t),S):=by
 rw [call_calm a343 rfl (by simp) rfl]
 have e1:=fun S=>@s79 S otpB 1 p (by omega)
 unfold hitTR
 cases hu:unpT otpB 1 p with
 |none=>
  rw [hu]at e1
  unfold otpB at e1
  simp [f343,f343b,e1,optL,resH];rfl
 |some l=>
  rw [hu]at e1
  obtain ⟨h1,hm⟩:=unpT_len (n:=1) hu
  obtain ⟨x,rfl⟩:=len1 h1
  unfold otpB at e1
  have hx:=T.bb_kids hp x (hm x (by simp))
  have e3:=fun S=>@s268 S ak x 45 i45 (by omega) (T.bb_fits hx)
  have hr:=@unsT_bb ak x 45 hx
  show _=some (resH (hitUR nonce seed t (unsT ak 45 x)),S)
  unfold hitUR
  generalize unsT ak 45 x=r at e3 hr ⊢
  by_cases h0:r.2=0
  ·rw [if_pos h0]
   have e5:=fun S=>@s79 S codeB 2 r.1 (by omega)
   cases hv:unpT codeB 2 r.1 with
   |none=>
    rw [hv]at e5
    unfold codeB at e5
    simp [f343,f343b,e1,optL,at1a,e3,resU,h0,e5,resH];rfl
   |some m=>
    rw [hv]at e5
    obtain ⟨hml,hmm⟩:=unpT_len (n:=2) hv
    obtain ⟨a,b,rfl⟩:=len2 hml
    unfold codeB at e5
    have ha:=T.bb_fits (T.bb_kids hr a (hmm a (by simp)))
    have hb:=T.bb_fits (T.bb_kids hr b (hmm b (by simp)))
    show _=some (resH (hitLR nonce seed t [a,b]),S)
    unfold hitLR
    simp only
    cases hs:a.same nonce with
    |false=>simp [f343,f343b,e1,optL,at1a,at2a,at2b,e3,resU,h0,e5,ha,hs,resH];rfl
    |true=>
     have e7:=fun S=>@s418 S t
     rw [if_pos rfl]
     unfold hitsR
     cases hrt:t.right with
     |false=>
      have hre:t.reach=(0,-1):=by unfold Tk.reach;rw [hrt];rfl
      rw [hre]at e7
      simp only [f343]
      simp [-calmR_some,f343b,e1,optL,at1a,at2a,at2b,e3,resU,h0,e5,ha,hs,e7]
      rw [exec_loop]
      simp [-calmR_some,f343_l0]
      simp [resH];rfl
     |true=>
      obtain ⟨t1,t2,t3,t4,t5,t6⟩:=Tk.right_iff.1 hrt
      obtain ⟨to,hto⟩:∃to,to=max (t.counter+t.look+t.sync) t.pending:=⟨_,rfl⟩
      have hre:t.reach=(t.counter,to):=by unfold Tk.reach;rw [hrt,hto];rfl
      rw [hre]at e7
      have hN:hitN t=(min to (t.counter+70) - t.counter+1).toNat:=by unfold hitN;rw [hto]
      have k0:t.cells.take 1=[.sc (.int .i64 t.counter)]:=rfl
      have k1:(t.cells.drop 1).take 1=[.sc (.int .i64 t.look)]:=rfl
      have k1':t.cells.tail.take 1=[.sc (.int .i64 t.look)]:=rfl
      have k2:(t.cells.drop 2).take 1=[.sc (.int .i64 t.sync)]:=rfl
      have k3:(t.cells.drop 3).take 1=[.sc (.int .i64 t.pending)]:=rfl
      have kl:t.cells.length=6:=rfl
      have w70:IntKind.i64.wrap (t.counter+70)=t.counter+70:=w64 (by omega)
      have wA:IntKind.i64.wrap (t.counter+t.look)=t.counter+t.look:=w64 (by omega)
      have wB:IntKind.i64.wrap (t.counter+t.look+t.sync)=t.counter+t.look+t.sync:=w64 (by omega)
      simp only [f343]
      simp [-calmR_some,f343b,e1,optL,at1a,at2a,at2b,e3,resU,h0,e5,ha,hs,e7]
      let S0:AS:=⟨S.heap,S.n,S.n⟩
      refine loop_gen (α:=Nat) (R:=fun _ r=>calmR S r=some (resH (if t.pending < t.counter∧b.same (tOtp seed t.pending)=true then t.pending::hitsE t seed b else hitsE t seed b,0),S)) (fun j e rg S'=>j≤hitN t∧e 8=.reg 8 0∧rg 8=some seed.cells∧e 9=.reg 9 0∧rg 9=some t.cells∧e 16=lstT [a,b]∧e 20=.sc (.int .i64 t.counter)∧e 21=.sc (.int .i64 to)∧e 22=.sc (.int .i64 (t.counter+(j:Nat)))∧Own S0 S' 1 (e 19) (iRow (hitsM t seed b j))) (fun j=>hitN t - j) ?_ 0 _ _ _ ?_
      rotate_left
      ·refine ⟨by omega,by simp,by simp,by simp,by simp,by simp,by simp,by simp,by simp,?_⟩
       simp [hitsM,rng,iRow]
       exact own_nil (Nat.le_refl _)
      intro kk hkk j e rg S' ⟨hj,g8,gr8,g9,gr9,g16,g20,g21,g22,hO⟩ ih
      have hvr:=hO.reg
      by_cases hc:j < hitN t
      ·have hc1:t.counter+(j:Int)≤to:=by omega
       have hc2:t.counter+(j:Int)≤t.counter+70:=by omega
       have w3:IntKind.i64.wrap (t.counter+(j:Int)+1)=t.counter+((j+1:Nat):Int):=by rw [w64 (by omega)];omega
       have e158:=fun S=>@s158 S seed (t.counter+(j:Int)) (inI_of (by omega)) (by omega)
       have hsu:=@hitsM_succ t seed b j
       unfold hitB at hsu
       cases hsb:b.same (tOtp seed (t.counter+(j:Int))) with
       |false=>
        rw [hsb]at hsu
        simp at hsu
        simp [-calmR_some,f343_l0,g8,gr8,g9,gr9,g16,g20,g21,g22,hc1,hc2,at2a,at2b,e158,hb,hsb,w70,w3]
        refine ih (j+1) _ _ _ (by omega) (fun _ h=>h) ?_
        exact ⟨by omega,by simp [g8],by simp [gr8],by simp [g9],by simp [gr9],by simp [g16],by simp [g20],by simp [g21],by simp,by rw [hsu];simpa using hO⟩
       |true=>
        rw [hsb]at hsu
        obtain ⟨v',S2,hap,hO',q1⟩:=hO.push1 (x:=t.counter+(j:Int)) (by have:=@hitsM_len t seed b j;omega)
        by_cases hd:t.counter+(j:Int)≤t.counter+t.look+t.sync
        ·rw [decide_eq_true hd]at hsu
         simp at hsu
         rw [←hsu]at hO'
         simp [-calmR_some,f343_l0,g8,gr8,g9,gr9,g16,g20,g21,g22,hc1,hc2,at2a,at2b,e158,hb,hsb,w70,w3,k0,k1,k1',k2,k3,kl,wA,wB,hd,hvr,hap,q1,fillR]
         refine ih (j+1) _ _ _ (by omega) (fun _ h=>h) ?_
         exact ⟨by omega,by simp [g8],by simp [gr8],by simp [g9],by simp [gr9],by simp [g16],by simp [g20],by simp [g21],by simp,by simpa using hO'⟩
        ·by_cases hd2:t.counter+(j:Int)=t.pending
         ·rw [decide_eq_false hd,decide_eq_true hd2]at hsu
          simp at hsu
          rw [←hsu]at hO'
          have hd3:=eq_true hd2
          clear hd2
          simp [-calmR_some,f343_l0,g8,gr8,g9,gr9,g16,g20,g21,g22,hc1,hc2,at2a,at2b,e158,hb,hsb,w70,w3,k0,k1,k1',k2,k3,kl,wA,wB,hd,hd3,hvr,hap,q1,fillR]
          refine ih (j+1) _ _ _ (by omega) (fun _ h=>h) ?_
          exact ⟨by omega,by simp [g8],by simp [gr8],by simp [g9],by simp [gr9],by simp [g16],by simp [g20],by simp [g21],by simp,by simpa using hO'⟩
         ·rw [decide_eq_false hd,decide_eq_false hd2]at hsu
          simp at hsu
          rw [←hsu]at hO
          simp [-calmR_some,f343_l0,g8,gr8,g9,gr9,g16,g20,g21,g22,hc1,hc2,at2a,at2b,e158,hb,hsb,w70,w3,k0,k1,k1',k2,k3,kl,wA,wB,hd,hd2]
          refine ih (j+1) _ _ _ (by omega) (fun _ h=>h) ?_
          exact ⟨by omega,by simp [g8],by simp [gr8],by simp [g9],by simp [gr9],by simp [g16],by simp [g20],by simp [g21],by simp,by simpa using hO⟩
      ·have hj':j=hitN t:=by omega
       subst hj'
       have hex:¬(t.counter+(hitN t:Int)≤to∧t.counter+(hitN t:Int)≤t.counter+70):=by omega
       have hcto:t.counter≤to:=by omega
       have hml:=@hitsM_len t seed b (hitN t)
       have hNl:hitN t≤71:=by omega
       have e158p:=fun S=>@s158 S seed t.pending (inI_of (by omega)) (by omega)
       have hEl:(hitsE t seed b).length≤72:=by
        unfold hitsE
        split
        ·simp;omega
        ·omega
       by_cases hpp:t.counter+70 < t.pending
       ·have hnl:¬t.pending < t.counter:=by omega
        cases hsp:b.same (tOtp seed t.pending) with
        |true=>
         obtain ⟨v',S2,hap,hO',q1⟩:=hO.push1 (x:=t.pending) (by omega)
         have heq:(if t.pending < t.counter∧true=true then t.pending::hitsE t seed b else hitsE t seed b)=hitsM t seed b (hitN t)++[t.pending]:=by unfold hitsE;rw [if_neg (fun h=>hnl h.1),if_pos ⟨hpp,hsp⟩]
         rw [heq]
         by_cases hx1:t.counter+(hitN t:Int)≤to
         ·have hx2:¬t.counter+(hitN t:Int)≤t.counter+70:=fun h=>hex ⟨hx1,h⟩
          simp [-calmR_some,f343_l0,g20,g21,g22,hx1,hx2,w70]
          rw [hkk]
          simp [-calmR_some,g8,gr8,g9,gr9,g16,g20,g21,hcto,w70,k0,k1,k1',k2,k3,kl,at2a,at2b,e158p,hb,hvr,fillR,hpp,hnl,hsp,hap,q1]
          exact calm_H (S0:=S0) rfl hO'
         ·simp [-calmR_some,f343_l0,g20,g21,g22,hx1]
          rw [hkk]
          simp [-calmR_some,g8,gr8,g9,gr9,g16,g20,g21,hcto,w70,k0,k1,k1',k2,k3,kl,at2a,at2b,e158p,hb,hvr,fillR,hpp,hnl,hsp,hap,q1]
          exact calm_H (S0:=S0) rfl hO'
        |false=>
         have heq:(if t.pending < t.counter∧false=true then t.pending::hitsE t seed b else hitsE t seed b)=hitsM t seed b (hitN t):=by unfold hitsE;rw [if_neg (fun h=>hnl h.1),if_neg (fun h=>by rw [hsp]at h;cases h.2)]
         rw [heq]
         by_cases hx1:t.counter+(hitN t:Int)≤to
         ·have hx2:¬t.counter+(hitN t:Int)≤t.counter+70:=fun h=>hex ⟨hx1,h⟩
          simp [-calmR_some,f343_l0,g20,g21,g22,hx1,hx2,w70]
          rw [hkk]
          simp [-calmR_some,g8,gr8,g9,gr9,g16,g20,g21,hcto,w70,k0,k1,k1',k2,k3,kl,at2a,at2b,e158p,hb,hvr,fillR,hpp,hnl,hsp]
          exact calm_H (S0:=S0) rfl hO
         ·simp [-calmR_some,f343_l0,g20,g21,g22,hx1]
          rw [hkk]
          simp [-calmR_some,g8,gr8,g9,gr9,g16,g20,g21,hcto,w70,k0,k1,k1',k2,k3,kl,at2a,at2b,e158p,hb,hvr,fillR,hpp,hnl,hsp]
          exact calm_H (S0:=S0) rfl hO
       ·have hE:hitsE t seed b=hitsM t seed b (hitN t):=by unfold hitsE;rw [if_neg (fun h=>hpp h.1)]
        by_cases hnl:t.pending < t.counter
        ·cases hsp:b.same (tOtp seed t.pending) with
         |true=>
          obtain ⟨v',S2,hap,hO',q1⟩:=hO.pre (x:=t.pending) (by omega)
          have heq:(if t.pending < t.counter∧true=true then t.pending::hitsE t seed b else hitsE t seed b)=t.pending::hitsM t seed b (hitN t):=by rw [if_pos ⟨hnl,rfl⟩,hE]
          rw [heq]
          by_cases hx1:t.counter+(hitN t:Int)≤to
          ·have hx2:¬t.counter+(hitN t:Int)≤t.counter+70:=fun h=>hex ⟨hx1,h⟩
           simp [-calmR_some,f343_l0,g20,g21,g22,hx1,hx2,w70]
           rw [hkk]
           simp [-calmR_some,g8,gr8,g9,gr9,g16,g20,g21,hcto,w70,k0,k1,k1',k2,k3,kl,at2a,at2b,e158p,hb,hvr,fillR,hpp,hnl,hsp,hap,q1]
           exact calm_H (S0:=S0) rfl hO'
          ·simp [-calmR_some,f343_l0,g20,g21,g22,hx1]
           rw [hkk]
           simp [-calmR_some,g8,gr8,g9,gr9,g16,g20,g21,hcto,w70,k0,k1,k1',k2,k3,kl,at2a,at2b,e158p,hb,hvr,fillR,hpp,hnl,hsp,hap,q1]
           exact calm_H (S0:=S0) rfl hO'
         |false=>
          have heq:(if t.pending < t.counter∧false=true then t.pending::hitsE t seed b else hitsE t seed b)=hitsM t seed b (hitN t):=by rw [if_neg (fun h=>by cases h.2),hE]
          rw [heq]
          by_cases hx1:t.counter+(hitN t:Int)≤to
          ·have hx2:¬t.counter+(hitN t:Int)≤t.counter+70:=fun h=>hex ⟨hx1,h⟩
           simp [-calmR_some,f343_l0,g20,g21,g22,hx1,hx2,w70]
           rw [hkk]
           simp [-calmR_some,g8,gr8,g9,gr9,g16,g20,g21,hcto,w70,k0,k1,k1',k2,k3,kl,at2a,at2b,e158p,hb,hvr,fillR,hpp,hnl,hsp]
           exact calm_H (S0:=S0) rfl hO
          ·simp [-calmR_some,f343_l0,g20,g21,g22,hx1]
           rw [hkk]
           simp [-calmR_some,g8,gr8,g9,gr9,g16,g20,g21,hcto,w70,k0,k1,k1',k2,k3,kl,at2a,at2b,e158p,hb,hvr,fillR,hpp,hnl,hsp]
           exact calm_H (S0:=S0) rfl hO
        ·
         have heq:(if t.pending < t.counter∧b.same (tOtp seed t.pending)=true then t.pending::hitsE t seed b else hitsE t seed b)=hitsM t seed b (hitN t):=by rw [if_neg (fun h=>hnl h.1),hE]
         rw [heq]
         by_cases hx1:t.counter+(hitN t:Int)≤to
         ·have hx2:¬t.counter+(hitN t:Int)≤t.counter+70:=fun h=>hex ⟨hx1,h⟩
          simp [-calmR_some,f343_l0,g20,g21,g22,hx1,hx2,w70]
          rw [hkk]
          simp [-calmR_some,g8,gr8,g9,gr9,g16,g20,g21,hcto,w70,k0,k1,k1',k2,k3,kl,at2a,at2b,e158p,hb,hvr,fillR,hpp,hnl]
          exact calm_H (S0:=S0) rfl hO
         ·simp [-calmR_some,f343_l0,g20,g21,g22,hx1]
          rw [hkk]
          simp [-calmR_some,g8,gr8,g9,gr9,g16,g20,g21,hcto,w70,k0,k1,k1',k2,k3,kl,at2a,at2b,e158p,hb,hvr,fillR,hpp,hnl]
          exact calm_H (S0:=S0) rfl hO
  ·rw [if_neg h0]
   simp [f343,f343b,e1,optL,at1a,e3,resU,h0,resH];rfl
end
def rD (t:T) (l:ByteArray):ByteArray:=(restOf t l).getD ⟨#[]⟩
def rB (t:T) (l:ByteArray):Bool:=(restOf t l).isSome
def dnR (l:List T):List ByteArray:=l.map fun k=>rD k ⟨#[100]⟩
def dbR (l:List T):Bool:=l.all fun k=>rB k ⟨#[100]⟩
def numR (s:ByteArray):Bool:=decide (itoaB (numA s)=s)
def ckR (k1 k2 k3 k4 k5:T):Ck:=⟨rD k1 ⟨#[99]⟩,rD k2 ⟨#[110]⟩,dnR k3.kids,k4,numA (rD k5 ⟨#[117]⟩)⟩
def okR4 (k1 k2 k3 k4 k5:T):Bool:=rB k1 ⟨#[99]⟩ && rB k2 ⟨#[110]⟩ && rB k5 ⟨#[117]⟩ && numR (rD k5 ⟨#[117]⟩) && dbR k3.kids && k4.fit
def headR (k0 k3:T) (b:T):Bool:=decide (b.kind=3) && decide (k0.kind=1) && decide (k0.name=⟨#[99,111,111,107,105,101]⟩) && decide (k3.kind=3)
theorem e317 {S:AS} {t:T} {l:ByteArray} (hl:l.size=1):call 317 [.agg t.cells,.sc (.string l)] S=some (.tup [.sc (.string (rD t l)),.sc (.bool (rB t l))],S):=s317 hl
theorem dnR_take {l:List T} {i:Nat} {k:T} (h:l[i]?=some k):sRow (dnR (l.take (i+1)))=sRow (dnR (l.take i))++[[.sc (.string (rD k ⟨#[100]⟩))]]:=by
 rw [List.take_add_one,h];simp [dnR,sRow]
theorem dbR_take {l:List T} {i:Nat} {k:T} (h:l[i]?=some k):dbR (l.take (i+1))=(dbR (l.take i) && rB k ⟨#[100]⟩):=by
 rw [List.take_add_one,h];simp [dbR]
theorem rD_le {t:T} {l:ByteArray}:(rD t l).size≤t.name.size:=by
 unfold rD restOf
 split
 ·cases h:cutB t.name l with
  |none=>exact Nat.zero_le _
  |some r=>exact cutB_le h
 ·exact Nat.zero_le _
section
variable {S:AS}
theorem s220_head {b k0 k1 k2 k3 k4 k5:T} (hb:b.kids=[k0,k1,k2,k3,k4,k5]) (hh:headR k0 k3 b=false):call 220 [.agg b.cells] S=some (.tup [.agg ckZero.cells,.b false],S):=by
 rw [call_calm a220 rfl (by simp) rfl]
 have h6:b.kids.length=6:=by rw [hb];rfl
 have l0:pev (.iaddr 3) [lstT b.kids,.i 0]=some (.iptr k0.cells):=lstT_at (i:=0) (by rw [hb];rfl)
 have l3:pev (.iaddr 3) [lstT b.kids,.i 3]=some (.iptr k3.cells):=lstT_at (i:=3) (by rw [hb];rfl)
 have fin:calmR S (some (.tup [.agg zC,.b false],S))=some (.tup [.agg ckZero.cells,.b false],S):=by
  simp [ckZero,Ck.cells,tZero,T.kind,T.name,T.kids,lstS,lstT,lstN,sRow,AV.pure]
 unfold headR at hh
 by_cases c1:b.kind=3
 ·by_cases c2:k0.kind=1
  ·by_cases c3:k0.name=⟨#[99,111,111,107,105,101]⟩
   ·by_cases c4:k3.kind=3
    ·simp [c1,c2,c3,c4]at hh
    ·simp [-calmR_some,f220,f220b,eq_true c1,h6,l0,l3,eq_true c2,eq_true c3,c4]
     simp [ckZero,Ck.cells,tZero,T.kind,T.name,T.kids,lstS,lstT,lstN,sRow,AV.pure]
   ·simp [-calmR_some,f220,f220b,eq_true c1,h6,l0,l3,eq_true c2,c3]
    simp [ckZero,Ck.cells,tZero,T.kind,T.name,T.kids,lstS,lstT,lstN,sRow,AV.pure]
  ·simp [-calmR_some,f220,f220b,eq_true c1,h6,l0,l3,c2]
   simp [ckZero,Ck.cells,tZero,T.kind,T.name,T.kids,lstS,lstT,lstN,sRow,AV.pure]
 ·simp [-calmR_some,f220,f220b,c1]
  simp [ckZero,Ck.cells,tZero,T.kind,T.name,T.kids,lstS,lstT,lstN,sRow,AV.pure]
theorem s220_len {b:T} (hl:b.kids.length≤4611686018427387904) (h:b.kids.length≠6):call 220 [.agg b.cells] S=some (.tup [.agg ckZero.cells,.b false],S):=by
 rw [call_calm a220 rfl (by simp) rfl]
 have h6':¬(b.kids.length:Int)=6:=by omega
 by_cases c1:b.kind=3
 ·simp [-calmR_some,f220,f220b,eq_true c1,h,h6']
  simp [ckZero,Ck.cells,tZero,T.kind,T.name,T.kids,lstS,lstT,lstN,sRow,AV.pure]
 ·simp [-calmR_some,f220,f220b,c1]
  simp [ckZero,Ck.cells,tZero,T.kind,T.name,T.kids,lstS,lstT,lstN,sRow,AV.pure]
set_option maxHeartbeats 8000000 in
set_option maxRecDepth 100000 in
theorem s220_ok {b k0 k1 k2 k3 k4 k5:T} (hb:b.kids=[k0,k1,k2,k3,k4,k5]) (hh:headR k0 k3 b=true) (hl:k3.kids.length * 16≤140737488355328) (h5:k5.name.size≤4611686018427387904) (h4:k4.bulk≤1099511627776):
 call 220 [.agg b.cells] S=some (.tup [.agg (ckR k1 k2 k3 k4 k5).cells,.sc (.bool (okR4 k1 k2 k3 k4 k5))],S):=by
 rw [call_calm a220 rfl (by simp) rfl]
 have h6:b.kids.length=6:=by rw [hb];rfl
 have l0:pev (.iaddr 3) [lstT b.kids,.i 0]=some (.iptr k0.cells):=lstT_at (i:=0) (by rw [hb];rfl)
 have l1:pev (.iaddr 3) [lstT b.kids,.i 1]=some (.iptr k1.cells):=lstT_at (i:=1) (by rw [hb];rfl)
 have l2:pev (.iaddr 3) [lstT b.kids,.i 2]=some (.iptr k2.cells):=lstT_at (i:=2) (by rw [hb];rfl)
 have l3:pev (.iaddr 3) [lstT b.kids,.i 3]=some (.iptr k3.cells):=lstT_at (i:=3) (by rw [hb];rfl)
 have l4:pev (.iaddr 3) [lstT b.kids,.i 4]=some (.iptr k4.cells):=lstT_at (i:=4) (by rw [hb];rfl)
 have l5:pev (.iaddr 3) [lstT b.kids,.i 5]=some (.iptr k5.cells):=lstT_at (i:=5) (by rw [hb];rfl)
 have r1:=fun S=>@e317 S k1 ⟨#[99]⟩ rfl
 have r2:=fun S=>@e317 S k2 ⟨#[110]⟩ rfl
 have r5:=fun S=>@e317 S k5 ⟨#[117]⟩ rfl
 have rn:=fun S=>@s318 S (rD k5 ⟨#[117]⟩) (Nat.le_trans rD_le h5)
 have rf:=fun S=>@s211 S k4 h4
 unfold headR at hh
 simp only [Bool.and_eq_true,decide_eq_true_eq]at hh
 obtain ⟨⟨⟨c1,c2⟩,c3⟩,c4⟩:=hh
 have hn:decide (itoaB (numA (rD k5 ⟨#[117]⟩))=rD k5 ⟨#[117]⟩)=numR (rD k5 ⟨#[117]⟩):=rfl
 rw [hn]at rn
 obtain ⟨q1,hq1⟩:∃q,q=rB k1 ⟨#[99]⟩:=⟨_,rfl⟩
 obtain ⟨q2,hq2⟩:∃q,q=rB k2 ⟨#[110]⟩:=⟨_,rfl⟩
 obtain ⟨q5,hq5⟩:∃q,q=rB k5 ⟨#[117]⟩:=⟨_,rfl⟩
 obtain ⟨qn,hqn⟩:∃q,q=numR (rD k5 ⟨#[117]⟩):=⟨_,rfl⟩
 obtain ⟨p0,hp0⟩:∃p,p=(q1 && q2 && q5 && qn):=⟨_,rfl⟩
 have key:∀(e:Nat→AV) (rg:Nat→Option (List AV)) (S1:AS) (ks:List Kn),S1=⟨S.heap,S.n,S.n⟩→e 1=.reg 1 0→rg 1=some b.cells→e 2=.reg 2 0→rg 2=some zC→e 4=.reg 4 0→rg 4=some zC→
  e 5=.sc (.string (rD k1 ⟨#[99]⟩))→e 7=.sc (.string (rD k2 ⟨#[110]⟩))→e 11=.sc (.int .i64 (numA (rD k5 ⟨#[117]⟩)))→e 13=.sc (.bool p0)→e 14=.i 0→
  (∀(e':Nat→AV) (rg':Nat→Option (List AV)) (S':AS) (v:AV),e' 1=.reg 1 0→rg' 1=some b.cells→e' 2=.reg 2 0→rg' 2=some zC→e' 4=.reg 4 0→rg' 4=some [.s ⟨#[]⟩,.s ⟨#[]⟩,v,.i 0,.s ⟨#[]⟩,.lst 0 true [],.i 0]→
   e' 5=e 5→e' 7=e 7→e' 11=e 11→e' 13=.sc (.bool (p0 && dbR k3.kids))→Own ⟨S.heap,S.n,S.n⟩ S' 1 v (sRow (dnR k3.kids))→
   calmR S (fin [.cell 2 7 true,.tmp 3] (unw AA (some (.exit 0,st 145 e' rg' S')) ks))=some (.tup [.agg (ckR k1 k2 k3 k4 k5).cells,.sc (.bool (okR4 k1 k2 k3 k4 k5))],S))→
  calmR S (fin [.cell 2 7 true,.tmp 3] (exec AA (.loop [15,16,92,93,94,95,96,97,98,99,100,101,102,103,104,105,106,107,108,109,110,111,112,113,114,115,116,117,118,119,120,121,122,123] [] f220_l0) (st 145 e rg S1) ks))=some (.tup [.agg (ckR k1 k2 k3 k4 k5).cells,.sc (.bool (okR4 k1 k2 k3 k4 k5))],S):=by
  intro e rg S1 ks hS1 g1 rg1 g2 rg2 g4 rg4 g5 g7 g11 g13 g14 hex
  refine loop_gen (α:=Nat) (R:=fun _ r=>calmR S r=some (.tup [.agg (ckR k1 k2 k3 k4 k5).cells,.sc (.bool (okR4 k1 k2 k3 k4 k5))],S)) (fun i e' rg' S'=>i≤k3.kids.length∧e' 1=.reg 1 0∧rg' 1=some b.cells∧e' 2=.reg 2 0∧rg' 2=some zC∧e' 4=.reg 4 0∧e' 5=e 5∧e' 7=e 7∧e' 11=e 11∧e' 13=.sc (.bool (p0 && dbR (k3.kids.take i)))∧e' 14=.sc (.int .i64 (i:Nat))∧∃v,rg' 4=some [.s ⟨#[]⟩,.s ⟨#[]⟩,v,.i 0,.s ⟨#[]⟩,.lst 0 true [],.i 0]∧Own ⟨S.heap,S.n,S.n⟩ S' 1 v (sRow (dnR (k3.kids.take i)))) (fun i=>k3.kids.length - i) ?_ 0 _ _ _ ?_
  rotate_left
  ·refine ⟨by omega,g1,rg1,g2,rg2,g4,rfl,rfl,rfl,by rw [g13];simp [dbR],g14,.lst 0 true [],rg4,?_⟩
   rw [hS1];simp [dnR,sRow];exact own_nil (Nat.le_refl _)
  intro kk hkk i e' rg' S' ⟨hi,g1,rg1,g2,rg2,g4,f5,f7,f11,g13,g14,v,rg4,hO⟩ ih
  by_cases hc:i < k3.kids.length
  ·obtain ⟨u,hu⟩:=get_of_lt hc
   have w2:IntKind.i64.wrap ((i:Int)+1)=((i+1:Nat):Int):=w64 (by omega)
   have hil:(k3.kids.take i).length=i:=by rw [List.length_take];omega
   have ru:=fun S=>@e317 S u ⟨#[100]⟩ rfl
   obtain ⟨v',S'',ha,hO',z1,z2,z3⟩:=hO.push (n:=i) (bytes:=16) (r:=[.sc (.string (rD u ⟨#[100]⟩))]) (f:=true) (d:=some 122) (rg:=rg') (by simp [dnR];omega) (by omega)
   have hvr:=hO.reg
   rw [←dnR_take hu]at hO'
   have hdb:=dbR_take hu
   have e13':(p0 && dbR (k3.kids.take i) && rB u ⟨#[100]⟩)=(p0 && dbR (k3.kids.take (i+1))):=by rw [hdb,Bool.and_assoc]
   cases hb13:(p0 && dbR (k3.kids.take i)) with
   |false=>
    rw [hb13]at g13 e13'
    simp only [Bool.false_and]at e13'
    simp [-calmR_some,f220_l0,g1,rg1,g2,g4,rg4,g13,g14,hc,l3,lstT_at hu,ru,hvr,fillR]
    rw [ha]
    simp [-calmR_some,z1,z2,z3,w2,g4,rg4,g14]
    refine ih (i+1) _ _ _ (by omega) (fun _ h=>h) ?_
    exact ⟨by omega,by simp [g1],by simp [rg1],by simp [g2],by simp [rg2],by simp [g4],by simp [f5],by simp [f7],by simp [f11],by simp [←e13'],by simp,v',by simp,hO'⟩
   |true=>
    rw [hb13]at g13 e13'
    simp only [Bool.true_and]at e13'
    simp [-calmR_some,f220_l0,g1,rg1,g2,g4,rg4,g13,g14,hc,l3,lstT_at hu,ru,hvr,fillR]
    rw [ha]
    simp [-calmR_some,z1,z2,z3,w2,g4,rg4,g14]
    refine ih (i+1) _ _ _ (by omega) (fun _ h=>h) ?_
    exact ⟨by omega,by simp [g1],by simp [rg1],by simp [g2],by simp [rg2],by simp [g4],by simp [f5],by simp [f7],by simp [f11],by simp [←e13'],by simp,v',by simp,hO'⟩
  ·have hi':i=k3.kids.length:=by omega
   subst hi'
   rw [List.take_length]at hO g13
   simp [-calmR_some,f220_l0,g1,rg1,g2,g4,g14,l3]
   rw [hkk]
   exact hex _ _ _ v (by simp [g1]) rg1 (by simp [g2]) rg2 (by simp [g4]) rg4 (by simp [f5]) (by simp [f7]) (by simp [f11]) (by simp [g13]) hO
 have done:∀(e':Nat→AV) (rg':Nat→Option (List AV)) (S':AS) (v:AV),e' 1=.reg 1 0→rg' 1=some b.cells→e' 2=.reg 2 0→rg' 2=some zC→e' 4=.reg 4 0→rg' 4=some [.s ⟨#[]⟩,.s ⟨#[]⟩,v,.i 0,.s ⟨#[]⟩,.lst 0 true [],.i 0]→
  e' 5=.sc (.string (rD k1 ⟨#[99]⟩))→e' 7=.sc (.string (rD k2 ⟨#[110]⟩))→e' 11=.sc (.int .i64 (numA (rD k5 ⟨#[117]⟩)))→e' 13=.sc (.bool (p0 && dbR k3.kids))→Own ⟨S.heap,S.n,S.n⟩ S' 1 v (sRow (dnR k3.kids))→
  calmR S (fin [.cell 2 7 true,.tmp 3] (exec AA (.seq (.ops [
  ⟨some 124,.pur (.faddr 2),[.t 1],none⟩,
  ⟨some 125,.ld (some 1) 1 false,[.t 124],none⟩,
  ⟨some 126,.pur (.iaddr 3),[.t 125,.k (.i 4)],none⟩,
  ⟨some 127,.ld none 3 true,[.t 126],none⟩,
  ⟨some 128,.call 211,[.t 127],none⟩,
  ⟨some 17,.pur .mov,[.t 128],none⟩])<|
 .seq (.ops [
  ⟨some 129,.pur .mov,[.t 5],none⟩,
  ⟨some 130,.pur (.faddr 0),[.t 4],none⟩,
  ⟨none,.st (some 4) 1,[.t 130,.t 129],none⟩])<|
 .seq (.ops [
  ⟨some 131,.pur .mov,[.t 7],none⟩,
  ⟨some 132,.pur (.faddr 1),[.t 4],none⟩,
  ⟨none,.st (some 4) 1,[.t 132,.t 131],none⟩])<|
 .seq (.ops [
  ⟨some 133,.pur .mov,[.t 11],none⟩,
  ⟨some 134,.pur (.faddr 6),[.t 4],none⟩,
  ⟨none,.st (some 4) 1,[.t 134,.t 133],none⟩])<|
 .seq (.ops [
  ⟨some 135,.pur (.faddr 2),[.t 1],none⟩,
  ⟨some 136,.ld (some 1) 1 false,[.t 135],none⟩,
  ⟨some 137,.pur (.iaddr 3),[.t 136,.k (.i 4)],none⟩,
  ⟨some 138,.ld none 3 true,[.t 137],none⟩,
  ⟨some 139,.pur (.faddr 3),[.t 4],none⟩,
  ⟨none,.st (some 4) 3,[.t 139,.t 138],none⟩])<|
 .seq (.ops [
  ⟨some 140,.ld (some 4) 7 true,[.t 4],none⟩,
  ⟨some 141,.pur .mov,[.t 13],none⟩,
  ⟨some 142,.pur .mov,[.t 141],none⟩,
  ⟨some 143,.pur .mov,[.t 17],some (142,true)⟩,
  ⟨some 144,.pur .pick,[.t 142,.t 143,.k (.b false)],none⟩,
  ⟨none,.st (some 2) 7,[.t 2,.t 140],none⟩,
  ⟨some 3,.pur .mov,[.t 144],none⟩]) .ret) (st 145 e' rg' S') []))=some (.tup [.agg (ckR k1 k2 k3 k4 k5).cells,.sc (.bool (okR4 k1 k2 k3 k4 k5))],S):=by
  intro e' rg' S' v g1 rg1 g2 rg2 g4 rg4 g5 g7 g11 g13 hO
  have hvr:=hO.reg
  have hvc:=hO.cell
  have hfz:=hO.frzS (b:=S.n) (d:=1) (Nat.le_refl _)
  have hok:okR4 k1 k2 k3 k4 k5=(p0 && dbR k3.kids && k4.fit):=by
   unfold okR4;rw [hp0,hq1,hq2,hq5,hqn]
  rw [hok]
  have hcells:(ckR k1 k2 k3 k4 k5).cells=[.sc (.string (rD k1 ⟨#[99]⟩)),.sc (.string (rD k2 ⟨#[110]⟩)),lstS (dnR k3.kids)]++k4.cells++[.sc (.int .i64 (numA (rD k5 ⟨#[117]⟩)))]:=by rw [cells_T k4];rfl
  rw [hcells]
  cases hb13:(p0 && dbR k3.kids) with
  |false=>
   rw [hb13]at g13
   simp [-calmR_some,g1,rg1,g2,rg2,g4,rg4,g5,g7,g11,g13,l4,rf,hvc,hvr]
   rw [cells_T k4]
   simp [g2,hfz,AV.pure]
  |true=>
   rw [hb13]at g13
   simp [-calmR_some,g1,rg1,g2,rg2,g4,rg4,g5,g7,g11,g13,l4,rf,hvc,hvr]
   rw [cells_T k4]
   simp [g2,hfz,AV.pure]
 have hfin:∀(v:Bool),v=p0→True:=fun _ _=>trivial
 simp only [f220]
 rcases q1 with _|_<;>rcases q2 with _|_<;>rcases q5 with _|_<;>rcases qn with _|_
 all_goals
  rw [←hq1]at r1
  rw [←hq2]at r2
  rw [←hq5]at r5
  rw [←hqn]at rn
  simp [-calmR_some,f220b,eq_true c1,h6,l0,l1,l2,l3,l5,eq_true c2,eq_true c3,eq_true c4,r1,r2,r5,rn]
  refine key _ _ _ _ rfl (by simp) (by simp) (by simp) (by simp [zC]) (by simp) (by simp [zC]) (by simp) (by simp) (by simp) (by simp [hp0]) (by simp) ?_
  intro e' rg' S' v g1 rg1 g2 rg2 g4 rg4 g5 g7 g11 g13 hO
  simp at g5 g7 g11
  simpa using done e' rg' S' v g1 rg1 g2 rg2 g4 rg4 g5 g7 g11 g13 hO
end
theorem rshp_one {t:T} (h:t.rshp=true):knd t.kind=true∧(nmd t.kind=true↔t.name≠⟨#[]⟩)∧(kdn t.kind < 0∨(t.kids.length:Int)=kdn t.kind):=by
 rw [t.rshp_def,Bool.and_eq_true]at h
 exact T.one_iff.1 h.1
theorem is_data {t:T} (h:t.rshp=true) (h1:t.kind=1):t=tData t.name:=by
 obtain ⟨_,_,h3⟩:=rshp_one h
 have hk:kdn t.kind=0:=by rw [h1];rfl
 have:t.kids.length=0:=by omega
 obtain ⟨k,n,l⟩:=t
 have h1:k=1:=h1
 have hl:l=[]:=List.length_eq_zero_iff.1 this
 subst h1;subst hl;rfl
theorem no_name {t:T} (h:t.rshp=true) (h1:nmd t.kind=false):t.name=⟨#[]⟩:=by
 obtain ⟨_,h2,_⟩:=rshp_one h
 by_cases hn:t.name=⟨#[]⟩
 ·exact hn
 ·have:=h2.2 hn;rw [h1]at this;cases this
theorem is_pair {t:T} (h:t.rshp=true) (h1:t.kind=3):t=tPair t.kids:=by
 have hn:=no_name h (by rw [h1];rfl)
 obtain ⟨k,n,l⟩:=t
 have h1:k=3:=h1
 have hn:n=⟨#[]⟩:=hn
 subst h1;subst hn;rfl
theorem restOf_some {t:T} {l r:ByteArray} (h:restOf t l=some r):t.kind=1∧t.name=l++r:=by
 unfold restOf at h
 split at h
 ·rename_i h1;exact ⟨h1,cutB_some.1 h⟩
 ·cases h
theorem rest_data {l r:ByteArray}:restOf (tData (l++r)) l=some r:=by
 unfold restOf
 rw [if_pos (show (tData (l++r)).kind=1 from rfl)];exact cutB_app
theorem rB_some {t:T} {l:ByteArray} (h:rB t l=true):t.kind=1∧t.name=l++rD t l:=by
 unfold rB at h
 obtain ⟨r,hr⟩:=Option.isSome_iff_exists.1 h
 have:=restOf_some hr
 unfold rD
 rw [hr];exact this
theorem rB_data {t:T} {l:ByteArray} (ht:t.rshp=true) (h:rB t l=true):t=tData (l++rD t l):=by
 obtain ⟨h1,h2⟩:=rB_some h
 rw [←h2];exact is_data ht h1
theorem rD_data {l r:ByteArray}:rD (tData (l++r)) l=r:=by unfold rD;rw [rest_data];rfl
theorem rB_data' {l r:ByteArray}:rB (tData (l++r)) l=true:=by unfold rB;rw [rest_data];rfl
theorem dbR_doneT {l:List ByteArray}:dbR (doneT l)=true:=by
 unfold dbR doneT
 rw [List.all_map,List.all_eq_true]
 intro s _;exact rB_data'
theorem doneT_dnR:∀{l:List T},(∀t∈l,t.rshp=true)→dbR l=true→doneT (dnR l)=l
 |[],_,_=>rfl
 |t::l,h,hd=>by
  unfold dbR at hd
  rw [List.all_cons,Bool.and_eq_true]at hd
  have ih:=doneT_dnR (l:=l) (fun x hx=>h x (by simp [hx])) hd.2
  have e:=rB_data (h t (by simp)) hd.1
  show tData (⟨#[100]⟩++rD t ⟨#[100]⟩)::doneT (dnR l)=t::l
  rw [ih,←e]
def okAll (key b k0 k1 k2 k3 k4 k5:T):Bool:=key.fit && (headR k0 k3 b && okR4 k1 k2 k3 k4 k5)
theorem ok_seal {key t b k0 k1 k2 k3 k4 k5:T} (hr:t.rshp=true) (h4:t.kind=4) (hk:t.kids=[key,b]) (hb:b.kids=[k0,k1,k2,k3,k4,k5]):
 (sealT key (readC k1 k2 k3 k4 k5)).same t=okAll key b k0 k1 k2 k3 k4 k5∧(okAll key b k0 k1 k2 k3 k4 k5=true→readC k1 k2 k3 k4 k5=ckR k1 k2 k3 k4 k5):=by
 have hbm:b.rshp=true:=T.rshp_kid hr (by rw [hk];simp)
 have kb:∀u∈[k0,k1,k2,k3,k4,k5],u.rshp=true:=fun u hu=>T.rshp_kid hbm (by rw [hb];exact hu)
 have fwd:okAll key b k0 k1 k2 k3 k4 k5=true→readC k1 k2 k3 k4 k5=ckR k1 k2 k3 k4 k5∧sealT key (ckR k1 k2 k3 k4 k5)=t:=by
  intro h
  unfold okAll headR okR4 at h
  simp only [Bool.and_eq_true,decide_eq_true_eq]at h
  obtain ⟨hf,⟨⟨⟨c1,c2⟩,c3⟩,c4⟩,⟨⟨⟨⟨q1,q2⟩,q5⟩,qn⟩,qd⟩,q4⟩:=h
  have e0:k0=tData ⟨#[99,111,111,107,105,101]⟩:=by rw [←c3];exact is_data (kb k0 (by simp)) c2
  have e1:=rB_data (kb k1 (by simp)) q1
  have e2:=rB_data (kb k2 (by simp)) q2
  have e5:=rB_data (kb k5 (by simp)) q5
  have e3:k3=tPair (doneT (dnR k3.kids)):=by
   rw [doneT_dnR (fun u hu=>T.rshp_kid (kb k3 (by simp)) hu) qd]
   exact is_pair (kb k3 (by simp)) c4
  unfold numR at qn
  rw [decide_eq_true_eq]at qn
  have hin:inI (ckR k1 k2 k3 k4 k5).upto:=numA_in
  have hbody:bodyT (ckR k1 k2 k3 k4 k5)=[k0,k1,k2,k3,k4,k5]:=by
   show [_,_,_,_,_,_]=_
   show [tData ⟨#[99,111,111,107,105,101]⟩,tData (⟨#[99]⟩++rD k1 ⟨#[99]⟩),tData (⟨#[110]⟩++rD k2 ⟨#[110]⟩),tPair (doneT (dnR k3.kids)),k4,tData (⟨#[117]⟩++itoaB (numA (rD k5 ⟨#[117]⟩)))]=_
   rw [qn,←e0,←e1,←e2,←e3,←e5]
  have hbp:b=tPair (bodyT (ckR k1 k2 k3 k4 k5)):=by rw [hbody,←hb];exact is_pair hbm c1
  have ht:t=tEnc key (tPair (bodyT (ckR k1 k2 k3 k4 k5))):=by
   rw [←hbp]
   have hn:=no_name hr (by rw [h4];rfl)
   obtain ⟨tk,tn,tl⟩:=t
   have h4:tk=4:=h4
   have hn:tn=⟨#[]⟩:=hn
   have hk:tl=[key,b]:=hk
   subst h4;subst hn;subst hk;rfl
  refine ⟨?_,?_⟩
  ·have:=readC_body hin
   have hb2:[tData ⟨#[99,111,111,107,105,101]⟩,tData (⟨#[99]⟩++(ckR k1 k2 k3 k4 k5).client),tData (⟨#[110]⟩++(ckR k1 k2 k3 k4 k5).nonce),tPair (doneT (ckR k1 k2 k3 k4 k5).done),(ckR k1 k2 k3 k4 k5).secret,tData (⟨#[117]⟩++itoaB (ckR k1 k2 k3 k4 k5).upto)]=[k0,k1,k2,k3,k4,k5]:=hbody
   simp only [List.cons.injEq,and_true]at hb2
   obtain ⟨_,b1,b2,b3,b4,b5⟩:=hb2
   rw [b1,b2,b3,b4,b5]at this
   exact this
  ·rw [sealT_fit hf q4];exact ht.symm
 refine ⟨?_,fun h=>(fwd h).1⟩
 rw [Bool.eq_iff_iff]
 constructor
 ·intro h
  have h:=T.same_iff.1 h
  have hfit:key.fit=true∧k4.fit=true:=by
   have hkd:=congrArg T.kind h
   rw [seal_kind,h4]at hkd
   by_cases hf:(key.fit && (readC k1 k2 k3 k4 k5).secret.fit)=true
   ·rw [Bool.and_eq_true]at hf;exact hf
   ·rw [if_neg hf]at hkd;cases hkd
  have hse:=sealT_fit (c:=readC k1 k2 k3 k4 k5) hfit.1 hfit.2
  rw [hse]at h
  have hkk:=congrArg T.kids h
  rw [hk]at hkk
  have hkk:[key,tPair (bodyT (readC k1 k2 k3 k4 k5))]=[key,b]:=hkk
  simp only [List.cons.injEq,true_and,and_true]at hkk
  have hbk:=congrArg T.kids hkk
  rw [hb]at hbk
  have hin:inI (readC k1 k2 k3 k4 k5).upto:=atoN_in
  generalize readC k1 k2 k3 k4 k5=c at *
  have hbk:[tData ⟨#[99,111,111,107,105,101]⟩,tData (⟨#[99]⟩++c.client),tData (⟨#[110]⟩++c.nonce),tPair (doneT c.done),c.secret,tData (⟨#[117]⟩++itoaB c.upto)]=[k0,k1,k2,k3,k4,k5]:=hbk
  simp only [List.cons.injEq,and_true]at hbk
  obtain ⟨b0,b1,b2,b3,b4,b5⟩:=hbk
  unfold okAll headR okR4
  rw [←b0,←b1,←b2,←b3,←b5,←hkk,hfit.1,hfit.2,rB_data',rB_data',rB_data',rD_data]
  have e3:dbR (tPair (doneT c.done)).kids=true:=dbR_doneT
  have en:numR (itoaB c.upto)=true:=by unfold numR;rw [numA_itoa hin];simp
  rw [e3,en]
  rfl
 ·intro h
  obtain ⟨h1,h2⟩:=fwd h
  rw [h1,h2,T.same_self]
theorem open_len {key t b:T} {now:Int} (hk:t.kids=[key,b]) (h6:b.kids.length≠6):openP key t now=(ckZero,2):=by
 unfold openP
 split
 ·rw [hk]
  simp only [T.same_self,if_true]
  split
  ·rename_i heq;rw [heq]at h6;simp at h6
  ·rfl
 ·rfl
section
variable {S:AS}
set_option maxHeartbeats 8000000 in
set_option maxRecDepth 100000 in
theorem s113 {key t:T} {now:Int} (hkb:key.bulk≤1099511627776) (htb:t.bulk≤1099511627776):
 call 113 [.agg key.cells,.agg t.cells,.sc (.int .i64 now)] S=some (.tup [.agg (openP key t now).1.cells,.sc (.int .i64 (openP key t now).2)],S):=by
 rw [call_calm a113 rfl (by simp) rfl]
 have htf:=T.fits_bulk htb
 have e219:=fun S=>@s219 S t htb
 unfold openP
 cases hr:t.right with
 |false=>
  rw [hr]at e219
  simp [-calmR_some,f113,f113b,e219]
  exact calm_zC
 |true=>
  rw [hr]at e219
  by_cases h4:t.kind=4
  ·have hrs:=(T.right_iff.1 hr).1
   obtain ⟨k0,b,hab⟩:=T.enc_kids hrs h4
   have m0:k0∈t.kids:=by rw [hab];simp
   have mb:b∈t.kids:=by rw [hab];simp
   have l0:pev (.iaddr 3) [lstT t.kids,.i 0]=some (.iptr k0.cells):=lstT_at (i:=0) (by rw [hab];rfl)
   have l1:pev (.iaddr 3) [lstT t.kids,.i 1]=some (.iptr b.cells):=lstT_at (i:=1) (by rw [hab];rfl)
   have f0:k0.fits:=(T.fits_kids htf).2 k0 m0
   have bfits:=(T.fits_kids htf).2 b mb
   have bbulk:b.bulk≤1099511627776:=by have:=T.bulk_kid mb;omega
   have e114:=fun S=>@s114 k0 key S f0
   have e211:=fun S=>@s211 S key hkb
   cases hs:k0.same key with
   |false=>
    rw [hs]at e114
    simp [-calmR_some,f113,f113b,e219,eq_true h4,l0,e114,hs,hab]
    exact calm_zC
   |true=>
    rw [hs]at e114
    have hk0:=T.same_iff.1 hs
    subst hk0
    by_cases h6:b.kids.length=6
    ·obtain ⟨c0,k1,k2,k3,k4,k5,hb⟩:∃u0 u1 u2 u3 u4 u5,b.kids=[u0,u1,u2,u3,u4,u5]:=by
      match hl:b.kids,h6 with
      |[u0,u1,u2,u3,u4,u5],_=>exact ⟨u0,u1,u2,u3,u4,u5,rfl⟩
     obtain ⟨o1,o2⟩:=ok_seal hrs h4 hab hb
     have kbu:∀u∈b.kids,u.bulk+4≤b.bulk:=fun u hu=>T.bulk_kid hu
     have b3:=kbu k3 (by rw [hb];simp)
     have b4:=kbu k4 (by rw [hb];simp)
     have b5:=kbu k5 (by rw [hb];simp)
     have len3:=@T.bulk_len k3
     have nm5:=@T.bulk_name k5
     rw [hab]
     simp only [Bool.true_and,h4,decide_true,if_true,hs,hb,o1]
     unfold okAll at o2 ⊢
     cases hf:k0.fit with
     |false=>
      rw [hf]at e211
      obtain ⟨C,q,e220⟩:∃C q,∀S,call 220 [.agg b.cells] S=some (.tup [.agg (Ck.cells C),.sc (.bool q)],S):=by
       cases hh:headR c0 k3 b with
       |false=>exact ⟨_,_,fun S=>s220_head hb hh⟩
       |true=>exact ⟨_,_,fun S=>s220_ok hb hh (by omega) (by omega) (by omega)⟩
      simp [-calmR_some,f113,f113b,e219,eq_true h4,l0,l1,e114,e211,e220]
      exact calm_zC
     |true=>
      rw [hf]at e211 o2
      cases hh:headR c0 k3 b with
      |false=>
       have e220:=fun S=>@s220_head S b c0 k1 k2 k3 k4 k5 hb hh
       simp [-calmR_some,f113,f113b,e219,eq_true h4,l0,l1,e114,e211,e220]
       exact calm_zC
      |true=>
       have e220:=fun S=>@s220_ok S b c0 k1 k2 k3 k4 k5 hb hh (by omega) (by omega) (by omega)
       rw [hh]at o2
       cases hq:okR4 k1 k2 k3 k4 k5 with
       |false=>
        rw [hq]at e220
        simp [-calmR_some,f113,f113b,e219,eq_true h4,l0,l1,e114,e211,e220]
        exact calm_zC
       |true=>
        rw [hq]at e220 o2
        rw [o2 rfl]
        generalize ckR k1 k2 k3 k4 k5=C at *
        by_cases hn:C.upto < now
        ·simp [-calmR_some,f113,f113b,e219,eq_true h4,l0,l1,e114,e211,e220,hn]
         exact calm_zC
        ·simp [f113,f113b,e219,eq_true h4,l0,l1,e114,e211,e220,hn,AV.pure]
    ·have h6':¬(b.kids.length:Int)=6:=by omega
     have e220:=fun S=>@s220_len S b (T.fits_kids bfits).1 h6
     have hz:=open_len (now:=now) hab h6
     unfold openP at hz
     rw [hr]at hz
     rw [hz]
     cases hf:k0.fit with
     |false=>
      rw [hf]at e211
      simp [-calmR_some,f113,f113b,e219,eq_true h4,l0,l1,e114,e211,e220]
      exact calm_zC
     |true=>
      rw [hf]at e211
      simp [-calmR_some,f113,f113b,e219,eq_true h4,l0,l1,e114,e211,e220]
      exact calm_zC
  ·simp [-calmR_some,f113,f113b,e219,h4]
   exact calm_zC
end
structure Kd where
 key:T
 cookies:T
 u:Us
 room:Int
 cache:List (ByteArray×Int)
 n:Int
def Kd.row (K:Kd) (kb wid:Nat) (iv:AV):List AV:=[.sc (.int .i64 K.key.kind),.sc (.string K.key.name),lstT K.key.kids,.sc (.int .i64 K.cookies.kind),.sc (.string K.cookies.name),lstT K.cookies.kids,
 .ptr kb 0 0,.sc (.int .i64 K.room),.ptr wid 0 0,.sc (.int .i64 K.n),iv]
structure Tlk where
 ak:T
 body:T
 c:Ck
 u:Us
 now:Int
def Tlk.cells (x:Tlk) (dv:AV):List AV:=[.sc (.int .i64 x.ak.kind),.sc (.string x.ak.name),lstT x.ak.kids,.sc (.int .i64 x.body.kind),.sc (.string x.body.name),lstT x.body.kids,
 .sc (.string x.c.client),.sc (.string x.c.nonce),dv,.sc (.int .i64 x.c.secret.kind),.sc (.string x.c.secret.name),lstT x.c.secret.kids,.sc (.int .i64 x.c.upto),
 .sc (.string x.u.name),.sc (.int .i64 x.u.key.kind),.sc (.string x.u.key.name),lstT x.u.key.kids,lstS x.u.set,.sc (.int .i64 x.u.seed.kind),.sc (.string x.u.seed.name),lstT x.u.seed.kids,
 .sc (.int .i64 x.u.tok.counter),.sc (.int .i64 x.u.tok.look),.sc (.int .i64 x.u.tok.sync),.sc (.int .i64 x.u.tok.pending),.sc (.int .i64 x.u.tok.fails),.sc (.int .i64 x.u.tok.limit),.sc (.int .i64 x.u.fails),.sc (.int .i64 x.now)]
def zTlk:Tlk:=⟨tZ,tZ,⟨⟨#[]⟩,⟨#[]⟩,[],tZ,0⟩,zU,0⟩
section
variable {S:AS} {x:Tlk}
theorem Tlk.frz {b d:Nat}:mapO (S.frzTo b d) (x.cells (lstS x.c.done))=some (x.cells (lstS x.c.done)):=by unfold Tlk.cells;simp
theorem Tlk.pure:pureL (x.cells (lstS x.c.done))=true:=by unfold Tlk.cells;simp
theorem Tlk.frz0 {b d:Nat} (h:x.c.done=[]):mapO (S.frzTo b d) (x.cells (.lst 0 true []))=some (x.cells (lstS x.c.done)):=by unfold Tlk.cells;rw [h];simp;rfl
end
def Kd.opF (K:Kd) (t p:T) (x:Tlk):Tlk×T×Int:=if 5≤K.u.fails then (zTlk,t,7) else (x,p,0)
def Kd.opC (K:Kd) (t p:T) (x:Tlk) (o:Ck×Int):Tlk×T×Int:=
 if o.2=0 then (if o.1.client=x.c.client∧o.1.nonce=x.c.nonce∧begR o.1.done K.u.set=true then K.opF t p {x with c:=o.1} else (zTlk,t,11)) else (zTlk,t,o.2)
def Kd.opR (K:Kd) (t ak body:T) (client nonce:ByteArray) (now:Int) (r:T×T×Int):Tlk×T×Int:=
 if r.2.2=0 then (if K.u.name=client then
  (if isNoneT r.2.1=true then K.opF t r.1 ⟨ak,body,⟨client,nonce,[],tNone,0⟩,K.u,now⟩ else K.opC t r.1 ⟨ak,body,⟨client,nonce,[],tNone,0⟩,K.u,now⟩ (openP K.cookies r.2.1 now))
  else (zTlk,t,3)) else (zTlk,t,r.2.2)
def Kd.opA (K:Kd) (t body sealed:T) (client nonce:ByteArray) (now:Int) (a:T×Int):Tlk×T×Int:=
 if a.2=0 then K.opR t a.1 body client nonce now (reqOf a.1 body sealed) else (zTlk,t,a.2)
def Kd.opB (K:Kd) (t body armor sealed:T) (now:Int):Option (ByteArray×ByteArray)→Tlk×T×Int
 |none=>(zTlk,t,2)
 |some (client,nonce)=>K.opA t body sealed client nonce now (armOf K.key armor)
def Kd.opens (K:Kd) (t:T) (now:Int):Tlk×T×Int:=match askOf t with
 |none=>(zTlk,t,2)
 |some (body,armor,sealed)=>K.opB t body armor sealed now (bodyOf body)
structure AtK (S:AS) (k kb ub wid:Nat) (iv:AV) (K:Kd):Prop where
 hh:S.heap k=some (.rows 11 [K.row kb wid iv])
 b:AtB S kb ub K.u
section
variable {S:AS} {k kb ub wid:Nat} {iv:AV} {K:Kd}
theorem AtK.ro (h:AtK S k kb ub wid iv K) (r:Nat):AtK {S with ro:=r} k kb ub wid iv K:=⟨h.hh,h.b.ro r⟩
theorem AtK.key (h:AtK S k kb ub wid iv K) (d:Option Nat) (rg:Nat→Option (List AV)):opev (.ld none 3 true) d rg S [.ptr k 0 0]=some (.agg K.key.cells,none,S):=by rw [opev_ld_ptr h.hh,←tri];rfl
theorem AtK.cookies (h:AtK S k kb ub wid iv K) (d:Option Nat) (rg:Nat→Option (List AV)):opev (.ld none 3 true) d rg S [.ptr k 0 3]=some (.agg K.cookies.cells,none,S):=by rw [opev_ld_ptr h.hh,←tri];rfl
theorem AtK.users (h:AtK S k kb ub wid iv K) (d:Option Nat) (rg:Nat→Option (List AV)):opev (.ld none 1 false) d rg S [.ptr k 0 6]=some (.ptr kb 0 0,none,S):=by rw [opev_ld_ptr h.hh];rfl
theorem AtK.cch (h:AtK S k kb ub wid iv K) (d:Option Nat) (rg:Nat→Option (List AV)):opev (.ld none 1 false) d rg S [.ptr k 0 8]=some (.ptr wid 0 0,none,S):=by rw [opev_ld_ptr h.hh];rfl
theorem AtK.nn (h:AtK S k kb ub wid iv K) (d:Option Nat) (rg:Nat→Option (List AV)):opev (.ld none 1 false) d rg S [.ptr k 0 9]=some (.sc (.int .i64 K.n),none,S):=by rw [opev_ld_ptr h.hh];rfl
theorem AtK.issued (h:AtK S k kb ub wid iv K) (d:Option Nat) (rg:Nat→Option (List AV)):opev (.ld none 1 false) d rg S [.ptr k 0 10]=some (iv,none,S):=by rw [opev_ld_ptr h.hh];rfl
end
def resT (r:Tlk×T×Int):AV:=.tup [.agg (r.1.cells (lstS r.1.c.done)),.agg r.2.1.cells,.sc (.int .i64 r.2.2)]
theorem askOf_mem {t a b c:T} (h:askOf t=some (a,b,c)):a∈t.kids∧b∈t.kids∧c∈t.kids:=by
 unfold askOf at h
 cases hu:unpT askB 3 t with
 |none=>rw [hu]at h;cases h
 |some l=>
  obtain ⟨hl,hm⟩:=unpT_len (n:=3) hu
  obtain ⟨x,y,z,rfl⟩:=len3 hl
  rw [hu]at h
  cases h
  exact ⟨hm _ (by simp),hm _ (by simp),hm _ (by simp)⟩
theorem reqOf_lo {k b t:T} (h:t.lo):(reqOf k b t).2.1.lo∧(reqOf k b t).1.lo:=by
 have hb:=sealD_lo (k:=k) (u:=51) (tag:=fastB) (n:=3) h
 unfold reqOf
 rcases sealD_cases (k:=k) (t:=t) (u:=51) (tag:=fastB) (n:=3) with ⟨l,hl,hlen⟩|⟨e,hne,hl⟩
 ·obtain ⟨x,p,c,rfl⟩:=len3 hlen
  rw [hl]at hb ⊢
  unfold reqL
  simp only
  split
  ·exact ⟨hb c (by simp),hb p (by simp)⟩
  ·exact ⟨tZ_lo,tZ_lo⟩
 ·rw [hl];exact ⟨tZ_lo,tZ_lo⟩
section
variable {S:AS} {k kb ub wid:Nat} {iv:AV} {K:Kd}
theorem bld96 {client nonce:ByteArray}:pev (.build [.s ⟨#[]⟩,.s ⟨#[]⟩,.lst 0 true [],.i (0),.s ⟨#[]⟩,.lst 0 true [],.i (0)] [(0,1),(1,1),(3,3)]) [.sc (.string client),.sc (.string nonce),.agg tNone.cells]=some (.agg (ckX ⟨client,nonce,[],tNone,0⟩ (.lst 0 true []))):=by
 rw [cells_T];simp;rfl
theorem bld27:pev (.build [.i (0),.s ⟨#[]⟩,.lst 0 true [],.i (0),.s ⟨#[]⟩,.lst 0 true [],.s ⟨#[]⟩,.s ⟨#[]⟩,.lst 0 true [],.i (0),.s ⟨#[]⟩,.lst 0 true [],.i (0),.s ⟨#[]⟩,.i (0),.s ⟨#[]⟩,.lst 0 true [],.lst 0 true [],.i (0),.s ⟨#[]⟩,.lst 0 true [],.i (0),.i (0),.i (0),.i (0),.i (0),.i (0),.i (0),.i (0)] []) []=some (.agg [.i (0),.s ⟨#[]⟩,.lst 0 true [],.i (0),.s ⟨#[]⟩,.lst 0 true [],.s ⟨#[]⟩,.s ⟨#[]⟩,.lst 0 true [],.i (0),.s ⟨#[]⟩,.lst 0 true [],.i (0),.s ⟨#[]⟩,.i (0),.s ⟨#[]⟩,.lst 0 true [],.lst 0 true [],.i (0),.s ⟨#[]⟩,.lst 0 true [],.i (0),.i (0),.i (0),.i (0),.i (0),.i (0),.i (0),.i (0)]):=by simp
theorem bld97 {ak body:T} {u:Us} {c:Ck} {dv:AV} {now:Int} (hd:dv.isCell=true):pev (.build [.i (0),.s ⟨#[]⟩,.lst 0 true [],.i (0),.s ⟨#[]⟩,.lst 0 true [],.s ⟨#[]⟩,.s ⟨#[]⟩,.lst 0 true [],.i (0),.s ⟨#[]⟩,.lst 0 true [],.i (0),.s ⟨#[]⟩,.i (0),.s ⟨#[]⟩,.lst 0 true [],.lst 0 true [],.i (0),.s ⟨#[]⟩,.lst 0 true [],.i (0),.i (0),.i (0),.i (0),.i (0),.i (0),.i (0),.i (0)] [(0,3),(3,3),(13,15),(28,1),(6,7)]) [.agg ak.cells,.agg body.cells,.agg u.row,.sc (.int .i64 now),.agg (ckX c dv)]=some (.agg ((Tlk.mk ak body c u now).cells dv)):=by
 rw [cells_T ak,cells_T body];unfold Us.row ckX;simp [hd];rfl
set_option maxHeartbeats 8000000 in
set_option maxRecDepth 100000 in
theorem s239 (h:AtK S k kb ub wid iv K) {t:T} {now:Int} (ht:t.lo) (hc:K.cookies.lo) (hl:K.u.set.length≤1000):call 239 [.ptr k 0 0,.agg t.cells,.sc (.int .i64 now)] S=some (resT (K.opens t now),S):=by
 rw [call_calm a239 rfl (by simp) rfl]
 have h':=h.ro S.n
 have e95:=fun S=>@s95 S t
 unfold Kd.opens
 cases ha:askOf t with
 |none=>
  rw [ha]at e95
  have e93:=fun S=>@s93 S tZ
  have hb:bodyOf tZ=none:=rfl
  rw [hb]at e93
  simp [f239,f239b,e95,optA,e93,optB]
  rfl
 |some r=>
  rw [ha]at e95
  obtain ⟨body,armor,sealed⟩:=r
  obtain ⟨m1,m2,m3⟩:=askOf_mem ha
  have l2:=ht.kid m2
  have l3:=ht.kid m3
  have e93:=fun S=>@s93 S body
  show _=some (resT (K.opB t body armor sealed now (bodyOf body)),S)
  cases hb:bodyOf body with
  |none=>
   rw [hb]at e93
   simp [f239,f239b,e95,optA,e93,optB]
   rfl
  |some q=>
   rw [hb]at e93
   obtain ⟨client,nonce⟩:=q
   show _=some (resT (K.opA t body sealed client nonce now (armOf K.key armor)),S)
   have e337:=fun S=>@s337 S K.key armor l2.bb
   have hkey:=h'.key
   unfold Kd.opA
   generalize armOf K.key armor=a at *
   by_cases h0:a.2=0
   ·rw [if_pos h0]
    have e338:=fun S=>@s338 S a.1 body sealed l3.bb
    have hlo:=reqOf_lo (k:=a.1) (b:=body) l3
    unfold Kd.opR
    generalize reqOf a.1 body sealed=r at *
    by_cases h1:r.2.2=0
    ·rw [if_pos h1]
     have e339:=s339 (n:=client) h'.b
     have hus:=h'.users
     by_cases hn:K.u.name=client
     ·rw [if_pos hn]at e339 ⊢
      have e84:=fun S=>@s84 S r.2.1
      have e341:=s341 (n:=client) h'.b
      rw [hn]at e341
      have rc:=@Us.row_cell K.u
      have rl:=@Us.row_len K.u
      have rt:=@Us.take K.u
      have r4:(K.u.row.drop 4).take 1=[lstS K.u.set]:=rfl
      have b97:=@bld97 a.1 body K.u ⟨client,nonce,[],tNone,0⟩ (.lst 0 true []) now rfl
      have xf:=fun S b d=>@Tlk.frz0 S ⟨a.1,body,⟨client,nonce,[],tNone,0⟩,K.u,now⟩ b d rfl
      have xp:=@Tlk.pure ⟨a.1,body,⟨client,nonce,[],tNone,0⟩,K.u,now⟩
      have xs:∀c:Ck,setCells ((Tlk.mk a.1 body ⟨client,nonce,[],tNone,0⟩ K.u now).cells (.lst 0 true [])) 6 c.cells=(Tlk.mk a.1 body c K.u now).cells (lstS c.done):=fun c=>rfl
      have xc:((Tlk.mk a.1 body ⟨client,nonce,[],tNone,0⟩ K.u now).cells (.lst 0 true [])).all AV.isCell=true:=rfl
      have xl:((Tlk.mk a.1 body ⟨client,nonce,[],tNone,0⟩ K.u now).cells (.lst 0 true [])).length=29:=rfl
      have xt:List.take 29 ((Tlk.mk a.1 body ⟨client,nonce,[],tNone,0⟩ K.u now).cells (.lst 0 true []))=((Tlk.mk a.1 body ⟨client,nonce,[],tNone,0⟩ K.u now).cells (.lst 0 true [])):=rfl
      have opF:∀(x:Tlk),K.opF t r.1 x=if 5≤K.u.fails then (zTlk,t,7) else (x,r.1,0):=fun x=>rfl
      cases hi:isNoneT r.2.1 with
      |true=>
       rw [hi]at e84
       rw [if_pos rfl,opF]
       have hfin:resT (⟨a.1,body,⟨client,nonce,[],tNone,0⟩,K.u,now⟩,r.1,0)=.tup [.agg ((Tlk.mk a.1 body ⟨client,nonce,[],tNone,0⟩ K.u now).cells (lstS (⟨client,nonce,[],tNone,0⟩:Ck).done)),.agg r.1.cells,.i 0]:=rfl
       generalize (Tlk.mk a.1 body ⟨client,nonce,[],tNone,0⟩ K.u now).cells (.lst 0 true [])=X at *
       generalize (Tlk.mk a.1 body ⟨client,nonce,[],tNone,0⟩ K.u now).cells (lstS _)=Y at *
       generalize K.u.row=R at *
       by_cases h5:5≤K.u.fails
       ·rw [if_pos h5]
        simp [f239,f239b,e95,optA,e93,optB,hkey,e337,resU,h0,e338,resR,h1,hus,e339,e84,e341,rc,rl,rt,-pev_build,bld27,bld96,b97,xc,xl,xt,h5]
        rfl
       ·rw [if_neg h5]
        simp [f239,f239b,e95,optA,e93,optB,hkey,e337,resU,h0,e338,resR,h1,hus,e339,e84,e341,rc,rl,rt,-pev_build,bld27,bld96,b97,xc,xl,xt,h5,xf,xp,hfin]
      |false=>
       rw [hi]at e84
       rw [if_neg (by simp)]
       have e113:=fun S=>@s113 S K.cookies r.2.1 now hc hlo.1
       have hck:=h'.cookies
       unfold Kd.opC
       simp only
       generalize openP K.cookies r.2.1 now=o at *
       by_cases h2:o.2=0
       ·rw [if_pos h2]
        have e340:=fun S=>@s340 S o.1.done K.u.set (by omega)
        have o0:o.1.cells.take 1=[.sc (.string o.1.client)]:=rfl
        have o1:o.1.cells.tail.take 1=[.sc (.string o.1.nonce)]:=rfl
        have o1':(o.1.cells.drop 1).take 1=[.sc (.string o.1.nonce)]:=rfl
        have o2:(o.1.cells.drop 2).take 1=[lstS o.1.done]:=rfl
        have ot:o.1.cells.take 7=o.1.cells:=rfl
        have oc:o.1.cells.all AV.isCell=true:=rfl
        have ol:o.1.cells.length=7:=rfl
        by_cases c1:o.1.client=client
        ·by_cases c2:o.1.nonce=nonce
         ·cases hbg:begR o.1.done K.u.set with
          |true=>
           rw [hbg]at e340
           rw [if_pos ⟨c1,c2,rfl⟩,opF]
           have xs:=xs o.1
           have xs':List.take 6 ((Tlk.mk a.1 body ⟨client,nonce,[],tNone,0⟩ K.u now).cells (.lst 0 true []))++(o.1.cells++List.drop 13 ((Tlk.mk a.1 body ⟨client,nonce,[],tNone,0⟩ K.u now).cells (.lst 0 true [])))=(Tlk.mk a.1 body o.1 K.u now).cells (lstS o.1.done):=rfl
           have yf:=fun S b d=>@Tlk.frz S ⟨a.1,body,o.1,K.u,now⟩ b d
           have yp:=@Tlk.pure ⟨a.1,body,o.1,K.u,now⟩
           have yt:List.take 29 ((Tlk.mk a.1 body o.1 K.u now).cells (lstS o.1.done))=((Tlk.mk a.1 body o.1 K.u now).cells (lstS o.1.done)):=rfl
           have yc:((Tlk.mk a.1 body o.1 K.u now).cells (lstS o.1.done)).all AV.isCell=true:=rfl
           have yl:((Tlk.mk a.1 body o.1 K.u now).cells (lstS o.1.done)).length=29:=rfl
           have hfin:resT (⟨a.1,body,o.1,K.u,now⟩,r.1,0)=.tup [.agg ((Tlk.mk a.1 body o.1 K.u now).cells (lstS o.1.done)),.agg r.1.cells,.i 0]:=rfl
           simp only at yf yp
           generalize (Tlk.mk a.1 body ⟨client,nonce,[],tNone,0⟩ K.u now).cells (.lst 0 true [])=X at *
           generalize (Tlk.mk a.1 body o.1 K.u now).cells (lstS o.1.done)=Y at *
           generalize K.u.row=R at *
           generalize o.1.cells=OC at *
           by_cases h5:5≤K.u.fails
           ·rw [if_pos h5]
            simp [f239,f239b,e95,optA,e93,optB,hkey,e337,resU,h0,e338,resR,h1,hus,e339,e84,e341,rc,rl,rt,-pev_build,bld27,bld96,b97,xc,xl,xt,h5,hck,e113,h2,o0,o1,o1',o2,ot,oc,ol,c1,c2,r4,e340,xs,xs']
            rfl
           ·rw [if_neg h5]
            simp [f239,f239b,e95,optA,e93,optB,hkey,e337,resU,h0,e338,resR,h1,hus,e339,e84,e341,rc,rl,rt,-pev_build,bld27,bld96,b97,xc,xl,xt,h5,hck,e113,h2,o0,o1,o1',o2,ot,oc,ol,c1,c2,r4,e340,xs,xs',yf,yp,yt,yc,yl,hfin]
          |false=>
           rw [hbg]at e340
           rw [if_neg (fun h=>by cases h.2.2)]
           generalize (Tlk.mk a.1 body ⟨client,nonce,[],tNone,0⟩ K.u now).cells (.lst 0 true [])=X at *
           generalize K.u.row=R at *
           generalize o.1.cells=OC at *
           simp [f239,f239b,e95,optA,e93,optB,hkey,e337,resU,h0,e338,resR,h1,hus,e339,e84,e341,rc,rl,rt,-pev_build,bld27,bld96,b97,xc,xl,xt,hck,e113,h2,o0,o1,o1',o2,ot,oc,ol,c1,c2,r4,e340]
           rfl
         ·rw [if_neg (fun h=>c2 h.2.1)]
          generalize (Tlk.mk a.1 body ⟨client,nonce,[],tNone,0⟩ K.u now).cells (.lst 0 true [])=X at *
          generalize K.u.row=R at *
          generalize o.1.cells=OC at *
          simp [f239,f239b,e95,optA,e93,optB,hkey,e337,resU,h0,e338,resR,h1,hus,e339,e84,e341,rc,rl,rt,-pev_build,bld27,bld96,b97,xc,xl,xt,hck,e113,h2,o0,o1,o1',o2,ot,oc,ol,c1,c2]
          rfl
        ·rw [if_neg (fun h=>c1 h.1)]
         generalize (Tlk.mk a.1 body ⟨client,nonce,[],tNone,0⟩ K.u now).cells (.lst 0 true [])=X at *
         generalize K.u.row=R at *
         generalize o.1.cells=OC at *
         simp [f239,f239b,e95,optA,e93,optB,hkey,e337,resU,h0,e338,resR,h1,hus,e339,e84,e341,rc,rl,rt,-pev_build,bld27,bld96,b97,xc,xl,xt,hck,e113,h2,o0,o1,o1',o2,ot,oc,ol,c1]
         rfl
       ·rw [if_neg h2]
        have ot:o.1.cells.take 7=o.1.cells:=rfl
        have oc:o.1.cells.all AV.isCell=true:=rfl
        have ol:o.1.cells.length=7:=rfl
        generalize (Tlk.mk a.1 body ⟨client,nonce,[],tNone,0⟩ K.u now).cells (.lst 0 true [])=X at *
        generalize K.u.row=R at *
        generalize o.1.cells=OC at *
        simp [f239,f239b,e95,optA,e93,optB,hkey,e337,resU,h0,e338,resR,h1,hus,e339,e84,e341,rc,rl,rt,-pev_build,bld27,bld96,b97,xc,xl,xt,hck,e113,h2,ot,oc,ol]
        rfl
     ·rw [if_neg hn]at e339 ⊢
      have rc:=@Us.row_cell zU
      have rl:=@Us.row_len zU
      have rt:=@Us.take zU
      generalize zU.row=R at *
      simp [f239,f239b,e95,optA,e93,optB,hkey,e337,resU,h0,e338,resR,h1,hus,e339,rc,rl,rt]
      rfl
    ·rw [if_neg h1]
     simp [f239,f239b,e95,optA,e93,optB,hkey,e337,resU,h0,e338,resR,h1]
     rfl
   ·rw [if_neg h0]
    simp [f239,f239b,e95,optA,e93,optB,hkey,e337,resU,h0]
    rfl
end
end Abs
