/- A client and the document's KDC are made. -/
import Derived.Test.YthcobbfffjfboaaGreatDoorG6
import Derived.Test.YthcobbfffjfboaaGreatDoorG5
import Derived.Test.YthcobbfffjfboaaGreatDoorG3
import Derived.Test.YthcobbfffjfboaaGreatDoorG2
import Derived.Test.YthcobbfffjfboaaGreatDoorG4
set_option linter.unusedVariables false
set_option linter.unusedSimpArgs false
set_option linter.unusedSectionVars false
namespace Abs
open Go
def qt:ByteArray:=⟨#[107,100,99]⟩
def zaI:ByteArray:=⟨#[99,111,111,107,105,101]⟩
def zQ:ByteArray:=⟨#[112,97,115,115,119,111,114,100,32,97]⟩
def yB:ByteArray:=⟨#[115,101,101,100,32,97]⟩
def naB:ByteArray:=⟨#[97]⟩
def yj:T:=ze qQ
def kx:T:=zbs (ze qt) yj
section
variable {S:AS}
theorem zeU {s:ByteArray}:call 140 [.sc (.string s)] S=some (.agg (ze s).cells,S):=by
 rw [zh zCO rfl (by simp) rfl];simp [zi8,zpu]
theorem zuT:call 233 [] S=some (.agg kx.cells,S):=by
 rw [zh a233 rfl rfl rfl];have e1:=fun S=>@zvH S (ze qt) yj;have e2:=fun S s=>@zeU S s;unfold qt yj qQ at e1;simp [zjC,ztE,e2,e1];rfl
def zbW (name:ByteArray) (key seed:T) (counter:Int) (ticket host:T):List AV:=
 [.sc (.string name),.sc (.int .i64 key.kind),.sc (.string key.name),zf key.kids,.sc (.int .i64 seed.kind),.sc (.string seed.name),zf seed.kids,.sc (.int .i64 counter),
  .sc (.int .i64 ticket.kind),.sc (.string ticket.name),zf ticket.kids,.sc (.int .i64 host.kind),.sc (.string host.name),zf host.kids,
  .b false,.s ⟨#[]⟩,.i (0),.s ⟨#[]⟩,.lst 0 true [],.i (0),.s ⟨#[]⟩,.lst 0 true [],.i (0),.s ⟨#[]⟩,.lst 0 true [],.i (0),.s ⟨#[]⟩,.lst 0 true [],.b false,.lst 0 true [],.i (0),.s ⟨#[]⟩,.lst 0 true [],.b false]
theorem zvP {name:ByteArray} {pass seed ticket host:T} {counter:Int} (hS:S.ro <=S.n) (hn:name.size <=4611686018427387904):
 call 234 [.sc (.string name),.agg pass.cells,.agg seed.cells,.sc (.int .i64 counter),.agg ticket.cells,.agg host.cells] S=some (.ptr S.n 0 0,S.new (.rows 34 [zbW name (y5 pass name) seed counter ticket host])):=by
 rw [ym zC3 (by simp) rfl];have e145:=fun S=>@zlY S pass name hn;have hb:pev (.build [.s ⟨#[]⟩,.i (0),.s ⟨#[]⟩,.lst 0 true [],.i (0),.s ⟨#[]⟩,.lst 0 true [],.i (0),.i (0),.s ⟨#[]⟩,.lst 0 true [],.i (0),.s ⟨#[]⟩,.lst 0 true [],.b false,.s ⟨#[]⟩,.i (0),.s ⟨#[]⟩,.lst 0 true [],.i (0),.s ⟨#[]⟩,.lst 0 true [],.i (0),.s ⟨#[]⟩,.lst 0 true [],.i (0),.s ⟨#[]⟩,.lst 0 true [],.b false,.lst 0 true [],.i (0),.s ⟨#[]⟩,.lst 0 true [],.b false] [(0,1),(1,3),(4,3),(7,1),(8,3),(11,3)])
  [.sc (.string name),.agg (y5 pass name).cells,.agg seed.cells,.sc (.int .i64 counter),.agg ticket.cells,.agg host.cells]=some (.agg (zbW name (y5 pass name) seed counter ticket host)):=by
  rw [zu (y5 pass name),zu seed,zu ticket,zu host];simp;rfl
 have hbx:∀d rg,za (.box .heap) d rg S [.agg (zbW name (y5 pass name) seed counter ticket host)]=some (.ptr S.n 0 0,none,S.new (.rows 34 [zbW name (y5 pass name) seed counter ticket host])):=fun d rg=>rfl;generalize zbW name (y5 pass name) seed counter ticket host=r at *;simp [-vu,zhr,zqF,e145,hb,hbx]
def c0 (pass seed:T):Cl:=Cl.new naB pass seed 2 kx yj
theorem zwu {pass seed:T}:pev (.build [.s ⟨#[]⟩,.i (0),.s ⟨#[]⟩,.lst 0 true [],.i (0),.s ⟨#[]⟩,.lst 0 true [],.i (0),.i (0),.s ⟨#[]⟩,.lst 0 true [],.i (0),.s ⟨#[]⟩,.lst 0 true []] [(0,1),(1,3),(4,3),(7,1),(8,3),(11,3)])
 [.sc (.string ⟨#[97]⟩),.agg pass.cells,.agg seed.cells,.i 2,.agg kx.cells,.agg yj.cells]=some (.agg (vG naB pass seed 2 kx yj)):=by
 rw [zn9,zu pass,zu seed,zu kx,zu yj];simp;rfl
theorem zlh:naB.size <=4611686018427387904:=by show 1 <=_;omega
theorem zBY (hS:S.ro <=S.n):∃S' b,call 132 [] S=some (.tup [.ptr S.n 0 0,.ptr b 0 0],S') /\ yq S' S.n (c0 (ze zQ) (ze yB)) (.lst 0 true []) /\ S'.heap b=some (.rows 34 [zbW naB (y5 (ze zQ) naB) (ze yB) 2 kx yj]) /\ S.n < b /\ b < S'.n /\ Chg S S' (fun _=>False) (fun x=>x=S.n \/ x=b):=by
 rw [ym zH5 (by simp) rfl];have e140:=fun S s=>@zeU S s;have e233:=fun S=>@zuT S;obtain ⟨S1,d1,h1,g1⟩:=zDZ (S:=S) (pass:=ze zQ) (seed:=ze yB) (counter:=2) (ticket:=kx) (host:=yj) hS zlh;have hS1:S1.ro <=S1.n:=by have:=g1.1;have:=g1.2.1;omega
 have d2:=zvP (S:=S1) (pass:=ze zQ) (seed:=ze yB) (counter:=2) (ticket:=kx) (host:=yj) hS1 zlh;have hb:=@zwu (ze zQ) (ze yB);have hlt:=h1.lt;refine ⟨S1.new (.rows 34 [zbW naB (y5 (ze zQ) naB) (ze yB) 2 kx yj]),S1.n,?_,h1.keep rfl (Nat.le_succ _) (fun x hx _=>if_neg (by omega)),jw,hlt,Nat.lt_succ_self _,g1.1,Nat.le_trans g1.2.1 (Nat.le_succ _),fun x hx _=>⟨?_,?_⟩⟩
 ·have k1:yj=ze ⟨#[104,111,115,116]⟩:=rfl;have k2:zQ=⟨#[112,97,115,115,119,111,114,100,32,97]⟩:=rfl;have k3:yB=⟨#[115,101,101,100,32,97]⟩:=rfl;have k4:naB=⟨#[97]⟩:=rfl;rw [k1,k2,k3]at hb d1 d2;rw [k4]at d2;rw [k1,k2,k3,k4];generalize S1.new _=S2 at *;generalize vG _ _ _ _ _ _=cf at *;simp [-vu,ziY,zqj,e140,e233,hb,d1,d2]
 ·rw [show (S1.new _).heap x=S1.heap x from if_neg (by have:=g1.2.1;omega)];exact (g1.2.2 x hx (fun e=>e)).1
 ·have:=g1.2.1;rintro (e|e)<;>omega
def yk:Nat -> List ByteArray
 |0=>[zP]
 |1=>[zG]
 |2=>[zL]
 |3=>[zP,zG]
 |4=>[zG,zL]
 |5=>[zL,zP]
 |6=>[zP,zG,zL]
 |_=>[zL,zG,zP]
theorem zqn {n:Int}:call 134 [.sc (.int .i64 n)] S=some (zB (yk (n % 8).toNat),S):=by
 rw [zh zFk rfl (by simp) rfl];have h0:0 <=n % 8 /\ n % 8 < 8:=⟨Int.emod_nonneg _ (by omega),Int.emod_lt_of_pos _ (by omega)⟩;have hj:n % 8=0 \/ n % 8=1 \/ n % 8=2 \/ n % 8=3 \/ n % 8=4 \/ n % 8=5 \/ n % 8=6 \/ n % 8=7:=by omega
 rcases hj with h|h|h|h|h|h|h|h
 ·have hi:∀a0 a1 a2 a3 a4 a5 a6 a7:AV,pev (.iaddr 1) [.lst 1 true [[a0],[a1],[a2],[a3],[a4],[a5],[a6],[a7]],.i 0]=some (.iptr [a0]):=by intros;simp [pev]
  rw [h];simp [wk,zaK,h,hi,zw];rfl
 ·have hi:∀a0 a1 a2 a3 a4 a5 a6 a7:AV,pev (.iaddr 1) [.lst 1 true [[a0],[a1],[a2],[a3],[a4],[a5],[a6],[a7]],.i 1]=some (.iptr [a1]):=by intros;simp [pev]
  rw [h];simp [wk,zaK,h,hi,zw];rfl
 ·have hi:∀a0 a1 a2 a3 a4 a5 a6 a7:AV,pev (.iaddr 1) [.lst 1 true [[a0],[a1],[a2],[a3],[a4],[a5],[a6],[a7]],.i 2]=some (.iptr [a2]):=by intros;simp [pev]
  rw [h];simp [wk,zaK,h,hi,zw];rfl
 ·have hi:∀a0 a1 a2 a3 a4 a5 a6 a7:AV,pev (.iaddr 1) [.lst 1 true [[a0],[a1],[a2],[a3],[a4],[a5],[a6],[a7]],.i 3]=some (.iptr [a3]):=by intros;simp [pev]
  rw [h];simp [wk,zaK,h,hi,zw];rfl
 ·have hi:∀a0 a1 a2 a3 a4 a5 a6 a7:AV,pev (.iaddr 1) [.lst 1 true [[a0],[a1],[a2],[a3],[a4],[a5],[a6],[a7]],.i 4]=some (.iptr [a4]):=by intros;simp [pev]
  rw [h];simp [wk,zaK,h,hi,zw];rfl
 ·have hi:∀a0 a1 a2 a3 a4 a5 a6 a7:AV,pev (.iaddr 1) [.lst 1 true [[a0],[a1],[a2],[a3],[a4],[a5],[a6],[a7]],.i 5]=some (.iptr [a5]):=by intros;simp [pev]
  rw [h];simp [wk,zaK,h,hi,zw];rfl
 ·have hi:∀a0 a1 a2 a3 a4 a5 a6 a7:AV,pev (.iaddr 1) [.lst 1 true [[a0],[a1],[a2],[a3],[a4],[a5],[a6],[a7]],.i 6]=some (.iptr [a6]):=by intros;simp [pev]
  rw [h];simp [wk,zaK,h,hi,zw];rfl
 ·have hi:∀a0 a1 a2 a3 a4 a5 a6 a7:AV,pev (.iaddr 1) [.lst 1 true [[a0],[a1],[a2],[a3],[a4],[a5],[a6],[a7]],.i 7]=some (.iptr [a7]):=by intros;simp [pev]
  rw [h];simp [wk,zaK,h,hi,zw];rfl
def us0 (set:List ByteArray):Us:=⟨naB,y5 (ze zQ) naB,set,ze yB,⟨1,3,10,0,0,5⟩,0⟩
def kd0 (set:List ByteArray):Kd:=⟨ze qt,ze zaI,us0 set,16,[],0⟩
theorem zeu {j:Nat}:1 <=(yk j).length /\ (yk j).length <=3 /\ (∀s∈yk j,isM s) /\ ∀(i k:Nat) (s:ByteArray),(yk j)[i]?=some s -> (yk j)[k]?=some s -> i=k:=by
 have n1:zP≠zG:=by decide
 have n2:zP≠zL:=by decide
 have n3:zG≠zL:=by decide
 have m1:isM zP:=.inl rfl;have m2:isM zG:=.inr (.inl rfl);have m3:isM zL:=.inr (.inr rfl);have one:∀a,isM a -> 1 <=[a].length /\ [a].length <=3 /\ (∀s∈[a],isM s) /\ ∀(i k:Nat) (s:ByteArray),[a][i]?=some s -> [a][k]?=some s -> i=k:=by
  intro a ha;refine ⟨by simp,by simp,by simpa using ha,?_⟩;rintro (_|i) (_|k) s h h'<;>simp_all
 have two:∀a b,isM a -> isM b -> a≠b -> 1 <=[a,b].length /\ [a,b].length <=3 /\ (∀s∈[a,b],isM s) /\ ∀(i k:Nat) (s:ByteArray),[a,b][i]?=some s -> [a,b][k]?=some s -> i=k:=by
  intro a b ha hb hab;refine ⟨by simp,by simp,by simp [ha,hb],?_⟩;rintro (_|_|i) (_|_|k) s h h'<;>simp_all
 have three:∀a b c,isM a -> isM b -> isM c -> a≠b -> a≠c -> b≠c -> 1 <=[a,b,c].length /\ [a,b,c].length <=3 /\ (∀s∈[a,b,c],isM s) /\ ∀(i k:Nat) (s:ByteArray),[a,b,c][i]?=some s -> [a,b,c][k]?=some s -> i=k:=by
  intro a b c ha hb hc hab hac hbc;refine ⟨by simp,by simp,by simp [ha,hb,hc],?_⟩;rintro (_|_|_|i) (_|_|_|k) s h h'<;>simp_all
 match j with
 |0=>exact one _ m1
 |1=>exact one _ m2
 |2=>exact one _ m3
 |3=>exact two _ _ m1 m2 n1
 |4=>exact two _ _ m2 m3 n3
 |5=>exact two _ _ m3 m1 n2.symm
 |6=>exact three _ _ _ m1 m2 m3 n1 n2 n3
 |_+7=>exact three _ _ _ m3 m2 m1 n3.symm n2.symm n1.symm
theorem zAa {j:Nat}:(us0 (yk j)).okk:=by
 obtain ⟨h1,h2,h3,h4⟩:=@zeu j;exact ⟨by show naB≠_;decide,⟨h1,h2⟩,by show 0 <=(0:Int) /\ (0:Int) <=_;omega,rfl,h3,h4⟩
theorem zGQ {key cookies:T} {kb wid:Nat} {room:Int} {u:Us} {cache:List (ByteArray×Int)}:pev (.build [.i (0),.s ⟨#[]⟩,.lst 0 true [],.i (0),.s ⟨#[]⟩,.lst 0 true [],.sc (.pointer none),.i (0),.sc (.pointer none),.i (0),.lst 0 true []] [(0,3),(3,3),(6,1),(7,1),(8,1)])
 [.agg key.cells,.agg cookies.cells,.ptr kb 0 0,.sc (.int .i64 room),.ptr wid 0 0]=some (.agg ((Kd.mk key cookies u room cache 0).row kb wid (.lst 0 true []))):=by
 rw [zu key,zu cookies];simp;rfl
set_option maxHeartbeats 1000000 in
theorem zI5 {key cookies:T} {u:Us} {f:Bool} (h:u.okk) (hro:S.ro <=S.n):∃S' k L,call 235 [.agg key.cells,.agg cookies.cells,.lst 15 f [u.row],.i 16] S=some (.tup [.ptr k 0 0,.i 0],S') /\ yA S' k L ⟨key,cookies,u,16,[],0⟩ [] /\ Chg S S' (fun _=>False) (yK k L):=by
 rw [ym zz2 (by simp) rfl];obtain ⟨S1,d1,b1,g1⟩:=zyZ (f:=f) h hro;have hS1:S1.ro <=S1.n:=by have:=g1.1;have:=g1.2.1;omega
 obtain ⟨S2,d2,r2,g2⟩:=Rf.cNew (S:=S1) (room:=16) hS1;have hmax:max (16:Int) 0=16:=by omega
 rw [hmax]at r2;have hb:=fun kb wid=>@zGQ key cookies kb wid 16 u [];have hbx:∀d rg,za (.box .heap) d rg S2 [.agg ((Kd.mk key cookies u 16 [] 0).row S.n S1.n (.lst 0 true []))]=some (.ptr S2.n 0 0,none,S2.new (.rows 11 [(Kd.mk key cookies u 16 [] 0).row S.n S1.n (.lst 0 true [])])):=fun d rg=>rfl;have hl1:=b1.l1;have hl2:=b1.l2;have hw:=r2.lt;have gn1:=g1.2.1;have gn2:=g2.2.1;have hb2:IsB S2 S.n (S.n+1) u:=b1.keep g2.1 g2.2.1 fun x hx _=>(g2.2.2 x hx (fun e=>e)).1;have nr:∀x,x < S1.n -> ¬Rf.ownR S1.n [] x:=by
  rintro x hx (e|e)
  ·omega
  ·cases e
 have na:∀x,¬jf (.lst 0 true []) x:=by
  rintro x ⟨a,b,c,d,e⟩;cases e
 refine ⟨S2.new (.rows 11 [(Kd.mk key cookies u 16 [] 0).row S.n S1.n (.lst 0 true [])]),S2.n,⟨S.n,S.n+1,S1.n,[],.lst 0 true [],.lst 0 true []⟩,?_,⟨jw,?_,?_,.inl ⟨rfl,rfl⟩,?_,Nat.lt_succ_self _,?_,?_,?_⟩,?_⟩
 ·have hb:=hb S.n S1.n;generalize (Kd.mk key cookies u 16 [] 0).row S.n S1.n (.lst 0 true [])=r at *;simp [-vu,zgA,zts,d1,d2,hb,hbx]
 ·exact hb2.keep rfl (Nat.le_succ _) fun x hx _=>if_neg (by omega)
 ·exact r2.keep rfl (Nat.le_succ _) fun x hx _=>if_neg (by omega)
 ·show S2.ro <=S2.n;have:=g2.1;omega
 ·rintro x (rfl|rfl)
  ·exact ⟨fun e=>by have e:S.n=S2.n:=e;omega,nr _ hl1,na _⟩
  ·exact ⟨fun e=>by have e:S.n+1=S2.n:=e;omega,nr _ hl2,na _⟩
 ·rintro x (rfl|e)
  ·exact ⟨fun e=>by have e:S1.n=S2.n:=e;omega,na _⟩
  ·cases e
 ·rintro ⟨a,b,c,d,e⟩;cases e
 ·refine ⟨g2.1.trans g1.1,by show S.n <=S2.n+1;omega,fun x hx _=>⟨?_,?_⟩⟩
  ·rw [show (S2.new _).heap x=S2.heap x from if_neg (by omega),(g2.2.2 x (by omega) (fun e=>e)).1];exact (g1.2.2 x hx (fun e=>e)).1
  ·rintro (e|(e|e)|(e|e)|⟨a,b,c,d,e⟩)
   ·omega
   ·have e:x=S.n:=e;omega
   ·have e:x=S.n+1:=e;omega
   ·have e:x=S1.n:=e;omega
   ·cases e
   ·cases e
theorem zFg {set:List ByteArray}:pev (.build [.s ⟨#[]⟩,.i (0),.s ⟨#[]⟩,.lst 0 true [],.lst 0 true [],.i (0),.s ⟨#[]⟩,.lst 0 true [],.i (0),.i (0),.i (0),.i (0),.i (0),.i (0),.i (0)] [(0,1),(1,3),(4,1),(5,3),(8,6)])
 [.sc (.string ⟨#[97]⟩),.agg (y5 (ze zQ) naB).cells,zB set,.agg (ze yB).cells,.agg [.i 1,.i 3,.i 10,.i 0,.i 0,.i 5]]=some (.agg (us0 set).row):=by
 rw [zu (y5 (ze zQ) naB),zu (ze yB)];simp;rfl
theorem zIC:pev (.build [.i (0),.i (0),.i (0),.i (0),.i (0),.i (0)] [(0,1),(1,1),(2,1),(5,1)]) [.i 1,.i 3,.i 10,.i 5]=some (.agg [.i 1,.i 3,.i 10,.i 0,.i 0,.i 5]):=by simp
theorem zuM {j:Nat} (hro:S.ro <=S.n):∃S' k L,call 133 [zB (yk j)] S=some (.ptr k 0 0,S') /\ yA S' k L (kd0 (yk j)) [] /\ Chg S S' (fun _=>False) (yK k L):=by
 rw [ym zxx (by simp) rfl];have e140:=fun S s=>@zeU S s;have e145:=fun S=>@zlY S (ze zQ) naB zlh;obtain ⟨S',k,L,d,h,g⟩:=zI5 (S:=S) (key:=ze qt) (cookies:=ze zaI) (f:=true) (@zAa j) hro;refine ⟨S',k,L,?_,h,g⟩;have hb:=@zFg (yk j);have rc:=@Us.row_cell (us0 (yk j));have rl:=@Us.row_len (us0 (yk j));have rt:=@Us.take (us0 (yk j));have k2:zQ=⟨#[112,97,115,115,119,111,114,100,32,97]⟩:=rfl;have k3:yB=⟨#[115,101,101,100,32,97]⟩:=rfl;have k4:naB=⟨#[97]⟩:=rfl;have k5:qt=⟨#[107,100,99]⟩:=rfl;have k6:zaI=⟨#[99,111,111,107,105,101]⟩:=rfl;rw [k2,k3,k4]at hb;rw [k2,k4]at e145;rw [k5,k6]at d;have b10:=zIC;generalize (us0 (yk j)).row=r at *;generalize yk j=l at *;simp [-vu,zi0,zuv,e140,e145,b10,hb,rc,rl,rt,zw,d]
end
structure Kd.sz (K:Kd) (b:Nat):Prop where
 cookies:K.cookies.lo
 set1:1 <=K.u.set.length
 set2:K.u.set.length <=1000
 names:∀s∈K.u.set,s.size <=1099511627776
 name:K.u.name.size <=1099511627776
 tok:K.u.tok.fails <=(b:Int)
 fails:0 <=K.u.fails /\ K.u.fails <=(b:Int)
 n:0 <=K.n /\ K.n <=(b:Int)
 cache:K.cache.length <=b
theorem Kd.sz.okk {K:Kd} {b:Nat} (h:K.sz b) (hb:b <=900):K.okk:=
 ⟨h.cookies,h.set1,h.set2,h.names,h.name,by have:=h.tok;omega,by have:=h.fails;omega,by have:=h.n;omega,by have:=h.cache;omega⟩
theorem Kd.sz.mono {K:Kd} {b b':Nat} (h:K.sz b) (hb:b <=b'):K.sz b':=
 ⟨h.cookies,h.set1,h.set2,h.names,h.name,by have:=h.tok;omega,by have:=h.fails;omega,by have:=h.n;omega,by have:=h.cache;omega⟩
theorem Kd.sz.offK {K:Kd} {b:Nat} {nx:ByteArray} (h:K.sz b):(K.offK nx).sz (b+2):=by
 unfold Kd.offK;split
 ·exact h.mono (by omega)
 ·exact ⟨h.cookies,h.set1,h.set2,h.names,h.name,by have:=h.tok;show K.u.tok.fails <=_;omega,by have:=h.fails;show 0 <=K.u.fails /\ K.u.fails <=_;omega,by have:=h.n;show 0 <=K.n+1 /\ K.n+1 <=_;omega,by have:=h.cache;show K.cache.length <=_;omega⟩
theorem Kd.sz.tktK {K:Kd} {b:Nat} (h:K.sz b):K.tktK.sz (b+2):=
 ⟨h.cookies,h.set1,h.set2,h.names,h.name,by have:=h.tok;show K.u.tok.fails <=_;omega,by show 0 <=(0:Int) /\ (0:Int) <=_;omega,by have:=h.n;show 0 <=K.n+1+1 /\ K.n+1+1 <=_;omega,by have:=h.cache;show K.cache.length <=_;omega⟩
theorem Kd.sz.reqD {K:Kd} {b:Nat} (h:K.sz b) {x:Tlk} {base:T}:(K.reqD x base).2.1.sz (b+2):=by
 unfold Kd.reqD;split
 ·exact h.tktK
 ·split
  ·exact h.offK
  ·exact h.mono (by omega)
theorem zHw {t:Tk} {l:List Int} {b:Nat} (h:t.fails <=(b:Int)):(t.accept l).1.fails <=((b+1:Nat):Int):=by
 unfold Tk.accept;split
 ·split
  ·show t.fails <=_;omega
  ·split
   ·show (0:Int) <=_;omega
   ·split
    ·show t.fails+1 <=_;omega
    ·show t.fails+1 <=_;omega
 ·show t.fails <=_;omega
theorem Kd.sz.reqO {K:Kd} {b:Nat} (h:K.sz b) {x:Tlk} {base:T} {l:List Int}:(K.reqO x base (K.u.tok.accept l)).2.1.sz (b+3):=by
 have h1:({K with u:={K.u with tok:=(K.u.tok.accept l).1}}:Kd).sz (b+1):=
  ⟨h.cookies,h.set1,h.set2,h.names,h.name,zHw h.tok,by have:=h.fails;show 0 <=K.u.fails /\ K.u.fails <=_;omega,by have:=h.n;show 0 <=K.n /\ K.n <=_;omega,by have:=h.cache;show K.cache.length <=_;omega⟩
 unfold Kd.reqO;split
 ·exact h.mono (by omega)
 ·split
  ·exact h1.reqD
  ·exact h1.mono (by omega)
theorem Kd.sz.req {K:Kd} {b:Nat} (h:K.sz b) {m:T} {now:Int}:(K.req m now).2.1.sz (b+4):=by
 have hm:K.sz (b+4):=h.mono (by omega);unfold Kd.req Kd.reqX;split
 ·split
  ·unfold Kd.reqN;split
   ·exact h.offK.mono (by omega)
   ·split
    ·unfold Kd.reqC;split
     ·have hs:=@Rf.seenR_len K.cache K.room (now+100+1) now (K.opens m now).2.1.txt;unfold Kd.reqS;generalize Rf.seenR K.room K.cache (K.opens m now).2.1.txt (now+100+1) now=q at *;have h1:({K with cache:=q.2}:Kd).sz (b+1):=
       ⟨h.cookies,h.set1,h.set2,h.names,h.name,by have:=h.tok;show K.u.tok.fails <=_;omega,by have:=h.fails;show 0 <=K.u.fails /\ K.u.fails <=_;omega,by have:=h.n;show 0 <=K.n /\ K.n <=_;omega,by have:=h.cache;show q.2.length <=_;omega⟩
      split
      ·split
       ·exact Kd.sz.reqO (K:={K with cache:=q.2}) h1
       ·exact h1.reqD.mono (by omega)
      ·exact h1.mono (by omega)
     ·show (if _ then _ else _:Kd).sz _;split
      ·exact ⟨h.cookies,h.set1,h.set2,h.names,h.name,by have:=h.tok;show K.u.tok.fails <=_;omega,by have:=h.fails;show 0 <=K.u.fails+1 /\ K.u.fails+1 <=_;omega,by have:=h.n;show 0 <=K.n /\ K.n <=_;omega,by have:=h.cache;show K.cache.length <=_;omega⟩
      ·exact hm
    ·exact hm
  ·exact hm
 ·exact hm
structure Cl.sz (c:Cl) (b:Nat):Prop where
 z1:c.on=true -> c.z1=false
 z1d:c.done=true -> c.z1=false
 z2:c.done=true -> c.z2=false
 z3:c.ended=true -> c.z3=false
 nonce:c.nonce.size <=1099511627776
 name:c.name.size <=1099511627776
 counter:0 <=c.counter /\ c.counter <=(b:Int)
 marks:c.marks.length <=b
theorem Cl.sz.ok {c:Cl} {b:Nat} (h:c.sz b) (hb:b <=900):c.ok:=
 ⟨h.z1,h.z1d,h.z2,h.z3,by have:=h.nonce;omega,by have:=h.name;omega,by have:=h.counter;omega,by have:=h.marks;omega⟩
theorem Cl.sz.mono {c:Cl} {b b':Nat} (h:c.sz b) (hb:b <=b'):c.sz b':=
 ⟨h.z1,h.z1d,h.z2,h.z3,h.nonce,h.name,by have:=h.counter;omega,by have:=h.marks;omega⟩
theorem Cl.sz.start {c:Cl} {b:Nat} (h:c.sz b) {nonce:ByteArray} {sub:T} (hn:nonce.size <=1099511627776):(c.start nonce sub).sz b:=
 ⟨fun _=>rfl,fun e=>(by cases e),fun e=>(by cases e),fun e=>(by cases e),hn,h.name,h.counter,h.marks⟩
theorem zHW {c:Cl} {o x:T} {now:Int} {b:Nat} (h:0 <=c.counter /\ c.counter <=(b:Int)):0 <=(c.does o now x).1.counter /\ (c.does o now x).1.counter <=((b+1:Nat):Int):=by
 unfold Cl.does;split
 ·exact ⟨h.1,by show c.counter <=_;omega⟩
 ·split
  ·show 0 <=(if _ then _ else c:Cl).counter /\ _;split
   ·exact ⟨by show 0 <=c.counter+1;omega,by show c.counter+1 <=_;omega⟩
   ·exact ⟨h.1,by show c.counter <=_;omega⟩
  ·split<;>exact ⟨h.1,by show c.counter <=_;omega⟩
theorem zwL {c:Cl} {t e f:T} {b:Nat} (h:c.sz b) (hon:c.on=true):(c.ends t e f).1.sz b:=by
 have key:∀r,(c.endL t r).1.sz b:=by
  intro r;unfold Cl.endL;split
  ·split
   ·exact ⟨fun e=>(by cases e),h.z1d,h.z2,fun _=>rfl,h.nonce,h.name,h.counter,h.marks⟩
   ·exact h
  ·exact h
 unfold Cl.ends;split
 ·unfold Cl.endF;split
  ·split
   ·exact key _
   ·exact h
  ·exact h
 ·exact h
theorem Cl.sz.take {c:Cl} {b:Nat} (h:c.sz b) {t x:T} {now:Int}:(c.take t now x).1.sz (b+1):=by
 have hm:c.sz (b+1):=h.mono (by omega);unfold Cl.take;cases hon:c.on with
 |false=>exact hm
 |true=>
  rw [if_pos rfl];split
  ·exact ⟨fun e=>(by cases e),h.z1d,h.z2,h.z3,h.nonce,h.name,by have:=h.counter;show 0 <=c.counter /\ c.counter <=_;omega,by have:=h.marks;show c.marks.length <=_;omega⟩
  ·split
   ·exact (zwL h hon).mono (by omega)
   ·unfold Cl.takeM;split
    ·rename_i o k _;have hc:=zHW (o:=o) (x:=x) (now:=now) h.counter;obtain ⟨n,hn⟩:=@zoj c o x now;unfold Cl.takeD;rw [hn]at hc ⊢;simp only at hc;split
     ·exact ⟨fun _=>h.z1 hon,fun _=>h.z1 hon,fun _=>rfl,h.z3,h.nonce,h.name,hc,by have:=h.marks;simp;omega⟩
     ·exact ⟨h.z1,h.z1d,h.z2,h.z3,h.nonce,h.name,hc,by have:=h.marks;show c.marks.length <=_;omega⟩
    ·exact hm
structure Pr (S:AS) (a:Nat) (c:Cl) (mv:AV) (k:Nat) (L:Loc) (K:Kd) (R:List (List AV)) (b:Nat):Prop where
 cl:yq S a c mv
 kd:yA S k L K R
 dj:∀x,jH a mv x -> ¬yK k L x
 cs:c.sz b
 ks:K.sz b
 r:R.length <=b
def Pr.own (a:Nat) (mv:AV) (k:Nat) (L:Loc) (x:Nat):Prop:=jH a mv x \/ yK k L x
section
variable {S:AS} {a:Nat} {c:Cl} {mv:AV} {k:Nat} {L:Loc} {K:Kd} {R:List (List AV)} {b:Nat}
theorem Pr.hS (h:Pr S a c mv k L K R b):S.ro <=S.n:=h.cl.hS
theorem Pr.client (h:Pr S a c mv k L K R b) {S':AS} {c':Cl} {mv':AV} (h':yq S' a c' mv') (g:Chg S S' (jH a mv) (jH a mv')) {b':Nat} (hb:b <=b') (hc:c'.sz b'):
 Pr S' a c' mv' k L K R b' /\ Chg S S' (Pr.own a mv k L) (Pr.own a mv' k L):=by
 have hk:yA S' k L K R:=h.kd.keep g.1 g.2.1 fun x hx ho=>(g.2.2 x hx fun e=>h.dj x e ho).1;refine ⟨⟨h',hk,fun x hx ho=>?_,hc,h.ks.mono hb,Nat.le_trans h.r hb⟩,Chg.big g (fun x e=>.inl e) fun x e=>?_⟩
 ·have hlt:=h.kd.own_lt ho;by_cases hc:jH a mv x
  ·exact h.dj x hc ho
  ·exact (g.2.2 x hlt hc).2 hx
 ·rcases e with e|e
  ·exact .inl e
  ·exact .inr (.inr e)
theorem Pr.kdc (h:Pr S a c mv k L K R b) {S':AS} {L':Loc} {K':Kd} {R':List (List AV)} (h':yA S' k L' K' R') (g:Chg S S' (yK k L) (yK k L')) {b':Nat} (hb:b <=b') (hk:K'.sz b') (hr:R'.length <=b'):
 Pr S' a c mv k L' K' R' b' /\ Chg S S' (Pr.own a mv k L) (Pr.own a mv k L'):=by
 have hc:yq S' a c mv:=h.cl.keep g.1 g.2.1 fun x hx ho=>(g.2.2 x hx (h.dj x ho)).1;refine ⟨⟨hc,h',fun x hx ho=>?_,h.cs.mono hb,hk,hr⟩,Chg.big g (fun x e=>.inr e) fun x e=>?_⟩
 ·exact (g.2.2 x (h.cl.own_lt hx) (h.dj x hx)).2 ho
 ·rcases e with e|e
  ·exact .inr (.inl e)
  ·exact .inl e
theorem zf5.len {S S':AS} {o:Nat -> Prop} {R R':List (List AV)} {i:Isd} (h:zf5 S S' o R R' i):R'.length <=R.length+1:=by
 unfold zf5 at h;split at h
 ·rw [h];omega
 ·obtain ⟨id,h1,_⟩:=h;rw [h1];simp
theorem Pr.round (h:Pr S a c mv k L K R b) (hb:b <=880) {m:T} (hm:m.lo) {now:Int} (hnow:now.natAbs <=100000000000000) {x:T} (hx:x.lo) (hlo:(K.req m now).1.lo):
 ∃S1 S2 mv' L' R',call 137 [.ptr k 0 0,.agg m.cells,.sc (.int .i64 now)] S=some (.agg (K.req m now).1.cells,S1) /\
  call 141 [.ptr a 0 0,.agg (K.req m now).1.cells,.sc (.int .i64 now),.agg x.cells] S1=some (.tup [.agg (c.take (K.req m now).1 now x).2.1.cells,.sc (.int .i64 (c.take (K.req m now).1 now x).2.2)],S2) /\
  Pr S2 a (c.take (K.req m now).1 now x).1 mv' k L' (K.req m now).2.1 R' (b+4) /\ zf5 S S2 (Pr.own a mv' k L') R R' (K.req m now).2.2 /\ Chg S S2 (Pr.own a mv k L) (Pr.own a mv' k L'):=by
 obtain ⟨S1,L',R',d1,h1,g1,i1⟩:=zx9 h.kd (h.ks.okk (by omega)) (by have:=h.r;omega) hm hnow;have hrl:=i1.len;obtain ⟨p1,G1⟩:=h.kdc h1 g1 (b':=b+4) (by omega) h.ks.req (by have:=h.r;omega);obtain ⟨S2,mv',d2,h2,g2⟩:=zGz (x:=x) (now:=now) p1.cl (p1.cs.ok (by omega)) hlo hx (by unfold inI;omega);obtain ⟨p2,G2⟩:=p1.client h2 g2 (b':=b+4) (by omega) (h.cs.take.mono (by omega));refine ⟨S1,S2,mv',L',R',d1,d2,p2,?_,G1.trans G2⟩;generalize (K.req m now).2.2=i at *
 match i,i1 with
 |none,i1=>exact i1
 |some (cl,n,d,s),⟨id,e1,e2,e3,e4,e5⟩=>
  have hc:¬jH a mv id:=fun e=>by have:=h.cl.own_lt e;omega
  obtain ⟨q1,q2⟩:=g2.2.2 id e4 hc;exact ⟨id,e1,q1.trans e2,e3,Nat.lt_of_lt_of_le e4 g2.2.1,fun e=>e.elim q2 e5⟩
end
section
variable {S:AS}
end
section
variable {S:AS}
end
theorem ziq {s:ByteArray}:eqB s≠⟨#[]⟩:=by unfold eqB;exact kT (by show 1≠0;omega)
theorem zez {s:ByteArray}:(eqB s).size=s.size+1:=by
 unfold eqB;rw [ByteArray.size_append];have:(⟨#[61]⟩:ByteArray).size=1:=rfl;omega
theorem zhU {L:List T} {t:T} (h:t∈L):mkP L t=true:=by rw [zcn,wr.2 h];rfl
theorem zGp {L l:List T}:yY L (zO l)=l:=by
 unfold yY vg;have:(zO l).kind=3:=rfl;rw [if_pos this];simp [yE];rfl
section
variable {S:AS}
end
theorem zme {L:List T} {t:T}:inL L t=decide (t∈L):=by
 by_cases h:t∈L
 ·rw [wr.2 h];simp [h]
 ·rw [Bool.eq_false_iff.2 fun e=>h (wr.1 e)];simp [h]
theorem zvF {L1 L2:List T} {t:T} (h:mkP L2 t=false):gnL L1 L2 [[t]]=false:=by
 simp [gnL,h]
structure Hd where
 a:ByteArray
 b:ByteArray
 x:ByteArray
 y:ByteArray
 w:ByteArray
 u:T
 sh:T
namespace Hd
def A (h:Hd):T:=ze h.a
def B (h:Hd):T:=zJ h.b
def W (h:Hd):T:=ze h.w
def mY (h:Hd):T:=ye (ze h.y) h.u
def mX (h:Hd):T:=ye (ze h.x) h.u
def key (h:Hd) (n:Int):T:=yP (z8 (zO [h.sh,tWd h.u,h.mY,h.mX,z8 h.B])) n
def fac (h:Hd):T:=jm (yP (h.key 1) 60) (zj zch [])
def off (h:Hd):T:=zj zL [h.mY]
def ans (h:Hd):T:=zj zL [h.mX,h.fac]
def Q1 (h:Hd):List T:=[h.B,h.off,h.ans,zJ zL,h.mY,h.mX,h.fac]
def Q2 (h:Hd):List T:=h.W::zZ (ze h.y)::zZ (ze h.x)::h.Q1
def ck (h:Hd):T:=yP (tCk h.A h.u) 54
def en (h:Hd):T:=jm h.ck (zax h.B 5)
def ch (h:Hd):T:=zj zP [h.en]
def Q3 (h:Hd):List T:=[h.B,h.ch,zJ zP,h.en]
structure ok (h:Hd):Prop where
 u:h.u=jr h.W ⟨#[108,111,110,103,32,110,97,109,101]⟩
 sh:h.sh=.mk 9 ⟨#[]⟩ [ze h.x,ze h.y] \/ h.sh=.mk 9 ⟨#[]⟩ [ze h.y,ze h.x]
 wx:h.x≠h.w
 wy:h.y≠h.w
 wa:h.a≠h.w
end Hd
section
attribute [local simp] mkP yE shP zme Hd.Q1 Hd.Q2 Hd.Q3 Hd.A Hd.W Hd.B Hd.off Hd.ans Hd.mY Hd.mX Hd.fac Hd.key Hd.ck Hd.en Hd.ch ze zJ zj zO ye ww jm zZ z8 jr yP tWd tCk qq zax
variable {h:Hd}
end
section
variable {h:Hd} {U L L1 L2:List T}
end
structure Fv.good (f:Fv):Prop where
 ak:f.ak.bb
 user:f.user.bb
 body:f.body.bb
 x:f.x.bb
 y:f.y.bb
 xy:zbe f.x f.y
 yx:zbe f.y f.x
 yy:zbe f.y f.y
 ne:f.x≠f.y
section
variable {S:AS}
end
mutual
def T.subs:T -> List T
 | .mk k n l=>.mk k n l::yL l
def yL:List T -> List T
 |[]=>[]
 |t::l=>t.subs++yL l
end
theorem zqT:∀t:T,t∈t.subs
 | .mk k n l=>by rw [T.subs];simp
theorem zn7:∀{l:List T} {t:T},t∈l -> ∀u∈t.subs,u∈yL l
 |a::l,t,h,u,hu=>by
  rw [yL,List.mem_append];rcases List.mem_cons.1 h with rfl|h
  ·exact .inl hu
  ·exact .inr (zn7 h u hu)
theorem zcC {l:List T} {t:T} (h:t∈l):t∈yL l:=zn7 h t (zqT t)
mutual
theorem zBK:∀(t u:T),u∈t.subs -> ∀v∈u.kids,v∈t.subs
 | .mk k n l,u,hu,v,hv=>by
   rw [T.subs,List.mem_cons]at hu ⊢;rcases hu with rfl|hu
   ·exact .inr (zcC hv)
   ·exact .inr (zlF l u hu v hv)
theorem zlF:∀(l:List T) (u:T),u∈yL l -> ∀v∈u.kids,v∈yL l
 |[],u,hu,v,hv=>by cases hu
 |t::l,u,hu,v,hv=>by
  rw [yL,List.mem_append]at hu ⊢;rcases hu with hu|hu
  ·exact .inl (zBK t u hu v hv)
  ·exact .inr (zlF l u hu v hv)
end
mutual
theorem zG8 {P:T -> Prop} (hP:∀t,P t -> ∀u∈t.kids,P u):∀(t:T),P t -> ∀u∈t.subs,P u
 | .mk k n l,h,u,hu=>by
   rw [T.subs,List.mem_cons]at hu;rcases hu with rfl|hu
   ·exact h
   ·exact zin hP l (fun v hv=>hP _ h v hv) u hu
theorem zin {P:T -> Prop} (hP:∀t,P t -> ∀u∈t.kids,P u):∀(l:List T),(∀t∈l,P t) -> ∀u∈yL l,P u
 |[],_,u,hu=>by cases hu
 |t::l,h,u,hu=>by
  rw [yL,List.mem_append]at hu;rcases hu with hu|hu
  ·exact zG8 hP t (h t (by simp)) u hu
  ·exact zin hP l (fun v hv=>h v (by simp [hv])) u hu
end
theorem zrA:∀{l:List T},l.length <=(yL l).length
 |[]=>Nat.le_refl _
 |t::l=>by
  have:=@zrA l;have h:1 <=t.subs.length:=List.length_pos_of_mem (zqT t);rw [yL,List.length_append,List.length_cons];omega
mutual
theorem zrK:∀(t u:T),u∈t.subs -> u.kids.length <=t.subs.length
 | .mk k n l,u,hu=>by
   rw [T.subs,List.mem_cons]at hu;rw [T.subs,List.length_cons];rcases hu with rfl|hu
   ·have:=@zrA l;show l.length <=_;omega
   ·have:=zq9 l u hu;omega
theorem zq9:∀(l:List T) (u:T),u∈yL l -> u.kids.length <=(yL l).length
 |[],u,hu=>by cases hu
 |t::l,u,hu=>by
  rw [yL,List.mem_append]at hu;rw [yL,List.length_append];rcases hu with hu|hu
  ·have:=zrK t u hu;omega
  ·have:=zq9 l u hu;omega
end
def T.sb (t:T):Prop:=t.tidy /\ t.bulk <=1099511627770
theorem T.sb.kid {t u:T} (h:t.sb) (hu:u∈t.kids):u.sb:=⟨h.1.kid hu,by have:=T.bulk_kid hu;have:=h.2;omega⟩
theorem zya {l:List T} (h:∀t∈l,t.sb):∀t∈yL l,∀u∈t.kids,(zZ u).tidy:=by
 intro t ht u hu;have h1:=zin (fun t h u hu=>T.sb.kid h hu) l h t ht;have h2:=h1.kid hu;have hd:=(T.right_iff.1 h1.1.right).2.1;have:=T.dp_kid hu;exact zmx h2.1 (by omega) h2.2
structure Ti (t:T) (d b:Nat):Prop where
 s:t.rshp=true
 o:t.ord=true
 d:t.dp <=d
 b:t.bulk <=b
structure TiL (l:List T) (d b:Nat):Prop where
 s:∀t∈l,t.rshp=true
 o:∀t∈l,t.ord=true
 d:∀t∈l,t.dp <=d
 b:yi l <=b
theorem Ti.sb {t:T} {d b:Nat} (h:Ti t d b) (hd:d <=60) (hb:b <=1099511627770):t.sb:=⟨⟨T.right_iff.2 ⟨h.s,Nat.le_trans h.d hd,h.o⟩,by have:=h.b;omega⟩,by have:=h.b;omega⟩
theorem TiL.nil {d:Nat}:TiL [] d 0:=⟨by simp,by simp,by simp,by rw [jt];exact Nat.le_refl _⟩
theorem TiL.cons {t:T} {l:List T} {d b d' b':Nat} (h:Ti t d' b) (h':TiL l d b') (hd:d' <=d):TiL (t::l) d (b+b'):=by
 refine ⟨fun u hu=>?_,fun u hu=>?_,fun u hu=>?_,by rw [yz];have:=h.b;have:=h'.b;omega⟩<;>rcases List.mem_cons.1 hu with rfl|hu
 ·exact h.s
 ·exact h'.s u hu
 ·exact h.o
 ·exact h'.o u hu
 ·exact Nat.le_trans h.d hd
 ·exact h'.d u hu
theorem Ti.node {k:Int} {n:ByteArray} {l:List T} {d b m:Nat} (h1:(T.mk k n l).one=true) (hs:qD k l=true) (h:TiL l d b) (hm:n.size <=m):Ti (T.mk k n l) (d+1) (b+m+4) where
 s:=by rw [T.rshp_def,h1,Bool.true_and];exact zbR.2 h.s
 o:=by rw [T.ord_def,zcR,Bool.and_eq_true,List.all_eq_true];exact ⟨hs,h.o⟩
 d:=by rw [T.dp_def];have:dpL (T.mk k n l).kids <=d:=zfW h.d;omega
 b:=by rw [T.bulk];have:=h.b;omega
section
variable {t u:T} {n:ByteArray} {d d' b b' m:Nat} {l:List T}
theorem zsC (hn:n≠⟨#[]⟩) (hm:n.size <=m):Ti (ze n) 1 (m+4):=by
 have:=Ti.node (k:=2) (n:=n) (l:=[]) (d:=0) (by simp [T.one,knd,nmd,kdn,T.kind,T.name,T.kids,hn]) rfl TiL.nil hm;rw [Nat.zero_add,Nat.zero_add]at this;exact this
theorem zb1 (hn:n≠⟨#[]⟩) (hm:n.size <=m):Ti (zJ n) 1 (m+4):=by
 have:=Ti.node (k:=1) (n:=n) (l:=[]) (d:=0) (by simp [T.one,knd,nmd,kdn,T.kind,T.name,T.kids,hn]) rfl TiL.nil hm;rw [Nat.zero_add,Nat.zero_add]at this;exact this
theorem vA (h:Ti t d b) (hn:n≠⟨#[]⟩) (hm:n.size <=m):Ti (jr t n) (d+1) (b+0+m+4):=
 Ti.node (b:=b+0) (m:=m) (k:=7) (by simp [T.one,knd,nmd,kdn,T.kind,T.name,T.kids,hn]) rfl (.cons h .nil (Nat.le_refl _)) hm
theorem kI (h:Ti t d b):Ti (z8 t) (d+1) (b+0+0+4):=Ti.node (b:=b+0) (m:=0) (k:=6) (by simp [T.one,knd,nmd,kdn,T.kind,T.name,T.kids]) rfl (.cons h .nil (Nat.le_refl _)) (Nat.le_refl _)
theorem zbp (h:Ti t d b):Ti (zZ t) (d+1) (b+0+0+4):=Ti.node (b:=b+0) (m:=0) (k:=8) (by simp [T.one,knd,nmd,kdn,T.kind,T.name,T.kids]) rfl (.cons h .nil (Nat.le_refl _)) (Nat.le_refl _)
theorem zbt (h:Ti t d b) (h':Ti u d' b'):Ti (ww t u) (max d d'+1) (b+(b'+0)+0+4):=
 Ti.node (b:=b+(b'+0)) (m:=0) (k:=10) (by simp [T.one,knd,nmd,kdn,T.kind,T.name,T.kids]) rfl (.cons h (.cons h' .nil (Nat.le_max_right _ _)) (Nat.le_max_left _ _)) (Nat.le_refl _)
theorem zeT (h:Ti t d b) (h':Ti u d' b'):Ti (jm t u) (max d d'+1) (b+(b'+0)+0+4):=
 Ti.node (b:=b+(b'+0)) (m:=0) (k:=4) (by simp [T.one,knd,nmd,kdn,T.kind,T.name,T.kids]) rfl (.cons h (.cons h' .nil (Nat.le_max_right _ _)) (Nat.le_max_left _ _)) (Nat.le_refl _)
theorem zac (h:TiL l d b):Ti (zO l) (d+1) (b+0+4):=Ti.node (b:=b) (m:=0) (k:=3) (by simp [T.one,knd,nmd,kdn,T.kind,T.name,T.kids]) rfl h (Nat.le_refl _)
theorem jE (hn:n≠⟨#[]⟩) (hm:n.size <=m) (h:TiL l d b) (hd:1 <=d):Ti (zj n l) (d+1) (m+4+b+0+4):=zac (.cons (zb1 hn hm) h hd)
theorem zqQ {n:Int} (hn:inI n):((⟨#[117,115,101,32]⟩:ByteArray)++zq n).size <=24:=by
 rw [ByteArray.size_append];have h1:(⟨#[117,115,101,32]⟩:ByteArray).size=4:=rfl;have:=zb0 hn;omega
theorem zbG {k:Int} (h:Ti t d b) (hk:inI k):Ti (yP t k) (d+1) (b+0+24+4):=vA h (kT (by show 4≠0;omega)) (zqQ hk)
end
theorem zvD {x y:ByteArray} (h:sLt x y=true):sLt y x=false:=by
 rw [zir,decide_eq_true_eq]at h;rw [zir,decide_eq_false_iff_not];exact List.lt_asymm h
theorem zlp {a b:T} {d m:Nat} (ha:Ti a d m) (hb:Ti b d m) (hta:a.txt=a.text) (htb:b.txt=b.text):Ti (qH a b) (d+1) (m+(m+0)+0+4) /\ (qH a b=.mk 9 ⟨#[]⟩ [a,b] \/ qH a b=.mk 9 ⟨#[]⟩ [b,a]):=by
 have one:∀u v:T,(T.mk 9 ⟨#[]⟩ [u,v]).one=true:=fun u v=>by simp [T.one,knd,nmd,kdn,T.kind,T.name,T.kids]
 unfold qH;split
 ·rename_i h;rw [hta,htb]at h;exact ⟨Ti.node (b:=m+(m+0)) (m:=0) (one _ _) (by simp [qD,zvD h]) (.cons hb (.cons ha .nil (Nat.le_refl _)) (Nat.le_refl _)) (Nat.le_refl _),.inr rfl⟩
 ·rename_i h;rw [hta,htb,Bool.not_eq_true]at h;exact ⟨Ti.node (b:=m+(m+0)) (m:=0) (one _ _) (by simp [qD,h]) (.cons ha (.cons hb .nil (Nat.le_refl _)) (Nat.le_refl _)) (Nat.le_refl _),.inl rfl⟩
structure Hd.sbs (h:Hd):Prop where
 A:h.A.sb
 B:h.B.sb
 W:h.W.sb
 off:h.off.sb
 ans:h.ans.sb
 ch:h.ch.sb
 base:(h.key 0).sb
theorem zmX {n:Int} (h0:0 <=n) (h:n < 1000000000):(zq n).size <=18:=by
 obtain ⟨m,rfl⟩:=Int.eq_ofNat_of_zero_le h0;rw [zkw];have h9:(10:Nat) ^ (8+1)=1000000000:=by decide
 have:=zfd 8 m (by omega);omega
section
variable {S:AS}
end
theorem zlA {tag:ByteArray} {n:Int} {t:T} (ht:tag≠⟨#[]⟩) (h:t.kind≠3):yw tag n t=none:=by
 unfold yw;rw [if_neg];rintro ⟨_,h2,_⟩;rw [zfk (fun e=>h e.1)]at h2;exact ht h2.symm
theorem ziK {tag:ByteArray} {n:Nat} {l:List T} (h:tag≠⟨#[]⟩) (hl:l.length=n):qz tag n (zj tag l,0)=(l,0):=by
 unfold qz;rw [if_pos rfl];simp only;rw [vH h (by rw [hl])]
theorem zgg {k:T} {u:Int} {tag:ByteArray} {n:Nat} {l:List T} (h:tag≠⟨#[]⟩) (hl:l.length=n):qx k u (yG k u (zj tag l)) tag n=(l,0):=by
 unfold qx;rw [zjp,ziK h hl]
theorem zru {k t:T} {n:ByteArray}:qw k n (jo k n t)=(t,0):=by
 unfold qw jo;rw [zgg (n:=2) (by decide) rfl];show (if (yF n).same (yF n) then (t,(0:Int)) else (tZ,6))=_;rw [T.same_self];rfl
theorem zoz {k b p c:T}:kN k b (qV k b p c)=(p,c,0):=by
 unfold kN qV;rw [zgg (n:=3) (by decide) rfl];show (if (z8 b).same (z8 b) then (p,c,(0:Int)) else (tZ,tZ,6))=_;rw [T.same_self];rfl
theorem zGk {kdc host sub:T}:vK kdc (wh (zbs kdc host) host sub)=(wo sub host,0):=by
 unfold vK wh;rw [vH (n:=2) (by decide) rfl];show wW (yG host 11 (zj vO [sub])) (qx kdc 2 (zbs kdc host) qQ 1)=_;unfold zbs;rw [zgg (n:=1) (by decide) rfl];show zgY host (qx host 11 (yG host 11 (zj vO [sub])) vO 1)=_;rw [zgg (n:=1) (by decide) rfl];rfl
theorem zte {a b c:T}:zaD (vT a b c)=some (a,b,c):=by
 unfold zaD vT;rw [vH (n:=3) (by decide) rfl];rfl
theorem zqv {a b:ByteArray} (ha:a≠⟨#[]⟩) (hb:b≠⟨#[]⟩):qU (km a b)=some (a,b):=by
 unfold qU km;rw [vH (n:=2) (by decide) rfl,Option.bind_some,zw9,zma,zma];show (if a=⟨#[]⟩ \/ b=⟨#[]⟩ then none else some (a,b))=_;rw [if_neg (by rintro (h|h);exact ha h;exact hb h)]
theorem zwi {tag:ByteArray} {l:List T} (h:wE≠tag):jD (zj tag l)=false:=by
 unfold jD;rw [zsh h];rfl
theorem zps {t:T} (h:t.kind≠3):jD t=false:=by
 unfold jD;rw [zlA (by decide) h];rfl
theorem zB7 {t:T} (h:t.kind≠3):wX t=none:=by
 unfold wX;rw [zlA (by decide) h];rfl
theorem zw3 {tag:ByteArray} {l:List T} (h:wM≠tag):wX (zj tag l)=none:=by
 unfold wX;rw [zsh h];rfl
theorem zHh {n:Int} (h:1 <=n /\ n <=1000):wX (qp n)=some n:=by
 unfold wX qp;rw [vH (n:=1) (by decide) rfl,Option.bind_some,zCE,zsu (by unfold inI;omega) (zmX (by omega) (by omega))];show (if n < 1 then none else some n)=_;rw [if_neg (by omega)]
section
variable {c:Cl} {K:Kd} {p:T} {now:Int}
structure Fz (c:Cl) (K:Kd):Prop where
 on:c.on=true
 arm:vK K.key c.wrap=(c.ak,0)
 body:c.body=km c.name c.nonce
 nm:c.name≠⟨#[]⟩
 nn:c.nonce≠⟨#[]⟩
 un:K.u.name=c.name
 fl:K.u.fails=0
theorem zCR (h:Fz c K):K.opens (c.says p zi) now=(⟨c.ak,c.body,⟨c.name,c.nonce,[],zi,0⟩,K.u,now⟩,p,0):=by
 unfold Kd.opens Cl.says;rw [zte];show K.opB (vT c.body c.wrap (qV c.ak c.body p zi)) c.body c.wrap (qV c.ak c.body p zi) now (qU c.body)=_;generalize vT c.body c.wrap (qV c.ak c.body p zi)=m;rw [show qU c.body=some (c.name,c.nonce) by rw [h.body];exact zqv h.nm h.nn];show K.opA m c.body (qV c.ak c.body p zi) c.name c.nonce now (vK K.key c.wrap)=_;rw [h.arm];unfold Kd.opA;rw [if_pos rfl,zoz];unfold Kd.opR;rw [if_pos rfl,if_pos h.un,if_pos zke];unfold Kd.opF;rw [if_neg (by rw [h.fl];omega)]
theorem zyk (h:Fz c K) {q:T} {ck:Ck} (hq:jD q=false) (ho:qI K.cookies q now=(ck,0)) (h1:ck.client=c.name) (h2:ck.nonce=c.nonce) (h3:qP ck.done K.u.set=true):
 K.opens (c.says p q) now=(⟨c.ak,c.body,ck,K.u,now⟩,p,0):=by
 unfold Kd.opens Cl.says;rw [zte];show K.opB (vT c.body c.wrap (qV c.ak c.body p q)) c.body c.wrap (qV c.ak c.body p q) now (qU c.body)=_;generalize vT c.body c.wrap (qV c.ak c.body p q)=m;rw [show qU c.body=some (c.name,c.nonce) by rw [h.body];exact zqv h.nm h.nn];show K.opA m c.body (qV c.ak c.body p q) c.name c.nonce now (vK K.key c.wrap)=_;rw [h.arm];unfold Kd.opA;rw [if_pos rfl,zoz];unfold Kd.opR;rw [if_pos rfl,if_pos h.un,if_neg (by rw [hq];simp),ho];unfold Kd.opC;rw [if_pos rfl,if_pos ⟨h1,h2,h3⟩];unfold Kd.opF;rw [if_neg (by rw [h.fl];omega)]
theorem zpi (hon:c.on=true) {o k x:T}:c.take (jo c.ak c.nonce (zj jJ [o,k])) now x=c.takeD o k (c.does o now x):=by
 have hk:(jo c.ak c.nonce (zj jJ [o,k])).kind≠3:=by show (4:Int)≠3;decide
 unfold Cl.take;rw [if_pos hon,zB7 hk];simp only;rw [zlA (by decide) hk,zru,ziK (n:=2) (by decide) rfl];rfl
theorem zEm (hon:c.on=true) {t e f x:T}:c.take (zj zal [t,e,f]) now x=((c.ends t e f).1,zi,(c.ends t e f).2):=by
 unfold Cl.take;rw [if_pos hon,zw3 (by decide)];simp only;rw [vH (n:=3) (by decide) rfl]
theorem zC5 (hon:c.on=true) {n:Int} (hn:1 <=n /\ n <=1000) {x:T}:c.take (qp n) now x=({c with on:=false},zi,n):=by
 unfold Cl.take;rw [if_pos hon,zHh hn]
theorem zHO (hd:c.done=true) {s st:T} {t:T}:c.ends t (vU st c.base s c.nonce t) (jo c.ak c.nonce (zj vk [st,z8 t]))=({c with session:=s,ended:=true,on:=false,z3:=false},0):=by
 unfold Cl.ends;rw [if_pos hd,zru,ziK (n:=2) (by decide) rfl];show (if (z8 t).same (z8 t) then c.endL t (qz kM 3 (jl (qu st c.base) 3 (vU st c.base s c.nonce t))) else (c,6))=_;rw [T.same_self,if_pos rfl];unfold vU;rw [zjp,ziK (n:=3) (by decide) rfl];show (if (yF c.nonce).same (yF c.nonce) && (z8 t).same (z8 t) then _ else _)=_;rw [T.same_self,T.same_self];rfl
end
def zat (s:ByteArray):UInt8:=if s=zP then 57 else if s=zG then 51 else 53
theorem zwn {tag:ByteArray} {l:List T} (h:isM tag):(zj tag l).text.data[3]?=some (zat tag):=by
 have ht:(zj tag l).text=hdT 3 ⟨#[]⟩++⟨#[40]⟩++yv (zJ tag::l)++⟨#[41]⟩:=by
  rw [T.text_def];rfl
 have hd:(zJ tag).text=hdT 1 tag:=by rw [T.text_def];rfl
 have hj:yv (zJ tag::l)=hdT 1 tag++jv l:=by rw [yv,hd]
 have h3:hdT 3 ⟨#[]⟩=⟨#[112]⟩:=by
  unfold hdT qC;rw [if_pos rfl];rfl
 have key:∀(d:UInt8) (r:ByteArray),hdT 1 tag=⟨#[100,d]⟩++r -> (zj tag l).text.data[3]?=some d:=by
  intro d r hr;rw [ht,hj,h3,hr];simp [ByteArray.data_append];rw [<- Array.append_assoc,Array.getElem?_append_left (by simp)];rfl
 have hn:∀s:ByteArray,s≠⟨#[]⟩ -> hdT 1 s=⟨#[100]⟩++(zV s.size++⟨#[58]⟩++s):=by
  intro s hs;unfold hdT qC;rw [if_neg hs];rfl
 have one:∀(n:Nat) (d:UInt8) (s:ByteArray),s≠⟨#[]⟩ -> s.size=n -> zV n=⟨#[d]⟩ -> hdT 1 s=⟨#[100,d]⟩++(⟨#[58]⟩++s):=by
  intro n d s hs hz hd;rw [hn s hs,hz,hd];apply kw;simp [ByteArray.data_append]
 rcases h with rfl|rfl|rfl
 ·exact key 57 _ (one 9 57 zP (by decide) rfl (by unfold zV;rw [Lib.decDigits_one (by omega)];rfl))
 ·exact key 51 _ (one 3 51 zG (by decide) rfl (by unfold zV;rw [Lib.decDigits_one (by omega)];rfl))
 ·exact key 53 _ (one 5 53 zL (by decide) rfl (by unfold zV;rw [Lib.decDigits_one (by omega)];rfl))
theorem znR {a b:ByteArray} (ha:isM a) (hb:isM b) (h:zat a=zat b):a=b:=by
 rcases ha with rfl|rfl|rfl<;>rcases hb with rfl|rfl|rfl<;>first|rfl|(exfalso;revert h;decide)
def prf (c:Cl) (nx:ByteArray) (s x:T) (now:Int):T:=
 if nx=zP then wJ c.ak c.key c.body now else if nx=zG then zas c.ak s (yT c.seed 2) else zj zL [ye x c.key,vL x s c.key (ye s c.key) (ye x c.key) c.body]
def prB (c:Cl) (nx:ByteArray) (s x:T):T:=if nx=zP then c.key else if nx=zG then yP c.ak 46 else vw x s c.key (ye s c.key) (ye x c.key) c.body 0
theorem vC:zP≠zG:=by decide
theorem vM:zP≠zL:=by decide
theorem kL:zG≠zL:=by decide
section
variable {c:Cl} {nx:ByteArray} {s x:T} {now:Int}
theorem zcv:prf c zP s x now=wJ c.ak c.key c.body now:=if_pos rfl
theorem zcb:prf c zG s x now=zas c.ak s (yT c.seed 2):=by unfold prf;rw [if_neg vC.symm,if_pos rfl]
theorem zc1:prf c zL s x now=zj zL [ye x c.key,vL x s c.key (ye s c.key) (ye x c.key) c.body]:=by unfold prf;rw [if_neg vM.symm,if_neg kL.symm]
theorem zdq:prB c zP s x=c.key:=if_pos rfl
theorem zc2:prB c zG s x=yP c.ak 46:=by unfold prB;rw [if_neg vC.symm,if_pos rfl]
theorem zc3:prB c zL s x=vw x s c.key (ye s c.key) (ye x c.key) c.body 0:=by unfold prB;rw [if_neg vM.symm,if_neg kL.symm]
theorem zmO (h:isM nx):∃l,prf c nx s x now=zj nx l:=by
 rcases h with rfl|rfl|rfl
 ·exact ⟨_,zcv⟩
 ·exact ⟨_,zcb⟩
 ·exact ⟨_,zc1⟩
theorem zED (h:isM nx):yI (prf c nx s x now)=nx:=by obtain ⟨l,e⟩:=@zmO c nx s x now h;rw [e,zdI]
theorem zF2 (h:isM nx):wE≠nx:=by rcases h with rfl|rfl|rfl<;>decide
theorem zvg (h:isM nx):jD (prf c nx s x now)=false:=by obtain ⟨l,e⟩:=@zmO c nx s x now h;rw [e];exact zwi (zF2 h)
def Cl.up (c:Cl) (nx:ByteArray):Cl:=if nx=zG then {c with counter:=c.counter+1} else c
theorem zmT {u:Us} (h:isM nx):yI (yO u nx s)=nx:=by
 unfold yO;rcases h with rfl|rfl|rfl
 ·rw [if_pos rfl,zdI]
 ·rw [if_neg vC.symm,if_neg kL];unfold wH;rw [zdI]
 ·rw [if_neg vM.symm,if_pos rfl];unfold wS;rw [zdI]
theorem zE7 {u:Us} (h:isM nx) (hk:nx=zL -> u.key=c.key) (hc:nx=zG -> c.counter=2):c.does (yO u nx s) now x=(c.up nx,prf c nx s x now,prB c nx s x,0):=by
 unfold Cl.does;rw [zmT h];rcases h with rfl|rfl|rfl
 ·rw [if_pos rfl,zcv,zdq];unfold Cl.up;rw [if_neg vC]
 ·rw [if_neg vC.symm,if_pos rfl];have ho:yO u zG s=wH s:=by unfold yO;rw [if_neg vC.symm,if_neg kL]
  rw [ho,zIH,hc rfl,if_pos rfl,zcb,zc2];unfold Cl.up;rw [if_pos rfl,hc rfl]
 ·rw [if_neg vM.symm,if_neg kL.symm,if_pos rfl];have ho:yO u zL s=wS u.key s:=by unfold yO;rw [if_neg vM.symm,if_pos rfl]
  rw [ho,ztL,if_pos (hk rfl),zc1,zc3,hk rfl];unfold Cl.up;rw [if_neg kL.symm]
theorem zBt {u:Us} (hk:u.key≠c.key):c.does (yO u zL s) now x=(c,tZ,tZ,6):=by
 unfold Cl.does;rw [zmT (.inr (.inr rfl)),if_neg vM.symm,if_neg kL.symm,if_pos rfl];have ho:yO u zL s=wS u.key s:=by unfold yO;rw [if_neg vM.symm,if_pos rfl]
 rw [ho,ztL,if_neg hk]
end
def jG:Tk:=⟨1,3,10,0,0,5⟩
def zoJ:Tk:=⟨3,3,10,0,0,5⟩
def zBJ:Tk:=⟨1,3,10,0,1,5⟩
theorem j2:inI 2:=by unfold inI;omega
theorem zuY {sd:T}:zaR jG sd (yT sd 2)=[2]:=by
 have hp:∀c:Int,0 <=c -> c <=100 -> (yT sd 2).same (yT sd c)=decide (c=2):=by
  intro c h0 h1;by_cases h:c=2
  ·subst h;rw [T.same_self];rfl
  ·rw [zeI (fun e=>h ((zsH j2 (by unfold inI;omega)).1 e).2.symm)];simp [h]
 have hN:y9 jG=14:=by rfl
 have hM:qg jG sd (yT sd 2) 14=[2]:=by
  unfold qg;have:(rng jG.counter 14).filter (zcg jG sd (yT sd 2))=(rng jG.counter 14).filter fun c=>decide (c=2):=by
   apply List.filter_congr;intro c hc;have h:=ztA.1 hc;have h1:jG.counter=1:=rfl;rw [h1]at h;unfold zcg;rw [hp c (by omega) (by omega)];have:c <=jG.counter+jG.look+jG.sync:=by show c <=1+3+10;omega
   simp [this]
  rw [this];rfl
 have hE:jy jG sd (yT sd 2)=[2]:=by
  unfold jy;rw [if_neg (fun h=>by have:=h.1;revert this;decide),hN,hM]
 unfold zaR;rw [if_pos (by rfl),if_neg,hE];rintro ⟨_,h⟩;rw [hp _ (by show (0:Int) <=0;omega) (by show (0:Int) <=100;omega)]at h;revert h;decide
theorem zGT {sd sd':T} (h:sd≠sd'):zaR jG sd' (yT sd 2)=[]:=by
 have hp:∀c:Int,0 <=c -> c <=100 -> (yT sd 2).same (yT sd' c)=false:=fun c h0 h1=>zeI (fun e=>h ((zsH j2 (by unfold inI;omega)).1 e).1);have hN:y9 jG=14:=by rfl
 have hM:qg jG sd' (yT sd 2) 14=[]:=by
  unfold qg;rw [List.filter_eq_nil_iff];intro c hc;have h:=ztA.1 hc;have h1:jG.counter=1:=rfl;rw [h1]at h;unfold zcg;rw [hp c (by omega) (by omega)];simp
 have hE:jy jG sd' (yT sd 2)=[]:=by
  unfold jy;rw [if_neg (fun h=>by have:=h.1;revert this;decide),hN,hM]
 unfold zaR;rw [if_pos (by rfl),if_neg,hE];rintro ⟨_,h⟩;rw [hp _ (by show (0:Int) <=0;omega) (by show (0:Int) <=100;omega)]at h;cases h
theorem zEX:jG.accept [2]=(zoJ,2,0):=by rfl
theorem zEU:jG.accept []=(zBJ,0,6):=by rfl
theorem zob {ak n cd sd:T} {t:Tk}:zaN ak n (zas ak n cd) sd t=(zaR t sd cd,0):=by
 unfold zaN zas;rw [vH (n:=1) zn1 rfl];simp only;rw [zjp];unfold zds;simp only;rw [if_pos trivial,vH (n:=2) zGU rfl];simp only [zdH];rw [T.same_self,if_pos rfl]
section
variable {c:Cl} {nx:ByteArray} {s x:T} {t0 now:Int} {ck:Ck} {u:Us}
theorem zz4 (h:isM nx) (hs:ck.secret=s) (hk:nx≠zG -> u.key=c.key) (ho:nx=zG -> c.seed=u.seed /\ u.tok=jG) (ht:0 <=t0 /\ t0 <=100000000) (hn:(t0 - now).natAbs <=5):
 ∃hits,qj ⟨c.ak,c.body,ck,u,now⟩ (prf c nx s x t0) nx=(prB c nx s x,hits,0) /\ (nx=zG -> hits=[2]):=by
 rcases h with rfl|rfl|rfl
 ·refine ⟨[],?_,fun e=>absurd e vC⟩;unfold qj;rw [if_neg vC,if_neg vM,zcv,zdq,zoC (by unfold inI;omega) (zmX ht.1 (by omega)),if_pos ⟨rfl,(hk vC).symm⟩,if_pos rfl,if_neg (by show ¬(t0 - now).natAbs > 5;omega),hk vC]
 ·refine ⟨[2],?_,fun _=>rfl⟩;unfold qj;rw [if_pos rfl,zcb,zc2];simp only;rw [hs,zob,(ho rfl).2,(ho rfl).1,zuY]
 ·refine ⟨[],?_,fun e=>absurd e kL.symm⟩;unfold qj;rw [if_neg kL.symm,if_pos rfl,zc1,zc3];simp only;rw [hs,hk kL.symm,zwE,if_pos rfl,T.same_self,if_pos rfl]
theorem zuG (hk:u.key≠c.key) (ht:0 <=t0 /\ t0 <=100000000):qj ⟨c.ak,c.body,ck,u,now⟩ (prf c zP s x t0) zP=(u.key,[],6):=by
 unfold qj;rw [if_neg vC,if_neg vM,zcv,zoC (by unfold inI;omega) (zmX ht.1 (by omega)),if_neg (fun e=>hk e.2.symm)]
theorem zu8 (hs:ck.secret=s) (ho:c.seed≠u.seed) (hu:u.tok=jG):qj ⟨c.ak,c.body,ck,u,now⟩ (prf c zG s x t0) zG=(yP c.ak 46,[],0):=by
 unfold qj;rw [if_pos rfl,zcb];simp only;rw [hs,zob,hu,zGT ho]
end
theorem Ti.up {t:T} {d b d' b':Nat} (h:Ti t d b) (hd:d <=d') (hb:b <=b'):Ti t d' b':=⟨h.s,h.o,Nat.le_trans h.d hd,Nat.le_trans h.b hb⟩
structure Tz (c:Cl) (K:Kd):Prop where
 a:Ti c.ak 6 4000
 k:Ti c.key 6 4000
 b:Ti c.body 6 4000
 d:Ti c.seed 6 4000
 u:Ti K.u.key 6 4000
 w:c.wrap.bulk <=4000
 ck:K.cookies.fit=true
 cb:K.cookies.bulk <=4000
 kb:K.key.bulk <=4000
 n:c.name.size <=1000
 m:c.nonce.size <=1000
def atT (s:T):Prop:=∃n:ByteArray,s=ze n /\ n≠⟨#[]⟩ /\ n.size <=1000
theorem atT.ti {s:T} (h:atT s):Ti s 1 1004:=by obtain ⟨n,rfl,h1,h2⟩:=h;exact zsC h1 h2
theorem atT.none {s:T} (h:atT s):jD s=false:=by obtain ⟨n,rfl,_,_⟩:=h;exact zps (by show (2:Int)≠3;decide)
theorem atT.fit {s:T} (h:atT s):s.fit=true:=by have:=h.ti;exact zeB.2 ⟨this.s,this.o,Nat.le_trans this.d (by omega)⟩
theorem wG {n:Int} (h:0 <=n /\ n <=1000000):atT (zD n):=by
 have hit:=wI (n:=n) (by omega) (by omega);have hz:(kdB++zq n).size=4+(zq n).size:=by rw [ByteArray.size_append];rfl
 exact ⟨_,rfl,kT (by show 4≠0;omega),by omega⟩
theorem zbz {f:ByteArray} (hf:f.size <=90):((⟨#[106,111,105,110,32]⟩:ByteArray)++f)≠⟨#[]⟩ /\ ((⟨#[106,111,105,110,32]⟩:ByteArray)++f).size <=95:=⟨kT (by show 5≠0;omega),by
 rw [ByteArray.size_append];have:(⟨#[106,111,105,110,32]⟩:ByteArray).size=5:=rfl;omega⟩
theorem zyo {a b:T} {f g:ByteArray} {m:Nat} (ha:Ti a 6 m) (hb:Ti b 6 m) (hf:f.size <=90) (hg:g.size <=90):Ti (qq a b f g) 9 (2 * m+1000):=by
 obtain ⟨j1,j2⟩:=zbz hf;obtain ⟨j3,j4⟩:=zbz hg;exact (kI (zac (d:=7) (.cons (vA ha j1 j2) (.cons (vA hb j3 j4) .nil (by omega)) (by omega)))).up (by omega) (by omega)
theorem zpz:((⟨#[111,116,112,32]⟩:ByteArray)++zq 2)≠⟨#[]⟩ /\ ((⟨#[111,116,112,32]⟩:ByteArray)++zq 2).size <=24:=⟨kT (by show 4≠0;omega),by
 rw [ByteArray.size_append];have h1:(⟨#[111,116,112,32]⟩:ByteArray).size=4:=rfl;have:=zb0 j2;omega⟩
section
variable {c:Cl} {K:Kd} {nx:ByteArray} {s x:T} {t0:Int}
theorem zmd (h:Tz c K) (hn:isM nx) (hs:nx≠zP -> atT s) (hx:atT x) (ht:inI t0):Ti (prf c nx s x t0) 40 200000:=by
 have i1:inI 1:=by unfold inI;omega
 have i45:inI 45:=by unfold inI;omega
 have i54:inI 54:=by unfold inI;omega
 have i60:inI 60:=by unfold inI;omega
 have tH:=kI h.b;rcases hn with rfl|rfl|rfl
 ·rw [zcv];have tN:Ti (qb t0) 1 (21+4):=zb1 ziq (by rw [zez];have:=zb0 ht;omega);have tT:=jE (n:=zaL) (m:=4) (d:=8) (by decide) (Nat.le_refl _) (.cons tN (.cons tH .nil (by omega)) (by omega)) (by omega);have tCK:=zbG (zyo (f:=za4) (g:=zbh) h.a h.k (by show 20 <=90;omega) (by show 17 <=90;omega)) i54;exact (jE (n:=zP) (m:=9) (d:=30) (by decide) (Nat.le_refl _) (.cons (zeT tCK tT) .nil (by omega)) (by omega)).up (by omega) (by omega)
 ·rw [zcb];have tS:=(hs vC.symm).ti;have tO:=vA h.d zpz.1 zpz.2;have tP:=jE (n:=wz) (m:=4) (d:=10) (by decide) (Nat.le_refl _) (.cons tS (.cons tO .nil (by omega)) (by omega)) (by omega);exact (jE (n:=zG) (m:=3) (d:=30) (by decide) (Nat.le_refl _) (.cons (zeT (zbG h.a i45) tP) .nil (by omega)) (by omega)).up (by omega) (by omega)
 ·rw [zc1];have tS:=(hs vM.symm).ti;have tX:=hx.ti;obtain ⟨tSh,_⟩:=zlp tX tS (tX.sb (by omega) (by omega)).1.txt (tS.sb (by omega) (by omega)).1.txt;have tWd':=vA (n:=⟨#[119,111,114,100]⟩) (m:=4) h.k (by decide) (Nat.le_refl _);have tmY:=zbt (zbp tS) tWd';have tmX:=zbt (zbp tX) tWd';have tP:=kI (zac (d:=10) (.cons tSh (.cons tWd' (.cons tmY (.cons tmX (.cons tH .nil (by omega)) (by omega)) (by omega)) (by omega)) (by omega)));have tK1:=zbG (zbG tP i1) i60;have tF:=zeT tK1 (jE (n:=zch) (m:=6) (d:=1) (by decide) (Nat.le_refl _) .nil (Nat.le_refl _));exact (jE (n:=zL) (m:=5) (d:=30) (by decide) (Nat.le_refl _) (.cons tmX (.cons tF .nil (by omega)) (by omega)) (by omega)).up (by omega) (by omega)
theorem zvf (h:Tz c K) (hn:isM nx) (hs:nx≠zP -> atT s) (hx:atT x) (ht:inI t0):(prf c nx s x t0).txt.data[3]?=some (zat nx):=by
 have ti:=zmd h hn hs hx ht;rw [(ti.sb (by omega) (by omega)).1.txt];obtain ⟨l,e⟩:=@zmO c nx s x t0 hn;rw [e];exact zwn hn
theorem vZ {n:ByteArray} {l:List T}:(zj n l).bulk=n.size+yi l+8:=by unfold zj;rw [zf6,yz,zdF];omega
theorem zpk {k:T} {n:Int} (hn:inI n):(yP k n).bulk <=k.bulk+28:=by
 unfold yP jr;rw [wZ,yz,jt];have:=zqQ hn;omega
theorem zdt {k t:T} {n:Int} (hn:inI n):(yG k n t).bulk <=k.bulk+t.bulk+32:=by
 unfold yG;rw [zoZ];have:=zpk (k:=k) hn;omega
theorem zh9 {t:T}:(z8 t).bulk=t.bulk+4:=by
 unfold z8;rw [wZ,yz,jt,n0]
 try omega
theorem zdj {s:ByteArray}:(yF s).bulk=s.size+5:=by
 unfold yF;rw [wZ,jt,zez];try omega
theorem zs4 (h:Tz c K) {p q:T}:(c.says p q).bulk <=p.bulk+q.bulk+20000:=by
 have ha:=h.a.b;have hb:=h.b.b;have hw:=h.w;have h1:=zdt (k:=c.ak) (t:=zj vp [z8 c.body,p,q]) (n:=51) i51;rw [vZ,yz,yz,yz,jt,zh9]at h1;have z1:vp.size=4:=rfl;have z2:kB.size=6:=rfl;show (zj kB [c.body,c.wrap,qV c.ak c.body p q]).bulk <=_;rw [vZ,yz,yz,yz,jt];show kB.size+(c.body.bulk+(c.wrap.bulk+((yG c.ak 51 (zj vp [z8 c.body,p,q])).bulk+0)))+8 <=_;omega
theorem zrT (h:Tz c K) {t:T}:(jo c.ak c.nonce t).bulk <=t.bulk+6000:=by
 have ha:=h.a.b;have hm:=h.m;have h1:=zdt (k:=c.ak) (t:=zj qW [yF c.nonce,t]) (n:=52) i52;rw [vZ,yz,yz,jt,zdj]at h1;have z1:qW.size=6:=rfl;show (yG c.ak 52 (zj qW [yF c.nonce,t])).bulk <=_;omega
theorem zkW (h:Tz c K) {done:List ByteArray} (hd:kF done <=1000) (hs:s.bulk <=1004) (ht:inI t0):(yC K.cookies ⟨c.name,c.nonce,done,s,t0⟩).bulk <=20000:=by
 have h1:=zxw (key:=K.cookies) (c:=⟨c.name,c.nonce,done,s,t0⟩) ht;have:=h.cb;have:=h.n;have:=h.m;simp only at h1;omega
theorem zCK (h:Tz c K) {done:List ByteArray} (hs:s.fit=true):(yC K.cookies ⟨c.name,c.nonce,done,s,t0⟩).kind=4:=by
 rw [zpM,h.ck,hs];rfl
end
theorem ztB:zi.fit=true:=by
 have h:Ti zi 2 12:=(jE (n:=wE) (m:=4) (d:=1) (by decide) (Nat.le_refl _) .nil (Nat.le_refl _)).up (by omega) (by omega);exact zeB.2 ⟨h.s,h.o,Nat.le_trans h.d (by omega)⟩
def sOk (nx:ByteArray) (s:T):Prop:=if nx=zP then s=zi else atT s
theorem sOk.fit {nx:ByteArray} {s:T} (h:sOk nx s):s.fit=true:=by
 unfold sOk at h;split at h
 ·rw [h];exact ztB
 ·exact h.fit
theorem sOk.at {nx:ByteArray} {s:T} (h:sOk nx s) (hn:nx≠zP):atT s:=by unfold sOk at h;rw [if_neg hn]at h;exact h
theorem sOk.bulk {nx:ByteArray} {s:T} (h:sOk nx s):s.bulk <=1004:=by
 unfold sOk at h;split at h
 ·rw [h];show (zi.bulk) <=_;decide
 ·exact h.ti.b
theorem zs9 {K:Kd} {nx:ByteArray} (hn:0 <=K.n /\ K.n <=900000):sOk nx (K.offS nx):=by
 unfold sOk Kd.offS;split
 ·rfl
 ·exact wG (by omega)
def zfw (c:Cl) (l:List ByteArray):Prop:=(zG∈l -> c.counter=3) /\ (zG∉l -> c.counter=2)
structure Mid (c:Cl) (K:Kd) (m:T) (done:List ByteArray) (nx:ByteArray) (rest:List ByteArray) (t0:Int):Prop where
 fz:Fz c K
 tz:Tz c K
 dn:c.done=true
 set:K.u.set=done++nx::rest
 im:∀d∈done++nx::rest,isM d
 nd:nx∉done /\ nx∉rest /\ ∀d∈rest,d∉done
 ndr:rest.Nodup
 rm:K.room=16
 ca:∀e∈K.cache,∃d∈done,e.1.data[3]?=some (zat d)
 cl:K.cache.length <=done.length
 ms:c.marks=(done++[nx]).map fun d=>(d,c.nonce)
 len:done.length+rest.length <=2
 tk:zG∈nx::rest -> K.u.tok=jG
 ct:zfw c (done++[nx])
 sp:nx=zL -> K.u.key=c.key
 ex:∃s x,m=c.says (prf c nx s x t0) (yC K.cookies ⟨c.name,c.nonce,done,s,t0+100⟩) /\ c.base=prB c nx s x /\ sOk nx s /\ atT x
 t:0 <=t0 /\ t0 <=10000000
def gud (c:Cl) (K:Kd) (d:ByteArray):Prop:=if d=zG then c.seed=K.u.seed else c.key=K.u.key
theorem zl9 {id:ByteArray}:∀{l:List (ByteArray×Int)},(∀e∈l,e.1≠id) -> Rf.lookC id l=none
 |[],_=>rfl
 |p::l,h=>by
  rw [Rf.lookC,if_neg (h p (by simp)),zl9 fun e he=>h e (by simp [he])]
theorem zmY:∀{l:List ByteArray},(∀d∈l,isM d) -> kF l <=l.length * 14
 |[],_=>by simp [kF]
 |s::l,h=>by
  have ih:=zmY (l:=l) fun d hd=>h d (by simp [hd]);have hz:s.size <=9:=by
   rcases h s (by simp) with rfl|rfl|rfl
   ·show 9 <=9;omega
   ·show 3 <=9;omega
   ·show 5 <=9;omega
  rw [kF,List.length_cons];omega
structure zID (K K1:Kd) (done:List ByteArray) (nx:ByteArray) (rest:List ByteArray):Prop where
 key:K1.key=K.key
 cookies:K1.cookies=K.cookies
 room:K1.room=16
 n:K1.n=K.n
 un:K1.u.name=K.u.name
 uk:K1.u.key=K.u.key
 us:K1.u.set=K.u.set
 ud:K1.u.seed=K.u.seed
 uf:K1.u.fails=0
 tk:zG∈rest -> K1.u.tok=jG
 ca:∀e∈K1.cache,∃d∈done++[nx],e.1.data[3]?=some (zat d)
 cl:K1.cache.length <=done.length+1
section
variable {c:Cl} {K:Kd} {m:T} {done rest:List ByteArray} {nx:ByteArray} {t0 now:Int}
theorem Mid.seen (h:Mid c K m done nx rest t0) (hn:now <=t0+100):∃s x,c.base=prB c nx s x /\ sOk nx s /\ atT x /\ (now <=t0+100 -> K.req m now=K.reqC ⟨c.ak,c.body,⟨c.name,c.nonce,done,s,t0+100⟩,K.u,now⟩ (prf c nx s x t0) nx now (qj ⟨c.ak,c.body,⟨c.name,c.nonce,done,s,t0+100⟩,K.u,now⟩ (prf c nx s x t0) nx)) /\ m.lo /\ (prf c nx s x t0).txt.data[3]?=some (zat nx):=by
 obtain ⟨s,x,hm,hb,hs,hx⟩:=h.ex;have inx:isM nx:=h.im nx (by simp);have ht:=h.t;refine ⟨s,x,hb,hs,hx,fun _=>?_,?_,zvf h.tz inx (fun e=>hs.at e) hx (by unfold inI;omega)⟩
 ·have hk:=zCK (done:=done) (t0:=t0+100) h.tz hs.fit;have ho:qI K.cookies (yC K.cookies ⟨c.name,c.nonce,done,s,t0+100⟩) now=(⟨c.name,c.nonce,done,s,t0+100⟩,0):=by
   rw [zy3 h.tz.ck hs.fit (by show inI (t0+100);unfold inI;omega),if_neg (by show ¬t0+100 < now;omega)]
  have hbg:qP done K.u.set=true:=by
   unfold qP;rw [h.set];simp
  unfold Kd.req;rw [hm,zyk h.fz (zps (by rw [hk];decide)) ho rfl rfl hbg];have hget:K.u.set[done.length]?=some nx:=by rw [h.set];simp
  unfold Kd.reqX;simp only [if_true,hget];apply zms (zvg inx);refine ⟨zED inx,?_⟩;by_cases hc:nx=zP
  ·exact .inl hc
  ·exact .inr (hs.at hc).none
 ·rw [hm];have h1:=zs4 h.tz (p:=prf c nx s x t0) (q:=yC K.cookies ⟨c.name,c.nonce,done,s,t0+100⟩);have h2:=(zmd h.tz inx (fun e=>hs.at e) hx (by unfold inI;omega):Ti (prf c nx s x t0) 40 200000).b;have h3:=zmY (l:=done) fun d hd=>h.im d (by simp [hd]);have hl:=h.len;have h4:=zkW (s:=s) (t0:=t0+100) (done:=done) h.tz (by omega) hs.bulk (by unfold inI;omega);unfold T.lo;omega
theorem Mid.good (h:Mid c K m done nx rest t0) (hn:t0 <=now /\ now <=t0+5) (hg:gud c K nx):∃s K1,K.req m now=K1.reqD ((⟨c.ak,c.body,⟨c.name,c.nonce,done,s,t0+100⟩,K.u,now⟩:Tlk).more nx) c.base /\ zID K K1 done nx rest:=by
 obtain ⟨s,x,hb,hs,hx,hr,hlo,htx⟩:=h.seen (now:=now) (by omega);have inx:isM nx:=h.im nx (by simp);have ht:=h.t;unfold gud at hg;obtain ⟨hits,hc,hh⟩:=zz4 (c:=c) (nx:=nx) (s:=s) (x:=x) (t0:=t0) (now:=now) (ck:=⟨c.name,c.nonce,done,s,t0+100⟩) (u:=K.u) inx rfl (fun e=>by rw [if_neg e]at hg;exact hg.symm) (fun e=>⟨by rw [if_pos e]at hg;exact hg,h.tk (by rw [e];simp)⟩) (by omega) (by omega);rw [hc]at hr;have hr:=hr (by omega);have hlen:=h.len;have hcl:=h.cl;have hlive:=Rf.live_len (now:=now) (l:=K.cache);have hseen:Rf.seenR K.room K.cache (prf c nx s x t0).txt (now+100+1) now=(0,Rf.insR (prf c nx s x t0).txt (now+100+1) (Rf.liveC now K.cache)):=by
  unfold Rf.seenR;rw [if_neg (by omega),zl9]
  ·simp only;rw [if_neg (by rw [h.rm];omega)]
  ·intro e he;obtain ⟨d,hd,hde⟩:=h.ca e (List.mem_filter.1 he).1;intro heq;rw [heq,htx]at hde;have:=znR inx (h.im d (by simp [hd])) (Option.some.inj hde);exact h.nd.1 (this▸hd)
 have hmem:∀e∈Rf.insR (prf c nx s x t0).txt (now+100+1) (Rf.liveC now K.cache),∃d∈done++[nx],e.1.data[3]?=some (zat d):=by
  intro e he;unfold Rf.insR at he;have hsub:e=((prf c nx s x t0).txt,now+100+1) \/ e∈Rf.liveC now K.cache:=by
   rcases List.mem_append.1 he with he|he
   ·rcases List.mem_append.1 he with he|he
    ·exact .inr (List.mem_of_mem_take he)
    ·exact .inl (by simpa using he)
   ·exact .inr (List.mem_of_mem_drop he)
  rcases hsub with rfl|he
  ·exact ⟨nx,by simp,htx⟩
  ·obtain ⟨d,hd,hde⟩:=h.ca e (List.mem_filter.1 he).1;exact ⟨d,by simp [hd],hde⟩
 have hil:(Rf.insR (prf c nx s x t0).txt (now+100+1) (Rf.liveC now K.cache)).length <=done.length+1:=by
  unfold Rf.insR;simp;omega
 rw [hr];unfold Kd.reqC;rw [if_pos rfl,hseen];generalize Rf.insR (prf c nx s x t0).txt (now+100+1) (Rf.liveC now K.cache)=ca at *;unfold Kd.reqS;rw [if_pos rfl];have hf:=h.fz.fl;by_cases ho:nx=zG
 ·rw [if_pos ho,hh ho];have htk:=h.tk (by rw [ho];simp);simp only;rw [htk,zEX];unfold Kd.reqO;rw [if_neg (by show ¬5 <=K.u.fails;omega),if_pos rfl];refine ⟨s,{K with cache:=ca,u:={K.u with tok:=zoJ}},by rw [hb],⟨rfl,rfl,h.rm,rfl,rfl,rfl,rfl,rfl,hf,fun e=>absurd e (by rw [<- ho];exact h.nd.2.1),hmem,hil⟩⟩
 ·rw [if_neg ho];exact ⟨s,{K with cache:=ca},by rw [hb],⟨rfl,rfl,h.rm,rfl,rfl,rfl,rfl,rfl,hf,fun e=>h.tk (by simp [e]),hmem,hil⟩⟩
end
def Cl.aft (c:Cl) (nx:ByteArray) (s x:T):Cl:={c with counter:=if nx=zG then c.counter+1 else c.counter,base:=prB c nx s x,z2:=false,done:=true,marks:=c.marks++[(nx,c.nonce)]}
section
variable {c:Cl} {K K1:Kd} {nx:ByteArray} {s x:T} {now:Int} {D:List ByteArray}
theorem zAD (h:Tz c K) (hn:isM nx) (hs:sOk nx s) (hx:atT x):(prB c nx s x).bulk <=100000:=by
 have i0:inI 0:=by unfold inI;omega
 rcases hn with rfl|rfl|rfl
 ·rw [zdq];have:=h.k.b;omega
 ·rw [zc2];have:=zpk (k:=c.ak) (n:=46) i46;have:=h.a.b;omega
 ·rw [zc3];have tH:=kI h.b;have tS:=(hs.at vM.symm).ti;have tX:=hx.ti;obtain ⟨tSh,_⟩:=zlp tX tS (tX.sb (by omega) (by omega)).1.txt (tS.sb (by omega) (by omega)).1.txt;have tWd':=vA (n:=⟨#[119,111,114,100]⟩) (m:=4) h.k (by decide) (Nat.le_refl _);have tmY:=zbt (zbp tS) tWd';have tmX:=zbt (zbp tX) tWd';have tP:=kI (zac (d:=10) (.cons tSh (.cons tWd' (.cons tmY (.cons tmX (.cons tH .nil (by omega)) (by omega)) (by omega)) (by omega)) (by omega)));exact ((zbG tP i0).up (d':=40) (b':=100000) (by omega) (by omega)).b
theorem zio (hon:c.on=true) {u:Us} {q:T} (h:isM nx) (hk:nx=zL -> u.key=c.key) (hc:nx=zG -> c.counter=2):
 c.take (jo c.ak c.nonce (zj jJ [yO u nx s,q])) now x=(c.aft nx s x,c.says (prf c nx s x now) q,0):=by
 rw [zpi hon,zE7 h hk hc];unfold Cl.takeD;rw [if_pos rfl,zmT h];simp only;unfold Cl.aft Cl.up;split<;>rfl
theorem ztk (hon:c.on=true) {u:Us} {q:T} (hk:u.key≠c.key):
 c.take (jo c.ak c.nonce (zj jJ [yO u zL s,q])) now x=(c,zi,6):=by
 rw [zpi hon,zBt hk];unfold Cl.takeD;rw [if_neg (show ¬(6:Int)=0 by decide)]
theorem zrg (h:Tz c K) {q:T} (hn:isM nx) (hs:sOk nx s) (hq:q.bulk <=20000):(jo c.ak c.nonce (zj jJ [yO K.u nx s,q])).bulk <=60000:=by
 have h1:=zrT h (t:=zj jJ [yO K.u nx s,q]);have z:jJ.size=4:=rfl;rw [vZ,yz,yz,jt,z]at h1;have hsb:=hs.bulk;have ho:(yO K.u nx s).bulk <=10000:=by
  unfold yO;rcases hn with rfl|rfl|rfl
  ·rw [if_pos rfl,vZ,jt];show 9+0+8 <=_;omega
  ·rw [if_neg vC.symm,if_neg kL];unfold wH;rw [vZ,yz,jt];show 3+_+8 <=_;omega
  ·rw [if_neg vM.symm,if_pos rfl];have tS:=(hs.at vM.symm).ti;have tWd':=vA (n:=⟨#[119,111,114,100]⟩) (m:=4) h.u (by decide) (Nat.le_refl _);have tmY:=zbt (zbp tS) tWd';exact ((jE (n:=zL) (m:=5) (d:=20) (by decide) (Nat.le_refl _) (.cons tmY .nil (by omega)) (by omega)).up (d':=40) (b':=10000) (by omega) (by omega)).b
 omega
theorem zlv {X:Tlk} (ha:X.ak=c.ak) (hno:X.c.nonce=c.nonce) (hcl:X.c.client=c.name) (hu:X.u=K.u) (hd:X.c.done=D) (hw:X.now=now) (hck:K1.cookies=K.cookies):
 K1.offT X nx=jo c.ak c.nonce (zj jJ [yO K.u nx (K1.offS nx),yC K.cookies ⟨c.name,c.nonce,D,K1.offS nx,now+100⟩]):=by
 obtain ⟨ak,body,⟨cl,no,dn,se,up⟩,u,w⟩:=X;simp only at ha hno hcl hu hd hw;subst ha hno hcl hu hd hw;unfold Kd.offT znE Kd.offC;rw [hck]
theorem zrM {X:Tlk} {base:T} {nx2:ByteArray} (h:X.c.done.length≠X.u.set.length) (hg:X.u.set[X.c.done.length]?=some nx2):K1.reqD X base=(K1.offT X nx2,K1.offK nx2,none):=by
 unfold Kd.reqD;rw [if_neg h];simp only [hg]
theorem ztq {X:Tlk} {base:T} (h:X.c.done.length=X.u.set.length):K1.reqD X base=(K1.tktT X base,K1.tktK,some (X.c.client,X.c.nonce,X.c.done,zD (K1.n+1))):=by
 unfold Kd.reqD;rw [if_pos h]
theorem zdM:(K1.offK nx).key=K1.key /\ (K1.offK nx).cookies=K1.cookies /\ (K1.offK nx).u=K1.u /\ (K1.offK nx).room=K1.room /\ (K1.offK nx).cache=K1.cache:=by
 unfold Kd.offK;split<;>exact ⟨rfl,rfl,rfl,rfl,rfl⟩
theorem znV {done rest:List ByteArray} (fz:Fz c K) (tz:Tz c K) (hon:c.on=true) (set:K.u.set=D++nx::rest) (im:∀d∈D++nx::rest,isM d) (nd:nx∉D /\ nx∉rest /\ ∀d∈rest,d∉D) (ndr:rest.Nodup)
 (kk:K1.key=K.key) (kc:K1.cookies=K.cookies) (kr:K1.room=16) (kn:K1.u.name=K.u.name) (ku:K1.u.key=K.u.key) (ks:K1.u.set=K.u.set) (kf:K1.u.fails=0)
 (kt:zG∈nx::rest -> K1.u.tok=jG) (ca:∀e∈K1.cache,∃d∈D,e.1.data[3]?=some (zat d)) (cl:K1.cache.length <=D.length) (ms:c.marks=D.map fun d=>(d,c.nonce)) (len:D.length+rest.length <=2)
 (cn:zfw c D) (sp:nx=zL -> K.u.key=c.key) (hs:sOk nx s) (hx:atT x) (ht:0 <=now /\ now <=10000000):
 Mid (c.aft nx s x) (K1.offK nx) (c.says (prf c nx s x now) (yC K.cookies ⟨c.name,c.nonce,D,s,now+100⟩)) D nx rest now:=by
 obtain ⟨o1,o2,o3,o4,o5⟩:=@zdM K1 nx;refine ⟨⟨hon,?_,fz.body,fz.nm,fz.nn,?_,?_⟩,⟨tz.a,tz.k,tz.b,tz.d,?_,tz.w,?_,?_,?_,tz.n,tz.m⟩,rfl,?_,im,nd,ndr,?_,?_,?_,?_,len,?_,?_,?_,⟨s,x,?_,rfl,hs,hx⟩,ht⟩
 ·rw [o1,kk];exact fz.arm
 ·rw [o3,kn];exact fz.un
 ·rw [o3];exact kf
 ·rw [o3,ku];exact tz.u
 ·rw [o2,kc];exact tz.ck
 ·rw [o2,kc];exact tz.cb
 ·rw [o1,kk];exact tz.kb
 ·rw [o3,ks];exact set
 ·rw [o4];exact kr
 ·rw [o5];exact ca
 ·rw [o5];exact cl
 ·show c.marks++[(nx,c.nonce)]=(D++[nx]).map fun d=>(d,c.nonce);rw [ms,List.map_append];rfl
 ·rw [o3];exact kt
 ·have hc:(c.aft nx s x).counter=if nx=zG then c.counter+1 else c.counter:=rfl
  unfold zfw;rw [hc];by_cases h:nx=zG
  ·have hD:zG∉D:=by rw [<- h];exact nd.1
   rw [if_pos h,cn.2 hD];exact ⟨fun _=>rfl,fun e=>absurd (by simp [h]) e⟩
  ·rw [if_neg h];refine ⟨fun e=>cn.1 ?_,fun e=>cn.2 fun e'=>e (by simp [e'])⟩;rcases List.mem_append.1 e with e|e
   ·exact e
   ·exact absurd (List.mem_singleton.1 e).symm h
 ·rw [o3,ku];exact sp
 ·rw [o2,kc];rfl
end
structure Ini (c:Cl) (K:Kd) (m:T) (nx:ByteArray) (rest:List ByteArray):Prop where
 fz:Fz c K
 tz:Tz c K
 set:K.u.set=nx::rest
 im:∀d∈nx::rest,isM d
 nd:nx∉rest
 ndr:rest.Nodup
 rm:K.room=16
 ca:K.cache=[]
 ms:c.marks=[]
 len:rest.length <=2
 tk:K.u.tok=jG
 cn:c.counter=2
 m:m=c.says zi zi
section
variable {c:Cl} {K:Kd} {m:T} {done rest:List ByteArray} {nx nx2:ByteArray} {t0 now:Int} {x:T}
theorem Ini.req (h:Ini c K m nx rest):K.req m now=(jo c.ak c.nonce (zj jJ [yO K.u nx (K.offS nx),yC K.cookies ⟨c.name,c.nonce,[],K.offS nx,now+100⟩]),K.offK nx,none):=by
 unfold Kd.req;rw [h.m,zCR h.fz];have hget:K.u.set[([]:List ByteArray).length]?=some nx:=by rw [h.set];rfl
 unfold Kd.reqX;simp only [if_true,hget];rw [zuy zke,zlv (c:=c) (K:=K) rfl rfl rfl rfl rfl rfl rfl]
theorem Ini.lo (h:Ini c K m nx rest):m.lo:=by
 rw [h.m];have h1:=zs4 h.tz (p:=zi) (q:=zi);have h2:zi.bulk=12:=by decide
 unfold T.lo;omega
theorem Ini.step (h:Ini c K m nx rest) (hK:0 <=K.n /\ K.n <=900000) (hx:atT x) (ht:0 <=now /\ now <=10000000):(K.req m now).1.lo /\ (K.req m now).2.2=none /\
 ((nx=zL -> K.u.key=c.key) -> (c.take (K.req m now).1 now x).2.2=0 /\ (c.take (K.req m now).1 now x).1=c.aft nx (K.offS nx) x /\ (K.req m now).2.1=K.offK nx /\ Mid (c.take (K.req m now).1 now x).1 (K.req m now).2.1 (c.take (K.req m now).1 now x).2.1 [] nx rest now) /\
 (nx=zL -> K.u.key≠c.key -> c.take (K.req m now).1 now x=(c,zi,6)):=by
 have inx:=h.im nx (by simp);have hs:=@zs9 K nx hK;rw [h.req];simp only;have hcb:=zkW (done:=[]) (s:=K.offS nx) (t0:=now+100) h.tz (by simp [kF]) hs.bulk (by unfold inI;omega);refine ⟨?_,trivial,fun hk=>?_,fun e hk=>?_⟩
 ·have:=zrg h.tz inx hs hcb;unfold T.lo;omega
 ·rw [zio h.fz.on inx hk (fun _=>h.cn)];refine ⟨rfl,rfl,trivial,?_⟩;have:=znV (c:=c) (K:=K) (K1:=K) (nx:=nx) (D:=[]) (rest:=rest) (done:=[]) (x:=x) (now:=now) h.fz h.tz h.fz.on h.set h.im ⟨by simp,h.nd,by simp⟩ h.ndr rfl rfl h.rm rfl rfl rfl h.fz.fl (fun _=>h.tk) (by rw [h.ca];simp) (by rw [h.ca];simp) h.ms (by simpa using h.len) ⟨by simp,fun _=>h.cn⟩ hk hs hx ht;exact this
 ·subst e;exact ztk h.fz.on hk
theorem Mid.step (h:Mid c K m done nx (nx2::rest) t0) (hn:t0 <=now /\ now <=t0+5) (hg:gud c K nx) (hK:0 <=K.n /\ K.n <=900000) (hx:atT x) (ht:now <=10000000):(K.req m now).1.lo /\ (K.req m now).2.2=none /\
 ((nx2=zL -> K.u.key=c.key) -> (c.take (K.req m now).1 now x).2.2=0 /\ Mid (c.take (K.req m now).1 now x).1 (K.req m now).2.1 (c.take (K.req m now).1 now x).2.1 (done++[nx]) nx2 rest now /\
   (c.take (K.req m now).1 now x).1.ended=c.ended /\ (c.take (K.req m now).1 now x).1.nonce=c.nonce /\ (c.take (K.req m now).1 now x).1.seed=c.seed /\ (c.take (K.req m now).1 now x).1.key=c.key /\ (K.req m now).2.1.u.key=K.u.key /\ (K.req m now).2.1.u.seed=K.u.seed) /\
 (nx2=zL -> K.u.key≠c.key -> c.take (K.req m now).1 now x=(c,zi,6)):=by
 obtain ⟨s0,K1,hr,k1⟩:=h.good hn hg;have inx2:=h.im nx2 (by simp);have hlen:(done++[nx]).length≠K.u.set.length:=by rw [h.set];simp
 have hget:K.u.set[(done++[nx]).length]?=some nx2:=by
  rw [h.set,show done++nx::nx2::rest=(done++[nx])++nx2::rest by simp];simp
 have hr2:K.req m now=(jo c.ak c.nonce (zj jJ [yO K.u nx2 (K1.offS nx2),yC K.cookies ⟨c.name,c.nonce,done++[nx],K1.offS nx2,now+100⟩]),K1.offK nx2,none):=by
  rw [hr,zrM hlen hget,zlv (c:=c) (K:=K) (D:=done++[nx]) (now:=now) rfl rfl rfl rfl rfl rfl k1.cookies]
 have hs:=@zs9 K1 nx2 (by rw [k1.n];exact hK);have hd:kF (done++[nx]) <=1000:=by
  have h3:=zmY (l:=done++[nx]) fun d hd=>h.im d (by simp at hd ⊢;rcases hd with hd|hd<;>simp [hd]);have:=h.len;simp at h3 this;omega
 have htt:=h.t;have hcb:=zkW (done:=done++[nx]) (s:=K1.offS nx2) (t0:=now+100) h.tz hd hs.bulk (by unfold inI;omega);rw [hr2];simp only;obtain ⟨o1,o2,o3,o4,o5⟩:=@zdM K1 nx2;have hlen2:=h.len;have set2:K.u.set=(done++[nx])++nx2::rest:=by rw [h.set];simp
 refine ⟨?_,trivial,fun hk=>?_,fun e hk=>?_⟩
 ·have:=zrg h.tz inx2 hs hcb;unfold T.lo;omega
 ·have hcn:nx2=zG -> c.counter=2:=fun e=>by
   apply h.ct.2;intro e';rcases List.mem_append.1 e' with e'|e'
   ·exact h.nd.2.2 nx2 (by simp) (by rw [e];exact e')
   ·have:=List.mem_singleton.1 e';exact h.nd.2.1 (by rw [<- this,<- e];simp)
  rw [zio h.fz.on inx2 hk hcn];refine ⟨rfl,?_,rfl,rfl,rfl,rfl,by rw [o3,k1.uk],by rw [o3,k1.ud]⟩;have hnd:=h.nd;have hndr:=List.nodup_cons.1 h.ndr;refine znV (c:=c) (K:=K) (K1:=K1) (nx:=nx2) (D:=done++[nx]) (rest:=rest) (done:=[]) (x:=x) (now:=now) h.fz h.tz h.fz.on set2 (by rw [<- set2,h.set];exact h.im) ⟨?_,hndr.1,?_⟩ hndr.2 k1.key k1.cookies k1.room k1.un k1.uk k1.us k1.uf k1.tk k1.ca (by simpa using k1.cl) h.ms (by simp at hlen2 ⊢;omega) h.ct hk hs hx ⟨by omega,ht⟩
  ·intro e;rcases List.mem_append.1 e with e|e
   ·exact hnd.2.2 nx2 (by simp) e
   ·rw [List.mem_singleton.1 e]at hnd;exact hnd.2.1 (by simp)
  ·intro d hd e;rcases List.mem_append.1 e with e|e
   ·exact hnd.2.2 d (by simp [hd]) e
   ·rw [List.mem_singleton.1 e]at hd;exact hnd.2.1 (by simp [hd])
 ·subst e;exact ztk h.fz.on hk
theorem zrx:∀{l:List ByteArray},(∀d∈l,isM d) -> yi (jU l) <=l.length * 14
 |[],_=>by show yi [] <=_;rw [jt];omega
 |s::l,h=>by
  have ih:=zrx (l:=l) fun d hd=>h d (by simp [hd]);have hz:s.size <=9:=by
   rcases h s (by simp) with rfl|rfl|rfl
   ·show 9 <=9;omega
   ·show 3 <=9;omega
   ·show 5 <=9;omega
  show yi (yF s::jU l) <=_;rw [yz,zdj,List.length_cons];omega
theorem Mid.last (h:Mid c K m done nx [] t0) (hn:t0 <=now /\ now <=t0+5) (hg:gud c K nx) (hK:0 <=K.n /\ K.n <=900000):(K.req m now).1.lo /\ (K.req m now).2.2=some (c.name,c.nonce,done++[nx],zD (K.n+1)) /\
 c.take (K.req m now).1 now x=({c with session:=zD (K.n+1),ended:=true,on:=false,z3:=false},zi,0):=by
 obtain ⟨s0,K1,hr,k1⟩:=h.good hn hg;have hlen:(done++[nx]).length=K.u.set.length:=by rw [h.set]
 have hr2:K.req m now=(kz c.ak c.nonce c.base (zD (K.n+1)) (zD (K.n+1+1)) (tkt K.key c.name (zD (K.n+1)) (done++[nx]) now),K1.tktK,some (c.name,c.nonce,done++[nx],zD (K.n+1))):=by
  rw [hr,ztq hlen];unfold Kd.tktT;rw [k1.n,k1.key];rfl
 rw [hr2];simp only;refine ⟨?_,trivial,?_⟩
 ·obtain ⟨s,y,hm,hb,hs,hy⟩:=h.ex;have inx:=h.im nx (by simp);have tb:=zAD h.tz inx hs hy;rw [<- hb]at tb;have hw:=zrx (l:=done++[nx]) fun d hd=>h.im d (by simpa using hd);have hl:=h.len;have d1:=(wG (n:=K.n+1) (by omega)).ti.b;have d2:=(wG (n:=K.n+1+1) (by omega)).ti.b;have hkb:=h.tz.kb;have hnn:=h.tz.n;have hnm:=h.tz.m;have htt:=h.t;have in3:inI 3:=by unfold inI;omega
  have t1:=zdt (k:=K.key) (t:=zj zfr [yF c.name,zD (K.n+1),zO (jU (done++[nx])),qb now]) (n:=3) in3;have hnum:(qb now).bulk <=25:=by
   show (yF (zq now)).bulk <=_;rw [zdj];have:=zb0 (n:=now) (by unfold inI;omega);omega
  rw [vZ,yz,yz,yz,yz,jt,zdj,zf6]at t1;have z1:zfr.size=6:=rfl;have t1':(tkt K.key c.name (zD (K.n+1)) (done++[nx]) now).bulk <=10000:=by
   unfold tkt;simp at hw hl;omega
  generalize tkt K.key c.name (zD (K.n+1)) (done++[nx]) now=t at *;have trep:(qu (zD (K.n+1+1)) c.base).bulk <=110000:=by
   unfold qu qq jr;rw [zh9,zf6,yz,yz,jt,wZ,wZ,yz,yz,jt];have j1:=(zbz (f:=zcj) (by show 13 <=90;omega)).2;have j2:=(zbz (f:=zcK) (by show 8 <=90;omega)).2;omega
  have t2:=zdt (k:=qu (zD (K.n+1+1)) c.base) (t:=zj kM [zD (K.n+1),yF c.nonce,z8 t]) (n:=3) in3;rw [vZ,yz,yz,yz,jt,zdj,zh9]at t2;have z2:kM.size=3:=rfl;have t3:=zrT h.tz (t:=zj vk [zD (K.n+1+1),z8 t]);rw [vZ,yz,yz,jt,zh9]at t3;have z3:vk.size=6:=rfl;have z4:zal.size=6:=rfl;unfold T.lo kz vU;rw [vZ,yz,yz,yz,jt];omega
 ·unfold kz;rw [zEm h.fz.on,zHO h.dn]
theorem Mid.bad (h:Mid c K m done nx rest t0) (hn:t0 <=now /\ now <=t0+5) (hg:¬gud c K nx):(K.req m now).1=qp 6 /\ (K.req m now).2.2=none:=by
 obtain ⟨s,y,hb,hs,hx,hr,hlo,htx⟩:=h.seen (now:=now) (by omega);have inx:isM nx:=h.im nx (by simp);have ht:=h.t;have hr:=hr (by omega);unfold gud at hg;rcases inx with e|e|e
 ·subst e;rw [if_neg vC]at hg;rw [hr,zuG (fun e=>hg e.symm) (by omega)];unfold Kd.reqC;rw [if_neg (show ¬(6:Int)=0 by decide)];exact ⟨rfl,rfl⟩
 ·subst e;rw [if_pos rfl]at hg;rw [hr,zu8 rfl hg (h.tk (by simp))];have hlen:=h.len;have hcl:=h.cl;have hlive:=Rf.live_len (now:=now) (l:=K.cache);have hseen:Rf.seenR K.room K.cache (prf c zG s y t0).txt (now+100+1) now=(0,Rf.insR (prf c zG s y t0).txt (now+100+1) (Rf.liveC now K.cache)):=by
   unfold Rf.seenR;rw [if_neg (by omega),zl9]
   ·simp only;rw [if_neg (by rw [h.rm];omega)]
   ·intro e he;obtain ⟨d,hd,hde⟩:=h.ca e (List.mem_filter.1 he).1;intro heq;rw [heq,htx]at hde;have:=znR (.inr (.inl rfl)) (h.im d (by simp [hd])) (Option.some.inj hde);exact h.nd.1 (this▸hd)
  unfold Kd.reqC;rw [if_pos rfl,hseen];unfold Kd.reqS;rw [if_pos rfl,if_pos rfl];simp only;rw [h.tk (by simp),zEU];have hf:=h.fz.fl;unfold Kd.reqO;rw [if_neg (by show ¬5 <=K.u.fails;omega),if_neg (by decide)];exact ⟨rfl,rfl⟩
 ·subst e;rw [if_neg kL.symm]at hg;exact absurd (h.sp rfl).symm hg
end
end Abs
