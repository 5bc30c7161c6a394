/- The document's users: of one user. -/
import Derived.Test.YtdiebjbepfjjfaaGreatDoorG4
import Derived.Test.YtdiebjbepfjjfaaGreatDoorG3
set_option maxHeartbeats 16000000
set_option maxRecDepth 100000
set_option linter.unusedVariables false
set_option linter.unusedSimpArgs false
set_option linter.unusedSectionVars false
namespace Abs
open Go
structure Us where
 name:ByteArray
 key:T
 set:List ByteArray
 seed:T
 tok:Tk
 fails:Int
def Us.row(u:Us):List AV:=[.sc (.string u.name),.sc (.int .i64 u.key.kind),.sc (.string u.key.name),zh u.key.kids,zk u.set,.sc (.int .i64 u.seed.kind),.sc (.string u.seed.name),zh u.seed.kids,
 .sc (.int .i64 u.tok.counter),.sc (.int .i64 u.tok.look),.sc (.int .i64 u.tok.sync),.sc (.int .i64 u.tok.pending),.sc (.int .i64 u.tok.fails),.sc (.int .i64 u.tok.limit),.sc (.int .i64 u.fails)]
theorem Us.row_len{u:Us}:u.row.length=15:=rfl
theorem Us.row_cell{u:Us}:u.row.all AV.isCell=true:=rfl
@[simp] theorem Us.frz{S:AS}{b d:Nat}{u:Us}:zI (S.frzTo b d) u.row=some u.row:=by unfold Us.row;simp
@[simp] theorem Us.pure{u:Us}:jR u.row=true:=by unfold Us.row;simp
@[simp] theorem Us.nrm{u:Us}:yL u.row=u.row:=by unfold Us.row;simp
theorem Us.take{u:Us}:List.take 15 u.row=u.row:=rfl
def zU:Us:=⟨⟨#[]⟩,tZ,[],tZ,⟨0,0,0,0,0,0⟩,0⟩
theorem zjZ:zU.row=[.s ⟨#[]⟩,.i 0,.s ⟨#[]⟩,lstN 0 [],lstN 0 [],.i 0,.s ⟨#[]⟩,lstN 0 [],.i 0,.i 0,.i 0,.i 0,.i 0,.i 0,.i 0]:=rfl
structure AtB(S:AS)(kb ub:Nat)(u:Us):Prop where
 h1:S.heap kb=some (.rows 1 [[.arr ub 15 0 1 none]])
 h2:S.heap ub=some (.rows 15 [u.row])
structure IsB(S:AS)(kb ub:Nat)(u:Us):Prop extends AtB S kb ub u where
 r1:S.ro<=kb
 r2:S.ro<=ub
 l1:kb<S.n
 l2:ub<S.n
 ne:kb≠ub
def qN(kb ub x:Nat):Prop:=x=kb\/x=ub
section
variable{S:AS}{kb ub:Nat}{u:Us}
def u0(u:Us)(n:ByteArray):Int:=if u.name=n then 0 else -1
def isM(s:ByteArray):Prop:=s=zr\/s=yg\/s=yo
theorem zJw{s:ByteArray}(h:isM s):call 464 [.sc (.string s)] S=some (.sc (.bool true),S):=by
 rw[zi zyf rfl (by simp) rfl];rcases h with rfl|rfl|rfl<;>simp[ziD,zqP,zr,yg,yo]
def Us.okk(u:Us):Prop:=u.name≠⟨#[]⟩/\(1<=u.set.length/\u.set.length<=3)/\(0<=u.fails/\u.fails<=1099511627776)/\u.tok.right=true/\(∀s∈u.set,isM s)/\∀(i j:Nat) (s:ByteArray),u.set[i]?=some s->u.set[j]?=some s->i=j
theorem zJq(h:u.okk):call 416 [.agg u.row] S=some (.sc (.bool true),S):=by
 obtain⟨E,⟨F,G⟩,⟨H,I⟩,J,K,L⟩:=h;rw[zi zx0 rfl (by simp) rfl];have d:=fun S=>@zm2 S u.tok;rw[J]at d;have z:=@Us.row_cell u;have o:=@Us.row_len u;have M:=@Us.take u;have r0:u.row.take 1=[.sc (.string u.name)]:=rfl;have y:(u.row.drop 4).take 1=[zk u.set]:=rfl;have N:(u.row.drop 8).take 6=u.tok.cells:=rfl;have A:(u.row.drop 14).take 1=[.sc (.int .i64 u.fails)]:=rfl;have O:¬(u.set.length:Int)<1:=by omega
 have P:¬(3:Int)<u.set.length:=by omega
 have Q:¬u.fails<0:=by omega
 have T:¬1099511627776<u.fails:=by omega
 have p:u.row.drop 14=[.sc (.int .i64 u.fails)]:=rfl;generalize u.row=r at *;simp only[zis];simp[-zg,zqG,z,o,M,r0,y,N,A,p,E,O,P,Q,T,d];have out:∀(r:Option (AV×AS)),r=some (.sc (.bool true),{S with ro:=S.n})->zW S r=some (.sc (.bool true),S):=by rintro _ rfl;simp
 refine y8 (α:=Nat) (R:=fun _ r=>zW S r=some (.sc (.bool true),S)) (fun i e rg S'=>i<=u.set.length/\S'={S with ro:=S.n}/\rg 1=some r/\e 1=.reg 1 0/\e 3=.sc (.int .i64 (i:Nat))) (fun i=>u.set.length-i) ?_ 0 _ _ _ ?_;rotate_left
 ·refine⟨by omega,rfl,by simp,?_,by simp⟩;simp
 intro kk B i e rg S' ⟨hi,j,a,f,g⟩ ih;subst j;by_cases z:i<u.set.length
 ·obtain⟨s,C⟩:∃s,u.set[i]?=some s:=⟨u.set[i],by simp[z]⟩;have l:(i:Int)<(u.set.length:Int):=by omega
  have q:=fun S=>@zJw S s (K s (xaj C));have t:=wb C;have U:IntKind.i64.wrap ((i:Int)+1)=((i+1:Nat):Int):=w64 (by omega);simp[-zg,zlo,o,a,f,g,y,l,t,q];refine y8 (α:=Nat) (R:=fun _ r=>zW S r=some (.sc (.bool true),S)) (fun k e rg S'=>k<=i/\S'={S with ro:=S.n}/\rg 1=some r/\e 1=.reg 1 0/\e 3=.sc (.int .i64 (i:Nat))/\e 4=.sc (.int .i64 (k:Nat))) (fun k=>i-k) ?_ 0 _ _ _ ?_;rotate_left
  ·exact⟨by omega,rfl,by simp[a],by simp[f],by simp[g],by simp⟩
  intro V v k e rg S' ⟨W,j,a,f,g,D⟩ ih2;subst j;by_cases X:k<i
  ·obtain⟨Y,m⟩:∃s,u.set[k]?=some s:=⟨u.set[k]'(by omega),by simp[show k<u.set.length by omega]⟩;have b:(k:Int)<(i:Int):=by omega
   have w:=wb m;have x:Y≠s:=fun e=>by rw[e]at m;have:=L k i s m C;omega
   have Z:IntKind.i64.wrap ((k:Int)+1)=((k+1:Nat):Int):=w64 (by omega);simp[-zg,zln,o,a,f,g,D,y,b,t,w,x.symm,x,Z];exact ih2 (k+1) _ _ _ (by omega) (fun _ h=>h) ⟨by omega,rfl,by simp[a],by simp[f],by simp[g],by simp⟩
  ·have b:¬(k:Int)<(i:Int):=by omega
   simp[-zg,zln,o,a,f,g,D,b];rw[v];simp[-zg,g,U];exact ih (i+1) _ _ _ (by omega) (fun _ h=>h) ⟨by omega,rfl,by simp[a],by simp[f],by simp⟩
 ·have l:¬(i:Int)<(u.set.length:Int):=by omega
  simp[-zg,zlo,o,a,f,g,y,l];rw[B];simp
end
structure AtBm(S:AS)(kb ub:Nat)(us:List Us)(i:Nat)(u:Us):Prop where
 h1:S.heap kb=some (.rows 1 [[.arr ub 15 0 us.length none]])
 h2:S.heap ub=some (.rows 15 ((us.set i u).map Us.row))
 hi:i<us.length
 fr:∀(j:Nat) (v:Us),us[j]?=some v->j<i->v.name≠u.name
 sm:us.length<=1000
structure jt(S:AS)(kb ub:Nat)(us:List Us)(i:Nat)(u:Us):Prop extends AtBm S kb ub us i u where
 r1:S.ro<=kb
 r2:S.ro<=ub
 l1:kb<S.n
 l2:ub<S.n
 ne:kb≠ub
def vD(us:List Us)(i:Nat)(u:Us)(n:ByteArray):Prop:=u.name=n\/∀v∈us.set i u,v.name≠n
section
variable{S:AS}{kb ub:Nat}{us:List Us}{i:Nat}{u:Us}
theorem AtBm.ro(h:AtBm S kb ub us i u)(r:Nat):AtBm {S with ro:=r} kb ub us i u:=⟨h.h1,h.h2,h.hi,h.fr,h.sm⟩
theorem AtBm.list(h:AtBm S kb ub us i u)(d:Option Nat)(rg:Nat->Option (List AV)):ze (.ld none 1 false) d rg S [.ptr kb 0 0]=some (.arr ub 15 0 us.length none,none,S):=by rw[zY h.h1];rfl
theorem AtBm.get(h:AtBm S kb ub us i u):(us.set i u)[i]?=some u:=by rw[List.getElem?_set_self h.hi]
theorem AtBm.rget(h:AtBm S kb ub us i u):((us.set i u).map Us.row)[i]?=some u.row:=by rw[xat,h.get];rfl
theorem atm{j:Nat}(a:j<us.length):pev (.iaddr 15) [.arr ub 15 0 us.length none,.sc (.int .i64 (j:Int))]=some (.ptr ub j 0):=by
 rw[zdW (by omega) (by omega)];simp
theorem AtBm.vname(h:AtBm S kb ub us i u){j:Nat}{v:Us}(a:(us.set i u)[j]?=some v)(d:Option Nat)(rg:Nat->Option (List AV)):ze (.ld none 1 false) d rg S [.ptr ub j 0]=some (.sc (.string v.name),none,S):=by
 rw[zY h.h2,xat,a];rfl
theorem AtBm.ufails(h:AtBm S kb ub us i u)(d:Option Nat)(rg:Nat->Option (List AV)):ze (.ld none 1 false) d rg S [.ptr ub i 14]=some (.sc (.int .i64 u.fails),none,S):=by rw[zY h.h2,h.rget];rfl
theorem AtBm.utok(h:AtBm S kb ub us i u)(d:Option Nat)(rg:Nat->Option (List AV)):ze (.ld none 6 true) d rg S [.ptr ub i 8]=some (.agg u.tok.cells,none,S):=by rw[zY h.h2,h.rget];rfl
theorem AtBm.urow(h:AtBm S kb ub us i u)(d:Option Nat)(rg:Nat->Option (List AV)):ze (.ld none 15 true) d rg S [.ptr ub i 0]=some (.agg u.row,none,S):=by rw[zY h.h2,h.rget];rfl
def um(i:Nat)(u:Us)(n:ByteArray):Int:=if u.name=n then(i:Int)else -1
theorem zfC(h:AtBm S kb ub us i u){n:ByteArray}(G:vD us i u n):call 345 [.ptr kb 0 0,.sc (.string n)] S=some (.sc (.int .i64 (um i u n)),S):=by
 rw[zi zj7 rfl (by simp) rfl];simp only[zdl];simp[-zg,zhU];have x:=h.ro S.n;have F:(us.set i u).length=us.length:=List.length_set;have H:=h.sm;refine y8 (α:=Nat) (R:=fun _ r=>zW S r=some (.sc (.int .i64 (um i u n)),S)) (fun q e rg S'=>q<=us.length/\S'={S with ro:=S.n}/\e 0=.ptr kb 0 0/\e 1=.sc (.string n)/\e 5=.sc (.int .i64 (q:Nat))/\(∀(j:Nat) (v:Us),j<q->(us.set i u)[j]?=some v->v.name≠n)) (fun q=>us.length-q) ?_ 0 _ _ _ ?_;rotate_left
 ·exact⟨by omega,rfl,by simp,by simp,by simp,by intro j v h;omega⟩
 intro J m q e rg S' ⟨K,z,y,A,B,d⟩ ih;subst z;by_cases C:q<us.length
 ·obtain⟨v,o⟩:=yV (l:=us.set i u) (i:=q) (by omega);have p:=x.vname o;have s:(q:Int)<(us.length:Int):=by omega
  have t:=@atm ub us q C;have I:IntKind.i64.wrap ((q:Int)+1)=((q+1:Nat):Int):=w64 (by omega);by_cases f:v.name=n
  ·have a:u.name=n:=by
    rcases G with h|h
    ·exact h
    ·exact absurd f (h v (xaj o))
   have D:q=i:=by
    rcases Nat.lt_trichotomy q i with b|b|b
    ·rw[List.getElem?_set_ne (by omega)]at o;exact absurd (f.trans a.symm) (h.fr q v o b)
    ·exact b
    ·exact absurd a (d i u b h.get)
   have g:um i u n=(q:Int):=by unfold um;rw[if_pos a,D]
   rw[g];have k:(v.name=n)=True:=eq_true f;simp[-zg,zdm,y,A,B,x.list,s,C,t,p,k];rw[m];simp
  ·have k:(v.name=n)=False:=eq_false f;simp[-zg,zdm,y,A,B,x.list,s,C,t,p,k,I];refine ih (q+1) _ _ _ (by omega) (fun _ h=>h) ⟨by omega,rfl,by simp[y],by simp[A],by simp,fun j w L E=>?_⟩;rcases Nat.lt_or_ge j q with b|b
   ·exact d j w b E
   ·have:j=q:=by omega
    subst this;rw[o]at E;cases E;exact f
 ·have f:q=us.length:=by omega
  subst f;have a:u.name≠n:=fun e=>d i u h.hi h.get e;have g:um i u n= -1:=by unfold um;rw[if_neg a]
  rw[g];simp[-zg,zdm,y,B,x.list];rw[m];simp
theorem zst(h:AtBm S kb ub us i u){n:ByteArray}(a:vD us i u n):call 339 [.ptr kb 0 0,.sc (.string n)] S=some (if u.name=n then .tup [.agg u.row,.b true]else .tup [.agg zU.row,.b false],S):=by
 rw[zi zxm rfl (by simp) rfl];have f:=h.ro S.n;have vt:=zfC (n:=n) f a;have g:=f.urow;have j:=@atm ub us i h.hi;have e:¬(i:Int)<0:=by omega
 by_cases a:u.name=n
 ·simp only[um,if_pos a]at vt;rw[if_pos a];have k:=@Us.row_cell u;have l:=@Us.row_len u;have m:=@Us.take u;have o:=fun S b d=>@Us.frz S b d u;have hp:=@Us.pure u;generalize u.row=r at *;simp[ze1,zlg,vt,f.list,j,e,g,k,l,m,o,hp]
 ·simp only[um,if_neg a]at vt;rw[if_neg a];simp[ze1,zlg,vt,zjZ]
theorem zCf(h:AtBm S kb ub us i u){n:ByteArray}(b:vD us i u n):call 341 [.ptr kb 0 0,.sc (.string n)] S=some (.sc (.bool (!(decide (u.name=n))||decide (5<=u.fails))),S):=by
 rw[zi zxo rfl (by simp) rfl];have d:=h.ro S.n;have a:=zst (n:=n) d b;by_cases b:u.name=n
 ·rw[if_pos b]at a;simp[ze2,zli,a,b,Us.row]
 ·rw[if_neg b]at a;simp[ze2,zli,a,b,zjZ]
theorem jt.keep(h:jt S kb ub us i u){S':AS}(a:S'.ro=S.ro)(b:S.n<=S'.n)(d:∀x,x<S.n->qN kb ub x->S'.heap x=S.heap x):jt S' kb ub us i u:=
 ⟨⟨(d _ h.l1 (.inl rfl)).trans h.h1,(d _ h.l2 (.inr rfl)).trans h.h2,h.hi,h.fr,h.sm⟩,by rw[a];exact h.r1,by rw[a];exact h.r2,xan h.l1 b,xan h.l2 b,h.ne⟩
theorem jt.lts(h:jt S kb ub us i u){x:Nat}(a:qN kb ub x):x<S.n:=by
 rcases a with rfl|rfl
 ·exact h.l1
 ·exact h.l2
theorem zHW{u':Us}:((us.set i u).map Us.row).set i u'.row=(us.set i u').map Us.row:=by rw[<-List.map_set,List.set_set]
theorem jt.st(h:jt S kb ub us i u){col sz:Nat}{x:AV}{u':Us}(b:x.cells.length=sz)(e:x.cells.all AV.isCell=true)(f:setCells u.row col x.cells=u'.row)(a:col+sz<=15)(d:Option Nat)(rg:Nat->Option (List AV)):
 ze (.st none sz) d rg S [.ptr ub i col,x]=some (.junk,none,S.set ub (some (.rows 15 ((us.set i u').map Us.row)))):=by
 simp only[ze,h.h2];rw[if_pos ⟨h.r2,e,b⟩,h.rget];simp only[xae];rw[if_pos (show col+sz<=u.row.length from a),f,zHW]
theorem jt.set(h:jt S kb ub us i u){u':Us}(a:u'.name=u.name):jt (S.set ub (some (.rows 15 ((us.set i u').map Us.row)))) kb ub us i u':=
 ⟨⟨(if_neg h.ne).trans h.h1,if_pos rfl,h.hi,fun j v b d=>by rw[a];exact h.fr j v b d,h.sm⟩,h.r1,h.r2,h.l1,h.l2,h.ne⟩
theorem jt.chg{l:List (List AV)}:Chg S (S.set ub (some (.rows 15 l))) (qN kb ub) (qN kb ub):=⟨rfl,xad _,fun x _ a=>⟨if_neg fun e=>a (.inr e),a⟩⟩
theorem zsy(h:jt S kb ub us i u)(f:0<=u.fails/\u.fails<4611686018427387904):∃S',call 242 [.ptr kb 0 0,.sc (.string u.name)] S=some (.sc (.int .i64 0),S')/\jt S' kb ub us i {u with fails:=u.fails+1}/\Chg S S' (qN kb ub) (qN kb ub):=by
 rw[z8 zwm (by simp) rfl];have vt:=zfC (n:=u.name) h.toAtBm (.inl rfl);simp only[um,if_true]at vt;have b:=@atm ub us i h.hi;have a:¬(i:Int)<0:=by omega
 have e:IntKind.i64.wrap (u.fails+1)=u.fails+1:=w64 (by omega);have d:=h.st (col:=14) (sz:=1) (x:=.sc (.int .i64 (u.fails+1))) (u':={u with fails:=u.fails+1}) rfl rfl rfl (by omega);refine⟨_,?_,h.set (u':={u with fails:=u.fails+1}) rfl,jt.chg⟩;simp[zhl,zpL,vt,h.list,b,a,h.ufails,e,d]
theorem zCy(h:jt S kb ub us i u):∃S',call 349 [.ptr kb 0 0,.sc (.string u.name)] S=some (.sc (.int .i64 0),S')/\jt S' kb ub us i {u with fails:=0}/\Chg S S' (qN kb ub) (qN kb ub):=by
 rw[z8 zxv (by simp) rfl];have vt:=zfC (n:=u.name) h.toAtBm (.inl rfl);simp only[um,if_true]at vt;have b:=@atm ub us i h.hi;have a:¬(i:Int)<0:=by omega
 have d:=h.st (col:=14) (sz:=1) (x:=.sc (.int .i64 0)) (u':={u with fails:=0}) rfl rfl rfl (by omega);refine⟨_,?_,h.set (u':={u with fails:=0}) rfl,jt.chg⟩;simp[zhW,zql,vt,h.list,b,a,d]
theorem zCw(h:jt S kb ub us i u){l:List Int}(f:l.length<=4611686018427387904)(j:u.tok.fails<4611686018427387904):
 ∃S',call 244 [.ptr kb 0 0,.sc (.string u.name),yi l] S=some (.tup (if 5<=u.fails then[.i 0,.i 7]else[.sc (.int .i64 (u.tok.accept l).2.1),.sc (.int .i64 (u.tok.accept l).2.2)]),S')/\jt S' kb ub us i (if 5<=u.fails then u else {u with tok:=(u.tok.accept l).1})/\Chg S S' (qN kb ub) (qN kb ub):=by
 rw[z8 zwo (by simp) rfl];have vt:=zfC (n:=u.name) h.toAtBm (.inl rfl);simp only[um,if_true]at vt;have d:=@atm ub us i h.hi;have a:¬(i:Int)<0:=by omega
 by_cases e:5<=u.fails
 ·refine⟨S,?_,by rw[if_pos e];exact h,Chg.refl⟩;simp[f244,zk5,vt,h.list,d,a,h.ufails,e]
 ·rw[if_neg e,if_neg e];have b:=fun S=>@zJh S u.tok l f j;have g:=h.st (col:=8) (sz:=6) (x:=.agg (u.tok.accept l).1.cells) (u':={u with tok:=(u.tok.accept l).1}) rfl rfl rfl (by omega);refine⟨_,?_,h.set (u':={u with tok:=(u.tok.accept l).1}) rfl,jt.chg⟩;generalize u.tok.accept l=r at *;unfold wM at b;have k:r.1.cells.all AV.isCell=true:=rfl;have f:r.1.cells.length=6:=rfl;have m:List.take 6 r.1.cells=r.1.cells:=rfl;generalize r.1.cells=o at *;generalize S.set ub _=S' at *;simp[f244,zk5,vt,h.list,d,a,h.ufails,e,h.utok,b,wM,k,f,m,g]
end
section
variable{S:AS}
theorem zzt{l:List Int}(a:l.length*8<=140737488355328):call 486 [yi l] S=some (.arr S.n 1 0 l.length none,S.new (.rows 1 (zV l))):=by
 rw[show call 486 [yi l] S=jN 1 8 [yi l] S from zbh zyj (by simp)];have:zD 1 S (yi l)=some (zV l):=by unfold yi lstN;cases l<;>simp[zD,zV]
 show(zD 1 S (yi l)).bind _=_;rw[this];have b:(zV l).length=l.length:=by simp[zV]
 simp only[xae,b];rw[if_pos a]
def inF(f t x:Int):Bool:=inB x f (min t 1099511627775)
theorem zBI{f t x:Int}:call 487 [.sc (.int .i64 x),.iptr [.sc (.int .i64 f)],.iptr [.sc (.int .i64 t)]] S=some (.sc (.bool (!(inF f t x))),S):=by
 rw[z8 zyk (by simp) rfl];have e:=fun S n a b=>@zuk S n a b;simp[ziH,zqS,e,inF]
theorem zBJ{id n:Nat}{lim:Option Nat}{m r:List Int}{a:Int}(h:Mem S id m)(g:m.take n=a::r)(I:n<=4611686018427387904)(C:n<=m.length):call 488 [.arr id 1 0 n lim] S=some (.sc (.int .i64 (r.foldl min a)),S):=by
 rw[z8 zyl (by simp) rfl];have b:(m.take n).length=r.length+1:=by rw[g];rfl
 have D:r.length+1=min n m.length:=by rw[<-b,List.length_take]
 have f:pev (.iaddr 1) [.arr id 1 0 n lim,.i 0]=some (.ptr id 0 0):=by
  rw[show(AV.i 0)=.sc (.int .i64 ((0:Nat):Int))from rfl,zdW (by omega) (by omega)];rfl
 have E:m[0]?=some a:=by
  have:(m.take n)[0]?=some a:=by rw[g];rfl
  rw[xaq]at this;split at this
  ·exact this
  ·cases this
 have j:=fun d rg=>@Mem.ld S id m h 0 a E d rg
 ·have k:((n:Int)<1)=False:=eq_false (by omega);simp only[ziI];simp[zqT,k,f,j];refine y8 (α:=Nat) (R:=fun _ x=>x=some (.sc (.int .i64 (r.foldl min a)),S)) (fun i e rg S'=>1<=i/\i<=n/\S'=S/\e 0=.arr id 1 0 n lim/\e 4=.sc (.int .i64 (i:Nat))/\e 3=.sc (.int .i64 ((r.take (i-1)).foldl min a))) (fun i=>n-i) ?_ 1 _ _ _ ?_;rotate_left
  ·exact⟨xad _,by omega,rfl,by simp,by simp,by simp⟩
  intro J o i e rg S' ⟨K,L,p,q,w,z⟩ ih;subst p;by_cases A:i<n
  ·obtain⟨y,B⟩:=yV (l:=m) (i:=i) (by omega);have s:pev (.iaddr 1) [.arr id 1 0 n lim,.sc (.int .i64 (i:Int))]=some (.ptr id i 0):=by
    rw[zdW (by omega) (by omega)];simp
   have t:=fun d rg=>@Mem.ld S' id m h i y B d rg;have v:(i:Int)<(n:Int):=by omega
   have F:IntKind.i64.wrap ((i:Int)+1)=((i+1:Nat):Int):=w64 (by omega);have G:r[i-1]?=some y:=by
    have:(m.take n)[i]?=some y:=by rw[xaq,if_pos A];exact B
    rw[g,show i=(i-1)+1 by omega,List.getElem?_cons_succ]at this;exact this
   simp[zls,q,w,z,A,v,s,t,F];refine ih (i+1) _ _ _ (by omega) (fun _ h=>h) ⟨by omega,by omega,rfl,by simp[q],by simp,?_⟩;rw[show i+1-1=(i-1)+1 by omega,xav,G];simp
  ·have H:i=n:=by omega
   subst H;simp[zls,q,w];rw[o];simp[z];rw[List.take_of_length_le (by omega)]
def fil(l:List Int)(f t:Int):List Int:=l.filter fun x=>!(!(inF f t x))
theorem zl4{f t:Int}(g:0<=f):∀(l:List Int) (b:Int),0<=b->l.foldl (jZ f t) b=(fil l f t).foldl min b
 |[],b,_=>rfl
 |x::l,b,hb=>by
  rw[List.foldl_cons];unfold fil;rw[List.filter_cons];by_cases a:inF f t x=true
  ·rw[a];simp only[Bool.not_true,Bool.not_false,if_true,List.foldl_cons];have d:f<=x/\x<=min t 1099511627775:=by unfold inF inB at a;simpa using a
   have e:jZ f t b x=min b x:=by unfold jZ;split<;>omega
   rw[e];exact zl4 g l _ (by omega)
  ·rw[Bool.not_eq_true]at a;rw[a];simp only[Bool.not_false,Bool.not_true,xau,if_false];have d:¬(f<=x/\x<=min t 1099511627775):=by unfold inF inB at a;intro h;simp at a;have:=a h.1;omega
   have e:jZ f t b x=b:=by unfold jZ;rw[if_neg (by omega)]
   rw[e];exact zl4 g l b hb
theorem zsr{f t:Int}(b:0<=f):∀(l:List Int),fil l f t=[]->l.foldl (jZ f t) (-1)= -1
 |[],_=>rfl
 |x::l,h=>by
  unfold fil at h;rw[List.filter_cons]at h;split at h
  ·cases h
  ·rename_i a;have d:¬(f<=x/\x<=min t 1099511627775):=by unfold inF inB at a;intro g;simp at a;have:=a g.1;omega
   have e:jZ f t (-1) x= -1:=by unfold jZ;rw[if_neg (by omega)]
   rw[List.foldl_cons,e];exact zsr b l h
theorem zsq{f t:Int}(j:0<=f):∀(l:List Int) {a:Int} {r:List Int},fil l f t=a::r->l.foldl (jZ f t) (-1)=r.foldl min a/\0<=r.foldl min a
 |[],_,_,h=>by cases h
 |x::l,a,r,h=>by
  unfold fil at h;rw[List.filter_cons]at h;split at h
  ·rename_i d;cases h;have g:f<=x/\x<=min t 1099511627775:=by unfold inF inB at d;simpa using d
   have e:jZ f t (-1) x=x:=by unfold jZ;rw[if_pos (by omega)]
   rw[List.foldl_cons,e];refine⟨zl4 j l x (by omega),?_⟩;have:∀(m:List Int) (b:Int),0<=b->(∀y∈m,0<=y)->0<=m.foldl min b:=by
    intro m
    induction m with
    |nil=>intro b k _;exact k
    |cons y m ih=>intro b k n;rw[List.foldl_cons];have:=n y (by simp);exact ih _ (by omega) fun z o=>n z (by simp[o])
   refine this _ _ (by omega) fun y p=>?_;have:=(List.mem_filter.1 p).2;unfold inF inB at this;simp at this;omega
  ·rename_i d;have g:¬(f<=x/\x<=min t 1099511627775):=by unfold inF inB at d;intro q;simp at d;have:=d q.1;omega
   have e:jZ f t (-1) x= -1:=by unfold jZ;rw[if_neg (by omega)]
   rw[List.foldl_cons,e];exact zsq j l h
def ziV(n:Int):AV:=.tup [.sc (.int .i64 (if n<0 then 0 else n)),.sc (.bool (decide (0<=n)))]
theorem zm4{l:List Int}{f t:Int}(C:0<=f)(I:l.length<=1000000):call 472 [yi l,.sc (.int .i64 f),.sc (.int .i64 t)] S=some (ziV (jv l f t),S):=by
 rw[zi zyh rfl (by simp) rfl];have o:=@zzt {S with ro:=S.n} l (by omega);have D:Mem (({S with ro:=S.n}:AS).new (.rows 1 (zV l))) S.n l:=jX;have E:l.take l.length=l:=xax;obtain⟨J,b,K,L,v,F,h⟩:=zr3 (S:=({S with ro:=S.n}:AS).new (.rows 1 (zV l))) (id:=S.n) (m:=l) (n:=l.length) (lim:=none) (k:=487) (cap:=[.iptr [.sc (.int .i64 f)],.iptr [.sc (.int .i64 t)]]) (g:=fun x=>!(inF f t x)) D (xad _) (xad _) (by omega) rfl (fun S' _ x _=>zBI);rw[E]at b h;have y:(l.filter fun x=>!(!(inF f t x)))=fil l f t:=rfl;rw[y]at b h;have d:call 486 [yi l] {S with ro:=S.n}=some (.arr S.n 1 0 l.length none,({S with ro:=S.n}:AS).new (.rows 1 (zV l))):=o;unfold jv;have z:(fil l f t).length<=l.length:=List.length_filter_le _ _;cases j:fil l f t with
 |nil=>
  rw[j]at b;rw[zsr C l j];simp[zfe,zlr,d,b,ziV]
 |cons a r=>
  rw[j]at b h z;obtain⟨G,H⟩:=zsq C l j;rw[G];have p:=zBJ (lim:=none) v h (by omega) (by omega);have s:((((a::r).length:Nat):Int)=0)=False:=eq_false (by simp;omega);have A:¬r.foldl min a<0:=by omega
  generalize(a::r).length=q at *;generalize r.foldl min a=w at *;have B:¬q=0:=fun e=>by simp[e]at s
  simp[zfe,zlr,d,b,s,B,p,ziV,A,H]
end
def Cl.start(c:Cl)(nonce:ByteArray)(sub:T):Cl:={c with on:=true,done:=false,ended:=false,nonce:=nonce,body:=wO c.name nonce,wrap:=zfY c.ticket c.host sub,ak:=kK sub c.host,base:=tZ,session:=tZ,z1:=false,z2:=true,z3:=true}
section
variable{S:AS}{id:Nat}{c:Cl}{mv:AV}
end
def zfl:ByteArray:=⟨#[102,105,110,105,115,104]⟩
def zeD:ByteArray:=⟨#[101,110,99]⟩
def Cl.endL(c:Cl)(a:T):List T×Int->Cl×Int
 |([b,l1,l2],0)=>if l1.same (yU c.nonce)&&l2.same (yC a)then({c with session:=b,ended:=true,on:=false,z3:=false},0)else(c,6)
 |(_,e)=>(c,e)
def Cl.endF(c:Cl)(a enc:T):List T×Int->Cl×Int
 |([f0,f1],0)=>if f1.same (yC a)then c.endL a (kG zeD 3 (jz (zcG f0 c.base) 3 enc))else(c,6)
 |(_,e)=>(c,e)
def Cl.ends(c:Cl)(a enc b:T):Cl×Int:=if c.done then c.endF a enc (kG zfl 2 (kP c.ak c.nonce b))else(c,11)
section
variable{S:AS}{id:Nat}{c:Cl}{mv:AV}
theorem j3:inI 3:=by unfold inI;omega
end
section
variable{S:AS}
end
structure Ck.bd(c:Ck):Prop where
 client:c.client.size+1<=140737488355328
 nonce:c.nonce.size+1<=140737488355328
 done:c.done.length*48<=140737488355328
 names:∀s∈c.done,s.size+1<=140737488355328
 upto:inI c.upto
 secret:c.secret.bd 140737488355328
 ofit:c.secret.ofit
theorem Ck.bd.ok{c:Ck}(h:c.bd):c.ok where
 client:=by have:=h.client;omega
 nonce:=by have:=h.nonce;omega
 done:=h.done
 names:=fun s hs=>by have:=h.names s hs;omega
 upto:=h.upto
 fits:=T.fits_bd (by omega) h.secret
 ofit:=h.ofit
section
variable{S:AS}
theorem zHj{key t:T}{now:Int}(b:key.bd 140737488355328)(d:key.ofit)(e:t.bd 140737488355328)(a:t.ofit):
 call 112 [.agg key.cells,.agg t.cells,.sc (.int .i64 now)] S=some (.tup [.agg (jg key t now).1.cells,.sc (.int .i64 (jg key t now).2)],S):=zGj (T.fits_bd (by omega) b) d e a
theorem zuB{key:T}{c:Ck}(a:key.fit=true)(b:c.secret.fit=true):yJ key c=jI key (zS (jE c)):=by
 unfold yJ;rw[a,b];rfl
theorem zab{k:Int}{n:ByteArray}{l:List T}:(T.mk k n l).bulk=n.size+yF l+4:=by rw[T.bulk];omega
theorem jA:yF []=0:=by rw[yF]
theorem yA{t:T}{l:List T}:yF (t::l)=t.bulk+yF l:=by rw[yF]
theorem n0:(⟨#[]⟩:ByteArray).size=0:=rfl
theorem zc2{s:ByteArray}:(zP s).bulk=s.size+4:=by unfold zP;rw[zab,jA]
theorem zcT{s:ByteArray}:(zB s).bulk=s.size+4:=by unfold zB;rw[zab,jA]
theorem zfM{l:List T}:(zS l).bulk=yF l+4:=by unfold zS;rw[zab,n0];omega
theorem zoP{a b:T}:(jI a b).bulk=a.bulk+b.bulk+4:=by unfold jI;rw[zab,n0,yA,yA,jA];omega
def zaw:List ByteArray->Nat
 |[]=>0
 |s::l=>s.size+5+zaw l
theorem zoI:∀{l:List ByteArray},yF (y7 l)=zaw l
 |[]=>jA
 |s::l=>by
  have e:y7 (s::l)=zP (⟨#[100]⟩++s)::y7 l:=rfl;rw[e,yA,zc2,zoI,xai,zaw];have:(⟨#[100]⟩:ByteArray).size=1:=rfl;omega
theorem zze{c:Ck}(h:inI c.upto):yF (jE c)<=c.client.size+c.nonce.size+zaw c.done+c.secret.bulk+100:=by
 have a:=vN h.1 h.2;have b:(⟨#[99,111,111,107,105,101]⟩:ByteArray).size=6:=rfl;have d:(⟨#[99]⟩:ByteArray).size=1:=rfl;have e:(⟨#[110]⟩:ByteArray).size=1:=rfl;have f:(⟨#[117]⟩:ByteArray).size=1:=rfl;unfold jE;rw[yA,yA,yA,yA,yA,yA,jA,zc2,zc2,zc2,zc2,zfM,zoI,xai,xai,xai];omega
theorem zJI{key:T}{c:Ck}(h:inI c.upto):(yJ key c).bulk<=key.bulk+c.client.size+c.nonce.size+zaw c.done+c.secret.bulk+200:=by
 unfold yJ;split
 ·have:=zze h;rw[zoP,zfM];omega
 ·unfold vA;rw[zab,n0,jA];omega
end
@[simp] theorem Ck.dr7(c:Ck):c.cells.drop 7=[]:=rfl
structure Ck.sm(c:Ck):Prop where
 client:c.client.size<=1073741824
 nonce:c.nonce.size<=1073741824
 done:zaw c.done<=1073741824
 secret:c.secret.bulk<=1073741824
 upto:inI c.upto
mutual
theorem T.bd_mono{r b:Nat}(a:r<=b):∀{t:T},t.bd r->t.bd b
 | .mk _ _ l,h=>⟨by have:=h.1;omega,by have:=h.2.1;omega,zn9 a h.2.2⟩
theorem zn9{r b:Nat}(a:r<=b):∀{l:List T},bdL r l->bdL b l
 |[],_=>trivial
 |t::l,h=>⟨T.bd_mono a h.1,zn9 a h.2⟩
end
theorem zkp{t:T}(h:t.bulk<=1099511627776):t.bd 140737488355328:=T.bd_mono (r:=48*1099511627776) (by omega) (T.bd_bulk h)
section
variable{S:AS}
theorem zyV{key t:T}{now:Int}(a:key.bulk<=1099511627776)(b:t.bulk<=1099511627776):
 call 112 [.agg key.cells,.agg t.cells,.sc (.int .i64 now)] S=some (.tup [.agg (jg key t now).1.cells,.sc (.int .i64 (jg key t now).2)],S):=
 zHj (zkp a) (T.ofit_bulk a) (zkp b) (T.ofit_bulk b)
theorem zuC{key:T}{c:Ck}:(yJ key c).kind=if key.fit&&c.secret.fit then 4 else 0:=by
 unfold yJ;split<;>rfl
end
def T.lo(t:T):Prop:=t.bulk<=1099511627776
theorem T.lo.bb{t:T}(h:t.lo):t.bb:=zkp h
theorem T.lo.kid{t u:T}(h:t.lo)(a:u∈t.kids):u.lo:=by have:=T.bulk_kid a;unfold T.lo at *;omega
theorem qr:tZ.lo:=by show(T.mk 0 ⟨#[]⟩ []).bulk<=_;rw[T.bulk,jA];show 0+0+4<=_;omega
theorem zKp{k t:T}{n:Int}(h:t.lo):(jz k n t).1.lo:=by
 unfold jz;split
 ·unfold vB;split
  ·rename_i a b d;split
   ·exact h.kid (by rw[d];simp)
   ·exact qr
  ·exact qr
 ·exact qr
theorem zGf{tag:ByteArray}{n:Nat}{r:T×Int}(h:r.1.lo):∀u∈(kG tag n r).1,u.lo:=by
 rcases zfJ (tag:=tag) (n:=n) (r:=r)with⟨l,_,e,_,b,_⟩|⟨d,_,e,_⟩
 ·rw[e];exact fun u a=>h.kid (b u a)
 ·rw[e];intro u a;cases a
theorem zuA{k t:T}{u:Int}{tag:ByteArray}{n:Nat}(h:t.lo):∀x∈(qP k u t tag n).1,x.lo:=zGf (zKp h)
theorem zyv{k t:T}{n:ByteArray}(h:t.lo):(kP k n t).1.lo:=by
 have g:=zuA (k:=k) (u:=52) (tag:=kQ) (n:=2) h;unfold kP;rcases za4 (k:=k) (t:=t) (u:=52) (tag:=kQ) (n:=2)with⟨l,f,d⟩|⟨e,j,f⟩
 ·obtain⟨a,b,rfl⟩:=zaQ d;rw[f]at g ⊢;unfold zcO;simp only;split
  ·exact g b (by simp)
  ·exact qr
 ·rw[f];exact qr
theorem zkL{u l:T}(h:l.lo):(j9 u l).1.lo:=by
 unfold j9;split
 ·split
  ·rename_i p w b;have hp:p.lo:=h.kid (by rw[b];simp);unfold vW;split
   ·split
    ·rename_i x a;split
     ·exact hp.kid (by rw[a];simp)
     ·exact qr
    ·exact qr
   ·exact qr
  ·exact qr
 ·exact qr
theorem zJR{x y:T}(a:x.lo)(b:y.lo):zbc x y:=fun S=>zIx a b
def Cl.does(c:Cl)(o:T)(now:Int)(x:T):Cl×T×T×Int:=
 if jo o=zr then(c,za6 c.ak c.key c.body now,c.key,0)
 else if jo o=yg then(if(zcP c.ak o (ji c.seed c.counter)).2=0 then {c with counter:=c.counter+1} else c,(zcP c.ak o (ji c.seed c.counter)).1,jy c.ak 46,(zcP c.ak o (ji c.seed c.counter)).2)
 else if jo o=yo then(c,zes c.key c.body o x)
 else(c,tZ,tZ,2)
section
variable{S:AS}{id:Nat}{c:Cl}{mv:AV}
theorem i46:inI 46:=by unfold inI;omega
end
section
variable{S:AS}
@[simp] theorem zOD{a:T}:call 437 [.agg a.cells] S=some (.agg (tWd a).cells,S):=by
 rw[zi zx7 rfl (by simp) rfl];simp[ziw,zqI,tWd]
theorem zm0{x u:T}:call 370 [.agg x.cells,.agg u.cells] S=some (.agg (yT x u).cells,S):=by
 rw[zi zxI rfl (by simp) rfl];simp[zh9,zqw,yT]
theorem zJt{s w o a b:T}{n:Int}(d:inI n)(e:n≠ -9223372036854775808):call 438 [.agg s.cells,.agg w.cells,.agg o.cells,.agg a.cells,.agg b.cells,.sc (.int .i64 n)] S=some (.agg (zal s w o a b n).cells,S):=by
 rw[zi zx8 rfl (by simp) rfl];have f:∀(S:AS),call 385 [.lst 3 true [s.cells,w.cells,o.cells,a.cells,b.cells]] S=some (.agg (zS [s,w,o,a,b]).cells,S):=fun S=>zs4 (l:=[s,w,o,a,b]) (by simp) (by simp);have g:=fun S k=>@zjF S k n d e;simp[zix,zqJ,f,g,zal,zj]
theorem zjH{d u o a b:T}{n:Int}(e:inI n)(f:n≠ -9223372036854775808):call 371 [.agg d.cells,.agg u.cells,.agg o.cells,.agg a.cells,.agg b.cells,.sc (.int .i64 n)] S=some (.agg (zal d (tWd u) o a (yC b) n).cells,S):=by
 rw[zi zxJ rfl (by simp) rfl];have g:=fun S=>@zJt S d (tWd u) o a (yC b) n e f;simp[zia,zqx,g]
theorem zun{a b:T}(g:a.lo)(h:b.lo):call 372 [.agg a.cells,.agg b.cells] S=some (.agg (qH a b).cells,S):=by
 rw[zi zxK rfl (by simp) rfl];have d:=fun S=>@zcD S b h;have e:=fun S=>@zcD S a g;unfold qH;cases f:sLt b.txt a.txt with
 |true=>simp[ze7,zlj,d,e,f,T.cells,ym,zj]
 |false=>simp[ze7,zlj,d,e,f,T.cells,ym,zj]
theorem zuo{k:T}:call 373 [.agg k.cells] S=some (.agg (jk k 60 (zG zbt [])).cells,S):=by
 rw[zi zxL rfl (by simp) rfl];have a:=fun S t=>@zbI S k t 60 i60 (by omega);simp[zib,zqy,a];rfl
theorem zum{u t:T}(n:t.bb):call 369 [.agg t.cells,.agg u.cells] S=some (zt (j9 u t),S):=by
 rw[zi zxH rfl (by simp) rfl];by_cases a:t.kind=10
 ·by_cases g:t.kids.length=2
  ·obtain⟨p,w,b⟩:=zaQ g;have fw:w.fits:=T.bb_fits (zcW n (by rw[b];simp));have d:j9 u t=vW u w p:=by unfold j9;rw[if_pos a,b]
   rw[d];by_cases e:p.kind=8
   ·by_cases h:p.kids.length=1
    ·obtain⟨x,j⟩:=zbz h;have d:vW u w p=if w.same (tWd u)then(x,0)else(tZ,6):=by unfold vW;rw[if_pos e,j]
     rw[d];cases m:w.same (tWd u)with
     |true=>simp[zaG,zci,a,b,jb,jc,e,j,vT,fw,m,zt]
     |false=>simp[zaG,zci,a,b,jb,jc,e,j,vT,fw,m,zt,jU];rfl
    ·have d:vW u w p=(tZ,2):=by
      unfold vW;rw[if_pos e];split
      ·rename_i f;rw[f]at h;simp at h
      ·rfl
     rw[d];have k:¬(p.kids.length:Int)=1:=by omega
     simp[zaG,zci,a,b,jb,jc,e,k,zt,jU];rfl
   ·have d:vW u w p=(tZ,2):=by unfold vW;rw[if_neg e]
    rw[d];simp[zaG,zci,a,b,jb,jc,e,zt,jU];rfl
  ·have d:j9 u t=(tZ,2):=by
    unfold j9;rw[if_pos a];split
    ·rename_i f;rw[f]at g;simp at g
    ·rfl
   rw[d];have l:¬(t.kids.length:Int)=2:=by omega
   simp[zaG,zci,a,l,zt,jU];rfl
 ·have d:j9 u t=(tZ,2):=by unfold j9;rw[if_neg a]
  rw[d];simp[zaG,zci,a,zt,jU];rfl
theorem zug{n:T}:call 283 [.agg n.cells] S=some (.agg (wP n).cells,S):=by
 rw[zi zwP rfl (by simp) rfl];simp[f283,zp1,zj];rfl
theorem zI7{u y:T}:call 331 [.agg u.cells,.agg y.cells] S=some (.agg (zej u y).cells,S):=by
 rw[zi zxf rfl (by simp) rfl];have e:=fun S=>@zm0 S y u;simp[f331,zqg,e,zj];rfl
theorem zJe{u b y p:T}(hp:p.lo)(A:y.lo):call 344 [.agg u.cells,.agg b.cells,.agg y.cells,.agg p.cells] S=some (zt (zau u b y p),S):=by
 rw[zi zxr rfl (by simp) rfl];have a:=fun S=>@s79 S yo 2 p (by omega);unfold zau;cases g:zX yo 2 p with
 |none=>
  rw[g]at a;unfold yo at a;simp[zcg,ze3,a,zF,zt,jU];rfl
 |some l=>
  rw[g]at a;obtain⟨B,o⟩:=jO (n:=2) g;obtain⟨l,f,rfl⟩:=zaQ B;unfold yo at a;have q:l.lo:=hp.kid (o l (by simp));have C:f.lo:=hp.kid (o f (by simp));have h:=fun S=>@zum S u l q.bb;have D:=zkL (u:=u) q;have s:=fun S=>@zm0 S y u;show _=some (zt (zez u b y l f (j9 u l)),S);unfold zez;generalize j9 u l=r at *;by_cases d:r.2=0
  ·rw[if_pos d];have t:=fun S=>@zun S r.1 y D A;have v:=fun S=>@zjH S (qH r.1 y) u (yT y u) l b 1 i1 (by omega);have j:=fun S=>@zjH S (qH r.1 y) u (yT y u) l b 0 i0 (by omega);have w:=fun S k=>@zuo S k;have x:f.fits:=T.bb_fits C.bb;have e:jk (zal (qH r.1 y) (tWd u) (yT y u) l (yC b) 1) 60 (zG zbt [])=zaj r.1 y u (yT y u) l b:=rfl;have m:zal (qH r.1 y) (tWd u) (yT y u) l (yC b) 0=zbb r.1 y u (yT y u) l b 0:=rfl;cases z:f.same (zaj r.1 y u (yT y u) l b)with
   |true=>simp[zcg,ze3,a,zF,jb,jc,h,zt,d,s,t,v,j,w,e,m,x,z]
   |false=>simp[zcg,ze3,a,zF,jb,jc,h,zt,d,s,t,v,w,e,x,z,jU];rfl
  ·rw[if_neg d];simp[zcg,ze3,a,zF,jb,jc,h,zt,d,jU];rfl
end
section
variable{S:AS}
theorem ztj{key:T}{c:Ck}{x:AV}(P:vk S x c.done)(hb:key.bulk<=1099511627776)(a:c.secret.bulk<=1099511627776)(q:c.ok):call 111 [.agg key.cells,.agg (ckX c x)] S=some (.agg (yJ key c).cells,S):=by
 rw[kr zvs (args':=[.agg key.cells,.agg (ckX c x.nrm)]) (by simp) (by simp) rfl];have w:=P.nrm;have g:=P.nn;generalize x.nrm=y at w g;have j:=w.reg;have k:=zkt c y (w.cell g);have Q:=w.cell g;have l:=w.len;rw[g]at l;have z:=fun S=>@zjD S key hb;have m:=fun S=>@zjD S c.secret a;unfold yJ;cases U:key.fit with
 |false=>
  rw[U]at z;cases a:c.secret.fit with
  |false=>rw[a]at m;simp[zb4,zeG,k,z,m,vA,T.cells,ym,lstN]
  |true=>rw[a]at m;simp[zb4,zeG,k,z,m,vA,T.cells,ym,lstN]
 |true=>
  rw[U]at z;cases a:c.secret.fit with
  |false=>rw[a]at m;simp[zb4,zeG,k,z,m,vA,T.cells,ym,lstN]
  |true=>
   rw[a]at m;simp only[zb4];simp[-zg,zeG,k,j,l,z,m,zj]
   let S0:AS:=⟨S.heap,S.n,S.n⟩
   refine y8 (α:=Nat) (R:=fun _ r=>zW S r=some (.agg (jI key (zS (jE c))).cells,S)) (fun i e rg S'=>i<=c.done.length/\e 2=.reg 2 0/\rg 2=some key.cells/\e 3=.reg 3 0/\rg 3=some (ckX c y)/\e 4=.reg 4 0/\rg 4=some [.i 0,.s ⟨#[]⟩,.lst 0 true []]/\e 8=.sc (.int .i64 (i:Nat))/\Own S0 S' 3 (e 7) ((y7 (c.done.take i)).map T.cells)) (fun i=>c.done.length-i) ?_ 0 _ _ _ ?_;rotate_left
   ·refine⟨by omega,by simp,by simp,by simp,by simp,by simp,by simp,by simp,?_⟩;simp[y7];exact zmm (xad _)
   intro kk G i e rg S' ⟨hi,V,W,E,F,X,Y,H,o⟩ ih;have Z:(⟨#[100]⟩:ByteArray).size=1:=rfl;have ac:(⟨#[99]⟩:ByteArray).size=1:=rfl;have aa:(⟨#[110]⟩:ByteArray).size=1:=rfl;have ab:(⟨#[117]⟩:ByteArray).size=1:=rfl;have ad:=q.done;by_cases A:i<c.done.length
   ·obtain⟨s,a⟩:=yV A;obtain⟨pt,B,I,t⟩:=w.at a;rw[g]at B;have t:=t S' (fun id J=>o.old.heap id J);have w2:IntKind.i64.wrap ((i:Int)+1)=((i+1:Nat):Int):=w64 (by omega);have ae:=q.names s (xaj a);have p:pev (.bin .add) [.s ⟨#[100]⟩,.sc (.string s)]=some (.sc (.string (⟨#[100]⟩++s))):=yz (by omega);have K:(c.done.take i).length=i:=by rw[List.length_take];omega
    obtain⟨v',af,ha,C,q1,q2,q3⟩:=o.push (n:=i) (bytes:=48) (r:=(zP (⟨#[100]⟩++s)).cells) (f:=true) (d:=some 39) (rg:=rg) (by rw[xaH,zgz,K]) (by omega);have v:=o.reg;rw[<-zoK a]at C;simp[-zg,zkO,E,F,H,A,j,l,B,I,t,p,v,zj];rw[ha];simp[-zg,q1,w2,H];refine ih (i+1) _ _ _ (by omega) (fun _ h=>h) ?_;exact⟨by omega,by simp[V],W,by simp[E],F,by simp[X],Y,by simp,by simpa using C⟩
   ·have L:i=c.done.length:=by omega
    subst L;rw[xax]at o;have hf:=o.frzT (b:=S.n) (d:=1) (xad _);have v:=o.reg;have M:=o.cell;have N:=o.cells;have ag:=vN (n:=c.upto) (by have:=q.upto;unfold inI at this;omega) (by have:=q.upto;unfold inI at this;omega);have D:=fun S=>@zt6 S c.upto q.upto;have p1:pev (.bin .add) [.s ⟨#[117]⟩,.sc (.string (zE c.upto))]=some (.sc (.string (⟨#[117]⟩++zE c.upto))):=yz (by omega);have p2:pev (.bin .add) [.s ⟨#[99]⟩,.sc (.string c.client)]=some (.sc (.string (⟨#[99]⟩++c.client))):=yz (by have:=q.client;omega);have p3:pev (.bin .add) [.s ⟨#[110]⟩,.sc (.string c.nonce)]=some (.sc (.string (⟨#[110]⟩++c.nonce))):=yz (by have:=q.nonce;omega);simp[-zg,zkO,E,F,H,j,l];rw[G];generalize O:e 7=v7 at *;simp[-zg,V,W,E,F,X,Y,O,j,v,M,N,D,p1,p2,p3,zj];simp[hf];rw[show zh (y7 c.done)=lstN 3 (ym (y7 c.done))by rw[wj];rfl];simp only[jI,zS,jE,T.cells,ym,zP]
    try rfl
theorem q69{x:AV}{l:List ByteArray}(A:vk S x l)(N:∀s∈l,s.size<=4611686018427387904)(hl:l.length*48<=140737488355328):call 69 [x] S=some (.agg (zS (jp l)).cells,S):=by
 have O:=A.reg;rw[kr a69 (args':=[x.nrm]) (by simp[O]) (by simp) rfl];have z:=A.nrm;have a:=A.nn;generalize x.nrm=y at z a;have g:=z.reg;have j:=z.len;rw[a]at j;simp only[f69];simp[-zg,zq3,g];rw[show(some (AV.agg (zS (jp l)).cells,S):Option (AV×AS))=zW S (some (AV.agg (zS (jp l)).cells,S))by simp]
 let S0:AS:=⟨S.heap,S.n,S.n⟩
 refine y8 (α:=Nat) (R:=fun _ r=>zW S r=zW S (some (.agg (zS (jp l)).cells,S))) (fun i e rg S'=>i<=l.length/\e 0=y/\e 2=.reg 2 0/\rg 2=some zT/\e 3=.reg 3 0/\e 4=.sc (.int .i64 (i:Nat))/\∃v,rg 3=some [.sc (.int .i64 3),.sc (.string ⟨#[]⟩),v]/\Own S0 S' 3 v ((jp (l.take i)).map T.cells)) (fun i=>l.length-i) ?_ 0 _ _ _ ?_;rotate_left
 ·refine⟨by omega,by simp,by simp,by simp[zT],by simp,by simp,.lst 0 true [],by simp,?_⟩;exact zcB (xad _)
 intro kk B i e rg S' ⟨hi,C,K,o,D,L,v,p,q⟩ ih;by_cases M:i<l.length
 ·obtain⟨t,E⟩:=yV M;obtain⟨pt,w,F,k⟩:=z.at E;rw[a]at w;have k:=k S' (fun id G=>q.old.heap id G);have H:=N t (xaj E);obtain⟨P,Q,U,I,V,W,X⟩:=q.push (n:=i) (bytes:=48) (r:=(yU t).cells) (f:=true) (d:=some 20) (rg:=rg) (by simp[jp];omega) (by omega);have Y:IntKind.i64.wrap ((i:Int)+1)=((i+1:Nat):Int):=w64 (by omega);simp[-zg,zlz,C,D,L,p,M,g,j,w,F,k,s65 t H,U,Y,V,W,X,zj];refine ih (i+1) _ _ _ (by omega) (fun _ h=>h) ?_;refine⟨by omega,by simp[C],by simp[K],by simp[o],by simp[D],by simp,P,by simp,?_⟩;have:(jp (l.take (i+1))).map T.cells=(jp (l.take i)).map T.cells++[(yU t).cells]:=by
   unfold jp;rw[xav,E];simp
  rw[this];exact I
 ·have J:i=l.length:=by omega
  subst J;rw[xax]at q;simp[-zg,zlz,C,L,g,j];rw[B];have m:=q.cell;have Z:=q.frzT (b:=S.n) (d:=1) (xad _);simp[K,o,D,p,m,Z,zT];rw[zq];rfl
def jK(a b:List ByteArray):Bool:=decide (a.length<b.length)&&decide (b.take a.length=a)
theorem zyY{a b:List ByteArray}{i:Nat}{x y:ByteArray}(d:a[i]?=some x)(f:b[i]?=some y)(h:x≠y):jK a b=false:=by
 unfold jK;have:b.take a.length≠a:=fun e=>by
  have g:i<a.length:=(xal.1 d).1;rw[<-e,xaq,if_pos g,f]at d;cases d;exact h rfl
 simp[this]
theorem zyZ{a b:List ByteArray}(e:a.length<b.length)(h:∀(i:Nat) (x:ByteArray),a[i]?=some x->b[i]?=some x):jK a b=true:=by
 unfold jK;have:b.take a.length=a:=by
  apply List.ext_getElem?;intro i;rw[xaq];split
  ·rename_i d;have:=h i a[i] (by simp[d]);rw[this];simp[d]
  ·rename_i d;rw[xap (by omega)]
 simp[e,this]
theorem zJc{a b:List ByteArray}(E:b.length<=4611686018427387904):call 340 [zk a,zk b] S=some (.sc (.bool (jK a b)),S):=by
 rw[zi zxn rfl (by simp) rfl];simp only[zhR];by_cases g:b.length<=a.length
 ·have:jK a b=false:=by unfold jK;simp;omega
  simp[zlh,g,this]
 ·simp[-zg,zlh,g];refine y8 (α:=Nat) (R:=fun _ r=>zW S r=some (.sc (.bool (jK a b)),S)) (fun i e rg S'=>i<=a.length/\S'={S with ro:=S.n}/\e 0=zk a/\e 1=zk b/\e 5=.sc (.int .i64 (i:Nat))/\∀(j:Nat) (x:ByteArray),j<i->a[j]?=some x->b[j]?=some x) (fun i=>a.length-i) ?_ 0 _ _ _ ?_;rotate_left
  ·exact⟨by omega,rfl,by simp,by simp,by simp,by intro j x m;omega⟩
  intro F k i e rg S' ⟨G,s,o,t,v,f⟩ ih;subst s;by_cases w:i<a.length
  ·obtain⟨x,p⟩:=yV w;obtain⟨y,q⟩:=yV (l:=b) (i:=i) (by omega);have D:IntKind.i64.wrap ((i:Int)+1)=((i+1:Nat):Int):=w64 (by omega);by_cases d:x=y
   ·simp[-zg,zhS,o,t,v,w,wb p,wb q,d,D];refine ih (i+1) _ _ _ (by omega) (fun _ h=>h) ⟨by omega,rfl,by simp[o],by simp[t],by simp,?_⟩;intro j z m A;by_cases B:j=i
    ·subst B;rw[p]at A;cases A;rw[q,d]
    ·exact f j z (by omega) A
   ·simp[-zg,zhS,o,t,v,w,wb p,wb q,d];rw[k];simp[zyY p q d]
  ·have C:i=a.length:=by omega
   subst C;simp[-zg,zhS,o,v];rw[k];simp[zyZ (by omega:a.length<b.length) fun j x m=>f j x (xal.1 m).1 m]
end
section
variable{S:AS}{kb ub:Nat}{u:Us}
theorem vt{n:ByteArray}(h:S.heap kb=some (.rows 1 [[.lst 0 true []]])):call 345 [.ptr kb 0 0,.sc (.string n)] S=some (.sc (.int .i64 (-1)),S):=by
 rw[zi zj7 rfl (by simp) rfl];have a:∀d rg,ze (.ld none 1 false) d rg {S with ro:=S.n} [.ptr kb 0 0]=some (.lst 0 true [],none,{S with ro:=S.n}):=fun d rg=>by
  rw[zY (S:={S with ro:=S.n}) h];rfl
 simp only[zdl];simp[-zg,zhU];rw[jG];simp[-zg,zdm,a];simp
end
def zfp(t:Tk)(s b:T)(c:Int):Bool:=b.same (ji s c)&&(decide (c<=t.counter+t.look+t.sync)||decide (c=t.pending))
def qe(t:Tk)(s b:T)(n:Nat):List Int:=(rng t.counter n).filter (zfp t s b)
def yY(t:Tk):Nat:=(min (max (t.counter+t.look+t.sync) t.pending) (t.counter+70)-t.counter+1).toNat
def ju(t:Tk)(s b:T):List Int:=if t.counter+70<t.pending/\b.same (ji s t.pending)=true then qe t s b (yY t)++[t.pending]else qe t s b (yY t)
def wG(t:Tk)(s b:T):List Int:=if t.right then(if t.pending<t.counter/\b.same (ji s t.pending)=true then t.pending::ju t s b else ju t s b)else[]
def zcv(nonce seed:T)(t:Tk):List T->List Int×Int
 |[a,b]=>if a.same nonce then(wG t seed b,0)else([],6)
 |_=>([],2)
def zbw(nonce seed:T)(t:Tk)(r:T×Int):List Int×Int:=if r.2=0 then(match zX vq 2 r.1 with|some l=>zcv nonce seed t l|none=>([],2))else([],r.2)
def kY(ak nonce p seed:T)(t:Tk):List Int×Int:=match zX yg 1 p with
 |some [x]=>zbw nonce seed t (jz ak 45 x)
 |_=>([],2)
theorem zAW{t:Tk}{s b:T}{n:Nat}:qe t s b (n+1)=if zfp t s b (t.counter+(n:Int))then qe t s b n++[t.counter+(n:Int)]else qe t s b n:=by
 unfold qe;rw[zmB,List.filter_append];cases h:zfp t s b (t.counter+(n:Int))<;>simp[h]
theorem zlQ{t:Tk}{s b:T}{n:Nat}:(qe t s b n).length<=n:=by
 unfold qe;exact xaD (List.length_filter_le _ _) (by rw[zmA];exact xad _)
section
variable{S:AS}
theorem Own.rowsI{S0 S':AS}{v:AV}{l:List Int}(h:Own S0 S' 1 v (zV l)):zD 1 S' v=some (zV l):=by
 rcases h.h with⟨z,rfl,a⟩|⟨id,rfl,b,_,_⟩
 ·rcases a with a|rfl
  ·rw[a];simp[zD]
  ·simp[zD]
 ·simp only[zD,if_true];exact wk b (Nat.zero_le _)
theorem wT{S0 S':AS}{v:AV}{l:List Int}{n:Int}(hS:S0.n=S.n)(h:Own S0 S' 1 v (zV l)):zW S (some (.tup [v,.sc (.int .i64 n)],S'))=some (qf (l,n),S):=by
 have e:S'.frzTo S.n 2 v=some (yi l):=h.frzI (b:=S.n) (d:=1) (by omega);simp[e,qf]
theorem Own.pre{S0 S':AS}{v:AV}{l:List Int}{x:Int}(h:Own S0 S' 1 v (zV l))(j:l.length<=1000):
 ∃b a,(∀d rg,ze (.append 1 8) d rg S' [.lst 1 true [[.sc (.int .i64 x)]],v]=some (b,none,a))/\Own S0 a 1 b (zV (x::l))/\b.isReg=false:=by
 have e:Own S0 S' 1 (.lst 1 true [[.sc (.int .i64 x)]]) [[.sc (.int .i64 x)]]:=⟨h.old,h.ro,.inl ⟨1,rfl,.inr rfl⟩⟩;have f:=h.rowsI;cases l with
 |nil=>
  refine⟨_,S',fun d rg=>?_,e,rfl⟩;simp only[ze,f];rfl
 |cons y l=>
  obtain⟨b,a,k,g⟩:=e.app (d:=none) (rg:=fun _=>none) (bytes:=8) f (by simp[zV]) (by simp[zV];simp at j;omega);exact⟨b,a,fun d rg=>by simpa[ze]using k,g,g.reg⟩
theorem Own.push1{S0 S':AS}{v:AV}{l:List Int}{x:Int}(h:Own S0 S' 1 v (zV l))(o:l.length<=1000):
 ∃a b,(∀d rg,ze (.append 1 8) d rg S' [v,.lst 1 true [[.sc (.int .i64 x)]]]=some (a,none,b))/\Own S0 b 1 a (zV (l++[x]))/\a.isReg=false:=by
 obtain⟨a,k,g,j,m,p,q⟩:=h.push (n:=l.length) (bytes:=8) (r:=[.sc (.int .i64 x)]) (f:=true) (d:=none) (rg:=fun _=>none) (by simp[zV]) (by omega);have e:=zsU (ys:=[[.sc (.int .i64 x)]]) (by simp[zD]) g;exact⟨a,k,fun d rg=>by simp[ze,zD,e],by rw[zrE];exact j,m⟩
theorem zJd{ak nonce p seed:T}{t:Tk}(hp:p.bb):call 343 [.agg ak.cells,.agg nonce.cells,.agg p.cells,.agg seed.cells,.agg t.cells] S=some (qf (kY ak nonce p seed t),S):=by
 rw[zi zxq rfl (by simp) rfl];have e1:=fun S=>@s79 S yg 1 p (by omega);unfold kY;cases hu:zX yg 1 p with
 |none=>
  rw[hu]at e1;unfold yg at e1;simp[f343,zcf,e1,zF,qf];rfl
 |some l=>
  rw[hu]at e1;obtain⟨h1,hm⟩:=jO (n:=1) hu;obtain⟨x,rfl⟩:=zbz h1;unfold yg at e1;have hx:=T.bb_kids hp x (hm x (by simp));have e3:=fun S=>@zmS S ak x 45 i45 (by omega) (T.bb_fits hx);have hr:=@zcI ak x 45 hx;show _=some (qf (zbw nonce seed t (jz ak 45 x)),S);unfold zbw;generalize jz ak 45 x=r at e3 hr ⊢;by_cases h0:r.2=0
  ·rw[if_pos h0];have e5:=fun S=>@s79 S vq 2 r.1 (by omega);cases hv:zX vq 2 r.1 with
   |none=>
    rw[hv]at e5;unfold vq at e5;simp[f343,zcf,e1,zF,vT,e3,zt,h0,e5,qf];rfl
   |some m=>
    rw[hv]at e5;obtain⟨af,ag⟩:=jO (n:=2) hv;obtain⟨a,b,rfl⟩:=zaQ af;unfold vq at e5;have ha:=T.bb_fits (T.bb_kids hr a (ag a (by simp)));have M:=T.bb_fits (T.bb_kids hr b (ag b (by simp)));show _=some (qf (zcv nonce seed t [a,b]),S);unfold zcv;simp only;cases hs:a.same nonce with
    |false=>simp[f343,zcf,e1,zF,vT,jb,jc,e3,zt,h0,e5,ha,hs,qf];rfl
    |true=>
     have e7:=fun S=>@zJr S t;rw[if_pos rfl];unfold wG;cases ad:t.right with
     |false=>
      have ae:t.reach=(0,-1):=by unfold Tk.reach;rw[ad];rfl
      rw[ae]at e7;simp only[f343];simp[-zg,zcf,e1,zF,vT,jb,jc,e3,zt,h0,e5,ha,hs,e7];rw[jG];simp[-zg,vx];simp[qf];rfl
     |true=>
      obtain⟨t1,t2,t3,t4,t5,t6⟩:=Tk.right_iff.1 ad;obtain⟨O,ah⟩:∃O,O=max (t.counter+t.look+t.sync) t.pending:=⟨_,rfl⟩;have ae:t.reach=(t.counter,O):=by unfold Tk.reach;rw[ad,ah];rfl
      rw[ae]at e7;have hN:yY t=(min O (t.counter+70)-t.counter+1).toNat:=by unfold yY;rw[ah]
      have P:t.cells.take 1=[.sc (.int .i64 t.counter)]:=rfl;have Q:(t.cells.drop 1).take 1=[.sc (.int .i64 t.look)]:=rfl;have B:t.cells.tail.take 1=[.sc (.int .i64 t.look)]:=rfl;have U:(t.cells.drop 2).take 1=[.sc (.int .i64 t.sync)]:=rfl;have V:(t.cells.drop 3).take 1=[.sc (.int .i64 t.pending)]:=rfl;have W:t.cells.length=6:=rfl;have k:IntKind.i64.wrap (t.counter+70)=t.counter+70:=w64 (by omega);have wA:IntKind.i64.wrap (t.counter+t.look)=t.counter+t.look:=w64 (by omega);have wB:IntKind.i64.wrap (t.counter+t.look+t.sync)=t.counter+t.look+t.sync:=w64 (by omega);simp only[f343];simp[-zg,zcf,e1,zF,vT,jb,jc,e3,zt,h0,e5,ha,hs,e7]
      let S0:AS:=⟨S.heap,S.n,S.n⟩
      refine y8 (α:=Nat) (R:=fun _ r=>zW S r=some (qf (if t.pending<t.counter/\b.same (ji seed t.pending)=true then t.pending::ju t seed b else ju t seed b,0),S)) (fun j e rg S'=>j<=yY t/\e 8=.reg 8 0/\rg 8=some seed.cells/\e 9=.reg 9 0/\rg 9=some t.cells/\e 16=zh [a,b]/\e 20=.sc (.int .i64 t.counter)/\e 21=.sc (.int .i64 O)/\e 22=.sc (.int .i64 (t.counter+(j:Nat)))/\Own S0 S' 1 (e 19) (zV (qe t seed b j))) (fun j=>yY t-j) ?_ 0 _ _ _ ?_;rotate_left
      ·refine⟨by omega,by simp,by simp,by simp,by simp,by simp,by simp,by simp,by simp,?_⟩;simp[qe,rng,zV];exact zcB (xad _)
      intro kk F j e rg S' ⟨hj,J,q,K,s,v,d,f,z,X⟩ ih;have C:=X.reg;by_cases hc:j<yY t
      ·have ab:t.counter+(j:Int)<=O:=by omega
       have ac:t.counter+(j:Int)<=t.counter+70:=by omega
       have w3:IntKind.i64.wrap (t.counter+(j:Int)+1)=t.counter+((j+1:Nat):Int):=by rw[w64 (by omega)];omega
       have N:=fun S=>@zmN S seed (t.counter+(j:Int)) (zi1 (by omega)) (by omega);have A:=@zAW t seed b j;unfold zfp at A;cases Y:b.same (ji seed (t.counter+(j:Int)))with
       |false=>
        rw[Y]at A;simp at A;simp[-zg,vx,J,q,K,s,v,d,f,z,ab,ac,jb,jc,N,M,Y,k,w3];refine ih (j+1) _ _ _ (by omega) (fun _ h=>h) ?_;exact⟨by omega,by simp[J],by simp[q],by simp[K],by simp[s],by simp[v],by simp[d],by simp[f],by simp,by rw[A];simpa using X⟩
       |true=>
        rw[Y]at A;obtain⟨v',S2,L,G,q1⟩:=X.push1 (x:=t.counter+(j:Int)) (by have:=@zlQ t seed b j;omega);by_cases hd:t.counter+(j:Int)<=t.counter+t.look+t.sync
        ·rw[decide_eq_true hd]at A;simp at A;rw[<-A]at G;simp[-zg,vx,J,q,K,s,v,d,f,z,ab,ac,jb,jc,N,M,Y,k,w3,P,Q,B,U,V,W,wA,wB,hd,C,L,q1,zj];refine ih (j+1) _ _ _ (by omega) (fun _ h=>h) ?_;exact⟨by omega,by simp[J],by simp[q],by simp[K],by simp[s],by simp[v],by simp[d],by simp[f],by simp,by simpa using G⟩
        ·by_cases Z:t.counter+(j:Int)=t.pending
         ·rw[decide_eq_false hd,decide_eq_true Z]at A;simp at A;rw[<-A]at G;have ai:=eq_true Z;clear Z;simp[-zg,vx,J,q,K,s,v,d,f,z,ab,ac,jb,jc,N,M,Y,k,w3,P,Q,B,U,V,W,wA,wB,hd,ai,C,L,q1,zj];refine ih (j+1) _ _ _ (by omega) (fun _ h=>h) ?_;exact⟨by omega,by simp[J],by simp[q],by simp[K],by simp[s],by simp[v],by simp[d],by simp[f],by simp,by simpa using G⟩
         ·rw[decide_eq_false hd,decide_eq_false Z]at A;simp at A;rw[<-A]at X;simp[-zg,vx,J,q,K,s,v,d,f,z,ab,ac,jb,jc,N,M,Y,k,w3,P,Q,B,U,V,W,wA,wB,hd,Z];refine ih (j+1) _ _ _ (by omega) (fun _ h=>h) ?_;exact⟨by omega,by simp[J],by simp[q],by simp[K],by simp[s],by simp[v],by simp[d],by simp[f],by simp,by simpa using X⟩
      ·have aj:j=yY t:=by omega
       subst aj;have aa:¬(t.counter+(yY t:Int)<=O/\t.counter+(yY t:Int)<=t.counter+70):=by omega
       have w:t.counter<=O:=by omega
       have af:=@zlQ t seed b (yY t);have al:yY t<=71:=by omega
       have g:=fun S=>@zmN S seed t.pending (zi1 (by omega)) (by omega);have am:(ju t seed b).length<=72:=by
        unfold ju;split
        ·simp;omega
        ·omega
       by_cases D:t.counter+70<t.pending
       ·have y:¬t.pending<t.counter:=by omega
        cases E:b.same (ji seed t.pending)with
        |true=>
         obtain⟨v',S2,L,G,q1⟩:=X.push1 (x:=t.pending) (by omega);have H:(if t.pending<t.counter/\true=true then t.pending::ju t seed b else ju t seed b)=qe t seed b (yY t)++[t.pending]:=by unfold ju;rw[if_neg (fun h=>y h.1),if_pos ⟨D,E⟩]
         rw[H];by_cases o:t.counter+(yY t:Int)<=O
         ·have I:¬t.counter+(yY t:Int)<=t.counter+70:=fun h=>aa ⟨o,h⟩;simp[-zg,vx,d,f,z,o,I,k];rw[F];simp[-zg,J,q,K,s,v,d,f,w,k,P,Q,B,U,V,W,jb,jc,g,M,C,zj,D,y,E,L,q1];exact wT (S0:=S0) rfl G
         ·simp[-zg,vx,d,f,z,o];rw[F];simp[-zg,J,q,K,s,v,d,f,w,k,P,Q,B,U,V,W,jb,jc,g,M,C,zj,D,y,E,L,q1];exact wT (S0:=S0) rfl G
        |false=>
         have H:(if t.pending<t.counter/\false=true then t.pending::ju t seed b else ju t seed b)=qe t seed b (yY t):=by unfold ju;rw[if_neg (fun h=>y h.1),if_neg (fun h=>by rw[E]at h;cases h.2)]
         rw[H];by_cases o:t.counter+(yY t:Int)<=O
         ·have I:¬t.counter+(yY t:Int)<=t.counter+70:=fun h=>aa ⟨o,h⟩;simp[-zg,vx,d,f,z,o,I,k];rw[F];simp[-zg,J,q,K,s,v,d,f,w,k,P,Q,B,U,V,W,jb,jc,g,M,C,zj,D,y,E];exact wT (S0:=S0) rfl X
         ·simp[-zg,vx,d,f,z,o];rw[F];simp[-zg,J,q,K,s,v,d,f,w,k,P,Q,B,U,V,W,jb,jc,g,M,C,zj,D,y,E];exact wT (S0:=S0) rfl X
       ·have hE:ju t seed b=qe t seed b (yY t):=by unfold ju;rw[if_neg (fun h=>D h.1)]
        by_cases y:t.pending<t.counter
        ·cases E:b.same (ji seed t.pending)with
         |true=>
          obtain⟨v',S2,L,G,q1⟩:=X.pre (x:=t.pending) (by omega);have H:(if t.pending<t.counter/\true=true then t.pending::ju t seed b else ju t seed b)=t.pending::qe t seed b (yY t):=by rw[if_pos ⟨y,rfl⟩,hE]
          rw[H];by_cases o:t.counter+(yY t:Int)<=O
          ·have I:¬t.counter+(yY t:Int)<=t.counter+70:=fun h=>aa ⟨o,h⟩;simp[-zg,vx,d,f,z,o,I,k];rw[F];simp[-zg,J,q,K,s,v,d,f,w,k,P,Q,B,U,V,W,jb,jc,g,M,C,zj,D,y,E,L,q1];exact wT (S0:=S0) rfl G
          ·simp[-zg,vx,d,f,z,o];rw[F];simp[-zg,J,q,K,s,v,d,f,w,k,P,Q,B,U,V,W,jb,jc,g,M,C,zj,D,y,E,L,q1];exact wT (S0:=S0) rfl G
         |false=>
          have H:(if t.pending<t.counter/\false=true then t.pending::ju t seed b else ju t seed b)=qe t seed b (yY t):=by rw[if_neg (fun h=>by cases h.2),hE]
          rw[H];by_cases o:t.counter+(yY t:Int)<=O
          ·have I:¬t.counter+(yY t:Int)<=t.counter+70:=fun h=>aa ⟨o,h⟩;simp[-zg,vx,d,f,z,o,I,k];rw[F];simp[-zg,J,q,K,s,v,d,f,w,k,P,Q,B,U,V,W,jb,jc,g,M,C,zj,D,y,E];exact wT (S0:=S0) rfl X
          ·simp[-zg,vx,d,f,z,o];rw[F];simp[-zg,J,q,K,s,v,d,f,w,k,P,Q,B,U,V,W,jb,jc,g,M,C,zj,D,y,E];exact wT (S0:=S0) rfl X
        ·
         have H:(if t.pending<t.counter/\b.same (ji seed t.pending)=true then t.pending::ju t seed b else ju t seed b)=qe t seed b (yY t):=by rw[if_neg (fun h=>y h.1),hE]
         rw[H];by_cases o:t.counter+(yY t:Int)<=O
         ·have I:¬t.counter+(yY t:Int)<=t.counter+70:=fun h=>aa ⟨o,h⟩;simp[-zg,vx,d,f,z,o,I,k];rw[F];simp[-zg,J,q,K,s,v,d,f,w,k,P,Q,B,U,V,W,jb,jc,g,M,C,zj,D,y];exact wT (S0:=S0) rfl X
         ·simp[-zg,vx,d,f,z,o];rw[F];simp[-zg,J,q,K,s,v,d,f,w,k,P,Q,B,U,V,W,jb,jc,g,M,C,zj,D,y];exact wT (S0:=S0) rfl X
  ·rw[if_neg h0];simp[f343,zcf,e1,zF,vT,e3,zt,h0,qf];rfl
end
def rD(t:T)(l:ByteArray):ByteArray:=(zae t l).getD ⟨#[]⟩
def rB(t:T)(l:ByteArray):Bool:=(zae t l).isSome
def dnR(l:List T):List ByteArray:=l.map fun k=>rD k ⟨#[100]⟩
def dbR(l:List T):Bool:=l.all fun k=>rB k ⟨#[100]⟩
def zdP(s:ByteArray):Bool:=decide (zE (qm s)=s)
def ckR(a b d e k5:T):Ck:=⟨rD a ⟨#[99]⟩,rD b ⟨#[110]⟩,dnR d.kids,e,qm (rD k5 ⟨#[117]⟩)⟩
def wI(a b d e k5:T):Bool:=rB a ⟨#[99]⟩&&rB b ⟨#[110]⟩&&rB k5 ⟨#[117]⟩&&zdP (rD k5 ⟨#[117]⟩)&&dbR d.kids&&e.fit
def zaL(a d:T)(b:T):Bool:=decide (b.kind=3)&&decide (a.kind=1)&&decide (a.name=⟨#[99,111,111,107,105,101]⟩)&&decide (d.kind=3)
theorem zgD{S:AS}{t:T}{l:ByteArray}(a:l.size=1):call 317 [.agg t.cells,.sc (.string l)] S=some (.tup [.sc (.string (rD t l)),.sc (.bool (rB t l))],S):=zI3 a
theorem zzX{l:List T}{i:Nat}{k:T}(h:l[i]?=some k):zv (dnR (l.take (i+1)))=zv (dnR (l.take i))++[[.sc (.string (rD k ⟨#[100]⟩))]]:=by
 rw[xav,h];simp[dnR,zv]
theorem zzS{l:List T}{i:Nat}{k:T}(h:l[i]?=some k):dbR (l.take (i+1))=(dbR (l.take i)&&rB k ⟨#[100]⟩):=by
 rw[xav,h];simp[dbR]
theorem zHm{t:T}{l:ByteArray}:(rD t l).size<=t.name.size:=by
 unfold rD zae;split
 ·cases h:jd t.name l with
  |none=>exact Nat.zero_le _
  |some r=>exact zky h
 ·exact Nat.zero_le _
section
variable{S:AS}
theorem zt8{b a o p e q k5:T}(g:b.kids=[a,o,p,e,q,k5])(m:zaL a e b=false):call 220 [.agg b.cells] S=some (.tup [.agg jM.cells,.b false],S):=by
 rw[zi zj4 rfl (by simp) rfl];have h:b.kids.length=6:=by rw[g];rfl
 have j:pev (.iaddr 3) [zh b.kids,.i 0]=some (.iptr a.cells):=zJ (i:=0) (by rw[g];rfl);have k:pev (.iaddr 3) [zh b.kids,.i 3]=some (.iptr e.cells):=zJ (i:=3) (by rw[g];rfl);have fin:zW S (some (.tup [.agg zC,.b false],S))=some (.tup [.agg jM.cells,.b false],S):=by
  simp[jM,Ck.cells,vA,T.kind,T.name,T.kids,zk,zh,lstN,zv,AV.pure]
 unfold zaL at m;by_cases d:b.kind=3
 ·by_cases f:a.kind=1
  ·by_cases l:a.name=⟨#[99,111,111,107,105,101]⟩
   ·by_cases n:e.kind=3
    ·simp[d,f,l,n]at m
    ·simp[-zg,wX,zbo,eq_true d,h,j,k,eq_true f,eq_true l,n];simp[jM,Ck.cells,vA,T.kind,T.name,T.kids,zk,zh,lstN,zv,AV.pure]
   ·simp[-zg,wX,zbo,eq_true d,h,j,k,eq_true f,l];simp[jM,Ck.cells,vA,T.kind,T.name,T.kids,zk,zh,lstN,zv,AV.pure]
  ·simp[-zg,wX,zbo,eq_true d,h,j,k,f];simp[jM,Ck.cells,vA,T.kind,T.name,T.kids,zk,zh,lstN,zv,AV.pure]
 ·simp[-zg,wX,zbo,d];simp[jM,Ck.cells,vA,T.kind,T.name,T.kids,zk,zh,lstN,zv,AV.pure]
theorem zIJ{b:T}(e:b.kids.length<=4611686018427387904)(h:b.kids.length≠6):call 220 [.agg b.cells] S=some (.tup [.agg jM.cells,.b false],S):=by
 rw[zi zj4 rfl (by simp) rfl];have a:¬(b.kids.length:Int)=6:=by omega
 by_cases d:b.kind=3
 ·simp[-zg,wX,zbo,eq_true d,h,a];simp[jM,Ck.cells,vA,T.kind,T.name,T.kids,zk,zh,lstN,zv,AV.pure]
 ·simp[-zg,wX,zbo,d];simp[jM,Ck.cells,vA,T.kind,T.name,T.kids,zk,zh,lstN,zv,AV.pure]
theorem zt9{b k0 y z g w k5:T}(K:b.kids=[k0,y,z,g,w,k5])(hh:zaL k0 g b=true)(hl:g.kids.length*16<=140737488355328)(h5:k5.name.size<=4611686018427387904)(h4:w.bulk<=1099511627776):
 call 220 [.agg b.cells] S=some (.tup [.agg (ckR y z g w k5).cells,.sc (.bool (wI y z g w k5))],S):=by
 rw[zi zj4 rfl (by simp) rfl];have h6:b.kids.length=6:=by rw[K];rfl
 have l0:pev (.iaddr 3) [zh b.kids,.i 0]=some (.iptr k0.cells):=zJ (i:=0) (by rw[K];rfl);have l1:pev (.iaddr 3) [zh b.kids,.i 1]=some (.iptr y.cells):=zJ (i:=1) (by rw[K];rfl);have l2:pev (.iaddr 3) [zh b.kids,.i 2]=some (.iptr z.cells):=zJ (i:=2) (by rw[K];rfl);have Z:pev (.iaddr 3) [zh b.kids,.i 3]=some (.iptr g.cells):=zJ (i:=3) (by rw[K];rfl);have l4:pev (.iaddr 3) [zh b.kids,.i 4]=some (.iptr w.cells):=zJ (i:=4) (by rw[K];rfl);have l5:pev (.iaddr 3) [zh b.kids,.i 5]=some (.iptr k5.cells):=zJ (i:=5) (by rw[K];rfl);have r1:=fun S=>@zgD S y ⟨#[99]⟩ rfl;have r2:=fun S=>@zgD S z ⟨#[110]⟩ rfl;have r5:=fun S=>@zgD S k5 ⟨#[117]⟩ rfl;have rn:=fun S=>@zI4 S (rD k5 ⟨#[117]⟩) (xaD zHm h5);have rf:=fun S=>@zjD S w h4;unfold zaL at hh;simp only[xab,decide_eq_true_eq]at hh;obtain⟨⟨⟨c1,c2⟩,c3⟩,c4⟩:=hh;have hn:decide (zE (qm (rD k5 ⟨#[117]⟩))=rD k5 ⟨#[117]⟩)=zdP (rD k5 ⟨#[117]⟩):=rfl;rw[hn]at rn;obtain⟨q1,P⟩:∃q,q=rB y ⟨#[99]⟩:=⟨_,rfl⟩;obtain⟨q2,Q⟩:∃q,q=rB z ⟨#[110]⟩:=⟨_,rfl⟩;obtain⟨q5,U⟩:∃q,q=rB k5 ⟨#[117]⟩:=⟨_,rfl⟩;obtain⟨qn,V⟩:∃q,q=zdP (rD k5 ⟨#[117]⟩):=⟨_,rfl⟩;obtain⟨H,W⟩:∃p,p=(q1&&q2&&q5&&qn):=⟨_,rfl⟩;have key:∀(e:Nat->AV) (rg:Nat->Option (List AV)) (S1:AS) (ks:List Kn),S1=⟨S.heap,S.n,S.n⟩->e 1=.reg 1 0->rg 1=some b.cells->e 2=.reg 2 0->rg 2=some zC->e 4=.reg 4 0->rg 4=some zC->
  e 5=.sc (.string (rD y ⟨#[99]⟩))->e 7=.sc (.string (rD z ⟨#[110]⟩))->e 11=.sc (.int .i64 (qm (rD k5 ⟨#[117]⟩)))->e 13=.sc (.bool H)->e 14=.i 0->
  (∀(l:Nat->AV) (a:Nat->Option (List AV)) (S':AS) (v:AV),l 1=.reg 1 0->a 1=some b.cells->l 2=.reg 2 0->a 2=some zC->l 4=.reg 4 0->a 4=some [.s ⟨#[]⟩,.s ⟨#[]⟩,v,.i 0,.s ⟨#[]⟩,.lst 0 true [],.i 0]->
   l 5=e 5->l 7=e 7->l 11=e 11->l 13=.sc (.bool (H&&dbR g.kids))->Own ⟨S.heap,S.n,S.n⟩ S' 1 v (zv (dnR g.kids))->
   zW S (fin [.cell 2 7 true,.tmp 3] (unw AA (some (.exit 0,st 145 l a S')) ks))=some (.tup [.agg (ckR y z g w k5).cells,.sc (.bool (wI y z g w k5))],S))->
  zW S (fin [.cell 2 7 true,.tmp 3] (zH AA (.loop [15,16,92,93,94,95,96,97,98,99,100,101,102,103,104,105,106,107,108,109,110,111,112,113,114,115,116,117,118,119,120,121,122,123] [] zeS) (st 145 e rg S1) ks))=some (.tup [.agg (ckR y z g w k5).cells,.sc (.bool (wI y z g w k5))],S):=by
  intro e rg S1 ks aa E m B rg2 C o N O F j D ab;refine y8 (α:=Nat) (R:=fun _ r=>zW S r=some (.tup [.agg (ckR y z g w k5).cells,.sc (.bool (wI y z g w k5))],S)) (fun i l a S'=>i<=g.kids.length/\l 1=.reg 1 0/\a 1=some b.cells/\l 2=.reg 2 0/\a 2=some zC/\l 4=.reg 4 0/\l 5=e 5/\l 7=e 7/\l 11=e 11/\l 13=.sc (.bool (H&&dbR (g.kids.take i)))/\l 14=.sc (.int .i64 (i:Nat))/\∃v,a 4=some [.s ⟨#[]⟩,.s ⟨#[]⟩,v,.i 0,.s ⟨#[]⟩,.lst 0 true [],.i 0]/\Own ⟨S.heap,S.n,S.n⟩ S' 1 v (zv (dnR (g.kids.take i)))) (fun i=>g.kids.length-i) ?_ 0 _ _ _ ?_;rotate_left
  ·refine⟨by omega,E,m,B,rg2,C,rfl,rfl,rfl,by rw[j];simp[dbR],D,.lst 0 true [],o,?_⟩;rw[aa];simp[dnR,zv];exact zcB (xad _)
  intro kk ac i l a S' ⟨hi,E,m,B,rg2,C,f5,f7,L,j,D,v,o,I⟩ ih;by_cases hc:i<g.kids.length
  ·obtain⟨u,hu⟩:=yV hc;have w2:IntKind.i64.wrap ((i:Int)+1)=((i+1:Nat):Int):=w64 (by omega);have ah:(g.kids.take i).length=i:=by rw[List.length_take];omega
   have ru:=fun S=>@zgD S u ⟨#[100]⟩ rfl;obtain⟨v',ai,ha,M,z1,z2,z3⟩:=I.push (n:=i) (bytes:=16) (r:=[.sc (.string (rD u ⟨#[100]⟩))]) (f:=true) (d:=some 122) (rg:=a) (by simp[dnR];omega) (by omega);have G:=I.reg;rw[<-zzX hu]at M;have ad:=zzS hu;have x:(H&&dbR (g.kids.take i)&&rB u ⟨#[100]⟩)=(H&&dbR (g.kids.take (i+1))):=by rw[ad,Bool.and_assoc]
   cases A:(H&&dbR (g.kids.take i))with
   |false=>
    rw[A]at j x;simp only[Bool.false_and]at x;simp[-zg,zeS,E,m,B,C,o,j,D,hc,Z,zJ hu,ru,G,zj];rw[ha];simp[-zg,z1,z2,z3,w2,C,o,D];refine ih (i+1) _ _ _ (by omega) (fun _ h=>h) ?_;exact⟨by omega,by simp[E],by simp[m],by simp[B],by simp[rg2],by simp[C],by simp[f5],by simp[f7],by simp[L],by simp[<-x],by simp,v',by simp,M⟩
   |true=>
    rw[A]at j x;simp only[Bool.true_and]at x;simp[-zg,zeS,E,m,B,C,o,j,D,hc,Z,zJ hu,ru,G,zj];rw[ha];simp[-zg,z1,z2,z3,w2,C,o,D];refine ih (i+1) _ _ _ (by omega) (fun _ h=>h) ?_;exact⟨by omega,by simp[E],by simp[m],by simp[B],by simp[rg2],by simp[C],by simp[f5],by simp[f7],by simp[L],by simp[<-x],by simp,v',by simp,M⟩
  ·have ae:i=g.kids.length:=by omega
   subst ae;rw[xax]at I j;simp[-zg,zeS,E,m,B,C,D,Z];rw[ac];exact ab _ _ _ v (by simp[E]) m (by simp[B]) rg2 (by simp[C]) o (by simp[f5]) (by simp[f7]) (by simp[L]) (by simp[j]) I
 have done:∀(l:Nat->AV) (a:Nat->Option (List AV)) (S':AS) (v:AV),l 1=.reg 1 0->a 1=some b.cells->l 2=.reg 2 0->a 2=some zC->l 4=.reg 4 0->a 4=some [.s ⟨#[]⟩,.s ⟨#[]⟩,v,.i 0,.s ⟨#[]⟩,.lst 0 true [],.i 0]->
  l 5=.sc (.string (rD y ⟨#[99]⟩))->l 7=.sc (.string (rD z ⟨#[110]⟩))->l 11=.sc (.int .i64 (qm (rD k5 ⟨#[117]⟩)))->l 13=.sc (.bool (H&&dbR g.kids))->Own ⟨S.heap,S.n,S.n⟩ S' 1 v (zv (dnR g.kids))->
  zW S (fin [.cell 2 7 true,.tmp 3] (zH AA (.seq (.ops [
  ⟨some 124,.pur (.faddr 2),[.t 1],none⟩,
  ⟨some 125,.ld (some 1) 1 false,[.t 124],none⟩,
  ⟨some 126,.pur (.iaddr 3),[.t 125,.k (.i 4)],none⟩,
  ⟨some 127,.ld none 3 true,[.t 126],none⟩,
  ⟨some 128,.call 211,[.t 127],none⟩,
  ⟨some 17,.pur .mov,[.t 128],none⟩])<|
 .seq (.ops [
  ⟨some 129,.pur .mov,[.t 5],none⟩,
  ⟨some 130,.pur (.faddr 0),[.t 4],none⟩,
  ⟨none,.st (some 4) 1,[.t 130,.t 129],none⟩])<|
 .seq (.ops [
  ⟨some 131,.pur .mov,[.t 7],none⟩,
  ⟨some 132,.pur (.faddr 1),[.t 4],none⟩,
  ⟨none,.st (some 4) 1,[.t 132,.t 131],none⟩])<|
 .seq (.ops [
  ⟨some 133,.pur .mov,[.t 11],none⟩,
  ⟨some 134,.pur (.faddr 6),[.t 4],none⟩,
  ⟨none,.st (some 4) 1,[.t 134,.t 133],none⟩])<|
 .seq (.ops [
  ⟨some 135,.pur (.faddr 2),[.t 1],none⟩,
  ⟨some 136,.ld (some 1) 1 false,[.t 135],none⟩,
  ⟨some 137,.pur (.iaddr 3),[.t 136,.k (.i 4)],none⟩,
  ⟨some 138,.ld none 3 true,[.t 137],none⟩,
  ⟨some 139,.pur (.faddr 3),[.t 4],none⟩,
  ⟨none,.st (some 4) 3,[.t 139,.t 138],none⟩])<|
 .seq (.ops [
  ⟨some 140,.ld (some 4) 7 true,[.t 4],none⟩,
  ⟨some 141,.pur .mov,[.t 13],none⟩,
  ⟨some 142,.pur .mov,[.t 141],none⟩,
  ⟨some 143,.pur .mov,[.t 17],some (142,true)⟩,
  ⟨some 144,.pur .pick,[.t 142,.t 143,.k (.b false)],none⟩,
  ⟨none,.st (some 2) 7,[.t 2,.t 140],none⟩,
  ⟨some 3,.pur .mov,[.t 144],none⟩]) .ret) (st 145 l a S') []))=some (.tup [.agg (ckR y z g w k5).cells,.sc (.bool (wI y z g w k5))],S):=by
  intro l a S' v E m B rg2 C o N O F j I;have G:=I.reg;have X:=I.cell;have Y:=I.frzS (b:=S.n) (d:=1) (xad _);have af:wI y z g w k5=(H&&dbR g.kids&&w.fit):=by
   unfold wI;rw[W,P,Q,U,V]
  rw[af];have J:(ckR y z g w k5).cells=[.sc (.string (rD y ⟨#[99]⟩)),.sc (.string (rD z ⟨#[110]⟩)),zk (dnR g.kids)]++w.cells++[.sc (.int .i64 (qm (rD k5 ⟨#[117]⟩)))]:=by rw[zq w];rfl
  rw[J];cases A:(H&&dbR g.kids)with
  |false=>
   rw[A]at j;simp[-zg,E,m,B,rg2,C,o,N,O,F,j,l4,rf,X,G];rw[zq w];simp[B,Y,AV.pure]
  |true=>
   rw[A]at j;simp[-zg,E,m,B,rg2,C,o,N,O,F,j,l4,rf,X,G];rw[zq w];simp[B,Y,AV.pure]
 have ag:∀(v:Bool),v=H->True:=fun _ _=>trivial;simp only[wX];rcases q1 with _|_<;>rcases q2 with _|_<;>rcases q5 with _|_<;>rcases qn with _|_
 all_goals
  rw[<-P]at r1;rw[<-Q]at r2;rw[<-U]at r5;rw[<-V]at rn;simp[-zg,zbo,eq_true c1,h6,l0,l1,l2,Z,l5,eq_true c2,eq_true c3,eq_true c4,r1,r2,r5,rn];refine key _ _ _ _ rfl (by simp) (by simp) (by simp) (by simp[zC]) (by simp) (by simp[zC]) (by simp) (by simp) (by simp) (by simp[W]) (by simp) ?_;intro l a S' v E m B rg2 C o N O F j I;simp at N O F;simpa using done l a S' v E m B rg2 C o N O F j I
end
theorem ztJ{t:T}(h:t.rshp=true):knd t.kind=true/\(nmd t.kind=true↔t.name≠⟨#[]⟩)/\(kdn t.kind<0\/(t.kids.length:Int)=kdn t.kind):=by
 rw[t.rshp_def,xab]at h;exact T.one_iff.1 h.1
theorem zrW{t:T}(h:t.rshp=true)(a:t.kind=1):t=zP t.name:=by
 obtain⟨_,_,d⟩:=ztJ h;have e:kdn t.kind=0:=by rw[a];rfl
 have:t.kids.length=0:=by omega
 obtain⟨k,n,l⟩:=t;have a:k=1:=a;have b:l=[]:=List.length_eq_zero_iff.1 this;subst a;subst b;rfl
theorem zsB{t:T}(h:t.rshp=true)(b:nmd t.kind=false):t.name=⟨#[]⟩:=by
 obtain⟨_,d,_⟩:=ztJ h;by_cases a:t.name=⟨#[]⟩
 ·exact a
 ·have:=d.2 a;rw[b]at this;cases this
theorem zrX{t:T}(h:t.rshp=true)(a:t.kind=3):t=zS t.kids:=by
 have b:=zsB h (by rw[a];rfl);obtain⟨k,n,l⟩:=t;have a:k=3:=a;have b:n=⟨#[]⟩:=b;subst a;subst b;rfl
theorem zHL{t:T}{l r:ByteArray}(h:zae t l=some r):t.kind=1/\t.name=l++r:=by
 unfold zae at h;split at h
 ·rename_i a;exact⟨a,zkA.1 h⟩
 ·cases h
theorem ztz{l r:ByteArray}:zae (zP (l++r)) l=some r:=by
 unfold zae;rw[if_pos (show(zP (l++r)).kind=1 from rfl)];exact zkx
theorem zHk{t:T}{l:ByteArray}(h:rB t l=true):t.kind=1/\t.name=l++rD t l:=by
 unfold rB at h;obtain⟨r,a⟩:=Option.isSome_iff_exists.1 h;have:=zHL a;unfold rD;rw[a];exact this
theorem zjt{t:T}{l:ByteArray}(a:t.rshp=true)(h:rB t l=true):t=zP (l++rD t l):=by
 obtain⟨b,d⟩:=zHk h;rw[<-d];exact zrW a b
theorem zHl{l r:ByteArray}:rD (zP (l++r)) l=r:=by unfold rD;rw[ztz];rfl
theorem zju{l r:ByteArray}:rB (zP (l++r)) l=true:=by unfold rB;rw[ztz];rfl
theorem zzR{l:List ByteArray}:dbR (y7 l)=true:=by
 unfold dbR y7;rw[List.all_map,List.all_eq_true];intro s _;exact zju
theorem zoJ:∀{l:List T},(∀t∈l,t.rshp=true)->dbR l=true->y7 (dnR l)=l
 |[],_,_=>rfl
 |t::l,h,hd=>by
  unfold dbR at hd;rw[List.all_cons,xab]at hd;have ih:=zoJ (l:=l) (fun x a=>h x (by simp[a])) hd.2;have e:=zjt (h t (by simp)) hd.1;show zP (⟨#[100]⟩++rD t ⟨#[100]⟩)::y7 (dnR l)=t::l;rw[ih,<-e]
def zdR(key b d e f a g k5:T):Bool:=key.fit&&(zaL d a b&&wI e f a g k5)
theorem zF4{key t b m d e a f k5:T}(I:t.rshp=true)(p:t.kind=4)(q:t.kids=[key,b])(x:b.kids=[m,d,e,a,f,k5]):
 (yJ key (jS d e a f k5)).same t=zdR key b m d e a f k5/\(zdR key b m d e a f k5=true->jS d e a f k5=ckR d e a f k5):=by
 have r:b.rshp=true:=T.rshp_kid I (by rw[q];simp);have kb:∀u∈[m,d,e,a,f,k5],u.rshp=true:=fun u y=>T.rshp_kid r (by rw[x];exact y);have s:zdR key b m d e a f k5=true->jS d e a f k5=ckR d e a f k5/\yJ key (ckR d e a f k5)=t:=by
  intro h;unfold zdR zaL wI at h;simp only[xab,decide_eq_true_eq]at h;obtain⟨v,⟨⟨⟨K,L⟩,M⟩,N⟩,⟨⟨⟨⟨O,P⟩,Q⟩,z⟩,R⟩,U⟩:=h;have V:m=zP ⟨#[99,111,111,107,105,101]⟩:=by rw[<-M];exact zrW (kb m (by simp)) L
  have W:=zjt (kb d (by simp)) O;have X:=zjt (kb e (by simp)) P;have Y:=zjt (kb k5 (by simp)) Q;have A:a=zS (y7 (dnR a.kids)):=by
   rw[zoJ (fun u y=>T.rshp_kid (kb a (by simp)) y) R];exact zrX (kb a (by simp)) N
  unfold zdP at z;rw[decide_eq_true_eq]at z;have n:inI (ckR d e a f k5).upto:=zsI;have k:jE (ckR d e a f k5)=[m,d,e,a,f,k5]:=by
   show[_,_,_,_,_,_]=_;show[zP ⟨#[99,111,111,107,105,101]⟩,zP (⟨#[99]⟩++rD d ⟨#[99]⟩),zP (⟨#[110]⟩++rD e ⟨#[110]⟩),zS (y7 (dnR a.kids)),f,zP (⟨#[117]⟩++zE (qm (rD k5 ⟨#[117]⟩)))]=_;rw[z,<-V,<-W,<-X,<-A,<-Y]
  have B:b=zS (jE (ckR d e a f k5)):=by rw[k,<-x];exact zrX r K
  have Z:t=jI key (zS (jE (ckR d e a f k5))):=by
   rw[<-B];have C:=zsB I (by rw[p];rfl);obtain⟨tk,tn,tl⟩:=t;have p:tk=4:=p;have C:tn=⟨#[]⟩:=C;have q:tl=[key,b]:=q;subst p;subst C;subst q;rfl
  refine⟨?_,?_⟩
  ·have:=ztm n;have w:[zP ⟨#[99,111,111,107,105,101]⟩,zP (⟨#[99]⟩++(ckR d e a f k5).client),zP (⟨#[110]⟩++(ckR d e a f k5).nonce),zS (y7 (ckR d e a f k5).done),(ckR d e a f k5).secret,zP (⟨#[117]⟩++zE (ckR d e a f k5).upto)]=[m,d,e,a,f,k5]:=k;simp only[xak,and_true]at w;obtain⟨_,D,E,F,J,G⟩:=w;rw[D,E,F,J,G]at this;exact this
  ·rw[zuB v U];exact Z.symm
 refine⟨?_,fun h=>(s h).1⟩;rw[Bool.eq_iff_iff];constructor
 ·intro h;have h:=T.same_iff.1 h;have g:key.fit=true/\f.fit=true:=by
   have o:=congrArg T.kind h;rw[zuC,p]at o;by_cases v:(key.fit&&(jS d e a f k5).secret.fit)=true
   ·rw[xab]at v;exact v
   ·rw[if_neg v]at o;cases o
  have H:=zuB (c:=jS d e a f k5) g.1 g.2;rw[H]at h;have j:=congrArg T.kids h;rw[q]at j;have j:[key,zS (jE (jS d e a f k5))]=[key,b]:=j;simp only[xak,true_and,and_true]at j;have l:=congrArg T.kids j;rw[x]at l;have n:inI (jS d e a f k5).upto:=zn5;generalize jS d e a f k5=c at *;have l:[zP ⟨#[99,111,111,107,105,101]⟩,zP (⟨#[99]⟩++c.client),zP (⟨#[110]⟩++c.nonce),zS (y7 c.done),c.secret,zP (⟨#[117]⟩++zE c.upto)]=[m,d,e,a,f,k5]:=l;simp only[xak,and_true]at l;obtain⟨b0,D,E,F,J,G⟩:=l;unfold zdR zaL wI;rw[<-b0,<-D,<-E,<-F,<-G,<-j,g.1,g.2,zju,zju,zju,zHl];have A:dbR (zS (y7 c.done)).kids=true:=zzR;have en:zdP (zE c.upto)=true:=by unfold zdP;rw[zCG n];simp
  rw[A,en];rfl
 ·intro h;obtain⟨h1,h2⟩:=s h;rw[h1,h2,T.same_self]
theorem zF8{key t b:T}{now:Int}(e:t.kids=[key,b])(d:b.kids.length≠6):jg key t now=(jM,2):=by
 unfold jg;split
 ·rw[e];simp only[T.same_self,if_true];split
  ·rename_i a;rw[a]at d;simp at d
  ·rfl
 ·rfl
section
variable{S:AS}
theorem zt2{key t:T}{now:Int}(F:key.bulk<=1099511627776)(s:t.bulk<=1099511627776):
 call 113 [.agg key.cells,.agg t.cells,.sc (.int .i64 now)] S=some (.tup [.agg (jg key t now).1.cells,.sc (.int .i64 (jg key t now).2)],S):=by
 rw[zi zvu rfl (by simp) rfl];have v:=T.fits_bulk s;have a:=fun S=>@zt7 S t s;unfold jg;cases B:t.right with
 |false=>
  rw[B]at a;simp[-zg,kB,ww,a];exact vG
 |true=>
  rw[B]at a;by_cases h:t.kind=4
  ·have w:=(T.right_iff.1 B).1;obtain⟨k,b,g⟩:=T.enc_kids w h;have U:k∈t.kids:=by rw[g];simp
   have P:b∈t.kids:=by rw[g];simp
   have l:pev (.iaddr 3) [zh t.kids,.i 0]=some (.iptr k.cells):=zJ (i:=0) (by rw[g];rfl);have n:pev (.iaddr 3) [zh t.kids,.i 1]=some (.iptr b.cells):=zJ (i:=1) (by rw[g];rfl);have V:k.fits:=(T.fits_kids v).2 k U;have o:=(T.fits_kids v).2 b P;have G:b.bulk<=1099511627776:=by have:=T.bulk_kid P;omega
   have f:=fun S=>@zIv k key S V;have e:=fun S=>@zjD S key F;cases x:k.same key with
   |false=>
    rw[x]at f;simp[-zg,kB,ww,a,eq_true h,l,f,x,g];exact vG
   |true=>
    rw[x]at f;have H:=T.same_iff.1 x;subst H;by_cases I:b.kids.length=6
    ·obtain⟨c0,D,E,m,y,k5,j⟩:∃u0 J K L M N,b.kids=[u0,J,K,L,M,N]:=by
      match hl:b.kids,I with
      |[u0,J,K,L,M,N],_=>exact⟨u0,J,K,L,M,N,rfl⟩
     obtain⟨W,z⟩:=zF4 w h g j;have p:∀u∈b.kids,u.bulk+4<=b.bulk:=fun u X=>T.bulk_kid X;have b3:=p m (by rw[j];simp);have b4:=p y (by rw[j];simp);have b5:=p k5 (by rw[j];simp);have zfx:=@T.bulk_len m;have Y:=@T.bulk_name k5;rw[g];simp only[Bool.true_and,h,decide_true,if_true,x,j,W];unfold zdR at z ⊢;cases A:k.fit with
     |false=>
      rw[A]at e;obtain⟨C,q,d⟩:∃C q,∀S,call 220 [.agg b.cells] S=some (.tup [.agg (Ck.cells C),.sc (.bool q)],S):=by
       cases r:zaL c0 m b with
       |false=>exact⟨_,_,fun S=>zt8 j r⟩
       |true=>exact⟨_,_,fun S=>zt9 j r (by omega) (by omega) (by omega)⟩
      simp[-zg,kB,ww,a,eq_true h,l,n,f,e,d];exact vG
     |true=>
      rw[A]at e z;cases r:zaL c0 m b with
      |false=>
       have d:=fun S=>@zt8 S b c0 D E m y k5 j r;simp[-zg,kB,ww,a,eq_true h,l,n,f,e,d];exact vG
      |true=>
       have d:=fun S=>@zt9 S b c0 D E m y k5 j r (by omega) (by omega) (by omega);rw[r]at z;cases Q:wI D E m y k5 with
       |false=>
        rw[Q]at d;simp[-zg,kB,ww,a,eq_true h,l,n,f,e,d];exact vG
       |true=>
        rw[Q]at d z;rw[z rfl];generalize ckR D E m y k5=C at *;by_cases R:C.upto<now
        ·simp[-zg,kB,ww,a,eq_true h,l,n,f,e,d,R];exact vG
        ·simp[kB,ww,a,eq_true h,l,n,f,e,d,R,AV.pure]
    ·have Z:¬(b.kids.length:Int)=6:=by omega
     have d:=fun S=>@zIJ S b (T.fits_kids o).1 I;have O:=zF8 (now:=now) g I;unfold jg at O;rw[B]at O;rw[O];cases A:k.fit with
     |false=>
      rw[A]at e;simp[-zg,kB,ww,a,eq_true h,l,n,f,e,d];exact vG
     |true=>
      rw[A]at e;simp[-zg,kB,ww,a,eq_true h,l,n,f,e,d];exact vG
  ·simp[-zg,kB,ww,a,h];exact vG
end
end Abs
