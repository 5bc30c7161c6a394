/- Rows of numbers in memory: DeleteFunc, Compact. -/
import Derived.Test.YtdiebjbepfjjfaaGreatDoorG2
import Derived.Test.YtdiebjbepfjjfaaGreatDoorG1
set_option maxHeartbeats 16000000
set_option maxRecDepth 100000
set_option linter.unusedVariables false
set_option linter.unusedSimpArgs false
set_option linter.unusedSectionVars false
namespace Abs
open Go
section
variable{S:AS}{id:Nat}{m:List Int}
theorem zoN{l m:List Int}{k j:Nat}{x:Int}(h:m.drop j=l.drop j)(a:k<j):(m.set k x).drop j=l.drop j:=by
 rw[List.drop_set_of_lt a,h]
theorem zgC{α:Type}{l m:List α}{i j:Nat}(h:m.drop i=l.drop i)(a:i<=j):m.drop j=l.drop j:=by
 have e:=congrArg (List.drop (j-i)) h
 rwa [List.drop_drop,List.drop_drop,Nat.add_sub_cancel' a]at e
theorem zr3{n k:Nat}{lim:Option Nat}{cap:List AV}{g:Int->Bool}(h:Mem S id m)(T:S.ro<=id)(hn:n<=m.length)(D:n<=4611686018427387904)(M:cap.any AV.isReg=false)
 (hg:∀S',Upd S S' id->∀x∈m.take n,call k (.sc (.int .i64 x)::cap) S'=some (.sc (.bool (g x)),S')):
 ∃S',call 275 [.arr id 1 0 n lim,.fn k [] cap] S=some (.arr id 1 0 ((m.take n).filter fun x=>!g x).length lim,S')/\Upd S S' id/\∃p,Mem S' id p/\p.length=m.length/\p.take ((m.take n).filter fun x=>!g x).length=(m.take n).filter fun x=>!g x:=by
 have U:(m.take n).length=n:=by rw[List.length_take];omega
 have o:=zBx (lim:=lim) h hn D M (fun x hx=>hg S .refl x hx);rw[z8 zwI (by simp) rfl];simp only[zhx];rcases @zrG g (m.take n) 0 with⟨N,O⟩|⟨j,x,N,O,h3,h4⟩
 ·rw[N]at o;rw[O,U];refine⟨S,?_,.refl,m,h,rfl,rfl⟩;simp[zk6,o]
 ·rw[Nat.zero_add]at N;rw[N]at o;have V:j<n:=by
   have:=(xal.1 O).1;omega
  have w2:IntKind.i64.wrap ((j:Int)+1)=((j+1:Nat):Int):=w64 (by omega);have W:¬((j:Int)= -1):=by omega
  simp[zk6,o,w2,W];refine y8 (α:=Nat×Nat×AS×List Int) (R:=fun _ r=>∃S',r=some (.arr id 1 0 ((m.take n).filter fun x=>!g x).length lim,S')/\Upd S S' id/\∃p,Mem S' id p/\p.length=m.length/\p.take ((m.take n).filter fun x=>!g x).length=(m.take n).filter fun x=>!g x)
   (fun a e rg S'=>a.1<=n/\a.2.1<a.1/\a.2.1=(((m.take n).take a.1).filter fun x=>!g x).length/\Upd S S' id/\Mem S' id a.2.2.2/\a.2.2.2.length=m.length/\a.2.2.2.take a.2.1=((m.take n).take a.1).filter (fun x=>!g x)/\a.2.2.2.drop a.1=m.drop a.1/\e 0=.arr id 1 0 n lim/\e 1=.fn k [] cap/\e 5=.sc (.int .i64 (a.2.1:Nat))/\e 6=.sc (.int .i64 (a.1:Nat))) (fun a=>n-a.1) ?_ (j+1,j,S,m) _ _ _ ?_
  rotate_left
  ·have v:=zre (g:=g) O;rw[h3,if_pos rfl,h4]at v;have X:((m.take n).take j).length=j:=by rw[List.length_take];omega
   refine⟨by simp only;omega,by simp only;omega,by simp only[v,X],.refl,h,rfl,?_,rfl,by simp,by simp,by simp,by simp⟩;show m.take j=((m.take n).take (j+1)).filter _;rw[v,List.take_take,Nat.min_eq_left (by omega)]
  intro kk Y ⟨q,i,S0,p⟩ e rg S' ⟨hq,Z,s,A,F,t,u,w,E,P,G,Q⟩ ih;simp only at hq Z s F t u w G Q ih ⊢;have z:S'.ro<=id:=by rw[A.ro];exact T
  by_cases M:q<n
  ·obtain⟨y,hy⟩:=yV (l:=m) (i:=q) (by omega);have H:(m.take n)[q]?=some y:=by rw[xaq,if_pos M];exact hy
   have aa:p[q]?=some y:=by rw[zkH w (xad _)];exact hy
   have w3:IntKind.i64.wrap ((q:Int)+1)=((q+1:Nat):Int):=w64 (by omega);have w4:IntKind.i64.wrap ((i:Int)+1)=((i+1:Nat):Int):=w64 (by omega);have I:(q:Int)<(n:Int):=by omega
   have b:=hg S' A y (xaj H);have J:=fun d rg=>@Mem.ld S' id p F q y aa d rg;have B:=@zbD id 0 n q lim M;rw[Nat.zero_add]at B;have K:=@zbD id 0 n i lim (by omega);rw[Nat.zero_add]at K;have v:=zre (g:=g) H;cases D:g y with
   |true=>
    rw[D]at b;rw[D,if_pos rfl]at v;simp[zhy,E,P,G,Q,I,B,J,b,w3];refine ih (q+1,i,S0,p) _ _ _ (by omega) (fun _ h=>h) ?_;exact⟨by simp only;omega,by simp only;omega,by simp only[v];exact s,A,F,t,by simp only[v];exact u,zgC w (by omega),by simp[E],by simp[P],by simp[G],by simp⟩
   |false=>
    rw[D]at b;rw[D,if_neg (by simp)]at v;have ab:=fun d rg=>@Mem.st S' id p F z i y (by omega) d rg;simp[zhy,E,P,G,Q,I,B,K,J,b,w3,w4,ab];refine ih (q+1,i+1,S0,p.set i y) _ _ _ (by omega) (fun _ h=>h) ?_;refine⟨by simp only;omega,by simp only;omega,by simp only[v,xaC,List.length_singleton,<-s],A.set,Mem.set,by simp only[List.length_set];exact t,?_,?_,by simp[E],by simp[P],by simp,by simp⟩
    ·simp only[v];rw[zuH (by omega),u]
    ·exact zoN (zgC w (by omega)) (by omega)
  ·have ac:q=n:=by omega
   subst ac;obtain⟨S2,m2,ad,C,ae,ai,af⟩:=F.clear z (k:=i) (c:=q-i) (lim:=lim) (by omega);have ag:(m.take q).take q=m.take q:=by rw[List.take_take,Nat.min_self]
   rw[ag]at s u;have aj:(i:Int)<=(q:Int):=by omega
   have ak:(0:Int)<=(i:Int):=by omega
   have ah:pev (.sliceL 1 true false false) [.arr id 1 0 q lim,.sc (.int .i64 (i:Int))]=some (.arr id 1 i (q-i) lim):=by
    simp[pev,zM];omega
   have L:pev (.sliceL 1 false true false) [.arr id 1 0 q lim,.sc (.int .i64 (i:Int))]=some (.arr id 1 0 i lim):=by
    simp[pev,zM];omega
   simp[zhy,E,Q];rw[Y];simp[E,G,ah,L,ad];refine⟨S2,⟨s,rfl⟩,⟨C.n.trans A.n,C.ro.trans A.ro,fun j V=>(C.h j V).trans (A.h j V)⟩,m2,ae,by omega,?_⟩;rw[<-s,af,u]
end
section
variable{S:AS}{id:Nat}{m:List Int}
def zj0(S:AS)(id:Nat)(m:List Int)(lim:Option Nat)(r:Option (AV×AS)):Prop:=∃S',r=some (.arr id 1 0 (yG m).length lim,S')/\Upd S S' id/\∃a,Mem S' id a/\a.length=m.length/\a.take (yG m).length=yG m
def zvf(S:AS)(id:Nat)(m:List Int)(lim:Option Nat)(b:Nat)(a:Nat×Nat×List Int)(e:Nat->AV)(S':AS):Prop:=
 b+a.1+1<=m.length/\a.2.1<=b+a.1/\a.2.1=(yG (m.take (b+a.1+1))).length/\Upd S S' id/\Mem S' id a.2.2/\a.2.2.length=m.length/\a.2.2.take a.2.1=yG (m.take (b+a.1+1))/\a.2.2.drop (b+a.1)=m.drop (b+a.1)/\
 e 0=.arr id 1 0 m.length lim/\e 3=.sc (.int .i64 (a.2.1:Nat))/\e 4=.arr id 1 b (m.length-b) lim/\e 5=.sc (.int .i64 ((a.1:Int)+1))
theorem zBs{lim:Option Nat}(h:Mem S id m)(aa:S.ro<=id)(hb:m.length<=4611686018427387904):zj0 S id m lim (call 276 [.arr id 1 0 m.length lim] S):=by
 rw[z8 zwJ (by simp) rfl];simp only[f276];by_cases V:m.length<2
 ·have u:(m.length:Int)<2:=by omega
  have G:yG m=m:=by
   match m,V with
   |[],_=>rfl
   |[a],_=>rfl
  refine⟨S,?_,.refl,m,h,rfl,by rw[G];exact xax⟩;simp[zk7,u,G]
 ·have u:¬(m.length:Int)<2:=by omega
  simp[zk7,u];refine y8 (α:=Nat) (R:=fun _ r=>zj0 S id m lim r) (fun i e rg S'=>i+1<=m.length/\S'=S/\yG (m.take (i+1))=m.take (i+1)/\e 0=.arr id 1 0 m.length lim/\e 3=.sc (.int .i64 ((i:Int)+1))) (fun i=>m.length-i) ?_ 0 _ _ _ ?_;rotate_left
  ·refine⟨by omega,rfl,?_,by simp,by simp⟩
   match m,V with
   |[],V=>simp at V
   |a::l,_=>simp[yG]
  intro kk H i e rg S' ⟨hi,hS,o,C,W⟩ ih;subst hS;by_cases G:i+1<m.length
  ·obtain⟨a,ha⟩:=yV (l:=m) (i:=i) (by omega);obtain⟨b,v⟩:=yV (l:=m) (i:=i+1) G;have q:(i:Int)+1<(m.length:Int):=by omega
   have la:=fun d rg=>@Mem.ld S' id m h i a ha d rg;have lb:=fun d rg=>@Mem.ld S' id m h (i+1) b v d rg;have ia:=@zbD id 0 m.length i lim (by omega);have X:=@zbD id 0 m.length (i+1) lim G;rw[Nat.zero_add]at ia X;have ec:(((i+1:Nat):Int))=(i:Int)+1:=by omega
   rw[ec]at X;have w0:IntKind.i64.wrap (i:Int)=(i:Int):=w64 (by omega);have w1:IntKind.i64.wrap ((i:Int)+1+1)=(i:Int)+1+1:=w64 (by omega);have w2:IntKind.i64.wrap ((i:Int)+1-1)=(i:Int):=by rw[w64 (by omega)];omega
   have p:=zop ha v;by_cases w:a=b
   ·subst w;rw[if_pos rfl]at p;have ab:pev (.sliceL 1 true false false) [.arr id 1 0 m.length lim,.sc (.int .i64 ((i:Int)+1))]=some (.arr id 1 (i+1) (m.length-(i+1)) lim):=by
     have h1:(0:Int)<=(i:Int)+1:=by omega
     have h2:((i:Int)+1).toNat=i+1:=by omega
     simp[pev,zM,h1,h2];omega
    simp[zhA,C,W,q,ia,X,la,lb,w0,w1,w2,ab];refine y8 (α:=Nat×Nat×List Int) (R:=fun _ r=>zj0 S' id m lim r) (fun x e rg ac=>zvf S' id m lim (i+1) x e ac) (fun x=>m.length-x.1) ?_ (0,i+1,m) _ _ _ ?_;rotate_left
    ·refine⟨by simp only;omega,by simp only;omega,?_,.refl,h,rfl,?_,rfl,by simp[C],by simp[W],by simp,by simp⟩
     ·simp only[Nat.add_zero];rw[p,o,List.length_take];omega
     ·simp only[Nat.add_zero];rw[p,o]
    intro al I ⟨j,k,y⟩ e2 rg2 Y ⟨q1,q2,D,E,F,q6,J,K,L,M,N,Z⟩ ih2;simp only at q1 q2 D F q6 J K M Z ih2;have t:Y.ro<=id:=by rw[E.ro];exact aa
    by_cases hd:i+1+j+1<m.length
    ·obtain⟨c,O⟩:=yV (l:=m) (i:=i+1+j) (by omega);obtain⟨d,P⟩:=yV (l:=m) (i:=i+1+j+1) hd;have ad:y[i+1+j]?=some c:=by rw[zkH K (xad _)];exact O
     have ae:y[i+1+j+1]?=some d:=by rw[zkH K (by omega)];exact P
     have lc:=fun d rg=>@Mem.ld Y id y F _ c ad d rg;have ld:=fun d' rg=>@Mem.ld Y id y F _ d ae d' rg;have ic:=@zbD id (i+1) (m.length-(i+1)) j lim (by omega);have z:=@zbD id (i+1) (m.length-(i+1)) (j+1) lim (by omega);have ec:(((j+1:Nat):Int))=(j:Int)+1:=by omega
     rw[ec,<-Nat.add_assoc]at z;have u0:IntKind.i64.wrap (j:Int)=(j:Int):=w64 (by omega);have u1:IntKind.i64.wrap ((j:Int)+1+1)=((j+1:Nat):Int)+1:=by rw[w64 (by omega)];omega
     have u2:IntKind.i64.wrap ((j:Int)+1-1)=(j:Int):=by rw[w64 (by omega)];omega
     have u3:IntKind.i64.wrap ((k:Int)+1)=((k+1:Nat):Int):=w64 (by omega);have s:(j:Int)+1<((m.length-(i+1):Nat):Int):=by omega
     have g:=zop O P;by_cases A:c=d
     ·subst A;rw[if_pos rfl]at g;simp[zhz,L,M,N,Z,s,ic,z,lc,ld,u0,u1,u2];refine ih2 (j+1,k,y) _ _ _ (by omega) (fun _ h=>h) ?_;have Q:i+1+(j+1)+1=i+1+j+2:=by omega
      refine⟨by simp only;omega,by simp only;omega,?_,E,F,q6,?_,?_,by simp[L],by simp[M],by simp[N],by simp⟩
      ·simp only[Q,g];exact D
      ·simp only[Q,g];exact J
      ·exact zgC K (by omega)
     ·have af:¬d=c:=fun h=>A h.symm;rw[if_neg A]at g;have ik:=@zbD id 0 m.length k lim (by omega);rw[Nat.zero_add]at ik;have st:=fun d' rg=>@Mem.st Y id y F t k d (by omega) d' rg;simp[zhz,L,M,N,Z,s,ic,z,lc,ld,u0,u1,u2,u3,af,ik,st];refine ih2 (j+1,k+1,y.set k d) _ _ _ (by omega) (fun _ h=>h) ?_;have Q:i+1+(j+1)+1=i+1+j+2:=by omega
      refine⟨by simp only;omega,by simp only;omega,?_,E.set,Mem.set,by simp only[List.length_set];exact q6,?_,?_,by simp[L],by simp,by simp[N],by simp⟩
      ·simp only[Q,g,xaC,List.length_singleton,<-D]
      ·simp only[Q,g];rw[zuH (by omega),J]
      ·exact zoN (zgC K (by omega)) (by omega)
    ·have hj:i+1+j+1=m.length:=by omega
     rw[hj,xax]at D J;obtain⟨S3,m3,ag,B,ah,am,ai⟩:=F.clear t (k:=k) (c:=m.length-k) (lim:=lim) (by omega);have T:pev (.sliceL 1 true false false) [.arr id 1 0 m.length lim,.sc (.int .i64 (k:Int))]=some (.arr id 1 k (m.length-k) lim):=by
      simp[pev,zM];omega
     have U:pev (.sliceL 1 false true false) [.arr id 1 0 m.length lim,.sc (.int .i64 (k:Int))]=some (.arr id 1 0 k lim):=by
      simp[pev,zM];omega
     have s:¬(j:Int)+1<((m.length-(i+1):Nat):Int):=by omega
     simp[zhz,N,Z,s];rw[I];simp[L,M,T,U,ag];rw[H];simp;exact⟨S3,by rw[D],⟨B.n.trans E.n,B.ro.trans E.ro,fun j hj=>(B.h j hj).trans (E.h j hj)⟩,m3,ah,by omega,by rw[<-D,ai,J]⟩
   ·have aj:¬b=a:=fun h=>w h.symm;rw[if_neg w]at p;have w3:IntKind.i64.wrap ((i:Int)+1+1)=((i+1:Nat):Int)+1:=by rw[w64 (by omega)];omega
    simp[zhA,C,W,q,ia,X,la,lb,w0,w2,w3,aj];refine ih (i+1) _ _ _ (by omega) (fun _ h=>h) ?_;refine⟨by omega,rfl,?_,by simp[C],by simp⟩;have e2:m.take (i+2)=m.take (i+1)++[b]:=by rw[xav,v];rfl
    show yG (m.take (i+2))=_;rw[p,o];exact e2.symm
  ·have ak:i+1=m.length:=by omega
   have q:¬(i:Int)+1<(m.length:Int):=by omega
   rw[ak,xax]at o;simp[zhA,C,W,q];rw[H];simp[C];exact⟨S',by rw[o],.refl,m,h,rfl,by rw[o];exact xax⟩
end
structure Tk where
 counter:Int
 look:Int
 sync:Int
 pending:Int
 fails:Int
 limit:Int
def Tk.cells(t:Tk):List AV:=[.sc (.int .i64 t.counter),.sc (.int .i64 t.look),.sc (.int .i64 t.sync),.sc (.int .i64 t.pending),.sc (.int .i64 t.fails),.sc (.int .i64 t.limit)]
@[simp] theorem Tk.nrm{t:Tk}:yL t.cells=t.cells:=by simp[Tk.cells]
@[simp] theorem Tk.len{t:Tk}:t.cells.length=6:=rfl
@[simp] theorem Tk.t0{t:Tk}:t.cells.take 1=[.sc (.int .i64 t.counter)]:=rfl
@[simp] theorem Tk.t1{t:Tk}:(t.cells.drop 1).take 1=[.sc (.int .i64 t.look)]:=rfl
@[simp] theorem Tk.t1'{t:Tk}:t.cells.tail.take 1=[.sc (.int .i64 t.look)]:=rfl
@[simp] theorem Tk.t2{t:Tk}:(t.cells.drop 2).take 1=[.sc (.int .i64 t.sync)]:=rfl
@[simp] theorem Tk.t3{t:Tk}:(t.cells.drop 3).take 1=[.sc (.int .i64 t.pending)]:=rfl
@[simp] theorem Tk.t6{t:Tk}:t.cells.take 6=t.cells:=rfl
theorem Tk.cell{t:Tk}:t.cells.all AV.isCell=true:=rfl
@[simp] theorem Tk.cell'{t:Tk}:(∀v:AV,v∈t.cells->v.isCell=true)=True:=eq_true (List.all_eq_true.1 Tk.cell)
def inB(n a b:Int):Bool:=decide (a<=n)&&decide (n<=b)
def Tk.right(t:Tk):Bool:=inB t.counter 0 1099511627776&&(inB t.look 0 20&&(inB t.sync 0 50&&(inB t.pending 0 1099511627976&&(decide (0<=t.fails)&&inB t.limit 1 100))))
def rng(c:Int)(n:Nat):List Int:=(List.range n).map fun(i:Nat)=>c+(i:Int)
theorem zmA{c:Int}{n:Nat}:(rng c n).length=n:=by simp[rng]
theorem zmB{c:Int}{n:Nat}:rng c (n+1)=rng c n++[c+(n:Int)]:=by simp[rng,List.range_succ]
theorem zjA{c x:Int}{n:Nat}:x∈rng c n↔c<=x/\x<c+(n:Int):=by
 simp only[rng,List.mem_map,List.mem_range];constructor
 ·rintro⟨i,a,rfl⟩;omega
 ·rintro⟨b,d⟩;exact⟨(x-c).toNat,by omega,by omega⟩
def Tk.may(t:Tk):List Int:=yG (js (t.pending::rng t.counter ((t.look+t.sync).toNat+1)))
def Tk.hits(t:Tk)(seed b:T):List Int:=t.may.filter fun c=>b.same (ji seed c)
def zlP(nonce seed:T)(t:Tk):List T->List Int×Int
 |[a,b]=>if a.same nonce then(if t.right then(t.hits seed b,0)else([],0))else([],6)
 |_=>([],2)
def zi0(nonce seed:T)(t:Tk)(r:T×Int):List Int×Int:=if r.2=0 then(match zX vq 2 r.1 with|some l=>zlP nonce seed t l|none=>([],2))else([],r.2)
def ziZ(ak nonce p seed:T)(t:Tk):List Int×Int:=match zX yg 1 p with
 |some [x]=>zi0 nonce seed t (jz ak 45 x)
 |_=>([],2)
section
variable{S:AS}
theorem zuk{n a b:Int}:call 365 [.sc (.int .i64 n),.sc (.int .i64 a),.sc (.int .i64 b)] S=some (.sc (.bool (inB n a b)),S):=by
 rw[zi zxE rfl (by simp) rfl];unfold inB;by_cases h:a<=n<;>simp[zh5,zqt,h]
theorem zmT{t:Tk}:call 273 [.agg t.cells] S=some (.sc (.bool t.right),S):=by
 rw[zi zwG rfl (by simp) rfl];unfold Tk.right;have e:=fun S n a b=>@zuk S n a b;have k:(t.cells.drop 4).take 1=[.sc (.int .i64 t.fails)]:=rfl;have o:(t.cells.drop 5).take 1=[.sc (.int .i64 t.limit)]:=rfl;have i:t.cells.drop 5=[.sc (.int .i64 t.limit)]:=rfl;cases d:inB t.counter 0 1099511627776 with
 |false=>simp[zaE,zce,e,d]
 |true=>
  cases g:inB t.look 0 20 with
  |false=>simp[zaE,zce,e,d,g]
  |true=>
   cases h:inB t.sync 0 50 with
   |false=>simp[zaE,zce,e,d,g,h]
   |true=>
    cases j:inB t.pending 0 1099511627976 with
    |false=>simp[zaE,zce,e,d,g,h,j]
    |true=>
     by_cases l:0<=t.fails
     ·simp[zaE,zce,e,d,g,h,j,l,k,o,i]
     ·simp[zaE,zce,e,d,g,h,j,l,k]
theorem zyC{sz bytes:Nat}{s:AV}{y:List AV}{ys:List (List AV)}{v:AV}{S':AS}(h:jq sz bytes S s (y::ys)=some (v,S')):∃id off len lim,v=.arr id sz off len lim:=by
 unfold jq at h;rw[if_neg (by simp)]at h;split at h
 ·split at h
  ·cases h;exact⟨_,_,_,_,rfl⟩
  ·cases h
 ·split at h
  ·split at h
   ·cases h
   ·split at h
    ·split at h
     ·cases h;exact⟨_,_,_,_,rfl⟩
     ·split at h
      ·cases h;exact⟨_,_,_,_,rfl⟩
      ·cases h
    ·split at h
     ·cases h;exact⟨_,_,_,_,rfl⟩
     ·split at h
      ·cases h;exact⟨_,_,_,_,rfl⟩
      ·cases h
  ·cases h
 ·cases h
theorem Own.arr_mem{S0:AS}{id off len:Nat}{lim:Option Nat}{l:List Int}(h:Own S0 S 1 (.arr id 1 off len lim) (zV l)):off=0/\len=l.length/\lim=none/\Mem S id l/\S0.n<=id/\id<S.n:=by
 rcases h.h with⟨z,e,_⟩|⟨a,e,b,d,g⟩
 ·cases e
 ·cases e;exact⟨rfl,by simp[zV],rfl,b,d,g⟩
theorem zIU{seed a b:T}{c:Int}{id:Nat}(e:S.heap id=some (.rows 1 [[zh [a,b]]]))(g:inI c)(h:b.fits):call 277 [.sc (.int .i64 c),.ptr id 0 0,.iptr seed.cells] S=some (.sc (.bool (!b.same (ji seed c))),S):=by
 rw[zi zwK rfl (by simp) rfl];have j:pev (.iaddr 3) [zh [a,b],.i 1]=some (.iptr b.cells):=zJ (i:=1) rfl;have k:=fun S=>@zIV S seed c g;have ld:=fun d rg=>@zY id 0 0 1 false d rg ⟨S.heap,S.n,S.n⟩ 1 _ e;simp at ld;simp[f277,zpY,j,k,ld,h]
end
def qf(r:List Int×Int):AV:=.tup [yi r.1,.sc (.int .i64 r.2)]
theorem zHP{l:List Int}:zbE (zV l)=some l:=ztE
theorem zJ0{l:List Int}{x:Int}:x∈js l↔x∈l:=List.mem_mergeSort
theorem zkv:∀{l:List Int} {x:Int},x∈yG l->x∈l
 |[],x,h=>h
 |[a],x,h=>h
 |a::b::l,x,h=>by
  rw[yG]at h;split at h
  ·exact List.mem_cons_of_mem _ (zkv h)
  ·rcases xaz.1 h with rfl|h
   ·exact List.mem_cons_self
   ·exact List.mem_cons_of_mem _ (zkv h)
section
variable{S:AS}
theorem zzr{id:Nat}{l:List Int}(h:Mem S id l)(a:S.ro<=id)(d:l≠[])(g:l.length<4611686018427387904):call 274 [.arr id 1 0 l.length none] S=some (.tup [],S.set id (some (.rows 1 (zV (js l))))):=by
 rw[zbh zwH (by simp)];have b:0<l.length:=List.length_pos_iff.2 d;unfold Mem at h;have e:vM (js l)=zV (js l):=rfl;simp[zbJ,h,zHP,a,g,b,e]
theorem zKe{S0 S':AS}{id p:Nat}{l:List Int}{seed a b:T}(z:Own S0 S' 1 (.arr id 1 0 l.length none) (zV l))(K:l≠[])(V:l.length<=1000)(hp:p<S0.n)(L:S0.heap p=some (.rows 1 [[zh [a,b]]]))(M:b.fits)(N:∀x∈l,inI x):
 ∃r s w,call 274 [.arr id 1 0 l.length none] S'=some (.tup [],r)/\call 276 [.arr id 1 0 l.length none] r=some (.arr id 1 0 (yG (js l)).length none,s)/\
  call 275 [.arr id 1 0 (yG (js l)).length none,.fn 277 [] [.ptr p 0 0,.iptr seed.cells]] s=some (.arr id 1 0 ((yG (js l)).filter fun c=>b.same (ji seed c)).length none,w)/\
  w.slice S0.n id 1 0 ((yG (js l)).filter fun c=>b.same (ji seed c)).length=some (zV ((yG (js l)).filter fun c=>b.same (ji seed c))):=by
 obtain⟨_,_,_,O,I,W⟩:=z.arr_mem;have j:S'.ro<=id:=xaD z.ro I;have i:=zzr O j K (by omega);have o:p≠id:=by omega
 generalize t:S'.set id (some (.rows 1 (zV (js l))))=r at i;have A:Mem r id (js l):=by rw[<-t];exact Mem.set
 have B:Upd S' r id:=by rw[<-t];exact Upd.refl.set
 have d:=zBs (lim:=none) A (by rw[B.ro];exact j) (by rw[zjM];omega);rw[zjM]at d;obtain⟨s,d,J,P,C,D,u⟩:=d;have E:=@zon (js l);rw[zjM]at D E;have F:∀T,Upd s T id->T.heap p=some (.rows 1 [[zh [a,b]]]):=fun T hT=>by
  rw[hT.h p o,J.h p o,B.h p o,z.old.heap p hp];exact L
 have G:∀x∈P.take (yG (js l)).length,inI x:=fun x y=>by
  rw[u]at y;exact N x (zJ0.1 (zkv y))
 obtain⟨w,e,X,Q,v,R,q⟩:=zr3 (k:=277) (n:=(yG (js l)).length) (lim:=none) (cap:=[.ptr p 0 0,.iptr seed.cells]) (g:=fun c=>!b.same (ji seed c)) C (by rw[J.ro,B.ro];exact j) (by omega) (by omega) rfl
  (fun T hT x y=>zIU (F T hT) (G x y) M)
 rw[u]at e q;simp only[Bool.not_not]at e q;refine⟨r,s,w,i,d,e,?_⟩;unfold Mem at v;have U:=List.length_filter_le (fun c=>b.same (ji seed c)) (yG (js l));unfold AS.slice;rw[if_pos I,v];have H:0+((yG (js l)).filter fun c=>b.same (ji seed c)).length<=(zV Q).length:=by rw[zrD];omega
 simp only[H,and_self,if_true];rw[List.drop_zero];unfold zV;rw[<-List.map_take,q]
theorem zsU{sz bytes:Nat}{S:AS}{s x:AV}{d:Option Nat}{rg:Nat->Option (List AV)}{v:AV}{S':AS}{ys:List (List AV)}(a:zD sz S x=some ys)(h:ze (.append sz bytes) d rg S [s,x]=some (v,none,S')):jq sz bytes S s ys=some (v,S'):=by
 simp only[ze,a,xae,xaf]at h;obtain⟨r,b,e⟩:=h;cases e;exact b
theorem zi1{x:Int}(h:0<=x/\x<=4611686018427387904):inI x:=by unfold inI;omega
theorem Tk.right_iff{t:Tk}:t.right=true↔(0<=t.counter/\t.counter<=1099511627776)/\(0<=t.look/\t.look<=20)/\(0<=t.sync/\t.sync<=50)/\(0<=t.pending/\t.pending<=1099511627976)/\0<=t.fails/\1<=t.limit/\t.limit<=100:=by
 unfold Tk.right inB;simp only[xab,decide_eq_true_eq]
theorem zrE{l:List Int}{x:Int}:zV (l++[x])=zV l++[[.sc (.int .i64 x)]]:=by simp[zV]
theorem zIF{ak nonce p seed:T}{t:Tk}(hp:p.bb):call 159 [.agg ak.cells,.agg nonce.cells,.agg p.cells,.agg seed.cells,.agg t.cells] S=some (qf (ziZ ak nonce p seed t),S):=by
 rw[zi zvR rfl (by simp) rfl];have w:=fun S=>@s78 S yg 1 p (by have:=T.bb_len hp;omega);simp only[yg]at w;have k:pev .ibox [.agg seed.cells]=some (.iptr seed.cells):=by rw[zq seed];simp[pev,zl3]
 unfold ziZ;cases q:zX yg 1 p with
 |none=>
  simp only[yg]at q;simp[zaz,zb7,k,w,q,zF,qf];rfl
 |some l=>
  obtain⟨hl,hm⟩:=jO (n:=1) q
  match l,hl with
  |[x],_=>
   simp only[yg]at q;have F:=T.bb_kids hp x (hm x (by simp));have G:=fun S=>@zmR S ak x 45 i45 (T.bb_fits F);have H:=@zcI ak x 45 F;simp only;generalize jz ak 45 x=r at G H ⊢;obtain⟨y,er⟩:=r;simp only at H;have I:pev (.iaddr 3) [zh [x],.i 0]=some (.iptr x.cells):=zJ (i:=0) rfl;unfold zi0;simp only;by_cases h0:er=0
   ·subst h0;have J:=fun S=>@s78 S vq 2 y (by have:=T.bb_len H;omega);simp only[vq]at J;have Y:∀d rg (S0:AS),ze (.alloc .heap [.lst 0 true []]) d rg S0 []=some (.ptr S0.n 0 0,none,S0.new (.rows 1 [[.lst 0 true []]])):=fun d rg S0=>by simp[ze]
    have K:∀l d rg,ze (.st none 1) d rg (AS.new ⟨S.heap,S.n,S.n⟩ (.rows 1 [[.lst 0 true []]])) [.ptr S.n 0 0,zh l]=some (.junk,none,(AS.new ⟨S.heap,S.n,S.n⟩ (.rows 1 [[.lst 0 true []]])).set S.n (some (.rows 1 [[zh l]]))):=fun l d rg=>by
     have hn:(AS.new ⟨S.heap,S.n,S.n⟩ (.rows 1 [[.lst 0 true []]])).heap S.n=some (.rows 1 [[.lst 0 true []]]):=jX;have aa:(AS.new ⟨S.heap,S.n,S.n⟩ (.rows 1 [[.lst 0 true []]])).ro=S.n:=rfl;simp[ze,hn,aa]
    cases z:zX vq 2 y with
    |none=>
     simp only[vq]at z;have g:=K [];simp[zaz,zb7,k,w,G,J,q,z,zF,zt,I,Y,g,qf];rfl
    |some m=>
     obtain⟨ab,L⟩:=jO (n:=2) z
     match m,ab with
     |[a,b],_=>
      simp only[vq]at z;have ha:=T.bb_fits (T.bb_kids H a (L a (by simp)));have hb:=T.bb_fits (T.bb_kids H b (L b (by simp)));have la:pev (.iaddr 3) [zh [a,b],.i 0]=some (.iptr a.cells):=zJ (i:=0) rfl;have g:=K [a,b];obtain⟨u,s⟩:∃u,u=(AS.new ⟨S.heap,S.n,S.n⟩ (.rows 1 [[.lst 0 true []]])).set S.n (some (.rows 1 [[zh [a,b]]])):=⟨_,rfl⟩;rw[<-s]at g;have M:u.heap S.n=some (.rows 1 [[zh [a,b]]]):=by rw[s];exact if_pos rfl
      have ac:u.n=S.n+1:=by rw[s];rfl
      have aj:u.ro=S.n:=by rw[s];rfl
      have A:∀d rg,ze (.ld none 1 false) d rg u [.ptr S.n 0 0]=some (zh [a,b],none,u):=fun d rg=>by rw[zY M];rfl
      simp only[zlP];cases hs:a.same nonce with
      |false=>
       simp[zaz,zb7,k,w,G,J,q,z,zF,zt,I,Y,g,A,la,ha,hs,qf];rfl
      |true=>
       have Z:=fun S=>@zmT S t;cases B:t.right with
       |false=>
        rw[B]at Z;simp[zaz,zb7,k,w,G,J,Z,q,z,zF,zt,I,Y,g,A,la,ha,hs,qf];rfl
       |true=>
        rw[B]at Z;obtain⟨t1,t2,t3,t4,t5,t6⟩:=Tk.right_iff.1 B;obtain⟨n,hn⟩:∃n,n=(t.look+t.sync).toNat:=⟨_,rfl⟩;have wA:IntKind.i64.wrap (t.counter+t.look)=t.counter+t.look:=w64 (by omega);have wB:IntKind.i64.wrap (t.counter+t.look+t.sync)=t.counter+t.look+t.sync:=w64 (by omega);simp only[zaz];simp[-zg,zb7,k,w,G,J,Z,q,z,zF,zt,I,Y,g,A,la,ha,hs,zj];refine y8 (α:=Nat) (R:=fun _ r=>zW S r=some (qf (t.hits seed b,0),S)) (fun j e rg S'=>j<=n+1/\e 8=.iptr seed.cells/\e 9=.reg 9 0/\rg 9=some t.cells/\e 16=.ptr S.n 0 0/\e 18=.sc (.int .i64 (t.counter+(j:Nat)))/\Own u S' 1 (e 17) (zV (t.pending::rng t.counter j))/\(0<j->∃id off len lim,e 17=.arr id 1 off len lim)) (fun j=>n+1-j) ?_ 0 _ _ _ ?_;rotate_left
        ·refine⟨by omega,by simp,by simp,by simp,by simp,by simp,?_,by omega⟩;simp;exact zmm (by omega)
        intro kk ad j e rg S' ⟨hj,g8,g9,C,N,O,P,Q⟩ ih;have ae:=P.reg;by_cases hc:j<n+1
        ·have D:t.counter+(j:Nat)<=t.counter+t.look+t.sync:=by omega
         have w3:IntKind.i64.wrap (t.counter+(j:Int)+1)=t.counter+((j+1:Nat):Int):=by rw[w64 (by omega)];omega
         obtain⟨v',S2,af,U,q1,q2,q3⟩:=P.push (n:=j+1) (bytes:=8) (r:=[.sc (.int .i64 (t.counter+(j:Nat)))]) (f:=true) (d:=none) (rg:=fun _=>none) (by simp[zV,zmA]) (by omega);have v:=zsU (ys:=[[.sc (.int .i64 (t.counter+(j:Nat)))]]) (by simp[zD]) af;have V:∀d rg,ze (.append 1 8) d rg S' [e 17,.lst 1 true [[.sc (.int .i64 (t.counter+(j:Nat)))]]]=some (v',none,S2):=fun d rg=>by simp[ze,zD,v]
         rw[<-zrE,List.cons_append,<-zmB]at U;simp[-zg,zkT,g9,C,O,wA,wB,D,ae,zj,V,q1,w3];refine ih (j+1) _ _ _ (by omega) (fun _ h=>h) ?_;exact⟨by omega,by simp[g8],by simp[g9],by simp[C],by simp[N],by simp,by simpa using U,fun _=>by obtain⟨i1,i2,i3,i4,e⟩:=zyC v;exact⟨i1,i2,i3,i4,by simpa using e⟩⟩
        ·have ag:j=n+1:=by omega
         subst ag;have D:¬t.counter+((n:Int)+1)<=t.counter+t.look+t.sync:=by omega
         obtain⟨id,off,len,lim,E⟩:=Q (by omega);rw[E]at P;obtain⟨rfl,rfl,rfl,_,_,_⟩:=P.arr_mem;obtain⟨S2,S3,S4,c1,c2,c3,o⟩:=zKe (seed:=seed) (a:=a) (b:=b) (p:=S.n) P (by simp) (by simp[zmA];omega) (by omega) M hb (fun x F=>by
          rcases xaz.1 F with rfl|F
          ·exact zi1 (by omega)
          ·have:=zjA.1 F;exact zi1 (by omega))
         simp only[xaI]at c1 c2 E;have W:t.hits seed b=(yG (js (t.pending::rng t.counter (n+1)))).filter fun c=>b.same (ji seed c):=by
          unfold Tk.hits Tk.may;rw[hn]
         rw[<-W]at c3 o;rw[ac]at o;have X:S4.slice S.n id 1 0 (t.hits seed b).length=some (zV (t.hits seed b)):=by
          unfold AS.slice at o ⊢;split at o
          ·rw[if_pos (by omega)];exact o
          ·cases o
         have ai:S4.frzTo S.n 2 (.arr id 1 0 (t.hits seed b).length none)=some (yi (t.hits seed b)):=by
          rw[ziQ X];simp[yi]
         simp[-zg,zkT,g9,C,O,wA,wB,D];rw[ad];simp[-zg,E,g8,N,c1,c2,c3];simp[ai,qf]
   ·simp[zaz,zb7,k,w,G,q,zF,zt,I,h0,qf];rfl
end
section
variable{S:AS}
theorem zm2{t:Tk}:call 421 [.agg t.cells] S=some (.sc (.bool t.right),S):=by
 rw[zi zx5 rfl (by simp) rfl];unfold Tk.right inB;have l:(t.cells.drop 4).take 1=[.sc (.int .i64 t.fails)]:=rfl;have n:(t.cells.drop 5).take 1=[.sc (.int .i64 t.limit)]:=rfl;have g:t.cells.drop 5=[.sc (.int .i64 t.limit)]:=rfl;by_cases a:0<=t.counter
 ·by_cases b:t.counter<=1099511627776
  ·by_cases d:0<=t.look
   ·by_cases e:t.look<=20
    ·by_cases h:0<=t.sync
     ·by_cases i:t.sync<=50
      ·by_cases j:0<=t.pending
       ·by_cases k:t.pending<=1099511627976
        ·by_cases o:0<=t.fails
         ·by_cases p:1<=t.limit
          ·simp[v6,kX,a,b,d,e,h,i,j,k,o,p,l,n,g]
          ·simp[v6,kX,a,b,d,e,h,i,j,k,o,p,l,n,g]
         ·simp[v6,kX,a,b,d,e,h,i,j,k,o,l,n,g]
        ·simp[v6,kX,a,b,d,e,h,i,j,k]
       ·simp[v6,kX,a,b,d,e,h,i,j]
      ·simp[v6,kX,a,b,d,e,h,i]
     ·simp[v6,kX,a,b,d,e,h]
    ·simp[v6,kX,a,b,d,e]
   ·simp[v6,kX,a,b,d]
  ·simp[v6,kX,a,b]
 ·simp[v6,kX,a]
end
@[simp] theorem Tk.frz{S:AS}{b d:Nat}{t:Tk}:zI (S.frzTo b d) t.cells=some t.cells:=by cases d<;>rfl
@[simp] theorem Tk.pure{t:Tk}:jR t.cells=true:=rfl
def jZ(f t b h:Int):Int:=if(f<=h/\h<=t)/\h<1099511627776/\(b<0\/h<b)then h else b
def jv(l:List Int)(f t:Int):Int:=l.foldl (jZ f t) (-1)
def Tk.reach(t:Tk):Int×Int:=if t.right then(t.counter,max (t.counter+t.look+t.sync) t.pending)else(0,-1)
def Tk.acc0(t:Tk)(l:List Int):Int:=if jv l t.counter (t.counter+t.look)<0/\t.counter+t.look<t.pending then jv l t.pending t.pending else jv l t.counter (t.counter+t.look)
def Tk.accept(t:Tk)(l:List Int):Tk×Int×Int:=
 if t.right then
  if t.limit<=t.fails then(t,0,7)
  else if 0<=t.acc0 l then({t with counter:=t.acc0 l+1,pending:=0,fails:=0},t.acc0 l,0)
  else if 0<=jv l (t.counter+t.look+1) (t.counter+t.look+t.sync)then({t with fails:=t.fails+1,pending:=jv l (t.counter+t.look+1) (t.counter+t.look+t.sync)+1},0,8)
  else({t with fails:=t.fails+1,pending:=0},0,6)
 else(t,0,1)
section
variable{S:AS}
theorem zJr{t:Tk}:call 418 [.agg t.cells] S=some (.tup [.sc (.int .i64 t.reach.1),.sc (.int .i64 t.reach.2)],S):=by
 rw[zi zx2 rfl (by simp) rfl];have e:=fun S=>@zm2 S t;unfold Tk.reach;cases a:t.right with
 |false=>rw[a]at e;simp[zfb,zlp,e]
 |true=>
  rw[a]at e;have h:=Tk.right_iff.1 a;have b:IntKind.i64.wrap (t.counter+t.look)=t.counter+t.look:=w64 (by omega);have d:IntKind.i64.wrap (t.counter+t.look+t.sync)=t.counter+t.look+t.sync:=w64 (by omega);simp[zfb,zlp,e,b,d]
theorem zm3{l:List Int}{f t:Int}(O:l.length<=4611686018427387904):call 422 [yi l,.sc (.int .i64 f),.sc (.int .i64 t)] S=some (.sc (.int .i64 (jv l f t)),S):=by
 rw[zi zx6 rfl (by simp) rfl];simp only[ziu];simp[-zg,zqH];refine y8 (α:=Nat) (R:=fun _ r=>zW S r=some (.sc (.int .i64 (jv l f t)),S)) (fun i e rg S'=>i<=l.length/\e 0=yi l/\e 1=.sc (.int .i64 f)/\e 2=.sc (.int .i64 t)/\e 7=.sc (.int .i64 (jv (l.take i) f t))/\e 8=.sc (.int .i64 (i:Nat))) (fun i=>l.length-i) ?_ 0 _ _ _ ?_;rotate_left
 ·exact⟨by omega,by simp,by simp,by simp,by simp[jv],by simp⟩
 intro G A i e rg S' ⟨P,d,j,k,n,q⟩ ih;by_cases H:i<l.length
 ·obtain⟨x,E⟩:∃x,l[i]?=some x:=⟨l[i],by simp[H]⟩;have w:IntKind.i64.wrap ((i:Int)+1)=((i+1:Nat):Int):=w64 (by omega);have g:(i:Int)<(l.length:Int):=by omega
  have B:jv (l.take (i+1)) f t=jZ f t (jv (l.take i) f t) x:=by
   unfold jv;rw[xav,E,Option.toList_some,List.foldl_append];rfl
  have a:=@zB3 l i x E;have F:=a;generalize jv (l.take i) f t=b at *;have step:∀v:Int,jZ f t b x=v->∀(o:Nat->AV) (s:Nat->Option (List AV)) (S':AS),o 0=yi l->o 1=.sc (.int .i64 f)->o 2=.sc (.int .i64 t)->o 7=.sc (.int .i64 v)->o 8=.sc (.int .i64 ((i:Int)+1))->
   zW S (fin [vi.tmp 6] (unw AA (some (.normal,st 53 o s S')) G))=some (.sc (.int .i64 (jv l f t)),S):=by
   intro v I o s S' J K L M N;exact ih (i+1) o s S' (by omega) (fun _ h=>h) ⟨by omega,J,K,L,by rw[M,B,I],by rw[N];rfl⟩
  unfold jZ at step;by_cases p:f<=x
  ·by_cases u:x<=t
   ·by_cases y:x<1099511627776
    ·by_cases z:b<0
     ·simp[-zg,zbq,d,j,k,n,q,g,a,p,u,y,z,w];exact step x (if_pos ⟨⟨p,u⟩,y,.inl z⟩) _ _ _ (by simp[d]) (by simp[j]) (by simp[k]) (by simp) (by simp)
     ·by_cases C:x<b
      ·simp[-zg,zbq,d,j,k,n,q,g,a,p,u,y,z,C,w];exact step x (if_pos ⟨⟨p,u⟩,y,.inr C⟩) _ _ _ (by simp[d]) (by simp[j]) (by simp[k]) (by simp) (by simp)
      ·simp[-zg,zbq,d,j,k,n,q,g,a,p,u,y,z,C,w];exact step b (if_neg (by rintro⟨_,_,h|h⟩<;>omega)) _ _ _ (by simp[d]) (by simp[j]) (by simp[k]) (by simp[n]) (by simp)
    ·simp[-zg,zbq,d,j,k,n,q,g,a,p,u,y,w];exact step b (if_neg (by rintro⟨_,h,_⟩;omega)) _ _ _ (by simp[d]) (by simp[j]) (by simp[k]) (by simp[n]) (by simp)
   ·simp[-zg,zbq,d,j,k,n,q,g,a,p,u,w];exact step b (if_neg (by rintro⟨⟨_,h⟩,_⟩;omega)) _ _ _ (by simp[d]) (by simp[j]) (by simp[k]) (by simp[n]) (by simp)
  ·simp[-zg,zbq,d,j,k,n,q,g,a,p,w];exact step b (if_neg (by rintro⟨⟨h,_⟩,_⟩;omega)) _ _ _ (by simp[d]) (by simp[j]) (by simp[k]) (by simp[n]) (by simp)
 ·have D:i=l.length:=by omega
  subst D;rw[xax]at n;simp[-zg,zbq,d,q];rw[A];simp[n]
theorem zdH{l:List Int}{f t:Int}(d:0<=f):jv l f t= -1\/(f<=jv l f t/\jv l f t<=t/\jv l f t<1099511627776):=by
 unfold jv;have:∀(l:List Int) (b:Int),(b= -1\/(f<=b/\b<=t/\b<1099511627776))->(l.foldl (jZ f t) b= -1\/(f<=l.foldl (jZ f t) b/\l.foldl (jZ f t) b<=t/\l.foldl (jZ f t) b<1099511627776)):=by
  intro l
  induction l with
  |nil=>intro b h;exact h
  |cons x l ih=>
   intro b h;rw[List.foldl_cons];refine ih _ ?_;unfold jZ;split
   ·rename_i a;exact .inr ⟨a.1.1,a.1.2,a.2.1⟩
   ·exact h
 exact this l (-1) (.inl rfl)
def wM(r:Tk×Int×Int):AV:=.tup [.agg r.1.cells,.sc (.int .i64 r.2.1),.sc (.int .i64 r.2.2)]
theorem zJh{t:Tk}{l:List Int}(z:l.length<=4611686018427387904)(I:t.fails<4611686018427387904):call 348 [.agg t.cells,yi l] S=some (wM (t.accept l),S):=by
 rw[zi zxu rfl (by simp) rfl];have e:=fun S=>@zm2 S t;unfold Tk.accept;have G:(t.cells.drop 4).take 1=[.sc (.int .i64 t.fails)]:=rfl;have H:(t.cells.drop 5).take 1=[.sc (.int .i64 t.limit)]:=rfl;have B:t.cells.drop 5=[.sc (.int .i64 t.limit)]:=rfl;cases C:t.right with
 |false=>rw[C]at e;simp[wD,zaF,e,wM]
 |true=>
  rw[C]at e;rw[if_pos rfl];have h:=Tk.right_iff.1 C;by_cases b:t.limit<=t.fails
  ·rw[if_pos b];simp[wD,zaF,e,G,H,B,b,wM]
  ·rw[if_neg b];have j:IntKind.i64.wrap (t.counter+t.look)=t.counter+t.look:=w64 (by omega);have k:=fun S=>@zm3 S l t.counter (t.counter+t.look) z;have D:=fun S=>@zm3 S l t.pending t.pending z;have r:=fun S=>@zm3 S l (t.counter+t.look+1) (t.counter+t.look+t.sync) z;have J:=@zdH l t.counter (t.counter+t.look) (by omega);have K:=@zdH l t.pending t.pending (by omega);have L:=@zdH l (t.counter+t.look+1) (t.counter+t.look+t.sync) (by omega);have s:IntKind.i64.wrap (t.counter+t.look+1)=t.counter+t.look+1:=w64 (by omega);have u:IntKind.i64.wrap (t.counter+t.look+t.sync)=t.counter+t.look+t.sync:=w64 (by omega);have v:IntKind.i64.wrap (t.fails+1)=t.fails+1:=w64 (by omega);unfold Tk.acc0;generalize jv l t.counter (t.counter+t.look)=d at *;generalize jv l t.pending t.pending=o at *;generalize jv l (t.counter+t.look+1) (t.counter+t.look+t.sync)=E at *;have M:IntKind.i64.wrap (d+1)=d+1:=w64 (by omega);have N:IntKind.i64.wrap (o+1)=o+1:=w64 (by omega);have w:IntKind.i64.wrap (E+1)=E+1:=w64 (by omega);unfold wM Tk.cells at *;have a:∃A,A=(if d<0/\t.counter+t.look<t.pending then o else d):=⟨_,rfl⟩;obtain⟨A,p⟩:=a;rw[<-p];have body:∀(cA:(d<0/\t.counter+t.look<t.pending/\A=o)\/(d<0/\¬t.counter+t.look<t.pending/\A=d)\/(¬d<0/\A=d)),True:=fun _=>trivial;have cA:(d<0/\t.counter+t.look<t.pending/\A=o)\/(d<0/\¬t.counter+t.look<t.pending/\A=d)\/(¬d<0/\A=d):=by
    by_cases q:d<0
    ·by_cases y:t.counter+t.look<t.pending
     ·exact .inl ⟨q,y,by rw[p,if_pos ⟨q,y⟩]⟩
     ·exact .inr (.inl ⟨q,y,by rw[p,if_neg (fun h=>y h.2)]⟩)
    ·exact .inr (.inr ⟨q,by rw[p,if_neg (fun h=>q h.1)]⟩)
   clear p body;have F:IntKind.i64.wrap (A+1)=A+1:=w64 (by omega);by_cases a:0<=A
   ·rw[if_pos a];rcases cA with⟨g,i,rfl⟩|⟨g,i,rfl⟩|⟨g,rfl⟩
    ·simp[wD,zaF,e,b,j,k,D,g,i,a,F]
    ·omega
    ·simp[wD,zaF,e,b,j,k,g,a,F]
   ·rw[if_neg a];by_cases n:0<=E
    ·rw[if_pos n];rcases cA with⟨g,i,rfl⟩|⟨g,i,rfl⟩|⟨g,rfl⟩
     ·simp[wD,zaF,e,b,j,k,D,r,g,i,a,s,u,v,w,n]
     ·simp[wD,zaF,e,b,j,k,r,g,i,a,s,u,v,w,n]
     ·omega
    ·rw[if_neg n];rcases cA with⟨g,i,rfl⟩|⟨g,i,rfl⟩|⟨g,rfl⟩
     ·simp[wD,zaF,e,b,j,k,D,r,g,i,a,s,u,v,w,n]
     ·simp[wD,zaF,e,b,j,k,r,g,i,a,s,u,v,w,n]
     ·omega
end
instance:DecidableEq T:=fun a b=>decidable_of_iff (a.same b=true) T.same_iff
theorem zuv{a b:T}(h:a≠b):a.same b=false:=by rw[Bool.eq_false_iff];exact fun e=>h (T.same_iff.1 e)
theorem zyz{p x y:ByteArray}(h:p++x=p++y):x=y:=by
 have:=congrArg (fun b=>b.data.toList) h;simp only[ByteArray.data_append,Array.toList_append,List.append_cancel_left_eq]at this;exact kS this
theorem zKa{a b:T}:yC a=yC b↔a=b:=by simp[yC]
theorem zKc{a b:T}{m n:ByteArray}:qq a m=qq b n↔a=b/\m=n:=by simp[qq,and_comm]
theorem zKd{a b:T}{m n:Int}(d:inI m)(e:inI n):jy a m=jy b n↔a=b/\m=n:=by
 unfold jy;rw[zKc];exact⟨fun h=>⟨h.1,zrY d e (zyz h.2)⟩,fun h=>⟨h.1,by rw[h.2]⟩⟩
theorem zKb{a b c d:T}{f g:ByteArray}:kL a b f g=kL c d f g↔a=c/\b=d:=by simp[kL,yC,zS,qq]
theorem zJ9{a b c d:T}:tCk a b=tCk c d↔a=c/\b=d:=zKb
theorem zu5{k t:T}{n:Int}:jz k n (jk k n t)=(t,0):=by
 unfold jz;rw[if_pos (show(jk k n t).kind=4 from rfl)];show(if(jy k n).same (jy k n)then(t,(0:Int))else(tZ,4))=_;rw[T.same_self];rfl
theorem zKq{k a t:T}{n:Int}(b:inI n)(h:k≠a):jz a n (jk k n t)=(tZ,4):=by
 unfold jz;rw[if_pos (show(jk k n t).kind=4 from rfl)];show(if(jy k n).same (jy a n)then(t,(0:Int))else(tZ,4))=_;rw[zuv (fun e=>h ((zKd b b).1 e).1)];rfl
theorem zzD:zr≠⟨#[]⟩:=by decide
theorem zKj:ko≠⟨#[]⟩:=by decide
theorem zzI{a u b a' u' b':T}{now d:Int}(j:inI now)(i:(zE now).size<=18):wU a' u' b' (za6 a u b now) d=if a=a'/\u=u' then(if b=b' then(if(now-d).natAbs > 5 then 5 else 0)else 6)else 6:=by
 unfold wU za6;rw[zba (n:=1) zzD rfl];simp only;by_cases h:a=a'/\u=u'
 ·rw[if_pos h];obtain⟨rfl,rfl⟩:=h;rw[zu5];unfold zeA zcH;simp only;rw[if_neg (by decide),if_pos trivial,zba (n:=2) zKj rfl];simp only[zex];rw[zsK j i];simp only[zey];by_cases g:b=b'
  ·rw[if_pos g,g,T.same_self];simp
  ·rw[if_neg g,zuv (fun e=>g (zKa.1 e))];simp
 ·rw[if_neg h,zKq i54 (fun e=>h (zJ9.1 e))];rfl
section
variable{S:AS}
end
structure Fv where
 ak:T
 user:T
 body:T
 x:T
 y:T
def Fv.cells(f:Fv):List AV:=f.ak.cells++(f.user.cells++(f.body.cells++(f.x.cells++f.y.cells)))
theorem Fv.cells_def{f:Fv}:f.cells=[.sc (.int .i64 f.ak.kind),.sc (.string f.ak.name),zh f.ak.kids,.sc (.int .i64 f.user.kind),.sc (.string f.user.name),zh f.user.kids,.sc (.int .i64 f.body.kind),.sc (.string f.body.name),zh f.body.kids,
 .sc (.int .i64 f.x.kind),.sc (.string f.x.name),zh f.x.kids,.sc (.int .i64 f.y.kind),.sc (.string f.y.name),zh f.y.kids]:=by
 unfold Fv.cells;rw[zq f.ak,zq f.user,zq f.body,zq f.x,zq f.y];rfl
section
variable{f:Fv}
@[simp] theorem Fv.len:f.cells.length=15:=by rw[Fv.cells_def];rfl
@[simp] theorem Fv.t0:f.cells.take 3=f.ak.cells:=by rw[Fv.cells_def,zq f.ak];rfl
@[simp] theorem Fv.t3:(f.cells.drop 3).take 3=f.user.cells:=by rw[Fv.cells_def,zq f.user];rfl
@[simp] theorem Fv.t6:(f.cells.drop 6).take 3=f.body.cells:=by rw[Fv.cells_def,zq f.body];rfl
@[simp] theorem Fv.t9:(f.cells.drop 9).take 3=f.x.cells:=by rw[Fv.cells_def,zq f.x];rfl
@[simp] theorem Fv.t12:(f.cells.drop 12).take 3=f.y.cells:=by rw[Fv.cells_def,zq f.y];rfl
@[simp] theorem Fv.t12':f.cells.drop 12=f.y.cells:=by rw[Fv.cells_def,zq f.y];rfl
@[simp] theorem Fv.t15:f.cells.take 15=f.cells:=by rw[Fv.cells_def];rfl
@[simp] theorem Fv.dr15:f.cells.drop 15=[]:=by rw[Fv.cells_def];rfl
@[simp] theorem Fv.nrm:yL f.cells=f.cells:=by rw[Fv.cells_def];simp[zjf]
@[simp] theorem Fv.frz{S:AS}{b d:Nat}:zI (S.frzTo b d) f.cells=some f.cells:=by
 rw[Fv.cells_def];simp[zI]
@[simp] theorem Fv.pure:jR f.cells=true:=by rw[Fv.cells_def];simp[jR]
theorem Fv.cell:f.cells.all AV.isCell=true:=by rw[Fv.cells_def];simp
@[simp] theorem Fv.cell':(∀v:AV,v∈f.cells->v.isCell=true)=True:=eq_true (List.all_eq_true.1 Fv.cell)
end
section
variable{S:AS}
end
theorem zi6{n:Int}(h:inI n):(zE n).size<=20:=vN h.1 h.2
section
variable{S:AS}
end
def jT(r:List T×Int):AV:=.tup [zh r.1,.sc (.int .i64 r.2)]
def kG(tag:ByteArray)(n:Nat)(r:T×Int):List T×Int:=if r.2=0 then(match zX tag n r.1 with|some l=>(l,0)|none=>([],2))else([],r.2)
def qP(k:T)(u:Int)(t:T)(tag:ByteArray)(n:Nat):List T×Int:=kG tag n (jz k u t)
theorem zfJ{tag:ByteArray}{n:Nat}{r:T×Int}:(∃l,zX tag n r.1=some l/\kG tag n r=(l,0)/\l.length=n/\(∀u∈l,u∈r.1.kids)/\r.2=0)\/(∃e,e≠0/\kG tag n r=([],e)/\(r.2=0->e=2/\zX tag n r.1=none)/\(r.2≠0->e=r.2)):=by
 unfold kG;by_cases h:r.2=0
 ·rw[if_pos h];cases b:zX tag n r.1 with
  |none=>right;exact⟨2,by decide,rfl,fun _=>⟨rfl,rfl⟩,fun a=>absurd h a⟩
  |some l=>left;obtain⟨d,g⟩:=jO b;exact⟨l,rfl,rfl,d,g,h⟩
 ·rw[if_neg h];right;exact⟨r.2,h,rfl,fun a=>absurd a h,fun _=>rfl⟩
def qL:ByteArray:=⟨#[104,111,115,116]⟩
def vp:ByteArray:=⟨#[97,117,116,104]⟩
def kR:ByteArray:=⟨#[97,114,109,111,114]⟩
def qx:ByteArray:=⟨#[102,97,115,116]⟩
def kQ:ByteArray:=⟨#[97,110,115,119,101,114]⟩
def zei:ByteArray:=⟨#[115,117,98,107,101,121,97,114,109,111,114]⟩
def zel:ByteArray:=⟨#[116,105,99,107,101,116,97,114,109,111,114]⟩
def zeh:ByteArray:=⟨#[115,116,114,101,110,103,116,104,101,110,107,101,121]⟩
def zd2:ByteArray:=⟨#[114,101,112,108,121,107,101,121]⟩
def zfy:ByteArray:=⟨#[108,111,110,103,32]⟩
def zek(b a:T):T:=jk b 2 (zG qL [a])
def zfY(tk a sub:T):T:=zG kR [tk,jk a 11 (zG vp [sub])]
def kK(sub a:T):T:=kL sub a zei zel
def zcG(s b:T):T:=kL s b zeh zd2
def zak(p:T)(n:ByteArray):T:=qq p (zfy++n)
def km(k b p c:T):T:=jk k 51 (zG qx [yC b,p,c])
def kJ(k:T)(n:ByteArray)(t:T):T:=jk k 52 (zG kQ [yU n,t])
def zcO(n:ByteArray):List T×Int->T×Int
 |([a,b],0)=>if a.same (yU n)then(b,0)else(tZ,6)
 |(_,e)=>(tZ,e)
def kP(k:T)(n:ByteArray)(t:T):T×Int:=zcO n (qP k 52 t kQ 2)
def wL(b:T):List T×Int->T×T×Int
 |([h,p,c],0)=>if h.same (yC b)then(p,c,0)else(tZ,tZ,6)
 |(_,e)=>(tZ,tZ,e)
def vP(k b t:T):T×T×Int:=wL b (qP k 51 t qx 3)
def zgg(a:T):List T×Int->T×Int
 |([s],0)=>(kK s a,0)
 |(_,e)=>(tZ,e)
def vo(t:T):List T×Int->T×Int
 |([h],0)=>zgg h (qP h 11 t vp 1)
 |(_,e)=>(tZ,e)
def qI(b a:T):T×Int:=match zX kR 2 a with
 |some [tk,t]=>vo t (qP b 2 tk qL 1)
 |_=>(tZ,2)
theorem zcW{t u:T}(h:t.bb)(a:u∈t.kids):u.bb:=T.bb_kids h u a
theorem zGe{tag:ByteArray}{n:Nat}{r:T×Int}(h:r.1.bb):∀u∈(kG tag n r).1,u.bb:=by
 rcases zfJ (tag:=tag) (n:=n) (r:=r)with⟨l,_,e,_,b,_⟩|⟨d,_,e,_⟩
 ·rw[e];exact fun u a=>zcW h (b u a)
 ·rw[e];intro u a;cases a
theorem zm8{k t:T}{u:Int}{tag:ByteArray}{n:Nat}(h:t.bb):∀x∈(qP k u t tag n).1,x.bb:=zGe (zcI h)
section
variable{S:AS}
theorem zmZ{k t:T}{u:Int}{tag:ByteArray}{n:Nat}{m:Int}(i:m=(n:Int))(j:inI u)(h:t.bb):call 353 [.agg k.cells,.sc (.int .i64 u),.agg t.cells,.sc (.string tag),.sc (.int .i64 m)] S=some (jT (qP k u t tag n),S):=by
 subst i;rw[zi zxy rfl (by simp) rfl];have d:=fun S=>@zmR S k t u j (T.bb_fits h);have o:=zcI (k:=k) (n:=u) h;unfold qP;generalize jz k u t=r at *;have b:=fun S=>@s78 S tag n r.1 (by have:=T.bb_len o;omega);rcases zfJ (tag:=tag) (n:=n) (r:=r)with⟨l,g,e,_,_,a⟩|⟨v,p,e,q,s⟩
 ·rw[e];rw[g]at b;simp[zdn,zhZ,d,zt,a,b,zF,jT]
 ·rw[e];by_cases a:r.2=0
  ·obtain⟨rfl,g⟩:=q a;rw[g]at b;simp[zdn,zhZ,d,zt,a,b,zF,jT];rfl
  ·have:=s a;subst this;simp[zdn,zhZ,d,zt,a,jT];rfl
theorem zjI{k t:T}{u:Int}{tag:ByteArray}{n:Nat}{m:Int}(j:m=(n:Int))(o:inI u)(d:u≠ -9223372036854775808)(v:n<=100)(i:t.bb):call 417 [.agg k.cells,.sc (.int .i64 u),.agg t.cells,.sc (.string tag),.sc (.int .i64 m)] S=some (jT (qP k u t tag n),S):=by
 subst j;rw[zi zx1 rfl (by simp) rfl];have g:=fun S=>@zmS S k t u o d (T.bb_fits i);have w:=zcI (k:=k) (n:=u) i;unfold qP;generalize jz k u t=r at *;have b:=fun S=>@s79 S tag n r.1 (by omega);rcases zfJ (tag:=tag) (n:=n) (r:=r)with⟨l,h,e,_,_,a⟩|⟨y,p,e,q,s⟩
 ·rw[e];rw[h]at b;simp[zds,zit,g,zt,a,b,zF,jT]
 ·rw[e];by_cases a:r.2=0
  ·obtain⟨rfl,h⟩:=q a;rw[h]at b;simp[zds,zit,g,zt,a,b,zF,jT];rfl
  ·have:=s a;subst this;simp[zds,zit,g,zt,a,jT];rfl
theorem i52:inI 52:=by unfold inI;omega
theorem i51:inI 51:=by unfold inI;omega
theorem i11:inI 11:=by unfold inI;omega
theorem i2:inI 2:=by unfold inI;omega
theorem zIY{tk a sub:T}:call 285 [.agg tk.cells,.agg a.cells,.agg sub.cells] S=some (.agg (zfY tk a sub).cells,S):=by
 rw[zi zwR rfl (by simp) rfl];have b:=fun S t=>@zbI S a t 11 i11 (by omega);simp[f285,zp2,b,zj];rfl
theorem zIP{a b:T}:call 247 [.agg a.cells,.agg b.cells] S=some (.agg (kK a b).cells,S):=by
 rw[zi zwq rfl (by simp) rfl];have d:∀S,call 350 [.agg a.cells,.agg b.cells,.sc (.string zei),.sc (.string zel)] S=_:=fun S=>zmY (by decide) (by decide);unfold zei zel at d;simp[f247,zpN,d];rfl
theorem zmO{a b:T}:call 175 [.agg a.cells,.agg b.cells] S=some (.agg (kK a b).cells,S):=by
 rw[zi a175 rfl (by simp) rfl];have d:∀S,call 293 [.agg a.cells,.agg b.cells,.sc (.string zei),.sc (.string zel)] S=_:=fun S=>zmU (by decide) (by decide);unfold zei zel at d;simp[zg3,zpy,d];rfl
theorem zJi{a b:T}:call 352 [.agg a.cells,.agg b.cells] S=some (.agg (zcG a b).cells,S):=by
 rw[zi zxx rfl (by simp) rfl];have d:∀S,call 350 [.agg a.cells,.agg b.cells,.sc (.string zeh),.sc (.string zd2)] S=_:=fun S=>zmY (by decide) (by decide);unfold zeh zd2 at d;simp[zhY,zqn,d];rfl
theorem zI8{a b:T}:call 333 [.agg a.cells,.agg b.cells] S=some (.agg (zcG a b).cells,S):=by
 rw[zi zxh rfl (by simp) rfl];have d:∀S,call 293 [.agg a.cells,.agg b.cells,.sc (.string zeh),.sc (.string zd2)] S=_:=fun S=>zmU (by decide) (by decide);unfold zeh zd2 at d;simp[zhN,zqi,d];rfl
theorem zIZ{a b:T}:call 286 [.agg a.cells,.agg b.cells] S=some (.agg (zek a b).cells,S):=by
 rw[zi zwS rfl (by simp) rfl];have d:=fun S t=>@zbI S a t 2 i2 (by omega);simp[f286,zp3,d,zj];rfl
theorem zt4{a:T}{n:ByteArray}(d:n.size<=4611686018427387904):call 145 [.agg a.cells,.sc (.string n)] S=some (.agg (zak a n).cells,S):=by
 rw[zi a145 rfl (by simp) rfl];have b:=yz (x:=zfy) (y:=n) (by show 5+_<=_;omega);unfold zfy at b;simp[zgT,zpl,b];rfl
theorem zI0{k b p c:T}:call 287 [.agg k.cells,.agg b.cells,.agg p.cells,.agg c.cells] S=some (.agg (km k b p c).cells,S):=by
 rw[zi zwT rfl (by simp) rfl];have a:=fun S t=>@zbI S k t 51 i51 (by omega);simp[f287,zp4,a,zj];rfl
theorem zuq{k t:T}{n:ByteArray}(a:n.size<=4611686018427387904):call 380 [.agg k.cells,.sc (.string n),.agg t.cells] S=some (.agg (kJ k n t).cells,S):=by
 rw[zi zxR rfl (by simp) rfl];have b:=fun S t=>@zmQ S k t 52 i52;have d:=fun S=>@s64 S n a;simp[zih,zqA,b,d,zj];rfl
theorem zuj{k t:T}{n:ByteArray}(a:n.size<=4611686018427387904):call 332 [.agg k.cells,.sc (.string n),.agg t.cells] S=some (.agg (kJ k n t).cells,S):=by
 rw[zi zxg rfl (by simp) rfl];have b:=fun S t=>@zbI S k t 52 i52 (by omega);have d:=fun S=>@s65 S n a;simp[f332,zqh,b,d,zj];rfl
end
theorem za4{k t:T}{u:Int}{tag:ByteArray}{n:Nat}:(∃l,qP k u t tag n=(l,0)/\l.length=n)\/(∃e,e≠0/\qP k u t tag n=([],e)):=by
 rcases zfJ (tag:=tag) (n:=n) (r:=jz k u t)with⟨l,_,e,h,_⟩|⟨b,a,e,_⟩
 ·exact .inl ⟨l,e,h⟩
 ·exact .inr ⟨b,a,e⟩
section
variable{S:AS}
theorem jb{a b:T}:pev (.iaddr 3) [zh [a,b],.i 0]=some (.iptr a.cells):=zJ (i:=0) rfl
theorem jc{a b:T}:pev (.iaddr 3) [zh [a,b],.i 1]=some (.iptr b.cells):=zJ (i:=1) rfl
theorem zgj{a b c:T}:pev (.iaddr 3) [zh [a,b,c],.i 0]=some (.iptr a.cells):=zJ (i:=0) rfl
theorem zgk{a b c:T}:pev (.iaddr 3) [zh [a,b,c],.i 1]=some (.iptr b.cells):=zJ (i:=1) rfl
theorem zgl{a b c:T}:pev (.iaddr 3) [zh [a,b,c],.i 2]=some (.iptr c.cells):=zJ (i:=2) rfl
theorem vT{a:T}:pev (.iaddr 3) [zh [a],.i 0]=some (.iptr a.cells):=zJ (i:=0) rfl
theorem zbz{l:List T}(h:l.length=1):∃a,l=[a]:=by
 match l,h with
 |[a],_=>exact⟨a,rfl⟩
theorem zaQ{l:List T}(h:l.length=2):∃a b,l=[a,b]:=by
 match l,h with
 |[a,b],_=>exact⟨a,b,rfl⟩
theorem zfx{l:List T}(h:l.length=3):∃a b c,l=[a,b,c]:=by
 match l,h with
 |[a,b,c],_=>exact⟨a,b,c,rfl⟩
theorem jU:(tZ.cells:List AV)=[.i 0,.s ⟨#[]⟩,zh []]:=rfl
theorem zI9{k t:T}{n:ByteArray}(s:n.size<=4611686018427387904)(j:t.bb):call 335 [.agg k.cells,.sc (.string n),.agg t.cells] S=some (zt (kP k n t),S):=by
 rw[zi zxi rfl (by simp) rfl];have d:=fun S=>@zjI S k t 52 kQ 2 2 rfl i52 (by omega) (by omega) j;have o:=fun S=>@s65 S n s;have p:=zm8 (k:=k) (u:=52) (tag:=kQ) (n:=2) j;unfold kP;rcases za4 (k:=k) (t:=t) (u:=52) (tag:=kQ) (n:=2)with⟨l,h,g⟩|⟨e,i,h⟩
 ·obtain⟨a,b,rfl⟩:=zaQ g;rw[h]at d p ⊢;have q:a.fits:=T.bb_fits (p a (by simp));unfold kQ at d;cases r:a.same (yU n)with
  |true=>simp[zdk,zhO,d,jT,jb,jc,o,q,r,zcO,zt]
  |false=>simp[zdk,zhO,d,jT,jb,jc,o,q,r,zcO,zt,jU];rfl
 ·rw[h]at d ⊢;have v:zcO n ([],e)=(tZ,e):=by unfold zcO;rfl
  rw[v];unfold kQ at d;simp[zdk,zhO,d,jT,i,zt,jU];rfl
def jm(r:T×T×Int):AV:=.tup [.agg r.1.cells,.agg r.2.1.cells,.sc (.int .i64 r.2.2)]
theorem zJl{k b t:T}(i:t.bb):call 375 [.agg k.cells,.agg b.cells,.agg t.cells] S=some (jm (vP k b t),S):=by
 rw[zi zxN rfl (by simp) rfl];have a:=fun S=>@zmZ S k t 51 qx 3 3 rfl i51 i;have j:=zm8 (k:=k) (u:=51) (tag:=qx) (n:=3) i;unfold vP;rcases za4 (k:=k) (t:=t) (u:=51) (tag:=qx) (n:=3)with⟨l,g,d⟩|⟨e,h,g⟩
 ·obtain⟨x,p,c,rfl⟩:=zfx d;rw[g]at a j ⊢;have o:x.fits:=T.bb_fits (j x (by simp));unfold qx at a;cases q:x.same (yC b)with
  |true=>simp[zdo,zic,a,jT,zgj,zgk,zgl,o,q,wL,jm]
  |false=>simp[zdo,zic,a,jT,zgj,zgk,zgl,o,q,wL,jm,jU];rfl
 ·rw[g]at a ⊢;have r:wL b ([],e)=(tZ,tZ,e):=by unfold wL;rfl
  rw[r];unfold qx at a;simp[zdo,zic,a,jT,h,jm,jU];rfl
theorem zJb{k b t:T}(i:t.bb):call 338 [.agg k.cells,.agg b.cells,.agg t.cells] S=some (jm (vP k b t),S):=by
 rw[zi zxl rfl (by simp) rfl];have a:=fun S=>@zjI S k t 51 qx 3 3 rfl i51 (by omega) (by omega) i;have j:=zm8 (k:=k) (u:=51) (tag:=qx) (n:=3) i;unfold vP;rcases za4 (k:=k) (t:=t) (u:=51) (tag:=qx) (n:=3)with⟨l,g,d⟩|⟨e,h,g⟩
 ·obtain⟨x,p,c,rfl⟩:=zfx d;rw[g]at a j ⊢;have o:x.fits:=T.bb_fits (j x (by simp));unfold qx at a;cases q:x.same (yC b)with
  |true=>simp[f338,zhQ,a,jT,zgj,zgk,zgl,o,q,wL,jm]
  |false=>simp[f338,zhQ,a,jT,zgj,zgk,zgl,o,q,wL,jm,jU];rfl
 ·rw[g]at a ⊢;have r:wL b ([],e)=(tZ,tZ,e):=by unfold wL;rfl
  rw[r];unfold qx at a;simp[f338,zhQ,a,jT,h,jm,jU];rfl
theorem zJk{g a:T}(v:a.bb):call 374 [.agg g.cells,.agg a.cells] S=some (zt (qI g a),S):=by
 rw[zi zxM rfl (by simp) rfl];have h:=fun S=>@s78 S kR 2 a (by have:=T.bb_len v;omega);unfold qI;cases w:zX kR 2 a with
 |none=>
  rw[w]at h;unfold kR at h;simp[zcj,ze8,h,zF,zt,jU];rfl
 |some l=>
  rw[w]at h;obtain⟨A,z⟩:=jO (n:=2) w;obtain⟨tk,t,rfl⟩:=zaQ A;have y:tk.bb:=zcW v (z tk (by simp));have B:t.bb:=zcW v (z t (by simp));unfold kR at h;have i:=fun S=>@zmZ S g tk 2 qL 1 1 rfl i2 y;rcases za4 (k:=g) (t:=tk) (u:=2) (tag:=qL) (n:=1)with⟨l,q,r⟩|⟨e,j,q⟩
  ·obtain⟨b,rfl⟩:=zbz r;rw[q]at i;simp only[q];unfold qL at i;have p:=fun S=>@zmZ S b t 11 vp 1 1 rfl i11 B;rcases za4 (k:=b) (t:=t) (u:=11) (tag:=vp) (n:=1)with⟨C,d,o⟩|⟨e,j,d⟩
   ·obtain⟨sub,rfl⟩:=zbz o;rw[d]at p;unfold vp at p;have s:vo t ([b],0)=(kK sub b,0):=by unfold vo;simp only[d];rfl
    rw[s];simp[zcj,ze8,h,zF,i,p,jT,zt,jb,jc,vT,zIP]
   ·rw[d]at p;unfold vp at p;have s:vo t ([b],0)=(tZ,e):=by unfold vo;simp only[d];rfl
    rw[s];simp[zcj,ze8,h,zF,i,p,jT,zt,jb,jc,vT,j,jU];rfl
  ·rw[q]at i;simp only[q];unfold qL at i;have s:vo t ([],e)=(tZ,e):=by unfold vo;rfl
   rw[s];simp[zcj,ze8,h,zF,i,jT,zt,jb,jc,j,jU];rfl
theorem zJa{g a:T}(y:a.bb):call 337 [.agg g.cells,.agg a.cells] S=some (zt (qI g a),S):=by
 rw[zi zxk rfl (by simp) rfl];have h:=fun S=>@s79 S kR 2 a (by omega);unfold qI;cases v:zX kR 2 a with
 |none=>
  rw[v]at h;unfold kR at h;simp[f337,ze0,h,zF,zt,jU];rfl
 |some l=>
  rw[v]at h;obtain⟨A,z⟩:=jO (n:=2) v;obtain⟨tk,t,rfl⟩:=zaQ A;have w:tk.bb:=zcW y (z tk (by simp));have B:t.bb:=zcW y (z t (by simp));unfold kR at h;have i:=fun S=>@zjI S g tk 2 qL 1 1 rfl i2 (by omega) (by omega) w;rcases za4 (k:=g) (t:=tk) (u:=2) (tag:=qL) (n:=1)with⟨l,q,r⟩|⟨e,j,q⟩
  ·obtain⟨b,rfl⟩:=zbz r;rw[q]at i;simp only[q];unfold qL at i;have p:=fun S=>@zjI S b t 11 vp 1 1 rfl i11 (by omega) (by omega) B;rcases za4 (k:=b) (t:=t) (u:=11) (tag:=vp) (n:=1)with⟨C,d,o⟩|⟨e,j,d⟩
   ·obtain⟨sub,rfl⟩:=zbz o;rw[d]at p;unfold vp at p;have s:vo t ([b],0)=(kK sub b,0):=by unfold vo;simp only[d];rfl
    rw[s];simp[f337,ze0,h,zF,i,p,jT,zt,jb,jc,vT,zmO]
   ·rw[d]at p;unfold vp at p;have s:vo t ([b],0)=(tZ,e):=by unfold vo;simp only[d];rfl
    rw[s];simp[f337,ze0,h,zF,i,p,jT,zt,jb,jc,vT,j,jU];rfl
  ·rw[q]at i;simp only[q];unfold qL at i;have s:vo t ([],e)=(tZ,e):=by unfold vo;rfl
   rw[s];simp[f337,ze0,h,zF,i,jT,zt,jb,jc,j,jU];rfl
end
theorem zJW{x y:ByteArray}:(sLt x y||decide (x=y))=!(sLt y x):=by
 rw[zfR,zfR,Bool.eq_iff_iff];simp only[Bool.or_eq_true,decide_eq_true_eq,Bool.not_eq_true',decide_eq_false_iff_not];have a:x=y↔x.data.toList=y.data.toList:=⟨fun h=>by rw[h],kS⟩;rw[a,List.not_lt,List.le_iff_lt_or_eq]
section
variable{S:AS}
theorem zs0:∀(n:Nat) (t:T) (S:AS),sizeOf t<n->t.bulk<=1099511627776->t.rshp=true->t.dp<=60->call 316 [.agg t.cells] S=some (.sc (.bool t.ord),S)
 |0,_,_,h,_,_,_=>by omega
 |n+1,t,S,hn,p,hr,hd=>by
  have H:=t.bulk_len;have s:∀u∈t.kids,u.bulk<=1099511627776:=fun u g=>by have:=T.bulk_kid g;omega
  have v:∀u∈t.kids,u.dp<=60:=fun u g=>by have:=T.dp_kid g;omega
  have ih:∀u∈t.kids,∀S,call 316 [.agg u.cells] S=some (.sc (.bool u.ord),S):=fun u g S=>zs0 n u S (by have:=T.kid_lt g;omega) (s u g) (T.rshp_kid hr g) (v u g);rw[zi zw5 rfl (by simp) rfl];rw[t.ord_def,zfL];simp only[f316];simp[-zg,zqa];refine y8 (α:=Nat) (R:=fun _ r=>zW S r=some (.sc (.bool (vQ t.kind t.kids&&t.kids.all T.ord)),S)) (fun i e rg S'=>i<=t.kids.length/\e 1=.reg 1 0/\rg 1=some t.cells/\e 3=.sc (.int .i64 (i:Nat))/\∀u∈t.kids.take i,u.ord=true) (fun i=>t.kids.length-i) ?_ 0 _ _ _ ?_;rotate_left
  ·exact⟨by omega,by simp,by simp,by simp,fun u g=>by simp at g⟩
  intro N w i e rg S' ⟨O,y,z,C,g⟩ D;by_cases E:i<t.kids.length
  ·obtain⟨k,l⟩:=yV E;have I:IntKind.i64.wrap ((i:Int)+1)=((i+1:Nat):Int):=w64 (by omega);have j:=ih k (xaj l);cases p:k.ord with
   |false=>
    rw[p]at j;have:t.kids.all T.ord=false:=by
     rw[List.all_eq_false];exact⟨k,xaj l,by simp[p]⟩
    simp[-zg,zeY,y,z,C,E,zJ l,j];rw[w,this];simp
   |true=>
    rw[p]at j;simp[-zg,zeY,y,z,C,E,zJ l,j,I];refine D (i+1) _ _ _ (by omega) (fun _ h=>h) ?_;refine⟨by omega,by simp[y],by simp[z],by simp,fun u d=>?_⟩;rw[xav,l]at d;rcases xaE.1 d with d|d
    ·exact g u d
    ·simp at d;rw[d];exact p
  ·have F:i=t.kids.length:=by omega
   subst F;rw[xax]at g;have q:t.kids.all T.ord=true:=List.all_eq_true.2 g;by_cases B:t.kind=9
   ·obtain⟨a,b,o⟩:=T.share_kids hr B;have G:a∈t.kids:=by rw[o];simp
    have p:b∈t.kids:=by rw[o];simp
    have J:∀S,call 243 [.agg a.cells] S=some (.sc (.string a.text),S):=fun S=>by
     rw[zcD (s a G)];unfold T.txt;rw[if_pos (by rw[T.rshp_kid hr G];simp[v a G])]
    have K:∀S,call 243 [.agg b.cells] S=some (.sc (.string b.text),S):=fun S=>by
     rw[zcD (s b p)];unfold T.txt;rw[if_pos (by rw[T.rshp_kid hr p];simp[v b p])]
    have L:pev (.iaddr 3) [zh t.kids,.i 0]=some (.iptr a.cells):=zJ (i:=0) (by rw[o];rfl);have M:pev (.iaddr 3) [zh t.kids,.i 1]=some (.iptr b.cells):=zJ (i:=1) (by rw[o];rfl);have A:vQ t.kind t.kids=(sLt a.text b.text||decide (a.text=b.text)):=by unfold vQ;rw[if_pos B,o,zJW]
    rw[q,A];simp[-zg,zeY,y,z,C];rw[w];simp[y,z,eq_true B,L,M,J,K]
   ·have A:vQ t.kind t.kids=true:=by unfold vQ;rw[if_neg B]
    rw[q,A];simp[-zg,zeY,y,z,C];rw[w];simp[y,z,B]
theorem zI2{t:T}(a:t.bulk<=1099511627776)(b:t.rshp=true)(d:t.dp<=60):call 316 [.agg t.cells] S=some (.sc (.bool t.ord),S):=zs0 _ t S (xay _) a b d
theorem zt7{t:T}(d:t.bulk<=1099511627776):call 219 [.agg t.cells] S=some (.sc (.bool t.right),S):=by
 rw[zi zwe rfl (by simp) rfl];have a:=fun S=>@zcD S t d;unfold T.right;unfold T.txt at a;cases b:(t.rshp&&decide (t.dp<=60))with
 |false=>rw[b]at a;simp only[xau,if_false]at a;simp[zeR,zk1,a]
 |true=>
  rw[b]at a;rw[xab,decide_eq_true_eq]at b;simp only[if_true]at a;have e:=fun S=>@zI2 S t d b.1 b.2;simp[zeR,zk1,a,e,T.text_ne]
def T.fit(t:T):Bool:=t.right&&decide (t.dp<=57)
theorem zow{t:T}:(((t.dep 61:Nat):Int)<=57)↔t.dp<=57:=by rw[T.dep_eq];omega
theorem zt5{t:T}(b:t.fits)(e:t.ofit):call 210 [.agg t.cells] S=some (.sc (.bool t.fit),S):=by
 rw[zi a210 rfl (by simp) rfl];have a:=fun S=>@zt3 S t b e;unfold T.fit;cases d:t.right with
 |false=>rw[d]at a;simp[zeO,zkY,a]
 |true=>rw[d]at a;simp[zeO,zkY,a,b,zow]
theorem zjD{t:T}(b:t.bulk<=1099511627776):call 211 [.agg t.cells] S=some (.sc (.bool t.fit),S):=by
 rw[zi zv9 rfl (by simp) rfl];have a:=fun S=>@zt7 S t b;have e:∀S,call 314 [.agg t.cells,.i 61] S=some (.sc (.int .i64 (t.dep 61:Nat)),S):=fun S=>@zmV 61 t S (by omega) (T.fits_bulk b);unfold T.fit;cases d:t.right with
 |false=>rw[d]at a;simp[zeP,zkZ,a]
 |true=>rw[d]at a;simp[zeP,zkZ,a,e,zow]
@[simp] theorem zOt(s:ByteArray):call 212 [.sc (.string s)] S=some (.agg (zP s).cells,S):=by
 rw[zi a212 rfl (by simp) rfl];simp[zg7,zpC,zP,T.cells,ym,lstN]
def zae(t:T)(l:ByteArray):Option ByteArray:=if t.kind=1 then jd t.name l else none
theorem zI3{t:T}{l:ByteArray}(k:l.size=1):call 317 [.agg t.cells,.sc (.string l)] S=some (.tup [.sc (.string ((zae t l).getD ⟨#[]⟩)),.sc (.bool (zae t l).isSome)],S):=by
 rw[zi zw6 rfl (by simp) rfl];unfold zae;by_cases b:t.kind=1
 ·rw[if_pos b];by_cases d:t.name.size<1
  ·have e:jd t.name l=none:=by
    unfold jd;rw[if_neg];intro e;have:=congrArg ByteArray.size e;rw[ByteArray.size_extract]at this;omega
   have a:(t.name.size:Int)<1:=by omega
   simp[f317,zeZ,eq_true b,d,a,e]
  ·have g:pev (.sliceS false true) [.sc (.string t.name),.i 1]=some (.sc (.string (t.name.extract 0 1))):=zmp (by omega) (by omega);have h:pev (.sliceS true false) [.sc (.string t.name),.i 1]=some (.sc (.string (t.name.extract 1 t.name.size))):=zmq (by omega) (by omega);have a:¬(t.name.size:Int)<1:=by omega
   unfold jd;rw[k];by_cases j:t.name.extract 0 1=l
   ·simp[f317,zeZ,eq_true b,d,a,g,h,j]
   ·simp[f317,zeZ,eq_true b,d,a,g,h,j]
 ·simp[f317,zeZ,b]
end
structure T.tidy(t:T):Prop where
 right:t.right=true
 bulk:t.bulk<=1099511627776
theorem T.tidy.txt{t:T}(h:t.tidy):t.txt=t.text:=by
 obtain⟨a,b,d⟩:=T.right_iff.1 h.right;unfold T.txt;rw[if_pos];rw[a];simpa using b
section
end
theorem zvd(x:Int):inI (IntKind.i64.wrap x):=by
 rw[Go.IntWalk.i64_left];exact i64_in (RowKit.wrap64_wf x)
theorem zoA{m:Nat}(h:m<10):pev .bytesStr [AV.lst 1 true [[.sc (.int .u8 (IntKind.u8.wrap (IntKind.i64.wrap (48-(-(m:Int))))))]]]=some (.sc (.string (jF m))):=by
 rw[show(48:Int) - -(m:Int)=48+(m:Int)by omega,zjY h];exact zjp
theorem zlT{m:Nat}(h:0<m):zE (-(m:Int))=⟨#[45]⟩++yj m:=by
 unfold zE Lib.itoa yj;rw[if_pos (by omega),show(-(m:Int)).natAbs=m by omega];exact(zgn (x:=[45]) (y:=Lib.decDigits m)).symm
section
variable{S:AS}
theorem zzV:∀{m:Nat} {S:AS},0<m->m<=9223372036854775808->call 213 [.sc (.int .i64 (-(m:Int)))] S=some (.sc (.string (zE (-(m:Int)))),S):=by
 intro m
 induction m using Nat.strongRecOn with
 |_ m ih=>
  intro S b u;rw[zi a213 rfl (by simp) rfl];have a:(-(m:Int))<0:=by omega
  have l:m%10<10:=Nat.mod_lt _ (by omega);by_cases h:m<10
  ·have e:(-10:Int) < -(m:Int):=by omega
   have g:=zoA h;have j:(jF m).size=1:=rfl;have p:pev (.bin .add) [AV.s ⟨#[45]⟩,.sc (.string (jF m))]=some (.sc (.string (zE (-(m:Int))))):=by
    rw[zlT b,zcz h];exact yz (by have:(⟨#[45]⟩:ByteArray).size=1:=rfl;omega)
   simp[-Int.sub_neg,zb8,zeQ,a,e,zj,g,p,b]
  ·have e:¬(-10:Int) < -(m:Int):=by omega
   have g:=zoA l;have d:=fun S=>ih (m/10) (by omega) (S:=S) (by omega) (by omega);have o:pev (.bin .quo) [.sc (.int .i64 (-(m:Int))),.i 10]=some (.sc (.int .i64 (-((m/10:Nat):Int)))):=by
    have:IntKind.i64.wrap ((-(m:Int)).tdiv 10)=(-((m/10:Nat):Int)):=by
     rw[Int.neg_tdiv,show(m:Int).tdiv 10=((m/10:Nat):Int)by rw[Int.tdiv_eq_ediv_of_nonneg (by omega)];omega];exact w64 (by omega)
    simp only[pev,vL,this];rfl
   have t:pev (.bin .rem) [.sc (.int .i64 (-(m:Int))),.i 10]=some (.sc (.int .i64 (-((m%10:Nat):Int)))):=by
    have:(-(m:Int)).tmod 10=(-((m%10:Nat):Int)):=by
     rw[Int.neg_tmod,show(m:Int).tmod 10=((m%10:Nat):Int)by rw[Int.tmod_eq_emod_of_nonneg (by omega)];omega]
    simp only[pev,vL,this];rfl
   have j:(jF (m%10)).size=1:=rfl;have hp:pev (.bin .add) [.sc (.string (zE (-((m/10:Nat):Int)))),.sc (.string (jF (m%10)))]=some (.sc (.string (zE (-(m:Int))))):=by
    rw[zlT b,zdO (by omega),zlT (by omega),<-zcU];exact yz (by
     have:=zac (n:=m/10) (by omega);have:(⟨#[45]⟩:ByteArray).size=1:=rfl;rw[xai];omega)
   have k:0<m:=b;generalize(m/10:Nat)=q at *;generalize(m%10:Nat)=r at *;simp[-Int.sub_neg,zb8,zeQ,a,e,zj,o,t,d,g,hp,b]
theorem zzW:∀{n:Nat} {S:AS},n<=9223372036854775807->call 213 [.sc (.int .i64 (n:Int))] S=some (.sc (.string (yj n)),S):=by
 intro n
 induction n using Nat.strongRecOn with
 |_ n ih=>
  intro S i;rw[zi a213 rfl (by simp) rfl];have j:n%10<10:=Nat.mod_lt _ (by omega);have b:¬(n:Int)<0:=by omega
  have a:∀m:Nat,m<10->pev .bytesStr [AV.lst 1 true [[.sc (.int .u8 (IntKind.u8.wrap (IntKind.i64.wrap (48+(m:Int)))))]]]=some (.sc (.string (jF m))):=fun m k=>by
   rw[zjY k];exact zjp
  by_cases h:n<10
  ·have e:(n:Int)<10:=by omega
   simp[zb8,zeQ,b,e,zj,a n h,zcz h]
  ·have e:¬(n:Int)<10:=by omega
   have d:=fun S=>ih (n/10) (by omega) (S:=S) (by omega);have l:=a (n%10) j;have o:(jF (n%10)).size=1:=rfl;have g:=yz (x:=yj (n/10)) (y:=jF (n%10)) (by have:=zac (n:=n/10) (by omega);omega);rw[<-zdO (by omega)]at g;have p:=@zjq n i;have s:=@zjr n;generalize(n/10:Nat)=q at *;generalize(n%10:Nat)=r at *;simp[zb8,zeQ,b,e,zj,p,s,d,l,g]
theorem zt6{n:Int}(h:inI n):call 213 [.sc (.int .i64 n)] S=some (.sc (.string (zE n)),S):=by
 unfold inI at h;by_cases a:n<0
 ·obtain⟨m,rfl⟩:∃m:Nat,n= -(m:Int):=⟨n.natAbs,by omega⟩;exact zzV (by omega) (by omega)
 ·obtain⟨m,rfl⟩:∃m:Nat,n=m:=⟨n.toNat,by omega⟩;rw[zlS];exact zzW (by omega)
end
def zef(n:Int)(c:UInt8):Int:=IntKind.i64.wrap (IntKind.i64.wrap (n*10)-IntKind.i64.wrap (IntKind.u8.wrap ((c.toNat:Int)-48)))
def vm:Int->List UInt8->Int
 |n,[]=>n
 |n,c::l=>vm (zef n c) l
theorem u8w{n:Int}(h:0<=n/\n<=255):IntKind.u8.wrap n=n:=by
 simp[IntKind.wrap,IntKind.bits,IntKind.signed];omega
theorem zJ2{a d b:Nat}{c:UInt8}(k:c.toNat=48+d)(l:d<=9)(n:b<=9223372036854775808)(h:a*10+d<=b):zef (-(a:Int)) c= -((a*10+d:Nat):Int):=by
 have e:IntKind.u8.wrap ((c.toNat:Int)-48)=(d:Int):=by rw[u8w (by omega)];omega
 have g:IntKind.i64.wrap (d:Int)=(d:Int):=w64 (by omega);have i:IntKind.i64.wrap (-(a:Int)*10)= -(a:Int)*10:=w64 (by omega);have j:IntKind.i64.wrap (-(a:Int)*10-(d:Int))= -(a:Int)*10-(d:Int):=w64 (by omega);unfold zef;rw[e,g,i,j];omega
theorem zym{n:Int}{c:UInt8}{l:List UInt8}:vm n (c::l)=vm (zef n c) l:=rfl
theorem zAC{a:Nat}{c:UInt8}{l:List UInt8}:vd a (c::l)=vd (a*10+(c.toNat-48)) l:=by conv=>lhs;unfold vd
theorem zyn{b:Nat}(g:b<=9223372036854775808)(l:List UInt8):∀(a:Nat),(∀c∈l,vf c)->vd a l<=b->vm (-(a:Int)) l= -((vd a l:Nat):Int):=by
 induction l with
 |nil=>intro a _ _;rfl
 |cons c l ih=>
  intro a e h;rw[zAC]at h ⊢;have i:=@zlH l (a*10+(c.toNat-48));have j:=e c (by simp);unfold vf at j;rw[zym,zJ2 (d:=c.toNat-48) (by omega) (by omega) g (by omega)];exact ih _ (fun x k=>e x (by simp[k])) h
theorem znO{l:List UInt8}{a:Nat}(d:∀c∈l,vf c)(h:vd a l<=9223372036854775808):vm (-(a:Int)) l= -((vd a l:Nat):Int):=zyn (b:=9223372036854775808) (by omega) l a d h
theorem znP:∀{l:List UInt8} {n:Int},inI n->inI (vm n l)
 |[],_,h=>h
 |_::l,_,_=>znP (l:=l) (zvd _)
def zcx(s:ByteArray):Bool:=decide (1<s.size)&&decide (s.data.toList[0]?=some 45)
def qm(s:ByteArray):Int:=if zcx s then vm 0 (s.data.toList.drop 1)else IntKind.i64.wrap (-(vm 0 s.data.toList))
theorem zrH:inI 0:=by unfold inI;omega
theorem zsI{s:ByteArray}:inI (qm s):=by
 unfold qm;split
 ·exact znP zrH
 ·exact zvd _
theorem zCG{m:Int}(h:inI m):qm (zE m)=m:=by
 unfold qm zcx;have d:(zE m).size=(zE m).data.toList.length:=by simp
 rw[d,zaO];unfold inI at h;unfold Lib.itoa;by_cases b:m<0
 ·rw[if_pos b];obtain⟨i1,i2,i3⟩:=zb0 m.natAbs;have a:=@znO (Lib.decDigits m.natAbs) 0 i1 (by rw[i2];omega);have e:0<(Lib.decDigits m.natAbs).length:=List.length_pos_iff.2 i3;rw[i2]at a;have a:vm 0 (Lib.decDigits m.natAbs)= -(m.natAbs:Int):=a;simp[e,a];omega
 ·rw[if_neg b];obtain⟨i1,i2,i3⟩:=zb0 m.toNat;have a:=@znO (Lib.decDigits m.toNat) 0 i1 (by rw[i2];omega);rw[i2]at a;have a:vm 0 (Lib.decDigits m.toNat)= -(m.toNat:Int):=a;have g:¬(Lib.decDigits m.toNat)[0]?=some 45:=by
   intro h;have:=i1 45 (xaj h);exact absurd this (by decide)
  rw[a];simp only[g,decide_false,Bool.and_false,xau,if_false];rw[w64 (by omega)];omega
section
variable{S:AS}
theorem zI4{s:ByteArray}(L:s.size<=4611686018427387904):call 318 [.sc (.string s)] S=some (.tup [.sc (.int .i64 (qm s)),.sc (.bool (decide (zE (qm s)=s)))],S):=by
 rw[zi zw7 rfl (by simp) rfl];have C:s.data.toList.length=s.size:=by simp
 have v:∀(f:Nat) (ks:List Kn) (e:Nat->AV) (rg:Nat->Option (List AV)) (S0:AS) (r:Option (AV×AS)),f<=s.size->e 0=.sc (.string s)->e 6=.i 0->e 7=.sc (.int .i64 (f:Nat))->
  (∀a rg S',a 0=e 0->a 4=e 4->a 6=.sc (.int .i64 (vm 0 (s.data.toList.drop f)))->zW S (fin [.tmp 2,.tmp 3] (unw AA (some (.exit 0,st 41 a rg S')) ks))=r)->
  zW S (fin [.tmp 2,.tmp 3] (zH AA (.loop [18,19,20,21,22,23,24,25,26,27,28,29,30,31] [] zhK) (st 41 e rg S0) ks))=r:=by
  intro f ks e rg S0 r M D N O E;refine y8 (α:=Nat) (R:=fun _ x=>zW S x=r) (fun i a rg S'=>i<=s.size/\a 0=e 0/\a 4=e 4/\(∃n,a 6=.sc (.int .i64 n)/\vm n (s.data.toList.drop i)=vm 0 (s.data.toList.drop f))/\a 7=.sc (.int .i64 (i:Nat))) (fun i=>s.size-i) ?_ f _ _ _ ⟨M,rfl,rfl,⟨0,N,rfl⟩,O⟩;intro Q F i a rg S' ⟨T,d,g,⟨n,j,z⟩,g7⟩ ih;rw[D]at d;by_cases K:i<s.size
  ·have G:(i:Int)<s.size:=by omega
   obtain⟨b,A⟩:∃b,s.data.toList[i]?=some b:=⟨s.data.toList[i],by simp[C,K]⟩;have w:s.data.toList.drop i=b::s.data.toList.drop (i+1):=by
    obtain⟨B,rfl⟩:=xal.1 A;exact List.drop_eq_getElem_cons B
   have k:=zfq A;have P:IntKind.i64.wrap ((i:Int)+1)=((i+1:Nat):Int):=w64 (by omega);simp[-zg,zhK,d,j,g7,G,K,k,P];refine ih (i+1) _ _ _ (by omega) (fun _ h=>h) ?_;refine⟨by omega,by simp[d,D],by simp[g],⟨zef n b,by simp[zef],?_⟩,by simp⟩;rw[<-z,w];rfl
  ·have H:i=s.size:=by omega
   subst H;rw[xaB (by omega)]at z;have z:n=_:=z;simp[-zg,zhK,d,j,g7];rw[F];exact E _ _ _ (by simp[d,D]) (by simp[g]) (by simp[j,z])
 have q:=fun S=>@zt6 S (qm s) zsI;have u:zcx s=true\/zcx s=false:=by cases zcx s<;>simp
 rcases u with u|u
 ·have p:=u;unfold zcx at p;rw[xab,decide_eq_true_eq,decide_eq_true_eq]at p;have l:(1:Int)<s.size:=by omega
  have k:pev .indexS [.sc (.string s),.i 0]=some (.sc (.int .u8 45)):=zfq (i:=0) p.2;have y:qm s=vm 0 (s.data.toList.drop 1):=by unfold qm;rw[u];rfl
  simp only[f318];simp[-zg,zhL,l,p.1,k];refine v 1 _ _ _ _ _ (by omega) (by simp) (by simp) (by simp) ?_;intro a rg S' d g j;rw[<-y]at j;simp at d g;simp[d,g,j,q]
 ·have y:qm s=IntKind.i64.wrap (-(vm 0 s.data.toList)):=by unfold qm;rw[u];rfl
  have fin:∀(a:Nat->AV) (rg:Nat->Option (List AV)) (S':AS),a 0=.sc (.string s)->a 4=.b false->a 6=.sc (.int .i64 (vm 0 (s.data.toList.drop 0)))->zW S (fin [.tmp 2,.tmp 3] (zH AA (.seq (.seq (.ops [
   ⟨some 32,.pur .mov,[.t 4],none⟩,
   ⟨some 33,.pur (.un .not),[.t 32],none⟩]) (.cond (.t 33) (.ops [
    ⟨some 34,.pur .mov,[.t 6],none⟩,
    ⟨some 35,.pur (.un .neg),[.t 34],none⟩,
    ⟨some 6,.pur .mov,[.t 35],none⟩]) (.skip))) (.seq (.ops [
   ⟨some 36,.pur .mov,[.t 6],none⟩,
   ⟨some 37,.pur .mov,[.t 6],none⟩,
   ⟨some 38,.call 213,[.t 37],none⟩,
   ⟨some 39,.pur .mov,[.t 0],none⟩,
   ⟨some 40,.pur (.bin .eql),[.t 38,.t 39],none⟩,
   ⟨some 2,.pur .mov,[.t 36],none⟩,
   ⟨some 3,.pur .mov,[.t 40],none⟩]) .ret)) (st 41 a rg S') []))=some (.tup [.sc (.int .i64 (qm s)),.sc (.bool (decide (zE (qm s)=s)))],S):=by
   intro a rg S' d g j;rw[List.drop_zero]at j;simp[d,g,j,<-y,q]
  unfold zcx at u;by_cases l:1<s.size
  ·have o:(1:Int)<s.size:=by omega
   have I:¬s.data.toList[0]?=some 45:=by simpa[l]using u
   obtain⟨b,A⟩:∃b,s.data.toList[0]?=some b:=⟨s.data.toList[0]'(by omega),by simp⟩;have k:pev .indexS [.sc (.string s),.i 0]=some (.sc (.int .u8 (b.toNat:Int))):=zfq (i:=0) A;have J:¬((b.toNat:Int)=45):=by
    intro h;have:b=45:=by rw[<-UInt8.toNat_inj];show b.toNat=45;omega
    exact I (by rw[A,this])
   simp only[f318];simp[-zg,zhL,l,o,k,J];refine v 0 _ _ _ _ _ (by omega) (by simp) (by simp) (by simp) ?_;intro a rg S' d g j;simp at d g;simpa[d,g]using fin a rg S' d g j
  ·have o:¬(1:Int)<s.size:=by omega
   simp only[f318];simp[-zg,zhL,l,o];refine v 0 _ _ _ _ _ (by omega) (by simp) (by simp) (by simp) ?_;intro a rg S' d g j;simp at d g;simpa[d,g]using fin a rg S' d g j
end
structure Ck where
 client:ByteArray
 nonce:ByteArray
 done:List ByteArray
 secret:T
 upto:Int
def Ck.cells(c:Ck):List AV:=[.sc (.string c.client),.sc (.string c.nonce),zk c.done,.sc (.int .i64 c.secret.kind),.sc (.string c.secret.name),zh c.secret.kids,.sc (.int .i64 c.upto)]
def vA:T:=.mk 0 ⟨#[]⟩ []
def jM:Ck:=⟨⟨#[]⟩,⟨#[]⟩,[],vA,0⟩
abbrev zC:List AV:=[.s ⟨#[]⟩,.s ⟨#[]⟩,.lst 0 true [],.i 0,.s ⟨#[]⟩,.lst 0 true [],.i 0]
section
variable(c:Ck)
@[simp] theorem Ck.len_cells:c.cells.length=7:=rfl
@[simp] theorem Ck.cell_cells:c.cells.all AV.isCell=true:=rfl
@[simp] theorem Ck.get0:yW c.cells 0 1 false=some (.sc (.string c.client)):=rfl
@[simp] theorem Ck.get1:yW c.cells 1 1 false=some (.sc (.string c.nonce)):=rfl
@[simp] theorem Ck.get2:yW c.cells 2 1 false=some (zk c.done):=rfl
@[simp] theorem Ck.get3:yW c.cells 3 3 true=some (.agg c.secret.cells):=by rw[zq];rfl
@[simp] theorem Ck.get6:yW c.cells 6 1 false=some (.sc (.int .i64 c.upto)):=rfl
@[simp] theorem Ck.get7:yW c.cells 0 7 true=some (.agg c.cells):=rfl
@[simp] theorem Ck.dt0:c.cells.take 1=[.sc (.string c.client)]:=rfl
@[simp] theorem Ck.dt1:(c.cells.drop 1).take 1=[.sc (.string c.nonce)]:=rfl
@[simp] theorem Ck.dt1':c.cells.tail.take 1=[.sc (.string c.nonce)]:=rfl
@[simp] theorem Ck.dt2:(c.cells.drop 2).take 1=[zk c.done]:=rfl
@[simp] theorem Ck.dt3:(c.cells.drop 3).take 3=c.secret.cells:=by rw[zq];rfl
@[simp] theorem Ck.dt6:(c.cells.drop 6).take 1=[.sc (.int .i64 c.upto)]:=rfl
@[simp] theorem Ck.nrm_cells:yL c.cells=c.cells:=by
 unfold Ck.cells;simp only[yL,AV.nrm];rw[show(zk c.done).nrm=zk c.done from zso _,zjf]
@[simp] theorem Ck.tk7:c.cells.take 7=c.cells:=rfl
@[simp] theorem Ck.frz_cells(S:AS)(b d:Nat):zI (S.frzTo b (d+1)) c.cells=some c.cells:=by
 unfold Ck.cells zk zh;simp
@[simp] theorem Ck.pure_cells:jR c.cells=true:=by
 unfold Ck.cells;simp[jR,AV.pure]
end
section
variable{S:AS}
def y7(l:List ByteArray):List T:=l.map fun s=>zP (⟨#[100]⟩++s)
def jE(c:Ck):List T:=[zP ⟨#[99,111,111,107,105,101]⟩,zP (⟨#[99]⟩++c.client),zP (⟨#[110]⟩++c.nonce),zS (y7 c.done),c.secret,zP (⟨#[117]⟩++zE c.upto)]
def yJ(key:T)(c:Ck):T:=if key.fit&&c.secret.fit then jI key (zS (jE c))else vA
structure Ck.ok(c:Ck):Prop where
 client:c.client.size<=4611686018427387904
 nonce:c.nonce.size<=4611686018427387904
 done:c.done.length*48<=140737488355328
 names:∀s∈c.done,s.size<=4611686018427387904
 upto:inI c.upto
 fits:c.secret.fits
 ofit:c.secret.ofit
theorem zgz{l:List ByteArray}:(y7 l).length=l.length:=by simp[y7]
theorem zoK{l:List ByteArray}{i:Nat}{s:ByteArray}(h:l[i]?=some s):(y7 (l.take (i+1))).map T.cells=(y7 (l.take i)).map T.cells++[(zP (⟨#[100]⟩++s)).cells]:=by
 rw[xav,h];simp[y7]
theorem zBd{S:AS}{f:Bool}{a b c d e g:T}:qs S (.lst 3 f [a.cells,b.cells,c.cells,d.cells,e.cells,g.cells]) [a,b,c,d,e,g]:=k9 (l:=[a,b,c,d,e,g])
end
structure vk(S:AS)(x:AV)(l:List ByteArray):Prop where
 reg:x.isReg=false
 len:pev .lenL [x.nrm]=some (.sc (.int .i64 l.length))
 nn:x.nrm.nrm=x.nrm
 rows:∀S':AS,(∀id,id<S.n->S'.heap id=S.heap id)->zD 1 S' x.nrm=some (zv l)
section
variable{S:AS}
theorem vk.nrm{x:AV}{l:List ByteArray}(h:vk S x l):vk S x.nrm l:=
 ⟨by rw[zjk];exact h.reg,by rw[h.nn];exact h.len,by rw[h.nn,h.nn],fun S' a=>by rw[h.nn];exact h.rows S' a⟩
theorem vk.cell{y:AV}{l:List ByteArray}(h:vk S y l)(a:y.nrm=y):y.isCell=true:=by
 have:=h.rows S fun _ _=>rfl;rw[a]at this;cases y<;>first|rfl|(simp[zD]at this)
theorem zBb{l:List ByteArray}:vk S (zk l) l:=⟨rfl,by simp,by simp,fun S' _=>by rw[zso];exact zje S' l⟩
theorem zrR{id off n:Nat}{lim:Option Nat}{l:List ByteArray}(h:S.slice 0 id 1 off n=some (zv l))(a:id<S.n)(b:n=l.length):vk S (.arr id 1 off n lim) l:=by
 refine⟨rfl,by subst b;rfl,rfl,fun S' d=>?_⟩;show zD 1 S' (.arr id 1 off n lim)=_;simp only[zD,if_true];unfold AS.slice at h ⊢;rw[d id a];exact h
theorem zBc{z:Nat}{f:Bool}:vk S (.lst z f []) []:=by
 refine⟨rfl,by simp[AV.nrm,vz,lstN],by simp[AV.nrm,vz,lstN],fun S' _=>by simp[AV.nrm,vz,zD,zv,lstN]⟩
theorem vk.at{x:AV}{l:List ByteArray}(h:vk S x l){i:Nat}{t:ByteArray}(j:l[i]?=some t):∃p,pev (.iaddr 1) [x.nrm,.sc (.int .i64 (i:Int))]=some p/\p.isReg=false/\
 ∀S':AS,(∀id,id<S.n->S'.heap id=S.heap id)->∀d rg,ze (.ld none 1 false) d rg S' [p]=some (.sc (.string t),none,S'):=by
 have g:i<l.length:=(xal.1 j).1;have k:=h.rows;have o:=h.len;generalize x.nrm=y at k o ⊢;have b:=k S fun _ _=>rfl;cases y with
 |lst z f xs=>
  simp only[zD]at b;split at b
  ·rename_i e;cases b;have q:(zv l).isEmpty=false:=by cases l with
    |nil=>simp at g
    |cons _ _=>rfl
   rw[q]at e;have e:z=1:=by simpa using e
   subst e;exact⟨.iptr [.sc (.string t)],by simp[pev,zv,j],rfl,fun S' _ d rg=>by simp⟩
  ·cases b
 |arr id z off n lim=>
  simp only[zD]at b;split at b
  ·rename_i e;subst e;have u:n=l.length:=by
    have o:(n:Int)=(l.length:Int):=by simpa using o
    omega
   refine⟨.ptr id (off+i) 0,by simp[pev];omega,rfl,fun S' r d rg=>?_⟩;have a:=k S' r;simp only[zD,if_true]at a;unfold AS.slice at a;simp only[Nat.zero_le,if_true]at a;split at a
   ·rename_i v rs s;split at a
    ·rename_i w;simp only[Option.some.injEq]at a;have:((rs.drop off).take n)[i]?=some [.sc (.string t)]:=by rw[a];simp[zv,j]
     rw[xaq,if_pos (by omega),List.getElem?_drop]at this;rw[zY s,this];simp
    ·cases a
   ·cases a
  ·cases b
 |_=>simp[zD]at b
def ckX(c:Ck)(x:AV):List AV:=[.sc (.string c.client),.sc (.string c.nonce),x,.sc (.int .i64 c.secret.kind),.sc (.string c.secret.name),zh c.secret.kids,.sc (.int .i64 c.upto)]
section
variable(c:Ck)(x:AV)
@[simp] theorem zK8:(ckX c x).length=7:=rfl
theorem zkt(h:x.isCell=true):(ckX c x).all AV.isCell=true:=by simp[ckX,h]
@[simp] theorem zLa:(ckX c x).take 1=[.sc (.string c.client)]:=rfl
@[simp] theorem zLb:((ckX c x).drop 1).take 1=[.sc (.string c.nonce)]:=rfl
@[simp] theorem zLc:(ckX c x).tail.take 1=[.sc (.string c.nonce)]:=rfl
@[simp] theorem zLd:((ckX c x).drop 2).take 1=[x]:=rfl
@[simp] theorem zLe:((ckX c x).drop 3).take 3=c.secret.cells:=by rw[zq];rfl
@[simp] theorem zLf:((ckX c x).drop 6).take 1=[.sc (.int .i64 c.upto)]:=rfl
@[simp] theorem zK9:yL (ckX c x)=ckX c x.nrm:=by simp[ckX,zjf]
end
theorem zjo{key:T}{c:Ck}{x:AV}(Q:vk S x c.done)(hf:key.fits)(ho:key.ofit)(b:c.ok):call 109 [.agg key.cells,.agg (ckX c x)] S=some (.agg (yJ key c).cells,S):=by
 rw[kr zvr (args':=[.agg key.cells,.agg (ckX c x.nrm)]) (by simp) (by simp) rfl];have z:=Q.nrm;have a:=Q.nn;generalize x.nrm=y at z a;have j:=z.reg;have k:=zkt c y (z.cell a);have U:=z.cell a;have o:=z.len;rw[a]at o;have C:=fun S=>@zt5 S key hf ho;have I:=fun S=>@zt5 S c.secret b.fits b.ofit;unfold yJ;cases V:key.fit with
 |false=>rw[V]at C;simp[zc8,zgI,k,C,vA,T.cells,ym,lstN]
 |true=>
  rw[V]at C;cases A:c.secret.fit with
  |false=>rw[A]at I;simp[zc8,zgI,k,j,o,C,I,vA,T.cells,ym,lstN]
  |true=>
   rw[A]at I;simp only[zc8];simp[-zg,zgI,k,j,o,C,I]
   let S0:AS:=⟨S.heap,S.n,S.n⟩
   refine y8 (α:=Nat) (R:=fun _ r=>zW S r=some (.agg (jI key (zS (jE c))).cells,S)) (fun i e rg S'=>i<=c.done.length/\e 2=.reg 2 0/\rg 2=some key.cells/\e 3=.reg 3 0/\rg 3=some (ckX c y)/\e 4=.reg 4 0/\rg 4=some [.i 0,.s ⟨#[]⟩,.lst 0 true []]/\rg 8=none/\e 20=y/\e 21=.sc (.int .i64 (c.done.length:Nat))/\e 22=.sc (.int .i64 (i:Nat))/\Own S0 S' 3 (e 5) ((y7 (c.done.take i)).map T.cells)) (fun i=>c.done.length-i) ?_ 0 _ _ _ ?_;rotate_left
   ·refine⟨by omega,by simp,by simp,by simp,by simp,by simp,by simp,by simp,by simp,by simp,by simp,?_⟩;simp[y7];exact zcB (xad _)
   intro kk J i e rg S' ⟨hi,W,X,Y,Z,h4,g4,g8,q,g,t,B⟩ ih;have aa:(⟨#[100]⟩:ByteArray).size=1:=rfl;have ad:(⟨#[99]⟩:ByteArray).size=1:=rfl;have ab:(⟨#[110]⟩:ByteArray).size=1:=rfl;have ac:(⟨#[117]⟩:ByteArray).size=1:=rfl;have ae:=b.done;by_cases D:i<c.done.length
   ·obtain⟨s,A⟩:=yV D;obtain⟨pt,E,K,u⟩:=z.at A;rw[a]at E;have u:=u S' (fun id L=>B.old.heap id L) (some 25) rg;have w2:IntKind.i64.wrap ((i:Int)+1)=((i+1:Nat):Int):=w64 (by omega);have af:=b.names s (xaj A);have p:pev (.bin .add) [.s ⟨#[100]⟩,.sc (.string s)]=some (.sc (.string (⟨#[100]⟩++s))):=yz (by omega);have M:(c.done.take i).length=i:=by rw[List.length_take];omega
    obtain⟨v',ag,ha,F,q1,q2,q3⟩:=B.push (n:=i) (bytes:=48) (r:=(zP (⟨#[100]⟩++s)).cells) (f:=true) (d:=some 31) (rg:=rg) (by rw[xaH,zgz,M]) (by omega);have v:=B.reg;rw[<-zoK A]at F;simp[-zg,zkN,q,g,t,D,j,E,K,u,p,v,zj];rw[ha];simp[-zg,q1,w2,q,g,t];refine ih (i+1) _ _ _ (by omega) (fun _ h=>h) ?_;exact⟨by omega,by simp[W],X,by simp[Y],Z,by simp[h4],g4,g8,by simp[q],by simp[g],by simp,by simpa using F⟩
   ·have N:i=c.done.length:=by omega
    subst N;rw[xax]at B;have O:=B.isTs;have G:=zdY O (by rw[zgz];omega);have v:=B.reg;have ah:=vN (n:=c.upto) (by have:=b.upto;unfold inI at this;omega) (by have:=b.upto;unfold inI at this;omega);have H:=fun S=>@zbY S c.upto b.upto;have p1:pev (.bin .add) [.s ⟨#[117]⟩,.sc (.string (zE c.upto))]=some (.sc (.string (⟨#[117]⟩++zE c.upto))):=yz (by omega);have p2:pev (.bin .add) [.s ⟨#[99]⟩,.sc (.string c.client)]=some (.sc (.string (⟨#[99]⟩++c.client))):=yz (by have:=b.client;omega);have p3:pev (.bin .add) [.s ⟨#[110]⟩,.sc (.string c.nonce)]=some (.sc (.string (⟨#[110]⟩++c.nonce))):=yz (by have:=b.nonce;omega);have w:=fun(S:AS)=>zdY (S:=S) (x:=.lst 3 true [(zP ⟨#[99,111,111,107,105,101]⟩).cells,(zP (⟨#[99]⟩++c.client)).cells,(zP (⟨#[110]⟩++c.nonce)).cells,(zS (y7 c.done)).cells,c.secret.cells,(zP (⟨#[117]⟩++zE c.upto)).cells]) (l:=jE c) zBd (by show 6*48<=_;omega);simp[-zg,zkN,g,t];rw[J];generalize P:e 5=v5 at *;simp[-zg,W,X,Y,Z,h4,g4,g8,P,v,H,p1,p2,p3,G,w,zj,zkr]
end
end Abs
