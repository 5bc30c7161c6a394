/- Reading a cookie out of a body. -/
import Derived.Test.YtdiebjbepfjjfaaGreatDoorG3
set_option maxHeartbeats 16000000
set_option maxRecDepth 100000
set_option linter.unusedVariables false
set_option linter.unusedSimpArgs false
set_option linter.unusedSectionVars false
namespace Abs
open Go
def ckY(a b:ByteArray)(x d e f:AV)(u:Int):List AV:=[.sc (.string a),.sc (.string b),x,d,e,f,.sc (.int .i64 u)]
def jf(s l:ByteArray):ByteArray:=(jd s l).getD s
section
variable{S:AS}
theorem zmW{b t:T}{i:Nat}{l:ByteArray}(a:b.kids[i]?=some t):call 315 [.agg b.cells,.sc (.int .i64 (i:Int)),.sc (.string l)] S=some (.sc (.string (jf t.name l)),S):=by
 rw[zi zw4 rfl (by simp) rfl];have e:=@zed;unfold jf;cases d:jd t.name l with
 |none=>simp[zeX,zld,zJ a,e,d,qu]
 |some r=>simp[zeX,zld,zJ a,e,d,qu]
theorem zzl{b t:T}{id:Nat}{m d:ByteArray}{x f g k:AV}{u:Int}(n:b.kids[1]?=some t)(o:S.heap id=some (.rows 7 [ckY m d x f g k u]))(a:S.ro<=id):
 call 214 [.agg b.cells,.ptr id 0 0] S=some (.tup [],S.set id (some (.rows 7 [ckY (jf t.name ⟨#[99]⟩) d x f g k u]))):=by
 rw[z8 zwa (by simp) rfl];have e:=fun S=>@zmW S b t 1 ⟨#[99]⟩ n;simp at e;simp[zg8,zpD,e,ze,o,a];rfl
theorem zzm{b t:T}{id:Nat}{d m:ByteArray}{x f g k:AV}{u:Int}(n:b.kids[2]?=some t)(o:S.heap id=some (.rows 7 [ckY d m x f g k u]))(a:S.ro<=id):
 call 215 [.agg b.cells,.ptr id 0 0] S=some (.tup [],S.set id (some (.rows 7 [ckY d (jf t.name ⟨#[110]⟩) x f g k u]))):=by
 rw[z8 zwb (by simp) rfl];have e:=fun S=>@zmW S b t 2 ⟨#[110]⟩ n;simp at e;simp[f215,zpE,e,ze,o,a];rfl
theorem zzo{b t:T}{id:Nat}{d e:ByteArray}{x f g k:AV}{u:Int}(m:b.kids[4]?=some t)(n:S.heap id=some (.rows 7 [ckY d e x f g k u]))(a:S.ro<=id):
 call 217 [.agg b.cells,.ptr id 0 0] S=some (.tup [],S.set id (some (.rows 7 [ckY d e x (.sc (.int .i64 t.kind)) (.sc (.string t.name)) (zh t.kids) u]))):=by
 rw[z8 zwd (by simp) rfl];have o:pev (.iaddr 3) [zh b.kids,.i 4]=some (.iptr t.cells):=zJ (i:=4) m;simp[zg9,zpG,o,ze,n,a];rw[zq];rfl
def zbV(s:ByteArray):Int:=match Lib.atoiAll s.data.toList with| .ok v=>v| .range=>Lib.atoiSat s.data.toList|_=>0
theorem zzp{b t:T}{id:Nat}{k m:ByteArray}{x n o p:AV}{u:Int}(q:b.kids[5]?=some t)(f:S.heap id=some (.rows 7 [ckY k m x n o p u]))(a:S.ro<=id)(r:(jf t.name ⟨#[117]⟩).size<=281474976710656):
 call 218 [.agg b.cells,.ptr id 0 0] S=some (.tup [],S.set id (some (.rows 7 [ckY k m x n o p (zbV (jf t.name ⟨#[117]⟩))]))):=by
 rw[z8 a218 (by simp) rfl];have e:=fun S=>@zmW S b t 5 ⟨#[117]⟩ q;simp at e;have d:=fun S=>@zkq S _ r;unfold zbV;generalize jf t.name ⟨#[117]⟩=s at *;cases g:Lib.atoiAll s.data.toList with
 |ok v=>
  rw[g]at d;simp[zde,zha,e,d,ze,f,a];rfl
 |range=>
  rw[g]at d;simp[zde,zha,e,d,ze,f,a];rfl
 |_=>
  rw[g]at d;simp[zde,zha,e,d,ze,f,a];rfl
theorem zyE{sz bytes:Nat}{S:AS}{s v:AV}{ys:List (List AV)}{S':AS}(h:jq sz bytes S s ys=some (v,S')){j:Nat}(g:j<S.n)(f:∀a b c d,s≠.arr j a b c d):S'.heap j=S.heap j/\S.n<=S'.n/\S'.ro=S.ro:=by
 have new:∀(o:yX),(S.new o).heap j=S.heap j:=fun o=>if_neg (by omega);unfold jq at h;split at h
 ·split at h
  ·cases h;exact⟨new _,Nat.le_succ _,rfl⟩
  ·cases h;exact⟨rfl,xad _,rfl⟩
  ·cases h;exact⟨rfl,xad _,rfl⟩
  ·cases h
 ·split at h
  ·split at h
   ·cases h;exact⟨new _,Nat.le_succ _,rfl⟩
   ·cases h
  ·rename_i id a b c d;have e:j≠id:=by rintro rfl;exact f _ _ _ _ rfl
   have set:∀(o:Option yX),(S.set id o).heap j=S.heap j:=fun o=>if_neg e;split at h
   ·split at h
    ·cases h
    ·split at h
     ·split at h
      ·cases h;exact⟨set _,xad _,rfl⟩
      ·split at h
       ·cases h;exact⟨new _,Nat.le_succ _,rfl⟩
       ·cases h
     ·split at h
      ·cases h;exact⟨set _,xad _,rfl⟩
      ·split at h
       ·cases h;refine⟨?_,Nat.le_succ _,rfl⟩;show(if j=S.n then _ else(S.set id none).heap j)=_;rw[if_neg (by omega)];exact set _
       ·cases h
   ·cases h
  ·cases h
theorem Own.set{S0 S':AS}{sz:Nat}{v:AV}{rs:List (List AV)}{id:Nat}{o:Option yX}(h:Own S0 S' sz v rs)(f:S0.n<=id)(k:∀a b c d,v≠.arr id a b c d):Own S0 (S'.set id o) sz v rs:=by
 refine⟨zfI h.old f,h.ro,?_⟩;rcases h.h with⟨z,rfl,m⟩|⟨e,rfl,p,q,r⟩
 ·exact .inl ⟨z,rfl,m⟩
 ·have g:e≠id:=by rintro rfl;exact k _ _ _ _ rfl
  exact .inr ⟨e,rfl,(if_neg g).trans p,q,r⟩
theorem Own.ne{S0 S':AS}{v:AV}{rs:List (List AV)}{id:Nat}{cs:List AV}(h:Own S0 S' 1 v rs)(g:S'.heap id=some (.rows 7 [cs])):∀a b c d,v≠.arr id a b c d:=by
 rintro a b c d rfl;rcases h.h with⟨z,e,_⟩|⟨k,e,f,_⟩
 ·cases e
 ·cases e;rw[g]at f;cases f
def qZ(l:List T):List ByteArray:=l.map fun k=>jf k.name ⟨#[100]⟩
theorem zz0{l:List T}{i:Nat}{k:T}(h:l[i]?=some k):zv (qZ (l.take (i+1)))=zv (qZ (l.take i))++[[.sc (.string (jf k.name ⟨#[100]⟩))]]:=by
 rw[xav,h];simp[qZ,zv]
theorem zGb{sz bytes:Nat}{S:AS}{s x:AV}{d:Option Nat}{rg:Nat->Option (List AV)}{v:AV}{S':AS}{ys:List (List AV)}(a:zD sz S x=some ys)(h:ze (.append sz bytes) d rg S [s,x]=some (v,none,S')):jq sz bytes S s ys=some (v,S'):=by
 simp only[ze,a,xae,xaf]at h;obtain⟨r,b,e⟩:=h;cases e;exact b
theorem zzn{S0:AS}{b k:T}{id:Nat}{A B:ByteArray}{x C D E:AV}{u:Int}(hb:b.kids[3]?=some k)(aa:k.kids.length*16<=140737488355328)(z:S.heap id=some (.rows 7 [ckY A B x C D E u]))(I:S.ro<=id)(J:S0.n<=id)(a:id<S.n)(m:Own S0 S 1 x (zv [])):
 ∃v S',call 216 [.agg b.cells,.ptr id 0 0] S=some (.tup [],S')/\S'.heap id=some (.rows 7 [ckY A B v C D E u])/\Own S0 S' 1 v (zv (qZ k.kids))/\S'.ro=S.ro/\id<S'.n:=by
 rw[z8 zwc (by simp) rfl];have l3:pev (.iaddr 3) [zh b.kids,.i 3]=some (.iptr k.cells):=zJ (i:=3) hb;simp only[f216];simp[zpF,l3];refine zdI (α:=Nat) (R:=fun _ r=>∃v S',r=some (.tup [],S')/\S'.heap id=some (.rows 7 [ckY A B v C D E u])/\Own S0 S' 1 v (zv (qZ k.kids))/\S'.ro=S.ro/\id<S'.n) (fun i e rg S'=>i<=k.kids.length/\NQ [5,6,7,16,17,18,19,20,21,22,23,24,25,26,27,28,29,30,31,32,33,34,35] [5] e/\e 1=.ptr id 0 0/\e 13=zh k.kids/\e 14=.sc (.int .i64 (k.kids.length:Nat))/\e 15=.sc (.int .i64 (i:Nat))/\S'.ro=S.ro/\id<S'.n/\∃v,S'.heap id=some (.rows 7 [ckY A B v C D E u])/\Own S0 S' 1 v (zv (qZ (k.kids.take i)))) (fun i=>k.kids.length-i) (fun _ _ _ _ h=>h.2.1) ?_ 0 _ _ _ ?_;rotate_left
 ·refine⟨by omega,?_,by simp,by simp,by simp,by simp,rfl,a,x,z,by simpa[qZ]using m⟩
  repeat (first|exact zan rfl|refine vC ?_ (by simp))
 intro kk K i e rg S' ⟨hi,hq,N,o,p,q,O,a,v,z,m⟩ ih;by_cases hc:i<k.kids.length
 ·obtain⟨w,hu⟩:=yV hc;have w2:IntKind.i64.wrap ((i:Int)+1)=((i+1:Nat):Int):=w64 (by omega);have ab:(k.kids.take i).length=i:=by rw[List.length_take];omega
  have F:∀S,call 195 [.sc (.string w.name),.s ⟨#[100]⟩] S=some (qu w.name (jd w.name ⟨#[100]⟩),S):=fun S=>zed;have ex:pev (.extract 0) [qu w.name (jd w.name ⟨#[100]⟩)]=some (.sc (.string (jf w.name ⟨#[100]⟩))):=by
   unfold jf;cases jd w.name ⟨#[100]⟩<;>simp[qu]
  have t:∃b,pev (.extract 1) [qu w.name (jd w.name ⟨#[100]⟩)]=some (.sc (.bool b)):=by
   cases jd w.name ⟨#[100]⟩<;>simp[qu]
  obtain⟨bb,t⟩:=t;have G:(qu w.name (jd w.name ⟨#[100]⟩)).isReg=false:=by
   cases jd w.name ⟨#[100]⟩<;>simp[qu,AV.isReg]
  obtain⟨P,g,Q,y,q1,q2,q3⟩:=m.push (n:=i) (bytes:=16) (r:=[.sc (.string (jf w.name ⟨#[100]⟩))]) (f:=true) (d:=some 32) (rg:=upd (upd (zbu [5] rg) 5 zT) 5 w.cells) (by simp[qZ];omega) (by omega);have U:=zGb (ys:=[[.sc (.string (jf w.name ⟨#[100]⟩))]]) (by simp[zD]) Q;obtain⟨V,f2,f3⟩:=zyE U a (m.ne z);have W:=m.reg;rw[z]at V;have H:g.ro<=id:=by rw[f3,O];exact I
  simp only[zT]at Q;have X:∀d rg,ze (.ld none 1 false) d rg S' [.ptr id 0 2]=some (v,none,S'):=fun d rg=>by rw[zY z];rfl
  simp[zk0,N,o,p,q,hc,zJ hu,F,ex,t,G,W,X,zj];rw[Q];have Y:∀d rg,ze (.st none 1) d rg g [.ptr id 0 2,P]=some (.junk,none,g.set id (some (.rows 7 [ckY A B P C D E u]))):=fun d rg=>by
   simp[ze,V,H,q2,q3];exact⟨by show 3<=7;omega,rfl⟩
  simp[q1,w2,N,q,Y];refine ih (i+1) _ _ _ (by omega) (fun _ h=>h) ?_;rw[<-zz0 hu]at y;refine⟨by omega,?_,by simp[N],by simp[o],by simp[p],by simp,by rw[<-O,<-f3];rfl,by show id<g.n;omega,P,if_pos rfl,y.set J (y.ne V)⟩
  repeat (first|exact zcM hq|refine vC ?_ (by simp[q1,G]))
 ·have Z:i=k.kids.length:=by omega
  subst Z;rw[xax]at m;simp[zk0,o,p,q];rw[K];simp;exact⟨v,z,m,O,a⟩
end
def jS(a b d e k5:T):Ck:=⟨jf a.name ⟨#[99]⟩,jf b.name ⟨#[110]⟩,qZ d.kids,e,zbV (jf k5.name ⟨#[117]⟩)⟩
def jg(key t:T)(now:Int):Ck×Int:=
 if t.right&&decide (t.kind=4)then
  match t.kids with
  |[k0,b]=>if k0.same key then
   (match b.kids with
   |[_,k1,k2,k3,k4,k5]=>if(yJ key (jS k1 k2 k3 k4 k5)).same t then(if(jS k1 k2 k3 k4 k5).upto<now then(jM,5)else(jS k1 k2 k3 k4 k5,0))else(jM,2)
   |_=>(jM,2))else(jM,4)
  |_=>(jM,2)
 else(jM,2)
theorem zky{s p r:ByteArray}(h:jd s p=some r):r.size<=s.size:=by have:=zkz h;omega
theorem zgy{s p:ByteArray}:(jf s p).size<=s.size:=by
 unfold jf;cases h:jd s p with
 |none=>exact xad _
 |some r=>exact zky h
theorem zn5{s:ByteArray}:inI (zbV s):=by
 unfold zbV;cases h:Lib.atoiAll s.data.toList with
 |ok v=>exact zn6 h
 |range=>show inI (Lib.atoiSat _);unfold Lib.atoiSat inI;split<;>omega
 |_=>exact zrH
section
variable{S:AS}
theorem zl2{f:Bool}(l:List ByteArray):(AV.lst 1 f (zv l)).nrm=zk l:=by
 rw[AV.nrm,zmc];rfl
theorem Own.isSs{S0 S':AS}{v:AV}{l:List ByteArray}(h:Own S0 S' 1 v (zv l)):vk S' v l:=by
 rcases h.h with⟨z,rfl,a⟩|⟨id,rfl,b,e,d⟩
 ·rcases a with a|rfl
  ·have:l=[]:=by cases l with|nil=>rfl|cons _ _=>simp[zv]at a
   subst this;exact zBc
  ·refine⟨rfl,?_,?_,fun S' _=>?_⟩
   ·rw[zl2 l];simp
   ·rw[zl2 l];simp
   ·rw[zl2 l];exact zje S' l
 ·exact zrR (wk b (Nat.zero_le _)) d (by simp)
theorem zHp{b H p u q r k5:T}(w:b.kids=[H,p,u,q,r,k5])(I:q.kids.length*16<=140737488355328)(J:k5.name.size<=281474976710656):
 ∃(a d m g B:AS) (v:AV),call 214 [.agg b.cells,.ptr S.n 0 0] (AS.new ⟨S.heap,S.n,S.n⟩ (.rows 7 [zC]))=some (.tup [],a)/\call 215 [.agg b.cells,.ptr S.n 0 0] a=some (.tup [],d)/\
  call 216 [.agg b.cells,.ptr S.n 0 0] d=some (.tup [],m)/\call 217 [.agg b.cells,.ptr S.n 0 0] m=some (.tup [],g)/\call 218 [.agg b.cells,.ptr S.n 0 0] g=some (.tup [],B)/\
  B.heap S.n=some (.rows 7 [ckX (jS p u q r k5) v])/\Own ⟨S.heap,S.n,S.n⟩ B 1 v (zv (qZ q.kids)):=by
 let S0:AS:=⟨S.heap,S.n,S.n⟩
 let A:AS:=S0.new (.rows 7 [zC])
 have K:Old S0 A:=zfH;have N:A.heap S.n=some (.rows 7 [ckY ⟨#[]⟩ ⟨#[]⟩ (.lst 0 true []) (.i 0) (.s ⟨#[]⟩) (.lst 0 true []) 0]):=jX;have D:=zzl (S:=A) (b:=b) (t:=p) (by rw[w];rfl) N (xad _);generalize e:A.set S.n _=a at D;have O:Old S0 a:=by rw[<-e];exact zfI K (xad _)
 have P:a.n=S.n+1:=by rw[<-e];rfl
 have Q:a.ro=S.n:=by rw[<-e];rfl
 have U:a.heap S.n=some (.rows 7 [ckY (jf p.name ⟨#[99]⟩) ⟨#[]⟩ (.lst 0 true []) (.i 0) (.s ⟨#[]⟩) (.lst 0 true []) 0]):=by rw[<-e];exact if_pos rfl
 have E:=zzm (S:=a) (b:=b) (t:=u) (by rw[w];rfl) U (by omega);generalize f:a.set S.n _=d at E;have V:Old S0 d:=by rw[<-f];exact zfI O (xad _)
 have Z:d.n=S.n+1:=by rw[<-f];exact P
 have W:d.ro=S.n:=by rw[<-f];exact Q
 have C:d.heap S.n=some (.rows 7 [ckY (jf p.name ⟨#[99]⟩) (jf u.name ⟨#[110]⟩) (.lst 0 true []) (.i 0) (.s ⟨#[]⟩) (.lst 0 true []) 0]):=by rw[<-f];exact if_pos rfl
 obtain⟨v,m,X,F,x,r4,n4⟩:=zzn (S0:=S0) (S:=d) (b:=b) (k:=q) (by rw[w];rfl) I C (by omega) (xad _) (by omega) ⟨V,by rw[W];exact xad _,.inl ⟨0,rfl,.inl rfl⟩⟩;have G:=zzo (S:=m) (b:=b) (t:=r) (by rw[w];rfl) F (by omega);generalize o:m.set S.n _=g at G;have y:g.heap S.n=some (.rows 7 [ckY (jf p.name ⟨#[99]⟩) (jf u.name ⟨#[110]⟩) v (.sc (.int .i64 r.kind)) (.sc (.string r.name)) (zh r.kids) 0]):=by rw[<-o];exact if_pos rfl
 have r5:g.ro=S.n:=by rw[<-o];show m.ro=_;omega
 have z:Own S0 g 1 v (zv (qZ q.kids)):=by rw[<-o];exact x.set (xad _) (x.ne F)
 have Y:=zzp (S:=g) (b:=b) (t:=k5) (by rw[w];rfl) y (by omega) (xaD zgy J);refine⟨a,d,m,g,_,v,D,E,X,G,Y,if_pos rfl,z.set (xad _) (z.ne y)⟩
theorem T.enc_kids{t:T}(h:t.rshp=true)(d:t.kind=4):∃a b,t.kids=[a,b]:=by
 rw[t.rshp_def,xab]at h;obtain⟨_,_,e⟩:=T.one_iff.1 h.1;have f:kdn t.kind=2:=by rw[d];rfl
 have:t.kids.length=2:=by omega
 match g:t.kids,this with
 |[a,b],_=>exact⟨a,b,rfl⟩
theorem T.bd_kid{r:Nat}{t u:T}(h:t.bd r)(a:u∈t.kids):u.bd r:=by
 obtain⟨k,n,l⟩:=t;exact zkh.1 h.2.2 u a
theorem T.bd_len{r:Nat}{t:T}(h:t.bd r):t.kids.length*48<=r:=by
 obtain⟨k,n,l⟩:=t;exact h.2.1
theorem T.bd_name{r:Nat}{t:T}(h:t.bd r):t.name.size<=r:=by
 obtain⟨k,n,l⟩:=t;exact h.1
theorem T.ofit_kid{t u:T}(h:t.ofit)(a:u∈t.kids):u.ofit:=(t.ofit_def.1 h).2 u a
theorem zHt{k1 k2 k3 k4 k5:T}(h1:k1.bd 140737488355328)(h2:k2.bd 140737488355328)(h3:k3.bd 140737488355328)(h4:k4.bd 140737488355328)(ho:k4.ofit):(jS k1 k2 k3 k4 k5).ok where
 client:=by have:=@zgy k1.name ⟨#[99]⟩;have:=T.bd_name h1;show(jf _ _).size<=_;omega
 nonce:=by have:=@zgy k2.name ⟨#[110]⟩;have:=T.bd_name h2;show(jf _ _).size<=_;omega
 done:=by have:=T.bd_len h3;show(qZ k3.kids).length*48<=_;unfold qZ;rw[xaH];exact this
 names:=by
  intro s hs;obtain⟨u,hu,rfl⟩:=List.mem_map.1 hs;have:=@zgy u.name ⟨#[100]⟩;have:=T.bd_name (T.bd_kid h3 hu);omega
 upto:=zn5
 fits:=T.fits_bd (by omega) h4
 ofit:=ho
theorem zAA{l:List ByteArray}:wY (y7 l):=by
 rw[zri];intro t a;obtain⟨s,_,rfl⟩:=List.mem_map.1 a;exact⟨by simp,trivial⟩
theorem zJJ{key:T}{c:Ck}(d:key.fits)(b:c.ok):(yJ key c).fits:=by
 unfold yJ;split
 ·have f:=b.done;have e:(zS (y7 c.done)).fits:=⟨by rw[zgz];omega,zAA⟩;refine⟨by simp,d,⟨by simp[jE],?_⟩,trivial⟩;have a:∀s,(zP s).fits:=fun s=>⟨by simp,trivial⟩;exact⟨a _,a _,a _,e,b.fits,a _,trivial⟩
 ·exact⟨by simp,trivial⟩
theorem vG{S S':AS}{n:Int}:zW S (some (.tup [.agg zC,.sc (.int .i64 n)],S'))=some (.tup [.agg jM.cells,.sc (.int .i64 n)],S):=by
 simp[jM,Ck.cells,vA,T.kind,T.name,T.kids,zk,zh,lstN,zv,AV.pure]
theorem zGd{S:AS}{id:Nat}{cs:List AV}{d:Option Nat}{rg:Nat->Option (List AV)}(a:S.heap id=some (.rows 7 [cs]))(b:cs.length=7):ze (.ld none 7 true) d rg S [.ptr id 0 0]=some (.agg cs,none,S):=by
 rw[zY a];have:cs.take 7=cs:=List.take_of_length_le (by omega);simp[b,this]
theorem zGj{key t:T}{now:Int}(hf:key.fits)(ho:key.ofit)(ht:t.bd 140737488355328)(P:t.ofit):
 call 112 [.agg key.cells,.agg t.cells,.sc (.int .i64 now)] S=some (.tup [.agg (jg key t now).1.cells,.sc (.int .i64 (jg key t now).2)],S):=by
 rw[zi zvt rfl (by simp) rfl];have Q:=T.fits_bd (r:=140737488355328) (by omega) ht;have a:=fun S=>@zt3 S t Q P;unfold jg;cases hr:t.right with
 |false=>
  rw[hr]at a;simp[-zg,zbm,zc9,a];exact vG
 |true=>
  rw[hr]at a;by_cases F:t.kind=4
  ·obtain⟨U,b,f⟩:=T.enc_kids (T.right_iff.1 hr).1 F;have m0:U∈t.kids:=by rw[f];simp
   have mb:b∈t.kids:=by rw[f];simp
   have l0:pev (.iaddr 3) [zh t.kids,.i 0]=some (.iptr U.cells):=zJ (i:=0) (by rw[f];rfl);have l1:pev (.iaddr 3) [zh t.kids,.i 1]=some (.iptr b.cells):=zJ (i:=1) (by rw[f];rfl);have f0:U.fits:=(T.fits_kids Q).2 U m0;have bb:=T.bd_kid ht mb;cases V:U.same key with
   |false=>
    simp[-zg,zbm,zc9,a,eq_true F,l0,f0,V,f];exact vG
   |true=>
    by_cases Z:b.kids.length=6
    ·obtain⟨aa,z,A,g,k,k5,B⟩:∃u0 u1 u2 u3 u4 u5,b.kids=[u0,u1,u2,u3,u4,u5]:=by
      match hl:b.kids,Z with
      |[u0,u1,u2,u3,u4,u5],_=>exact⟨u0,u1,u2,u3,u4,u5,rfl⟩
     have G:(b.kids.length:Int)=6:=by omega
     have W:∀u∈b.kids,u.bd 140737488355328:=fun u hu=>T.bd_kid bb hu;have b1:=W z (by rw[B];simp);have b2:=W A (by rw[B];simp);have b3:=W g (by rw[B];simp);have b4:=W k (by rw[B];simp);have b5:=W k5 (by rw[B];simp);have o4:=T.ofit_kid (T.ofit_kid P mb) (u:=k) (by rw[B];simp);have X:=zHt b1 b2 b3 b4 (k5:=k5) o4;obtain⟨S2,S3,S4,S5,O,v,c1,c2,c3,c4,c5,hh,hO⟩:=@zHp S b aa z A g k k5 B (by have:=T.bd_len b3;omega) (by have:=T.bd_name b5;omega);have m:=zjo (S:=O) (key:=key) (c:=jS z A g k k5) hO.isSs hf ho X;have sf:=zJJ hf X;have hv:=hO.reg;have ab:=hO.frzS (b:=S.n) (d:=1) (xad _);have H:=fun d rg=>@zGd O S.n _ d rg hh rfl;have I:∀d rg,ze (.ld none 1 false) d rg O [.ptr S.n 0 6]=some (.sc (.int .i64 (jS z A g k k5).upto),none,O):=fun d rg=>by rw[zY hh];rfl
     have J:(jS z A g k k5).done=qZ g.kids:=rfl;rw[f];simp only[Bool.true_and,F,decide_true,if_true,V,B];generalize jS z A g k k5=C at *;simp only[zbm];simp[-zg,zc9,a,eq_true F,l0,l1,f0,V,Z,G,zj];have o:IntKind.i64.wrap 1=1:=rfl;have p:IntKind.i64.wrap 2=2:=rfl;have q:IntKind.i64.wrap 3=3:=rfl;have w:IntKind.i64.wrap 4=4:=rfl;have y:IntKind.i64.wrap 5=5:=rfl;have ah:∀d rg (S:AS),ze (.alloc .heap [.s ⟨#[]⟩,.s ⟨#[]⟩,.lst 0 true [],.i 0,.s ⟨#[]⟩,.lst 0 true [],.i 0]) d rg S []=some (.ptr S.n 0 0,none,S.new (.rows 7 [zC])):=fun d rg S=>by simp[ze,zC]
     simp[-zg,ah];rw[jG];generalize e:(Kn.loop _ _ kz::_)=Y;simp[-zg,kz,zaX,o,p,q,w,y,c1];rw[<-e,vR];rw[jG];generalize e:(Kn.loop _ _ kz::_)=Y;simp[-zg,kz,zaX,o,p,q,w,y,c2];rw[<-e,vR];rw[jG];generalize e:(Kn.loop _ _ kz::_)=Y;simp[-zg,kz,zaX,o,p,q,w,y,c3];rw[<-e,vR];rw[jG];generalize e:(Kn.loop _ _ kz::_)=Y;simp[-zg,kz,zaX,o,p,q,w,y,c4];rw[<-e,vR];rw[jG];generalize e:(Kn.loop _ _ kz::_)=Y;simp[-zg,kz,zaX,o,p,q,w,y,c5];rw[<-e,vR];rw[jG];generalize e:(Kn.loop _ _ kz::_)=Y;simp[-zg,kz];rw[<-e];cases K:(yJ key C).same t with
     |false=>
      simp[-zg,H,I,hv,m,sf,K];exact vG
     |true=>
      by_cases D:C.upto<now
      ·simp[-zg,H,I,hv,m,sf,K,D];exact vG
      ·have ac:=hO.cell;have E:(ckX C v).all AV.isCell=true:=zkt C v ac;have N:∀x∈ckX C v,x.isCell=true:=List.all_eq_true.1 E;have ad:(ckX C v).take 7=ckX C v:=rfl;simp[-zg,H,I,hv,m,sf,K,D,E,N,ad];have e1:(zW S (some (.tup [.agg (ckX C v),.i 0],O)))=some (.tup [.agg C.cells,.i 0],S):=by
        have ae:zI (O.frzTo S.n 2) (ckX C v)=some C.cells:=by
         unfold ckX Ck.cells;rw[J];simp[ab]
        simp[ae,AV.pure]
       exact e1
    ·have G:¬(b.kids.length:Int)=6:=by omega
     have hm:(match b.kids with
      |[_,z,A,g,k,k5]=>if(yJ key (jS z A g k k5)).same t then(if(jS z A g k k5).upto<now then(jM,(5:Int))else(jS z A g k k5,0))else(jM,2)
      |_=>(jM,2))=(jM,2):=by
      split
      ·rename_i af;rw[af]at Z;simp at Z
      ·rfl
     rw[f];simp only[Bool.true_and,F,decide_true,if_true,V,hm];simp[-zg,zbm,zc9,a,eq_true F,l0,l1,f0,V,G];exact vG
  ·simp[-zg,zbm,zc9,a,F];exact vG
end
theorem zgx{p r:ByteArray}:jf (p++r) p=r:=by unfold jf;rw[zkx];rfl
theorem zyR{n:Int}(h:inI n):zbV (zE n)=n:=by
 unfold zbV;rw[zaO,zcS h.1 h.2]
theorem zzZ{l:List ByteArray}:qZ (y7 l)=l:=by
 unfold qZ y7;rw[List.map_map];have:((fun k:T=>jf k.name ⟨#[100]⟩)∘fun s=>zP (⟨#[100]⟩++s))=id:=by
  funext s;exact zgx
 rw[this,List.map_id]
theorem ztm{c:Ck}(h:inI c.upto):jS (zP (⟨#[99]⟩++c.client)) (zP (⟨#[110]⟩++c.nonce)) (zS (y7 c.done)) c.secret (zP (⟨#[117]⟩++zE c.upto))=c:=by
 unfold jS;have a:jf (zP (⟨#[99]⟩++c.client)).name ⟨#[99]⟩=c.client:=zgx;have b:jf (zP (⟨#[110]⟩++c.nonce)).name ⟨#[110]⟩=c.nonce:=zgx;have d:jf (zP (⟨#[117]⟩++zE c.upto)).name ⟨#[117]⟩=zE c.upto:=zgx;have e:qZ (zS (y7 c.done)).kids=c.done:=zzZ;rw[a,b,d,e,zyR h]
theorem ziL{t:T}:t.fit=true↔t.rshp=true/\t.ord=true/\t.dp<=57:=by
 unfold T.fit T.right;simp only[xab,decide_eq_true_eq];constructor
 ·rintro⟨⟨⟨a,b⟩,c⟩,d⟩;exact⟨a,c,d⟩
 ·rintro⟨a,c,d⟩;exact⟨⟨⟨a,by omega⟩,c⟩,d⟩
theorem vE{x y:ByteArray}(h:x.size≠0):x++y≠⟨#[]⟩:=by
 intro e;have:=congrArg ByteArray.size e;rw[xai]at this;have a:(⟨#[]⟩:ByteArray).size=0:=rfl;omega
theorem zeC{s:ByteArray}(h:s≠⟨#[]⟩):(zP s).rshp=true:=by
 unfold zP;rw[T.rshp];simp[T.one,knd,nmd,kdn,T.kind,T.name,T.kids,kh,h]
theorem zs6{l:List T}(h:∀t∈l,t.rshp=true):(zS l).rshp=true:=by
 unfold zS;rw[T.rshp,zd9.2 h];simp[T.one,knd,nmd,kdn,T.kind,T.name,T.kids]
theorem zs5{l:List T}(h:∀t∈l,t.ord=true):(zS l).ord=true:=by
 unfold zS;rw[T.ord,zfL,List.all_eq_true.2 h];rfl
theorem zz9{a b:T}(d:a.rshp=true)(e:b.rshp=true):(jI a b).rshp=true:=by
 unfold jI;rw[T.rshp];simp[T.one,knd,nmd,kdn,T.kind,T.name,T.kids,kh,d,e]
theorem zz8{a b:T}(d:a.ord=true)(e:b.ord=true):(jI a b).ord=true:=by
 unfold jI;rw[T.ord];simp[vQ,zdU,d,e]
theorem zgB{l:List T}{n:Nat}(h:∀t∈l,t.dp<=n):dpL l<=n:=by
 induction l with
 |nil=>exact Nat.zero_le _
 |cons t l ih=>rw[dpL];exact Nat.max_le.2 ⟨h t (by simp),ih fun x a=>h x (by simp[a])⟩
theorem sz1{b:UInt8}:(⟨#[b]⟩:ByteArray).size≠0:=by show 1≠0;omega
theorem zzh{c:Ck}(h:c.secret.rshp=true):∀t∈jE c,t.rshp=true:=by
 intro t a;simp only[jE,xaz,List.not_mem_nil,or_false]at a;rcases a with rfl|rfl|rfl|rfl|rfl|rfl
 ·exact zeC (by decide)
 ·exact zeC (vE sz1)
 ·exact zeC (vE sz1)
 ·refine zs6 fun u b=>?_;obtain⟨s,_,rfl⟩:=List.mem_map.1 b;exact zeC (vE sz1)
 ·exact h
 ·exact zeC (vE sz1)
theorem zzg{c:Ck}(h:c.secret.ord=true):∀t∈jE c,t.ord=true:=by
 intro t a;simp only[jE,xaz,List.not_mem_nil,or_false]at a;rcases a with rfl|rfl|rfl|rfl|rfl|rfl
 ·rfl
 ·rfl
 ·rfl
 ·refine zs5 fun u b=>?_;obtain⟨s,_,rfl⟩:=List.mem_map.1 b;rfl
 ·exact h
 ·rfl
theorem zzf{c:Ck}(h:c.secret.dp<=57):∀t∈jE c,t.dp<=57:=by
 intro t b;simp only[jE,xaz,List.not_mem_nil,or_false]at b;have a:∀s,(zP s).dp=1:=fun s=>rfl;rcases b with rfl|rfl|rfl|rfl|rfl|rfl
 ·rw[a];omega
 ·rw[a];omega
 ·rw[a];omega
 ·rw[T.dp_def];have:dpL (zS (y7 c.done)).kids<=1:=zgB fun u d=>by
   obtain⟨s,_,rfl⟩:=List.mem_map.1 (show u∈y7 c.done from d);rw[a];omega
  omega
 ·exact h
 ·rw[a];omega
theorem zJK{key:T}{c:Ck}(b:key.fit=true)(d:c.secret.fit=true):(jI key (zS (jE c))).right=true:=by
 obtain⟨e,f,n⟩:=ziL.1 b;obtain⟨g,k,m⟩:=ziL.1 d;rw[T.right_iff];refine⟨zz9 e (zs6 (zzh g)),?_,zz8 f (zs5 (zzg k))⟩;rw[T.dp_def];have o:dpL (jI key (zS (jE c))).kids<=58:=zgB fun u a=>by
  have a:u∈[key,zS (jE c)]:=a;rcases xaz.1 a with rfl|a
  ·omega
  ·simp only[xaA]at a;subst a;rw[T.dp_def];have:dpL (zS (jE c)).kids<=57:=zgB fun u a=>zzf m u a;omega
 omega
theorem zsS{key:T}{c:Ck}{now:Int}(b:key.fit=true)(d:c.secret.fit=true)(e:inI c.upto):
 jg key (yJ key c) now=if c.upto<now then(jM,5)else(c,0):=by
 have a:yJ key c=jI key (zS (jE c)):=by unfold yJ;rw[b,d];rfl
 have f:=zJK b d;unfold jg;rw[a,f];have g:(jI key (zS (jE c))).kind=4:=rfl;rw[g];simp only[decide_true,Bool.and_self,if_true];show(if key.same key then _ else _)=_;rw[T.same_self,if_pos rfl];show(if(yJ key (jS _ _ _ _ _)).same _ then _ else _)=_;rw[ztm e,a,T.same_self,if_pos rfl]
abbrev bl(x:ByteArray):List UInt8:=x.data.toList
def inL(L:List T)(t:T):Bool:=L.any fun u=>u.same t
theorem zrI{L:List T}{t:T}:inL L t=true↔t∈L:=by
 unfold inL;rw[List.any_eq_true];constructor
 ·rintro⟨u,a,h⟩;rw[<-T.same_iff.1 h];exact a
 ·intro h;exact⟨t,h,T.same_self t⟩
mutual
def mkP(L:List T):T->Bool
 | .mk k n l=>inL L (.mk k n l)||(if k=1 then true else if k=2 then false else if k=9 then shP L l else zji L l)
def zji(L:List T):List T->Bool
 |[]=>true
 |t::l=>mkP L t&&zji L l
def shP(L:List T):List T->Bool
 |a::b::_=>(mkP L a&&(inL L (wQ b)||mkP L b))||(mkP L b&&(inL L (wQ a)||mkP L a))
 |_=>false
end
def zkI(L:List T):List (Value×AV):=L.map fun t=>(.string t.text,.sc (.bool true))
def zAb(M:List (ByteArray×Bool)):List (Value×AV):=M.map fun p=>(.string p.1,.sc (.bool p.2))
def MOk(L:List T)(M:List (ByteArray×Bool)):Prop:=∀p∈M,∃t:T,t.rshp=true/\t.text=p.1/\p.2=mkP L t
def setM(M:List (ByteArray×Bool))(s:ByteArray)(b:Bool):Option (Nat×AV)->List (ByteArray×Bool)
 |some (i,_)=>M.set i (s,b)
 |none=>M++[(s,b)]
structure KS(S:AS)(kid i j:Nat)(L:List T)(v:AV):Prop where
 hk:S.heap kid=some (.rows 3 [[v,.mp i,.mp j]])
 hi:S.heap i=some (.map (zkI L))
 roj:S.ro<=j
 kj:kid≠j
 ij:i≠j
 tidy:∀t∈L,t.tidy
section
variable{S:AS}{kid i j:Nat}{L:List T}{v:AV}{M:List (ByteArray×Bool)}
set_option linter.unusedSectionVars false
variable(h:KS S kid i j L v)
include h
end
section
variable{S:AS}{kid i j:Nat}{L:List T}{v:AV}
end
section
variable{S:AS}{kid i j:Nat}{L:List T}{v:AV}
end
def zf8(kid i j:Nat)(v:AV)(x:Nat):Prop:=x=kid\/x=i\/x=j\/∃a b c d,v=.arr x a b c d
structure KN(S:AS)(kid i j:Nat)(L:List T)(M:List (ByteArray×Bool))(v:AV):Prop where
 hk:S.heap kid=some (.rows 3 [[v,.mp i,.mp j]])
 hi:S.heap i=some (.map (zkI L))
 hj:S.heap j=some (.map (zAb M))
 rok:S.ro<=kid
 roi:S.ro<=i
 roj:S.ro<=j
 ki:kid≠i
 kj:kid≠j
 ij:i≠j
 lk:kid<S.n
 li:i<S.n
 lj:j<S.n
 hv:(L=[]/\v=.lst 0 true [])\/∃id,v=.arr id 3 0 L.length none/\S.heap id=some (.rows 3 (L.map T.cells))/\S.ro<=id/\id<S.n/\id≠kid/\id≠i/\id≠j
 tidy:∀t∈L,t.tidy
 ok:MOk L M
section
variable{S:AS}{kid i j:Nat}{L:List T}{v:AV}{M:List (ByteArray×Bool)}
end
instance decT:DecidableEq T:=fun a b=>decidable_of_iff (a.same b=true) T.same_iff
def zkB(t:T):Option (List T×List T):=if t.kind=3 then some ([],t.kids)else if t.kind=4 then some (t.kids.take 1,t.kids.drop 1)else if t.kind=10 then some (t.kids.drop 1,t.kids.take 1)else none
def zl8(L:List T)(t:T):List T:=match zkB t with
 |some (n,g)=>if zji L n then g else[]
 |none=>[]
section
variable{S:AS}
structure Ap(S S':AS)(own own':Nat->Prop):Prop where
 ro:S'.ro=S.ro
 n:S.n<=S'.n
 h:∀x,x<S.n->¬own x->S'.heap x=S.heap x/\¬own' x
def W0:List (Value×AV):=[(.int .i64 3,.agg [.fn 412 [] [],.fn 415 [] []]),(.int .i64 4,.agg [.fn 413 [] [],.fn 414 [] []]),(.int .i64 10,.agg [.fn 414 [] [],.fn 413 [] []])]
end
def yO(v:AV)(x:Nat):Prop:=∃a b c d,v=.arr x a b c d
section
variable{S:AS}{v:AV}{R:List T}
end
def GV(S:AS)(sz:Nat)(v:AV)(R:List (List AV)):Prop:=(R=[]/\v=.lst 0 true [])\/∃id,v=.arr id sz 0 R.length none/\S.heap id=some (.rows sz R)/\S.ro<=id/\id<S.n
def Chg(S S':AS)(o o':Nat->Prop):Prop:=S'.ro=S.ro/\S.n<=S'.n/\∀x,x<S.n->¬o x->S'.heap x=S.heap x/\¬o' x
section
variable{S:AS}{v:AV}{R:List (List AV)}{sz:Nat}
theorem Chg.refl{o:Nat->Prop}:Chg S S o o:=⟨rfl,xad _,fun x _ h=>⟨rfl,h⟩⟩
theorem Chg.trans{S' e:AS}{o o' f:Nat->Prop}(h:Chg S S' o o')(g:Chg S' e o' f):Chg S e o f:=by
 refine⟨g.1.trans h.1,xaD h.2.1 g.2.1,fun x k m=>?_⟩;obtain⟨a,b⟩:=h.2.2 x k m;obtain⟨c,d⟩:=g.2.2 x (xan k h.2.1) b;exact⟨c.trans a,d⟩
theorem GV.reg(h:GV S sz v R):v.isReg=false:=by rcases h with⟨_,rfl⟩|⟨id,rfl,_⟩<;>rfl
theorem GV.cell(h:GV S sz v R):v.isCell=true:=by rcases h with⟨_,rfl⟩|⟨id,rfl,_⟩<;>rfl
theorem GV.cells(h:GV S sz v R):v.cells=[v]:=by rcases h with⟨_,rfl⟩|⟨id,rfl,_⟩<;>rfl
theorem GV.len(h:GV S sz v R):pev .lenL [v]=some (.sc (.int .i64 (R.length:Nat))):=by rcases h with⟨rfl,rfl⟩|⟨id,rfl,_⟩<;>rfl
theorem GV.lt(h:GV S sz v R){x:Nat}(g:yO v x):x<S.n/\S.ro<=x:=by
 obtain⟨a,b,c,d,e⟩:=g;rcases h with⟨_,f⟩|⟨id,f,_,k,m⟩
 ·rw[f]at e;cases e
 ·rw[f]at e;cases e;exact⟨m,k⟩
theorem GV.keep(h:GV S sz v R){S':AS}(a:S'.ro=S.ro)(k:S.n<=S'.n)(b:∀x,x<S.n->yO v x->S'.heap x=S.heap x):GV S' sz v R:=by
 rcases h with h|⟨id,e,d,f,g⟩
 ·exact .inl h
 ·exact .inr ⟨id,e,by rw[b id g ⟨_,_,_,_,e⟩];exact d,by rw[a];exact f,by omega⟩
theorem GV.app(h:GV S sz v R)(g:S.ro<=S.n){r:List AV}{bytes:Nat}{f:Bool}(m:(R.length+1)*bytes<=140737488355328):
 ∃o S',(∀d rg,ze (.append sz bytes) d rg S [v,.lst sz f [r]]=some (o,none,S'))/\GV S' sz o (R++[r])/\Chg S S' (yO v) (yO o):=by
 have k:zD sz S (.lst sz f [r])=some [r]:=by simp[zD]
 rcases h with⟨rfl,rfl⟩|⟨id,rfl,s,u,w⟩
 ·refine⟨.arr S.n sz 0 1 none,S.new (.rows sz [r]),fun d rg=>?_,.inr ⟨S.n,by simp,by simpa using jX,g,xay _⟩,rfl,Nat.le_succ _,fun x t q=>⟨if_neg (by omega),?_⟩⟩
  ·have m:1*bytes<=140737488355328:=by simpa using m
   simp[ze,k,jq];omega
  ·rintro⟨a,b,c,d,e⟩;cases e;omega
 ·have p:R.take R.length=R:=xax;refine⟨.arr S.n sz 0 (R.length+1) none,(S.set id none).new (.rows sz (R++[r])),fun d rg=>?_,.inr ⟨S.n,by simp,if_pos rfl,g,xay _⟩,rfl,Nat.le_succ _,fun x t q=>⟨?_,?_⟩⟩
  ·simp only[ze,k,xae,jq,List.isEmpty_cons,xau,if_false,s,Nat.zero_add,xaI,List.length_nil];rw[if_neg (by simp;omega),if_neg (by omega),if_pos ⟨trivial,m⟩];simp only[p,xam]
  ·show(if x=S.n then _ else(if x=id then none else S.heap x))=_;rw[if_neg (by omega),if_neg (fun e=>q ⟨_,_,_,_,by rw[e]⟩)]
  ·rintro⟨a,b,c,d,e⟩;cases e;omega
end
structure Cl where
 on:Bool
 done:Bool
 ended:Bool
 nonce:ByteArray
 body:T
 wrap:T
 ak:T
 base:T
 session:T
 name:ByteArray
 pass:T
 seed:T
 counter:Int
 ticket:T
 host:T
 key:T
 marks:List (ByteArray×ByteArray)
 z1:Bool:=false
 z2:Bool:=false
 z3:Bool:=false
def zc:Bool->T->AV
 |true,_=>.lst 0 true []
 |false,t=>zh t.kids
namespace Cl
def row(c:Cl)(mv:AV):List AV:=[.b c.on,.b c.done,.b c.ended,.s c.nonce,
 .sc (.int .i64 c.body.kind),.sc (.string c.body.name),zc c.z1 c.body,.sc (.int .i64 c.wrap.kind),.sc (.string c.wrap.name),zc c.z1 c.wrap,
 .sc (.int .i64 c.ak.kind),.sc (.string c.ak.name),zc c.z1 c.ak,.sc (.int .i64 c.base.kind),.sc (.string c.base.name),zc c.z2 c.base,
 .sc (.int .i64 c.session.kind),.sc (.string c.session.name),zc c.z3 c.session,.s c.name,
 .sc (.int .i64 c.pass.kind),.sc (.string c.pass.name),zh c.pass.kids,.sc (.int .i64 c.seed.kind),.sc (.string c.seed.name),zh c.seed.kids,.sc (.int .i64 c.counter),
 .sc (.int .i64 c.ticket.kind),.sc (.string c.ticket.name),zh c.ticket.kids,.sc (.int .i64 c.host.kind),.sc (.string c.host.name),zh c.host.kids,
 .sc (.int .i64 c.key.kind),.sc (.string c.key.name),zh c.key.kids,mv]
def mrow(l:List (ByteArray×ByteArray)):List (List AV):=l.map fun m=>[.sc (.string m.1),.sc (.string m.2)]
def says(c:Cl)(p k:T):T:=zai c.body c.wrap (km c.ak c.body p k)
end Cl
structure znH(S:AS)(id:Nat)(c:Cl)(mv:AV):Prop where
 hh:S.heap id=some (.rows 37 [c.row mv])
 gv:GV S 2 mv (Cl.mrow c.marks)
 ro:S.ro<=id
 lt:id<S.n
 ne:¬yO mv id
def zGi(id:Nat)(mv:AV)(x:Nat):Prop:=x=id\/yO mv x
section
variable{S:AS}{id:Nat}{c:Cl}{mv:AV}
theorem tri(t:T):[AV.sc (.int .i64 t.kind),.sc (.string t.name),zh t.kids]=t.cells:=(zq t).symm
section
variable(h:znH S id c mv)
include h
end
end
end Abs
namespace Abs.Rf
open Go Abs
def lookC(id:ByteArray):List (ByteArray×Int)->Option Int
 |[]=>none
 |p::l=>if p.1=id then some p.2 else lookC id l
def setC(id:ByteArray)(v:Int):List (ByteArray×Int)->List (ByteArray×Int)
 |[]=>[(id,v)]
 |p::l=>if p.1=id then(id,v)::l else p::setC id v l
def liveC(now:Int)(l:List (ByteArray×Int)):List (ByteArray×Int):=l.filter fun p=>decide (now<p.2)
theorem zsg{now:Int}{l:List (ByteArray×Int)}:(liveC now l).length<=l.length:=List.length_filter_le _ _
def jj(l:List (ByteArray×Int)):List (List AV):=l.map fun p=>[.sc (.string p.1),.sc (.int .i64 p.2)]
inductive LV(S:AS):AV->List (ByteArray×Int)->List Nat->Prop
 |nil{z:Nat}:LV S (.lst z true []) [] []
 |arr{id:Nat}{l:List (ByteArray×Int)}(h:S.heap id=some (.rows 2 (jj l)))(ro:S.ro<=id)(lt:id<S.n):LV S (.arr id 2 0 l.length none) l [id]
theorem zb1{l:List (ByteArray×Int)}:(jj l).length=l.length:=by simp[jj]
theorem zc4{l:List (ByteArray×Int)}{i:Nat}{p:ByteArray×Int}(h:l[i]?=some p):(jj l)[i]?=some [.sc (.string p.1),.sc (.int .i64 p.2)]:=by
 simp[jj,h]
section
variable{S S':AS}{v:AV}{l:List (ByteArray×Int)}{ids:List Nat}
theorem LV.step(h:LV S v l ids)(a:∀j∈ids,S'.heap j=S.heap j)(b:S'.ro=S.ro)(d:S.n<=S'.n):LV S' v l ids:=by
 cases h with
 |nil=>exact .nil
 |arr h ro lt=>exact .arr (by rw[a _ (by simp)];exact h) (by rw[b];exact ro) (xan lt d)
theorem LV.len(h:LV S v l ids):pev .lenL [v]=some (.sc (.int .i64 l.length)):=by
 cases h<;>rfl
theorem LV.cell(h:LV S v l ids):v.isCell=true:=by cases h<;>rfl
theorem LV.cells(h:LV S v l ids):v.cells=[v]:=by cases h<;>rfl
theorem LV.at_(h:LV S v l ids){i:Nat}(a:i<l.length):∃id,ids=[id]/\pev (.iaddr 2) [v,.sc (.int .i64 (i:Int))]=some (.ptr id i 0)/\S.heap id=some (.rows 2 (jj l)):=by
 cases h with
 |nil=>simp at a
 |arr h ro lt=>exact⟨_,rfl,by rw[zdW (by omega) (by omega)];simp,h⟩
theorem LV.push(h:LV S v l ids)(a:S.ro<=S.n)(p:ByteArray×Int)(e:(l.length+1)*24<=140737488355328):
 ∃b S',(∀d rg,ze (.append 2 24) d rg S [v,.lst 2 true [[.sc (.string p.1),.sc (.int .i64 p.2)]]]=some (b,none,S'))/\LV S' b (l++[p]) [S.n]/\S'.ro=S.ro/\S'.n=S.n+1/\∀j,j<S.n->j∉ids->S'.heap j=S.heap j:=by
 cases h with
 |nil=>
  refine⟨.arr S.n 2 0 1 none,S.new (.rows 2 [[.sc (.string p.1),.sc (.int .i64 p.2)]]),?_,?_,rfl,rfl,?_⟩
  ·intro d rg;rename_i z;simp only[ze,zD,beq_self_eq_true,Bool.true_or,if_true,decide_true,xae,jq,List.isEmpty_cons,xau,if_false,List.isEmpty_nil,Bool.true_and,List.length_nil,Nat.zero_add,List.nil_append,xam];simp
  ·exact .arr (l:=[p]) (by simp[AS.new,jj]) a (xay _)
  ·intro j f _;exact if_neg (by omega)
 |arr h ro lt=>
  rename_i id;have g:zj1 S id 2 (jj l):=⟨h,ro,lt⟩;refine⟨.arr S.n 2 0 (l.length+1) none,(S.set id none).new (.rows 2 (jj l++[[.sc (.string p.1),.sc (.int .i64 p.2)]])),?_,?_,rfl,rfl,?_⟩
  ·intro d rg;have:=zsT (d:=d) (rg:=rg) (bytes:=24) g (ys:=[[.sc (.string p.1),.sc (.int .i64 p.2)]]) (by simp) (by rw[zb1];simpa using e);rw[zb1]at this;exact this
  ·have:=LV.arr (S:=(S.set id none).new (.rows 2 (jj l++[[.sc (.string p.1),.sc (.int .i64 p.2)]]))) (id:=S.n) (l:=l++[p]) (by simp[AS.new,AS.set,jj]) a (xay _);simpa using this
  ·intro j f k;show(if j=S.n then _ else if j=id then _ else _)=_;rw[if_neg (by omega),if_neg (by simpa using k)]
structure IsRef(S:AS)(wid:Nat)(room:Int)(l:List (ByteArray×Int))(ids:List Nat)(v:AV):Prop where
 w:S.heap wid=some (.rows 2 [[.sc (.int .i64 room),v]])
 lv:LV S v l ids
 ne:wid∉ids
 ro:S.ro<=wid
 lt:wid<S.n
 sr:S.ro<=S.n
structure Frm(wid:Nat)(ids:List Nat)(S S':AS):Prop where
 ro:S'.ro=S.ro
 n:S.n<=S'.n
 heap:∀j,j<S.n->j≠wid->j∉ids->S'.heap j=S.heap j
theorem wJ{a:Nat}{room:Int}{d:Option Nat}{rg:Nat->Option (List AV)}(h:IsRef S a room l ids v):ze (.ld none 1 false) d rg S [.ptr a 0 1]=some (v,none,S):=by
 rw[zY h.w];simp
theorem zsV{a:Nat}{room:Int}{d:Option Nat}{rg:Nat->Option (List AV)}(h:IsRef S a room l ids v):ze (.ld none 1 false) d rg S [.ptr a 0 0]=some (.sc (.int .i64 room),none,S):=by
 rw[zY h.w];simp
def Sat(o:Option (AV×AS))(Q:AV->AS->Prop):Prop:=∃v S',o=some (v,S')/\Q v S'
@[simp] theorem zOE{v:AV}{S:AS}{Q:AV->AS->Prop}:Sat (some (v,S)) Q↔Q v S:=by
 constructor
 ·rintro⟨_,_,h,a⟩;cases h;exact a
 ·intro h;exact⟨_,_,rfl,h⟩
theorem zsh{now:Int}{l:List (ByteArray×Int)}{i:Nat}{p:ByteArray×Int}(h:l[i]?=some p):liveC now (l.take (i+1))=if now<p.2 then liveC now (l.take i)++[p]else liveC now (l.take i):=by
 rw[xav,h];unfold liveC;rw[List.filter_append];by_cases hp:now<p.2
 ·simp[hp]
 ·simp[hp]
theorem IsRef.step{a:Nat}{room:Int}(h:IsRef S a room l ids v)(e:S'.heap a=S.heap a)(f:∀j∈ids,S'.heap j=S.heap j)(b:S'.ro=S.ro)(d:S.n<=S'.n):IsRef S' a room l ids v:=
 ⟨by rw[e];exact h.w,h.lv.step f b d,h.ne,by rw[b];exact h.ro,xan h.lt d,by rw[b];exact xaD h.sr d⟩
theorem LV.lt(h:LV S v l ids):∀j∈ids,j<S.n:=by
 cases h with
 |nil=>intro j a;cases a
 |arr h ro lt=>intro j a;simp at a;subst a;exact lt
theorem zHw{d:Nat}{room now:Int}{ks:List Kn}{Q:AV->AS->Prop}{S0:AS}(U:l.length<=1000)
 (I:∀e S u ms,e 0=.ptr d 0 0->e 5=u->IsRef S d room l ids v->LV S u (liveC now l) ms->(∀j∈ms,j∉ids/\j≠d/\S0.n<=j)->S.ro=S0.ro->S0.n<=S.n->(∀j,j<S0.n->S.heap j=S0.heap j)->Sat (fin [.tmp 4] (unw AA (some (.exit 0,st 51 e (fun _=>none) S)) ks)) Q):
 ∀(n i:Nat) (e:Nat->AV) (S:AS) (u:AV) (ms:List Nat) (tm:List Nat),n+i=l.length->tm=[9,10,11,12,13,14,15,16,17,18,19,20,21,22,23,24,25,26,27,28,29,30,31,32,33,34,35,36,37]->
  e 0=.ptr d 0 0->e 1=.sc (.int .i64 now)->e 5=u->e 6=.sc (.int .i64 i)->IsRef S d room l ids v->LV S u (liveC now (l.take i)) ms->(∀j∈ms,j∉ids/\j≠d/\S0.n<=j)->S.ro=S0.ro->S0.n<=S.n->(∀j,j<S0.n->S.heap j=S0.heap j)->
  Sat (fin [.tmp 4] (zH AA (.loop tm [] zcm) (st 51 e (fun _=>none) S) ks)) Q:=by
 intro n
 induction n with
 |zero=>
  intro i e S u ms tm J a s x y C f z g k m o;rw[jG];generalize q:Kn.loop tm [] zcm::ks=K;have D:¬(i:Int)<l.length:=by omega
  rw[List.take_of_length_le (by omega)]at z;simp[zcm,zn,a,s,C,wJ f,f.lv.len,D];rw[<-q];simp;exact I _ _ u ms (by simp[zn,s]) (by simp[zn,y]) f z g k m o
 |succ n ih=>
  intro i e S u ms tm J a s x y C f z g k m o;rw[jG];generalize q:Kn.loop tm [] zcm::ks=K;have D:(i:Int)<l.length:=by omega
  have A:i<l.length:=by omega
  obtain⟨p,hp⟩:∃p,l[i]?=some p:=⟨l[i],by simp[A]⟩;obtain⟨id,N,B,G⟩:=f.lv.at_ A;have H:IntKind.i64.wrap ((i:Int)+1)=((i+1:Nat):Int):=w64 (by omega);by_cases b:now<p.2
  ·obtain⟨u',S',O,E,r,P,t⟩:=z.push f.sr p (by
    have:(liveC now (l.take i)).length<=i:=xaD zsg (by simp;omega);omega)
   have F:=f.step (S':=S') (t d f.lt (fun h=>(g d h).2.1 rfl)) (fun j w=>t j (f.lv.lt j w) (fun h=>(g j h).1 w)) r (by omega);simp[zcm,zn,a,s,x,y,C,wJ f,f.lv.len,D,B,zY G,zc4 hp,b,zj,O,H];rw[<-q,vR];refine ih (i+1) _ S' u' [S.n] tm (by omega) a (by simp[zn,a,s]) (by simp[zn,a,x]) (by simp[zn]) (by simp[zn]) F (by rw[zsh hp,if_pos b];exact E) ?_ (r.trans k) (by omega) ?_
   ·intro j w;simp at w;subst w;exact⟨fun h=>by have:=f.lv.lt _ h;omega,by have:=f.lt;omega,m⟩
   ·intro j w;rw[t j (by omega) (fun h=>by have:=(g j h).2.2;omega)];exact o j w
  ·simp[zcm,zn,a,s,x,y,C,wJ f,f.lv.len,D,B,zY G,zc4 hp,b,zj,H];rw[<-q,vR];exact ih (i+1) _ S u ms tm (by omega) a (by simp[zn,a,s]) (by simp[zn,a,x]) (by simp[zn,a,y]) (by simp[zn]) f (by rw[zsh hp,if_neg b];exact z) g k m o
theorem zHx{b:Nat}{room now:Int}(y:IsRef S b room l ids v)(z:l.length<=1000):
 ∃S' a k,call 55 [.ptr b 0 0,.sc (.int .i64 now)] S=some (.sc (.int .i64 (IntKind.i64.wrap (l.length-(liveC now l).length))),S')/\IsRef S' b room (liveC now l) a k/\Frm b ids S S'/\∀j∈a,S.n<=j:=by
 have key:Sat (call 55 [.ptr b 0 0,.sc (.int .i64 now)] S) fun r S'=>r=.sc (.int .i64 (IntKind.i64.wrap (l.length-(liveC now l).length)))/\∃a k,IsRef S' b room (liveC now l) a k/\Frm b ids S S'/\∀j∈a,S.n<=j:=by
  rw[z8 a55 (by simp) rfl];simp only[f55];simp[zqV,zn,zj];refine zHw (ids:=ids) (v:=v) (l:=l) (room:=room) (now:=now) (S0:=S) z ?_ l.length 0 _ S (.lst 2 true []) [] _ (by omega) rfl (by simp[zn]) (by simp[zn]) (by simp[zn]) (by simp[zn]) y .nil (fun _ h=>by cases h) rfl (xad _) (fun _ _=>rfl);intro e x u ms A B f o g p C q;have s:∀d rg,ze (.st none 1) d rg x [.ptr b 0 1,u]=some (.junk,none,x.set b (some (.rows 2 [[.sc (.int .i64 room),u]]))):=by
   intro d rg;simp only[ze,f.ro,o.cells,List.all_cons,o.cell,List.all_nil,Bool.and_self,List.length_singleton,and_self,if_true,f.w];simp[setCells]
  simp[zn,A,B,wJ f,f.lv.len,o.len,s,yD,yN];refine⟨ms,⟨u,⟨by simp[AS.set],o.step ?_ rfl (xad _),fun h=>(g _ h).2.1 rfl,f.ro,f.lt,f.sr⟩⟩,⟨p,C,?_⟩,fun j m=>(g j m).2.2⟩
  ·intro j m;exact if_neg (g j m).2.1
  ·intro j m t D;show(if j=b then _ else _)=_;rw[if_neg t];exact q j m
 obtain⟨r,S',E,rfl,a,k,F,G,H⟩:=key;exact⟨S',a,k,E,F,G,H⟩
theorem zoR{a:List (ByteArray×Int)}:(jj a).isEmpty=a.isEmpty:=by cases a<;>rfl
theorem zyB{x:AV}{ys:List (ByteArray×Int)}(a:S.ro<=S.n)(b:zD 2 S x=some (jj ys))(e:ys.length*24<=140737488355328):
 ∃S',(∀d rg,ze (.append 2 24) d rg S [.lst 2 true [],x]=some (.arr S.n 2 0 ys.length none,none,S'))/\LV S' (.arr S.n 2 0 ys.length none) ys [S.n]/\S'.ro=S.ro/\S'.n=S.n+1/\∀j,j<S.n->S'.heap j=S.heap j:=by
 refine⟨S.new (.rows 2 (jj ys)),?_,.arr (by simp[AS.new]) a (xay _),rfl,rfl,fun j f=>if_neg (by omega)⟩;intro d rg;simp only[ze,b,xae];unfold jq;rw[zoR];cases ys with
 |nil=>rfl
 |cons y ys=>
  simp only[List.isEmpty_cons,xau,if_false,List.isEmpty_nil,Bool.true_or,Bool.true_and,List.length_nil,Nat.zero_add,List.nil_append,decide_eq_true_eq];rw[if_pos (by rw[zb1];exact e),zb1];rfl
theorem zyA{id:Nat}{x:AV}{ys:List (ByteArray×Int)}(h:LV S (.arr id 2 0 l.length none) l [id])(e:S.ro<=S.n)(g:zD 2 S x=some (jj ys))(k:(l.length+ys.length)*24<=140737488355328):
 ∃m S' a,(∀d rg,ze (.append 2 24) d rg S [.arr id 2 0 l.length none,x]=some (m,none,S'))/\LV S' m (l++ys) a/\S'.ro=S.ro/\S.n<=S'.n/\(∀j,j<S.n->j≠id->S'.heap j=S.heap j)/\∀j∈a,j=id\/S.n<=j:=by
 cases ys with
 |nil=>
  refine⟨_,S,[id],?_,by simpa using h,rfl,xad _,fun _ _ _=>rfl,fun j b=>.inl (by simpa using b)⟩;intro d rg;simp only[ze,g,xae];unfold jq;rfl
 |cons y ys=>
  have o:S.heap id=some (.rows 2 (jj l))/\S.ro<=id/\id<S.n:=by
   generalize p:AV.arr id 2 0 l.length none=v at h;cases h with
   |arr h ro lt=>cases p;exact⟨h,ro,lt⟩
  obtain⟨q,r,s⟩:=o;refine⟨.arr S.n 2 0 (l++y::ys).length none,(S.set id none).new (.rows 2 (jj (l++y::ys))),[S.n],?_,.arr (by simp[AS.new,AS.set]) e (xay _),rfl,Nat.le_succ _,?_,fun j b=>.inr (by simp at b;omega)⟩
  ·intro d rg;simp only[ze,g,xae];unfold jq;rw[zoR];simp only[List.isEmpty_cons,xau,if_false,q,zb1,xaI]at k ⊢;rw[if_neg (by simp;omega)];rw[if_neg (by simp),if_pos ⟨trivial,k⟩,List.take_of_length_le (by rw[zb1];exact xad _)];simp[jj]
  ·intro j b f;show(if j=S.n then _ else if j=id then _ else _)=_;rw[if_neg (by omega),if_neg f]
theorem LV.front(h:LV S v l ids){at_:Nat}(a:at_<=l.length):∃x,pev (.sliceL 2 false true false) [v,.sc (.int .i64 (at_:Int))]=some x/\∀S',(∀j∈ids,S'.heap j=S.heap j)->zD 2 S' x=some (jj (l.take at_)):=by
 cases h with
 |nil=>
  rename_i z;have:at_=0:=by simpa using a
  subst this;exact⟨.lst 2 true [],by simp[pev,zM],fun S' _=>by simp[zD,jj]⟩
 |arr h ro lt=>
  rename_i id;refine⟨.arr id 2 0 at_ none,by simp[pev,zM,a],fun S' b=>?_⟩;simp only[zD,if_true,AS.slice,Nat.zero_le,b id (by simp),h];simp[jj,a]
theorem LV.back(h:LV S v l ids){at_:Nat}(a:at_<=l.length):∃x,pev (.sliceL 2 true false false) [v,.sc (.int .i64 (at_:Int))]=some x/\∀S',(∀j∈ids,S'.heap j=S.heap j)->zD 2 S' x=some (jj (l.drop at_)):=by
 cases h with
 |nil=>
  rename_i z;have:at_=0:=by simpa using a
  subst this;exact⟨.lst 2 true [],by simp[pev,zM],fun S' _=>by simp[zD,jj]⟩
 |arr h ro lt=>
  rename_i id;refine⟨.arr id 2 at_ (l.length-at_) none,by simp[pev,zM,a],fun S' b=>?_⟩;simp only[zD,if_true,AS.slice,Nat.zero_le,b id (by simp),h];have:at_+(l.length-at_)<=(jj l).length:=by rw[zb1];omega
  simp only[this,and_self,if_true];rw[List.take_of_length_le (by simp[jj])];simp[jj]
def atL(id:ByteArray):List (ByteArray×Int)->Nat->Nat->Nat
 |[],_,a=>a
 |p::l,i,a=>atL id l (i+1) (if sLt p.1 id then i+1 else a)
theorem zgm{id:ByteArray}:∀{l:List (ByteArray×Int)} {i a:Nat},a<=i->atL id l i a<=i+l.length
 |[],i,a,h=>by simpa[atL]using h
 |p::l,i,a,h=>by
  have:=@zgm id l (i+1) (if sLt p.1 id then i+1 else a) (by split<;>omega);simp only[atL,xaI];omega
theorem zsk{id:ByteArray}{p:ByteArray×Int}:∀{D R:List (ByteArray×Int)},lookC id D=none->p.1=id->lookC id (D++p::R)=some p.2/\∀x,setC id x (D++p::R)=D++(id,x)::R
 |[],R,_,h=>by simp[lookC,setC,h]
 |q::D,R,hD,h=>by
  simp only[lookC]at hD;split at hD
  ·cases hD
  ·rename_i a;obtain⟨b,d⟩:=zsk (R:=R) hD h;simp only[List.cons_append,lookC,a,if_false,setC];exact⟨b,fun x=>by rw[d x]⟩
theorem zsi{id:ByteArray}:∀{D R:List (ByteArray×Int)},lookC id D=none->lookC id (D++R)=lookC id R
 |[],R,_=>rfl
 |q::D,R,hD=>by
  simp only[lookC]at hD;split at hD
  ·cases hD
  ·rename_i a;simp only[List.cons_append,lookC,a,if_false];exact zsi hD
theorem zHy{k:Nat}{room t:Int}{id:ByteArray}{ks:List Kn}{Q:AV->AS->Prop}(hb:l.length<=1000)(g:IsRef S k room l ids v)
 (O:∀old e G,lookC id l=some old->e 8=.sc (.int .i64 9)->IsRef G k room (setC id (max old t) l) ids v->G.ro=S.ro->G.n=S.n->(∀j,j∉ids->G.heap j=S.heap j)->Sat (fin [.tmp 8] (unw AA (some (.ret,st 100 e (fun _=>none) G)) ks)) Q)
 (P:∀e,lookC id l=none->e 0=.ptr k 0 0->e 1=.sc (.string id)->e 2=.sc (.int .i64 t)->e 9=.sc (.int .i64 (atL id l 0 0:Nat))->Sat (fin [.tmp 8] (unw AA (some (.exit 0,st 100 e (fun _=>none) S)) ks)) Q):
 ∀(R D:List (ByteArray×Int)) (a:Nat) (e:Nat->AV) (tm:List Nat),l=D++R->tm=[8,18,19,20,21,22,23,24,25,26,27,28,29,30,31,32,33,34,35,36,37,38,39,40,41,42,43,44,45,46,47,48,49,50,51,52,53,54,55,56,57,58,59,60,61,62,63,64,65]->
  lookC id D=none->atL id l 0 0=atL id R D.length a->e 0=.ptr k 0 0->e 1=.sc (.string id)->e 2=.sc (.int .i64 t)->e 9=.sc (.int .i64 (a:Int))->e 10=.sc (.int .i64 D.length)->
  Sat (fin [.tmp 8] (zH AA (.loop tm [] zbs) (st 100 e (fun _=>none) S) ks)) Q:=by
 intro R
 induction R with
 |nil=>
  intro D a e tm x b J K y z A U o;rw[jG];generalize r:Kn.loop tm [] zbs::ks=kk;rw[List.append_nil]at x;subst x;simp[zbs,zn,b,y,o,wJ g,g.lv.len];rw[<-r];simp;exact P _ J (by simp[zn,y]) (by simp[zn,z]) (by simp[zn,A]) (by rw[K];simp[zn,U,atL])
 |cons p R ih=>
  intro D a e tm x b J K y z A U o;rw[jG];generalize r:Kn.loop tm [] zbs::ks=kk;have ab:l.length=D.length+(R.length+1):=by rw[x];simp
  have V:D.length<l.length:=by omega
  have W:(D.length:Int)<(l.length:Int):=by omega
  have hp:l[D.length]?=some p:=by rw[x];simp
  obtain⟨q,B,C,N⟩:=g.lv.at_ V;have w1:IntKind.i64.wrap ((D.length:Int)+1)=((D.length+1:Nat):Int):=w64 (by omega);by_cases m:p.1=id
  ·obtain⟨k1,k2⟩:=zsk (R:=R) J m;have E:=g.lv;have X:S.ro<=q:=by
    rw[B]at E;generalize hv:v=u at E;cases E with
    |arr h ro lt=>exact ro
   have Y:∀d rg,ze (.st none 1) d rg S [.ptr q D.length 1,.sc (.int .i64 (max p.2 t))]=some (.junk,none,S.set q (some (.rows 2 (jj (setC id (max p.2 t) l))))):=by
    intro d rg;simp only[ze,X,zzy,List.all_cons,zA6,List.all_nil,Bool.and_self,List.length_singleton,and_self,if_true,N,zc4 hp,xae];have H:(jj l).set D.length (setCells [.sc (.string p.1),.sc (.int .i64 p.2)] 1 [.sc (.int .i64 (max p.2 t))])=jj (setC id (max p.2 t) l):=by
     rw[x,k2];simp[jj,setCells,m]
    rw[H];simp
   simp[zbs,zn,b,y,z,A,o,wJ g,g.lv.len,W,C,zY N,zc4 hp,m,Y];rw[<-r];simp;have s:∀j,j∉ids->j≠q:=fun j Z h=>Z (by rw[B,h];simp);have aa:(setC id (max p.2 t) l).length=l.length:=by rw[x,k2];simp
   refine O p.2 _ _ (by rw[x];exact k1) (by simp[zn]) ⟨by show(if k=q then _ else _)=_;rw[if_neg (s k g.ne)];exact g.w,?_,g.ne,g.ro,g.lt,g.sr⟩ rfl rfl (fun j Z=>if_neg (s j Z));have F:=g.lv;rw[B]at F ⊢;generalize hv:v=u at F ⊢;cases F with
   |arr h ro lt=>
    rw[<-aa];exact .arr (by simp[AS.set]) ro lt
  ·have I:lookC id (D++[p])=none:=by rw[zsi J];simp[lookC,m]
   by_cases f:sLt p.1 id=true
   ·simp[zbs,zn,b,y,z,A,o,wJ g,g.lv.len,W,C,zY N,zc4 hp,m,f,w1];rw[<-r,vR];exact ih (D++[p]) (D.length+1) _ tm (by rw[x];simp) b I (by rw[K];simp[atL,f]) (by simp[zn,b,y]) (by simp[zn,b,z]) (by simp[zn,b,A]) (by simp[zn]) (by simp[zn])
   ·have f:sLt p.1 id=false:=by simpa using f
    simp[zbs,zn,b,y,z,A,o,wJ g,g.lv.len,W,C,zY N,zc4 hp,m,f,w1];rw[<-r,vR];exact ih (D++[p]) a _ tm (by rw[x];simp) b I (by rw[K];simp[atL,f]) (by simp[zn,b,y]) (by simp[zn,b,z]) (by simp[zn,b,A]) (by simp[zn,b,U]) (by simp[zn])
theorem LV.one{id:Nat}(h:LV S v l [id]):v=.arr id 2 0 l.length none:=by
 cases h;rfl
theorem IsRef.store{a:Nat}{room:Int}(h:IsRef S a room l ids v){u:AV}{f:List (ByteArray×Int)}{ms:List Nat}(e:LV S u f ms)(b:a∉ms):
 (∀d rg,ze (.st none 1) d rg S [.ptr a 0 1,u]=some (.junk,none,S.set a (some (.rows 2 [[.sc (.int .i64 room),u]]))))/\IsRef (S.set a (some (.rows 2 [[.sc (.int .i64 room),u]]))) a room f ms u:=by
 constructor
 ·intro d rg;simp only[ze,h.ro,e.cells,List.all_cons,e.cell,List.all_nil,Bool.and_self,List.length_singleton,and_self,if_true,h.w];simp[setCells]
 ·refine⟨by simp[AS.set],e.step ?_ rfl (xad _),b,h.ro,h.lt,h.sr⟩;intro j g;refine if_neg ?_;rintro rfl;exact b g
def insR(id:ByteArray)(t:Int)(l:List (ByteArray×Int)):List (ByteArray×Int):=(l.take (atL id l 0 0)++[(id,t)])++l.drop (atL id l 0 0)
def seenR(room:Int)(l:List (ByteArray×Int))(id:ByteArray)(t now:Int):Int×List (ByteArray×Int):=
 if t<=now then(5,l)else
 match lookC id (liveC now l)with
 |some old=>(9,setC id (max old t) (liveC now l))
 |none=>if room<=(liveC now l).length then(10,liveC now l)else(0,insR id t (liveC now l))
theorem Frm.trans{a:Nat}{ids ids1:List Nat}{d e:AS}(h:Frm a ids S d)(b:Frm a ids1 d e)(k:∀j∈ids1,S.n<=j):Frm a ids S e:=
 ⟨b.ro.trans h.ro,xaD h.n b.n,fun j f g m=>by
  rw[b.heap j (xan f h.n) g (fun o=>by have:=k j o;omega),h.heap j f g m]⟩
theorem zHz{f:Nat}{room t now:Int}{id:ByteArray}(Z:IsRef S f room l ids v)(hb:l.length<=1000):
 ∃S' d w,call 56 [.ptr f 0 0,.sc (.string id),.sc (.int .i64 t),.sc (.int .i64 now)] S=some (.sc (.int .i64 (seenR room l id t now).1),S')/\IsRef S' f room (seenR room l id t now).2 d w/\Frm f ids S S'/\∀j∈d,j∈ids\/S.n<=j:=by
 have key:Sat (call 56 [.ptr f 0 0,.sc (.string id),.sc (.int .i64 t),.sc (.int .i64 now)] S) fun r S'=>r=.sc (.int .i64 (seenR room l id t now).1)/\∃d w,IsRef S' f room (seenR room l id t now).2 d w/\Frm f ids S S'/\∀j∈d,j∈ids\/S.n<=j:=by
  rw[z8 a56 (by simp) rfl];simp only[f56];by_cases E:t<=now
  ·simp[zlw,zn,E,yD,yN,seenR];exact⟨ids,⟨v,Z⟩,⟨rfl,xad _,fun _ _ _ _=>rfl⟩,fun j g=>.inl g⟩
  ·obtain⟨s,ids1,y,p1,b,q,p⟩:=zHx (now:=now) Z hb;simp[zlw,zn,E,p1];have z:(liveC now l).length<=1000:=xaD zsg hb;unfold seenR;rw[if_neg E];generalize liveC now l=k at b z;have aa:∀j∈ids1,S.n<=j:=p;refine zHy (ids:=ids1) (v:=y) (l:=k) (S:=s) (room:=room) (t:=t) (id:=id) z b ?_ ?_ k [] 0 _ _ rfl rfl rfl rfl (by simp[zn]) (by simp[zn]) (by simp[zn]) (by simp[zn]) (by simp[zn])
   ·intro old e S2 B h8 F G hn hh;simp[h8,yD,yN,B];refine⟨ids1,⟨y,F⟩,q.trans ⟨G,Nat.le_of_eq hn.symm,fun j _ _ g=>hh j g⟩ p,fun j g=>.inr (p j g)⟩
   ·intro e B h0 H I h9;have u:atL id k 0 0<=k.length:=by have:=@zgm id k 0 0 (xad _);omega
    by_cases o:room<=k.length
    ·simp[zn,h0,wJ b,zsV b,b.lv.len,o,yD,yN,B];exact⟨ids1,⟨y,b⟩,q,fun j g=>.inr (p j g)⟩
    ·rw[B];simp only[if_neg o];generalize m:insR id t k=k';unfold insR at m;generalize atL id k 0 0=a at u h9 m;obtain⟨x1,f1,f2⟩:=b.lv.front u;obtain⟨x2,b1,b2⟩:=b.lv.back u;have f3:=f2 s (fun _ _=>rfl);have J:(k.take a).length<=1000:=by simp;omega
     generalize k.take a=K at f3 m J;obtain⟨S2,a1,a2,N,a4,a5⟩:=zyB (S:=s) (x:=x1) (ys:=K) b.sr f3 (by omega);obtain⟨v3,O,c1,P,Q,c4,c5⟩:=a2.push (by have:=b.sr;omega) (id,t) (by omega);have U:=P.one;subst U;have V:(K++[(id,t)]).length<=1001:=by simp;omega
     generalize K++[(id,t)]=yb at c1 P V m;have C:∀j,j<s.n->O.heap j=s.heap j:=fun j g=>by
      rw[c5 j (by omega) (by simp;omega),a5 j g]
     have W:IsRef O f room k ids1 y:=b.step (C _ b.lt) (fun j g=>C j (b.lv.lt j g)) (by rw[Q,N]) (by omega);obtain⟨v4,D,A,d1,d2,d3,d4,d5,d6⟩:=zyA P (x:=x2) (ys:=k.drop a) (by have:=b.sr;omega) (b2 O (fun j g=>C j (b.lv.lt j g))) (by simp;omega);have X:∀j,j<s.n->D.heap j=s.heap j:=fun j g=>by
      rw[d5 j (by omega) (by omega),C j g]
     have Y:IsRef D f room k ids1 y:=b.step (X _ b.lt) (fun j g=>X j (b.lv.lt j g)) (by rw[d3,Q,N]) (by omega);have ab:=b.lt;obtain⟨s1,s2⟩:=Y.store d2 (fun h=>by rcases d6 _ h with h|h<;>omega);rw[m]at s2;simp[zn,h0,H,I,h9,wJ b,zsV b,b.lv.len,o,f1,a1,zj,vc,c1,wJ W,b1,d1,s1,yD,yN];refine⟨A,⟨v4,s2⟩,q.trans (ids1:=ids1) ⟨by show D.ro=_;rw[d3,Q,N],by show s.n<=D.n;omega,fun j g hw _=>?_⟩ p,fun j g=>.inr ?_⟩
     ·show(if j=f then _ else _)=_;rw[if_neg hw,X j g]
     ·have:=q.n;rcases d6 j g with h|h<;>omega
 obtain⟨r,S',H,rfl,d,w,I,h3,h4⟩:=key;exact⟨S',d,w,H,I,h3,h4⟩
theorem zCA{room:Int}(a:S.ro<=S.n):call 54 [.sc (.int .i64 room)] S=some (.ptr S.n 0 0,S.new (.rows 2 [[.sc (.int .i64 (max room 0)),.lst 0 true []]]))/\
 IsRef (S.new (.rows 2 [[.sc (.int .i64 (max room 0)),.lst 0 true []]])) S.n (max room 0) [] [] (.lst 0 true []):=by
 constructor
 ·rw[z8 a54 (by simp) rfl];by_cases h:room<0
  ·have:max room 0=0:=by omega
   simp[f54,zlv,zn,yD,yN,ze,vc,AS.new,h,this]
  ·have:max room 0=room:=by omega
   simp[f54,zlv,zn,yD,yN,ze,vc,AS.new,h,this]
 ·exact⟨by simp[AS.new],.nil,by simp,a,xay _,Nat.le_succ_of_le a⟩
def ownR(a:Nat)(ids:List Nat)(x:Nat):Prop:=x=a\/x∈ids
theorem IsRef.lts{a:Nat}{room:Int}(h:IsRef S a room l ids v){x:Nat}(b:ownR a ids x):x<S.n:=by
 rcases b with rfl|b
 ·exact h.lt
 ·exact h.lv.lt x b
theorem IsRef.keep{a:Nat}{room:Int}(h:IsRef S a room l ids v){S':AS}(e:S'.ro=S.ro)(f:S.n<=S'.n)(b:∀x,x<S.n->ownR a ids x->S'.heap x=S.heap x):IsRef S' a room l ids v:=
 h.step (b a h.lt (.inl rfl)) (fun j d=>b j (h.lv.lt j d) (.inr d)) e f
theorem cSeen{b:Nat}{room t now:Int}{id:ByteArray}(k:IsRef S b room l ids v)(m:l.length<=1000):
 ∃S' a f,call 56 [.ptr b 0 0,.sc (.string id),.sc (.int .i64 t),.sc (.int .i64 now)] S=some (.sc (.int .i64 (seenR room l id t now).1),S')/\IsRef S' b room (seenR room l id t now).2 a f/\Chg S S' (ownR b ids) (ownR b a):=by
 obtain⟨S',a,f,o,p,g,q⟩:=zHz (t:=t) (now:=now) (id:=id) k m;refine⟨S',a,f,o,p,g.ro,g.n,fun x r d=>⟨g.heap x r (fun e=>d (.inl e)) (fun e=>d (.inr e)),?_⟩⟩;rintro(e|e)
 ·exact d (.inl e)
 ·rcases q x e with e|e
  ·exact d (.inr e)
  ·omega
theorem cNew{room:Int}(a:S.ro<=S.n):∃S',call 54 [.sc (.int .i64 room)] S=some (.ptr S.n 0 0,S')/\IsRef S' S.n (max room 0) [] [] (.lst 0 true [])/\Chg S S' (fun _=>False) (ownR S.n []):=by
 obtain⟨b,d⟩:=zCA (S:=S) (room:=room) a;refine⟨_,b,d,rfl,Nat.le_succ _,fun x f _=>⟨if_neg (by omega),?_⟩⟩;rintro(e|e)
 ·omega
 ·cases e
end
end Abs.Rf
