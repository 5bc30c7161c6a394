/- The document's users are made; the document's KDC in memory. -/
import Derived.Test.YthcobbfffjfboaaGreatDoorG5
import Derived.Test.YthcobbfffjfboaaGreatDoorG4
import Derived.Test.YthcobbfffjfboaaGreatDoorG3
set_option linter.unusedVariables false
set_option linter.unusedSimpArgs false
set_option linter.unusedSectionVars false
namespace Abs
open Go
section
variable {S:AS} {kb ub:Nat} {u:Us}
theorem qY {n:ByteArray} (h:S.heap kb=some (.rows 1 [[.lst 0 true []]])):call 345 [.ptr kb 0 0,.sc (.string n)] S=some (.sc (.int .i64 (-1)),S):=by
 rw [zh zr0 rfl (by simp) rfl];have hld:∀d rg,za (.ld none 1 false) d rg {S with ro:=S.n} [.ptr kb 0 0]=some (.lst 0 true [],none,{S with ro:=S.n}):=fun d rg=>by
  rw [yg (S:={S with ro:=S.n}) h];rfl
 simp only [zeA];simp [-zg,zkD];rw [vj];simp [-zg,zfv,hld];simp
theorem zza (hro:S.ro <=S.n) {f:Bool} (d:Option Nat) (rg:Nat -> Option (List AV)):za (.append 15 192) d rg S [.lst 0 true [],.lst 15 f [u.row]]=some (.arr S.n 15 0 1 none,none,S.new (.rows 15 [u.row])):=by
 simp [za,zv,jd]
set_option maxHeartbeats 1000000 in
theorem zyZ {f:Bool} (h:u.okk) (hro:S.ro <=S.n):∃S',call 329 [.lst 15 f [u.row]] S=some (.tup [.ptr S.n 0 0,.i 0],S') /\ IsB S' S.n (S.n+1) u /\ Chg S S' (fun _=>False) (qR S.n (S.n+1)):=by
 rw [ym zw4 (by simp) rfl];have e416:=fun S=>@zHg S u h;have hc:=@Us.row_cell u;have hl:=@Us.row_len u;have hk:=@Us.take u;have r0:u.row.take 1=[.sc (.string u.name)]:=rfl;have hap:=fun S hro d rg=>@zza S u hro true d rg;refine ⟨((S.new (.rows 1 [[.lst 0 true []]])).new (.rows 15 [u.row])).set S.n (some (.rows 1 [[.arr (S.n+1) 15 0 1 none]])),?_,?_,?_⟩
 ·generalize u.row=r at *;have e1:call 345 [.ptr S.n 0 0,.sc (.string u.name)] (S.new (.rows 1 [[.lst 0 true []]]))=_:=qY (jw);have hld:∀d rg,za (.ld none 1 false) d rg (S.new (.rows 1 [[.lst 0 true []]])) [.ptr S.n 0 0]=some (.lst 0 true [],none,S.new (.rows 1 [[.lst 0 true []]])):=fun d rg=>by rw [yg jw];rfl
  have hap:=hap (S.new (.rows 1 [[.lst 0 true []]])) (Nat.le_succ_of_le hro);have hst:∀d rg,za (.st none 1) d rg ((S.new (.rows 1 [[.lst 0 true []]])).new (.rows 15 [r])) [.ptr S.n 0 0,.arr (S.n+1) 15 0 1 none]=some (.junk,none,((S.new (.rows 1 [[.lst 0 true []]])).new (.rows 15 [r])).set S.n (some (.rows 1 [[.arr (S.n+1) 15 0 1 none]]))):=fun d rg=>by
   have hh:((S.new (.rows 1 [[.lst 0 true []]])).new (.rows 15 [r])).heap S.n=some (.rows 1 [[.lst 0 true []]]):=by
    show (if S.n=S.n+1 then _ else if S.n=S.n then _ else _)=_;rw [if_neg (by omega),if_pos rfl]
   simp only [za,hh];rw [if_pos ⟨hro,rfl,rfl⟩];rfl
  have hn1:(S.new (.rows 1 [[.lst 0 true []]])).n=S.n+1:=rfl;rw [hn1]at hap;generalize S.set S.n _=S2 at *;simp only [ziV];simp [zqN,vm,za];rw [vj];have hi:pev (.iaddr 15) [.lst 15 f [r],.i 0]=some (.iptr r):=by simp [pev]
  generalize hkk:Kn.loop _ _ zgV::_=kk;have hw:IntKind.i64.wrap 1=1:=w64 (by omega);simp [zgV,e1,hc,hl,hk,r0,e416,hld,hap,hst,zw,hi,hw];rw [<- hkk,wV,vj];simp [zgV]
 ·refine ⟨⟨if_pos rfl,?_⟩,hro,Nat.le_succ_of_le hro,?_,?_,by omega⟩
  ·show (if S.n+1=S.n then _ else if S.n+1=S.n+1 then _ else _)=_;rw [if_neg (by omega),if_pos rfl]
  ·show S.n < S.n+1+1;omega
  ·show S.n+1 < S.n+1+1;omega
 ·refine ⟨rfl,?_,fun x hx _=>⟨?_,?_⟩⟩
  ·show S.n <=S.n+1+1;omega
  ·show (if x=S.n then _ else if x=S.n+1 then _ else if x=S.n then _ else _)=_;rw [if_neg (by omega),if_neg (by omega),if_neg (by omega)]
  ·rintro (rfl|rfl)<;>omega
end
def zcg (t:Tk) (s b:T) (c:Int):Bool:=b.same (yT s c) && (decide (c <=t.counter+t.look+t.sync) ||decide (c=t.pending))
def qg (t:Tk) (s b:T) (n:Nat):List Int:=(rng t.counter n).filter (zcg t s b)
def y9 (t:Tk):Nat:=(min (max (t.counter+t.look+t.sync) t.pending) (t.counter+70) - t.counter+1).toNat
def jy (t:Tk) (s b:T):List Int:=if t.counter+70 < t.pending /\ b.same (yT s t.pending)=true then qg t s b (y9 t)++[t.pending] else qg t s b (y9 t)
def zaR (t:Tk) (s b:T):List Int:=if t.right then (if t.pending < t.counter /\ b.same (yT s t.pending)=true then t.pending::jy t s b else jy t s b) else []
def zdH (nonce seed:T) (t:Tk):List T -> List Int×Int
 |[a,b]=>if a.same nonce then (zaR t seed b,0) else ([],6)
 |_=>([],2)
def zds (nonce seed:T) (t:Tk) (r:T×Int):List Int×Int:=if r.2=0 then (match yw wz 2 r.1 with|some l=>zdH nonce seed t l|none=>([],2)) else ([],r.2)
def zaN (ak nonce p seed:T) (t:Tk):List Int×Int:=match yw zG 1 p with
 |some [x]=>zds nonce seed t (jl ak 45 x)
 |_=>([],2)
theorem zxL {t:Tk} {s b:T} {n:Nat}:qg t s b (n+1)=if zcg t s b (t.counter+(n:Int)) then qg t s b n++[t.counter+(n:Int)] else qg t s b n:=by
 unfold qg;rw [zwl,List.filter_append];cases h:zcg t s b (t.counter+(n:Int))<;>simp [h]
theorem zlt {t:Tk} {s b:T} {n:Nat}:(qg t s b n).length <=n:=by
 unfold qg;exact Nat.le_trans (List.length_filter_le _ _) (by rw [zDh];exact Nat.le_refl _)
section
variable {S:AS}
theorem Own.rowsI {S0 S':AS} {v:AV} {l:List Int} (h:Own S0 S' 1 v (ji l)):zv 1 S' v=some (ji l):=by
 rcases h.h with ⟨z,rfl,hz⟩|⟨id,rfl,hh,_,_⟩
 ·rcases hz with hz|rfl
  ·rw [hz];simp [zv]
  ·simp [zv]
 ·simp only [zv,if_true];exact wD hh (Nat.zero_le _)
theorem wN {S0 S':AS} {v:AV} {l:List Int} {n:Int} (hS:S0.n=S.n) (h:Own S0 S' 1 v (ji l)):zW S (some (.tup [v,.sc (.int .i64 n)],S'))=some (kR (l,n),S):=by
 have e:S'.frzTo S.n 2 v=some (jA l):=h.frzI (b:=S.n) (d:=1) (by omega);simp [e,kR]
theorem Own.pre {S0 S':AS} {v:AV} {l:List Int} {x:Int} (h:Own S0 S' 1 v (ji l)) (hl:l.length <=1000):
 ∃v' S'',(∀d rg,za (.append 1 8) d rg S' [.lst 1 true [[.sc (.int .i64 x)]],v]=some (v',none,S'')) /\ Own S0 S'' 1 v' (ji (x::l)) /\ v'.isReg=false:=by
 have h1:Own S0 S' 1 (.lst 1 true [[.sc (.int .i64 x)]]) [[.sc (.int .i64 x)]]:=⟨h.old,h.ro,.inl ⟨1,rfl,.inr rfl⟩⟩;have hr:=h.rowsI;cases l with
 |nil=>
  refine ⟨_,S',fun d rg=>?_,h1,rfl⟩;simp only [za,hr];rfl
 |cons y l=>
  obtain ⟨v',S'',ha,hO⟩:=h1.app (d:=none) (rg:=fun _=>none) (bytes:=8) hr (by simp [ji]) (by simp [ji];simp at hl;omega);exact ⟨v',S'',fun d rg=>by simpa [za] using ha,hO,hO.reg⟩
theorem Own.push1 {S0 S':AS} {v:AV} {l:List Int} {x:Int} (h:Own S0 S' 1 v (ji l)) (hl:l.length <=1000):
 ∃v' S'',(∀d rg,za (.append 1 8) d rg S' [v,.lst 1 true [[.sc (.int .i64 x)]]]=some (v',none,S'')) /\ Own S0 S'' 1 v' (ji (l++[x])) /\ v'.isReg=false:=by
 obtain ⟨v',S2,hap,hO',q1,q2,q3⟩:=h.push (n:=l.length) (bytes:=8) (r:=[.sc (.int .i64 x)]) (f:=true) (d:=none) (rg:=fun _=>none) (by simp [ji]) (by omega);have hap2:=zAM (ys:=[[.sc (.int .i64 x)]]) (by simp [zv]) hap;exact ⟨v',S2,fun d rg=>by simp [za,zv,hap2],by rw [zEj];exact hO',q1⟩
set_option maxHeartbeats 4000000 in
set_option maxRecDepth 100000 in
theorem zxv {ak nonce p seed:T} {t:Tk} (hp:p.bb):call 343 [.agg ak.cells,.agg nonce.cells,.agg p.cells,.agg seed.cells,.agg t.cells] S=some (kR (zaN ak nonce p seed t),S):=by
 rw [zh zDi rfl (by simp) rfl];have e1:=fun S=>@s79 S zG 1 p (by omega);unfold zaN;cases hu:yw zG 1 p with
 |none=>
  rw [hu]at e1;unfold zG at e1;simp [zaA,zbS,e1,zN,kR];rfl
 |some l=>
  rw [hu]at e1;obtain ⟨h1,hm⟩:=qy (n:=1) hu;obtain ⟨x,rfl⟩:=zjI h1;unfold zG at e1;have hx:=T.bb_kids hp x (hm x (by simp));have e3:=fun S=>@zjW S ak x 45 i45 (by omega) (T.bb_fits hx);have hr:=@zde ak x 45 hx;show _=some (kR (zds nonce seed t (jl ak 45 x)),S);unfold zds;generalize jl ak 45 x=r at e3 hr ⊢;by_cases h0:r.2=0
  ·rw [if_pos h0];have e5:=fun S=>@s79 S wz 2 r.1 (by omega);cases hv:yw wz 2 r.1 with
   |none=>
    rw [hv]at e5;unfold wz at e5;simp [zaA,zbS,e1,zN,zaS,e3,zy,h0,e5,kR];rfl
   |some m=>
    rw [hv]at e5;obtain ⟨hml,hmm⟩:=qy (n:=2) hv;obtain ⟨a,b,rfl⟩:=wQ hml;unfold wz at e5;have ha:=T.bb_fits (T.bb_kids hr a (hmm a (by simp)));have hb:=T.bb_fits (T.bb_kids hr b (hmm b (by simp)));show _=some (kR (zdH nonce seed t [a,b]),S);unfold zdH;simp only;cases hs:a.same nonce with
    |false=>simp [zaA,zbS,e1,zN,zaS,yV,yW,e3,zy,h0,e5,ha,hs,kR];rfl
    |true=>
     have e7:=fun S=>@zxV S t;rw [if_pos rfl];unfold zaR;cases hrt:t.right with
     |false=>
      have hre:t.reach=(0,-1):=by unfold Tk.reach;rw [hrt];rfl
      rw [hre]at e7;simp only [zaA];simp [-zg,zbS,e1,zN,zaS,yV,yW,e3,zy,h0,e5,ha,hs,e7];rw [vj];simp [-zg,qO];simp [kR];rfl
     |true=>
      obtain ⟨t1,t2,t3,t4,t5,t6⟩:=Tk.right_iff.1 hrt;obtain ⟨to,hto⟩:∃to,to=max (t.counter+t.look+t.sync) t.pending:=⟨_,rfl⟩;have hre:t.reach=(t.counter,to):=by unfold Tk.reach;rw [hrt,hto];rfl
      rw [hre]at e7;have hN:y9 t=(min to (t.counter+70) - t.counter+1).toNat:=by unfold y9;rw [hto]
      have k0:t.cells.take 1=[.sc (.int .i64 t.counter)]:=rfl;have k1:(t.cells.drop 1).take 1=[.sc (.int .i64 t.look)]:=rfl;have k1':t.cells.tail.take 1=[.sc (.int .i64 t.look)]:=rfl;have k2:(t.cells.drop 2).take 1=[.sc (.int .i64 t.sync)]:=rfl;have k3:(t.cells.drop 3).take 1=[.sc (.int .i64 t.pending)]:=rfl;have kl:t.cells.length=6:=rfl;have w70:IntKind.i64.wrap (t.counter+70)=t.counter+70:=w64 (by omega);have wA:IntKind.i64.wrap (t.counter+t.look)=t.counter+t.look:=w64 (by omega);have wB:IntKind.i64.wrap (t.counter+t.look+t.sync)=t.counter+t.look+t.sync:=w64 (by omega);simp only [zaA];simp [-zg,zbS,e1,zN,zaS,yV,yW,e3,zy,h0,e5,ha,hs,e7]
      let S0:AS:=⟨S.heap,S.n,S.n⟩
      refine jY (α:=Nat) (R:=fun _ r=>zW S r=some (kR (if t.pending < t.counter /\ b.same (yT seed t.pending)=true then t.pending::jy t seed b else jy t seed b,0),S)) (fun j e rg S'=>j <=y9 t /\ e 8=.reg 8 0 /\ rg 8=some seed.cells /\ e 9=.reg 9 0 /\ rg 9=some t.cells /\ e 16=zf [a,b] /\ e 20=.sc (.int .i64 t.counter) /\ e 21=.sc (.int .i64 to) /\ e 22=.sc (.int .i64 (t.counter+(j:Nat))) /\ Own S0 S' 1 (e 19) (ji (qg t seed b j))) (fun j=>y9 t - j) ?_ 0 _ _ _ ?_;rotate_left
      ·refine ⟨by omega,by simp,by simp,by simp,by simp,by simp,by simp,by simp,by simp,?_⟩;simp [qg,rng,ji];exact zhX (Nat.le_refl _)
      intro kk hkk j e rg S' ⟨hj,g8,gr8,g9,gr9,g16,g20,g21,g22,hO⟩ ih;have hvr:=hO.reg;by_cases hc:j < y9 t
      ·have hc1:t.counter+(j:Int) <=to:=by omega
       have hc2:t.counter+(j:Int) <=t.counter+70:=by omega
       have w3:IntKind.i64.wrap (t.counter+(j:Int)+1)=t.counter+((j+1:Nat):Int):=by rw [w64 (by omega)];omega
       have e158:=fun S=>@zsN S seed (t.counter+(j:Int)) (zr2 (by omega)) (by omega);have hsu:=@zxL t seed b j;unfold zcg at hsu;cases hsb:b.same (yT seed (t.counter+(j:Int))) with
       |false=>
        rw [hsb]at hsu;simp at hsu;simp [-zg,qO,g8,gr8,g9,gr9,g16,g20,g21,g22,hc1,hc2,yV,yW,e158,hb,hsb,w70,w3];refine ih (j+1) _ _ _ (by omega) (fun _ h=>h) ?_;exact ⟨by omega,by simp [g8],by simp [gr8],by simp [g9],by simp [gr9],by simp [g16],by simp [g20],by simp [g21],by simp,by rw [hsu];simpa using hO⟩
       |true=>
        rw [hsb]at hsu;obtain ⟨v',S2,hap,hO',q1⟩:=hO.push1 (x:=t.counter+(j:Int)) (by have:=@zlt t seed b j;omega);by_cases hd:t.counter+(j:Int) <=t.counter+t.look+t.sync
        ·rw [decide_eq_true hd]at hsu;simp at hsu;rw [<- hsu]at hO';simp [-zg,qO,g8,gr8,g9,gr9,g16,g20,g21,g22,hc1,hc2,yV,yW,e158,hb,hsb,w70,w3,k0,k1,k1',k2,k3,kl,wA,wB,hd,hvr,hap,q1,zw];refine ih (j+1) _ _ _ (by omega) (fun _ h=>h) ?_;exact ⟨by omega,by simp [g8],by simp [gr8],by simp [g9],by simp [gr9],by simp [g16],by simp [g20],by simp [g21],by simp,by simpa using hO'⟩
        ·by_cases hd2:t.counter+(j:Int)=t.pending
         ·rw [decide_eq_false hd,decide_eq_true hd2]at hsu;simp at hsu;rw [<- hsu]at hO';have hd3:=eq_true hd2;clear hd2;simp [-zg,qO,g8,gr8,g9,gr9,g16,g20,g21,g22,hc1,hc2,yV,yW,e158,hb,hsb,w70,w3,k0,k1,k1',k2,k3,kl,wA,wB,hd,hd3,hvr,hap,q1,zw];refine ih (j+1) _ _ _ (by omega) (fun _ h=>h) ?_;exact ⟨by omega,by simp [g8],by simp [gr8],by simp [g9],by simp [gr9],by simp [g16],by simp [g20],by simp [g21],by simp,by simpa using hO'⟩
         ·rw [decide_eq_false hd,decide_eq_false hd2]at hsu;simp at hsu;rw [<- hsu]at hO;simp [-zg,qO,g8,gr8,g9,gr9,g16,g20,g21,g22,hc1,hc2,yV,yW,e158,hb,hsb,w70,w3,k0,k1,k1',k2,k3,kl,wA,wB,hd,hd2];refine ih (j+1) _ _ _ (by omega) (fun _ h=>h) ?_;exact ⟨by omega,by simp [g8],by simp [gr8],by simp [g9],by simp [gr9],by simp [g16],by simp [g20],by simp [g21],by simp,by simpa using hO⟩
      ·have hj':j=y9 t:=by omega
       subst hj';have hex:¬(t.counter+(y9 t:Int) <=to /\ t.counter+(y9 t:Int) <=t.counter+70):=by omega
       have hcto:t.counter <=to:=by omega
       have hml:=@zlt t seed b (y9 t);have hNl:y9 t <=71:=by omega
       have e158p:=fun S=>@zsN S seed t.pending (zr2 (by omega)) (by omega);have hEl:(jy t seed b).length <=72:=by
        unfold jy;split
        ·simp;omega
        ·omega
       by_cases hpp:t.counter+70 < t.pending
       ·have hnl:¬t.pending < t.counter:=by omega
        cases hsp:b.same (yT seed t.pending) with
        |true=>
         obtain ⟨v',S2,hap,hO',q1⟩:=hO.push1 (x:=t.pending) (by omega);have heq:(if t.pending < t.counter /\ true=true then t.pending::jy t seed b else jy t seed b)=qg t seed b (y9 t)++[t.pending]:=by unfold jy;rw [if_neg (fun h=>hnl h.1),if_pos ⟨hpp,hsp⟩]
         rw [heq];by_cases hx1:t.counter+(y9 t:Int) <=to
         ·have hx2:¬t.counter+(y9 t:Int) <=t.counter+70:=fun h=>hex ⟨hx1,h⟩;simp [-zg,qO,g20,g21,g22,hx1,hx2,w70];rw [hkk];simp [-zg,g8,gr8,g9,gr9,g16,g20,g21,hcto,w70,k0,k1,k1',k2,k3,kl,yV,yW,e158p,hb,hvr,zw,hpp,hnl,hsp,hap,q1];exact wN (S0:=S0) rfl hO'
         ·simp [-zg,qO,g20,g21,g22,hx1];rw [hkk];simp [-zg,g8,gr8,g9,gr9,g16,g20,g21,hcto,w70,k0,k1,k1',k2,k3,kl,yV,yW,e158p,hb,hvr,zw,hpp,hnl,hsp,hap,q1];exact wN (S0:=S0) rfl hO'
        |false=>
         have heq:(if t.pending < t.counter /\ false=true then t.pending::jy t seed b else jy t seed b)=qg t seed b (y9 t):=by unfold jy;rw [if_neg (fun h=>hnl h.1),if_neg (fun h=>by rw [hsp]at h;cases h.2)]
         rw [heq];by_cases hx1:t.counter+(y9 t:Int) <=to
         ·have hx2:¬t.counter+(y9 t:Int) <=t.counter+70:=fun h=>hex ⟨hx1,h⟩;simp [-zg,qO,g20,g21,g22,hx1,hx2,w70];rw [hkk];simp [-zg,g8,gr8,g9,gr9,g16,g20,g21,hcto,w70,k0,k1,k1',k2,k3,kl,yV,yW,e158p,hb,hvr,zw,hpp,hnl,hsp];exact wN (S0:=S0) rfl hO
         ·simp [-zg,qO,g20,g21,g22,hx1];rw [hkk];simp [-zg,g8,gr8,g9,gr9,g16,g20,g21,hcto,w70,k0,k1,k1',k2,k3,kl,yV,yW,e158p,hb,hvr,zw,hpp,hnl,hsp];exact wN (S0:=S0) rfl hO
       ·have hE:jy t seed b=qg t seed b (y9 t):=by unfold jy;rw [if_neg (fun h=>hpp h.1)]
        by_cases hnl:t.pending < t.counter
        ·cases hsp:b.same (yT seed t.pending) with
         |true=>
          obtain ⟨v',S2,hap,hO',q1⟩:=hO.pre (x:=t.pending) (by omega);have heq:(if t.pending < t.counter /\ true=true then t.pending::jy t seed b else jy t seed b)=t.pending::qg t seed b (y9 t):=by rw [if_pos ⟨hnl,rfl⟩,hE]
          rw [heq];by_cases hx1:t.counter+(y9 t:Int) <=to
          ·have hx2:¬t.counter+(y9 t:Int) <=t.counter+70:=fun h=>hex ⟨hx1,h⟩;simp [-zg,qO,g20,g21,g22,hx1,hx2,w70];rw [hkk];simp [-zg,g8,gr8,g9,gr9,g16,g20,g21,hcto,w70,k0,k1,k1',k2,k3,kl,yV,yW,e158p,hb,hvr,zw,hpp,hnl,hsp,hap,q1];exact wN (S0:=S0) rfl hO'
          ·simp [-zg,qO,g20,g21,g22,hx1];rw [hkk];simp [-zg,g8,gr8,g9,gr9,g16,g20,g21,hcto,w70,k0,k1,k1',k2,k3,kl,yV,yW,e158p,hb,hvr,zw,hpp,hnl,hsp,hap,q1];exact wN (S0:=S0) rfl hO'
         |false=>
          have heq:(if t.pending < t.counter /\ false=true then t.pending::jy t seed b else jy t seed b)=qg t seed b (y9 t):=by rw [if_neg (fun h=>by cases h.2),hE]
          rw [heq];by_cases hx1:t.counter+(y9 t:Int) <=to
          ·have hx2:¬t.counter+(y9 t:Int) <=t.counter+70:=fun h=>hex ⟨hx1,h⟩;simp [-zg,qO,g20,g21,g22,hx1,hx2,w70];rw [hkk];simp [-zg,g8,gr8,g9,gr9,g16,g20,g21,hcto,w70,k0,k1,k1',k2,k3,kl,yV,yW,e158p,hb,hvr,zw,hpp,hnl,hsp];exact wN (S0:=S0) rfl hO
          ·simp [-zg,qO,g20,g21,g22,hx1];rw [hkk];simp [-zg,g8,gr8,g9,gr9,g16,g20,g21,hcto,w70,k0,k1,k1',k2,k3,kl,yV,yW,e158p,hb,hvr,zw,hpp,hnl,hsp];exact wN (S0:=S0) rfl hO
        ·
         have heq:(if t.pending < t.counter /\ b.same (yT seed t.pending)=true then t.pending::jy t seed b else jy t seed b)=qg t seed b (y9 t):=by rw [if_neg (fun h=>hnl h.1),hE]
         rw [heq];by_cases hx1:t.counter+(y9 t:Int) <=to
         ·have hx2:¬t.counter+(y9 t:Int) <=t.counter+70:=fun h=>hex ⟨hx1,h⟩;simp [-zg,qO,g20,g21,g22,hx1,hx2,w70];rw [hkk];simp [-zg,g8,gr8,g9,gr9,g16,g20,g21,hcto,w70,k0,k1,k1',k2,k3,kl,yV,yW,e158p,hb,hvr,zw,hpp,hnl];exact wN (S0:=S0) rfl hO
         ·simp [-zg,qO,g20,g21,g22,hx1];rw [hkk];simp [-zg,g8,gr8,g9,gr9,g16,g20,g21,hcto,w70,k0,k1,k1',k2,k3,kl,yV,yW,e158p,hb,hvr,zw,hpp,hnl];exact wN (S0:=S0) rfl hO
  ·rw [if_neg h0];simp [zaA,zbS,e1,zN,zaS,e3,zy,h0,kR];rfl
end
def rD (t:T) (l:ByteArray):ByteArray:=(wY t l).getD ⟨#[]⟩
def rB (t:T) (l:ByteArray):Bool:=(wY t l).isSome
def dnR (l:List T):List ByteArray:=l.map fun k=>rD k ⟨#[100]⟩
def dbR (l:List T):Bool:=l.all fun k=>rB k ⟨#[100]⟩
def zdC (s:ByteArray):Bool:=decide (zq (qh s)=s)
def ckR (k1 k2 k3 k4 k5:T):Ck:=⟨rD k1 ⟨#[99]⟩,rD k2 ⟨#[110]⟩,dnR k3.kids,k4,qh (rD k5 ⟨#[117]⟩)⟩
def wj (k1 k2 k3 k4 k5:T):Bool:=rB k1 ⟨#[99]⟩ && rB k2 ⟨#[110]⟩ && rB k5 ⟨#[117]⟩ && zdC (rD k5 ⟨#[117]⟩) && dbR k3.kids && k4.fit
def zao (k0 k3:T) (b:T):Bool:=decide (b.kind=3) && decide (k0.kind=1) && decide (k0.name=⟨#[99,111,111,107,105,101]⟩) && decide (k3.kind=3)
theorem zja {S:AS} {t:T} {l:ByteArray} (hl:l.size=1):call 317 [.agg t.cells,.sc (.string l)] S=some (.tup [.sc (.string (rD t l)),.sc (.bool (rB t l))],S):=zze hl
theorem zHx {l:List T} {i:Nat} {k:T} (h:l[i]?=some k):zS (dnR (l.take (i+1)))=zS (dnR (l.take i))++[[.sc (.string (rD k ⟨#[100]⟩))]]:=by
 rw [List.take_add_one,h];simp [dnR,zS]
theorem zw6 {l:List T} {i:Nat} {k:T} (h:l[i]?=some k):dbR (l.take (i+1))=(dbR (l.take i) && rB k ⟨#[100]⟩):=by
 rw [List.take_add_one,h];simp [dbR]
theorem zB4 {t:T} {l:ByteArray}:(rD t l).size <=t.name.size:=by
 unfold rD wY;split
 ·cases h:jI t.name l with
  |none=>exact Nat.zero_le _
  |some r=>exact zq4 h
 ·exact Nat.zero_le _
section
variable {S:AS}
theorem zre {b k0 k1 k2 k3 k4 k5:T} (hb:b.kids=[k0,k1,k2,k3,k4,k5]) (hh:zao k0 k3 b=false):call 220 [.agg b.cells] S=some (.tup [.agg j9.cells,.b false],S):=by
 rw [zh zjX rfl (by simp) rfl];have h6:b.kids.length=6:=by rw [hb];rfl
 have l0:pev (.iaddr 3) [zf b.kids,.i 0]=some (.iptr k0.cells):=zI (i:=0) (by rw [hb];rfl);have l3:pev (.iaddr 3) [zf b.kids,.i 3]=some (.iptr k3.cells):=zI (i:=3) (by rw [hb];rfl);have fin:zW S (some (.tup [.agg zC,.b false],S))=some (.tup [.agg j9.cells,.b false],S):=by
  simp [j9,Ck.cells,qM,T.kind,T.name,T.kids,zB,zf,lstN,zS,AV.pure]
 unfold zao at hh;by_cases c1:b.kind=3
 ·by_cases c2:k0.kind=1
  ·by_cases c3:k0.name=⟨#[99,111,111,107,105,101]⟩
   ·by_cases c4:k3.kind=3
    ·simp [c1,c2,c3,c4]at hh
    ·simp [-zg,zae,za6,eq_true c1,h6,l0,l3,eq_true c2,eq_true c3,c4];simp [j9,Ck.cells,qM,T.kind,T.name,T.kids,zB,zf,lstN,zS,AV.pure]
   ·simp [-zg,zae,za6,eq_true c1,h6,l0,l3,eq_true c2,c3];simp [j9,Ck.cells,qM,T.kind,T.name,T.kids,zB,zf,lstN,zS,AV.pure]
  ·simp [-zg,zae,za6,eq_true c1,h6,l0,l3,c2];simp [j9,Ck.cells,qM,T.kind,T.name,T.kids,zB,zf,lstN,zS,AV.pure]
 ·simp [-zg,zae,za6,c1];simp [j9,Ck.cells,qM,T.kind,T.name,T.kids,zB,zf,lstN,zS,AV.pure]
theorem zxO {b:T} (hl:b.kids.length <=4611686018427387904) (h:b.kids.length≠6):call 220 [.agg b.cells] S=some (.tup [.agg j9.cells,.b false],S):=by
 rw [zh zjX rfl (by simp) rfl];have h6':¬(b.kids.length:Int)=6:=by omega
 by_cases c1:b.kind=3
 ·simp [-zg,zae,za6,eq_true c1,h,h6'];simp [j9,Ck.cells,qM,T.kind,T.name,T.kids,zB,zf,lstN,zS,AV.pure]
 ·simp [-zg,zae,za6,c1];simp [j9,Ck.cells,qM,T.kind,T.name,T.kids,zB,zf,lstN,zS,AV.pure]
set_option maxHeartbeats 8000000 in
set_option maxRecDepth 100000 in
theorem znm {b k0 k1 k2 k3 k4 k5:T} (hb:b.kids=[k0,k1,k2,k3,k4,k5]) (hh:zao k0 k3 b=true) (hl:k3.kids.length * 16 <=140737488355328) (h5:k5.name.size <=4611686018427387904) (h4:k4.bulk <=1099511627776):
 call 220 [.agg b.cells] S=some (.tup [.agg (ckR k1 k2 k3 k4 k5).cells,.sc (.bool (wj k1 k2 k3 k4 k5))],S):=by
 rw [zh zjX rfl (by simp) rfl];have h6:b.kids.length=6:=by rw [hb];rfl
 have l0:pev (.iaddr 3) [zf b.kids,.i 0]=some (.iptr k0.cells):=zI (i:=0) (by rw [hb];rfl);have l1:pev (.iaddr 3) [zf b.kids,.i 1]=some (.iptr k1.cells):=zI (i:=1) (by rw [hb];rfl);have l2:pev (.iaddr 3) [zf b.kids,.i 2]=some (.iptr k2.cells):=zI (i:=2) (by rw [hb];rfl);have l3:pev (.iaddr 3) [zf b.kids,.i 3]=some (.iptr k3.cells):=zI (i:=3) (by rw [hb];rfl);have l4:pev (.iaddr 3) [zf b.kids,.i 4]=some (.iptr k4.cells):=zI (i:=4) (by rw [hb];rfl);have l5:pev (.iaddr 3) [zf b.kids,.i 5]=some (.iptr k5.cells):=zI (i:=5) (by rw [hb];rfl);have r1:=fun S=>@zja S k1 ⟨#[99]⟩ rfl;have r2:=fun S=>@zja S k2 ⟨#[110]⟩ rfl;have r5:=fun S=>@zja S k5 ⟨#[117]⟩ rfl;have rn:=fun S=>@zGC S (rD k5 ⟨#[117]⟩) (Nat.le_trans zB4 h5);have rf:=fun S=>@zg8 S k4 h4;unfold zao at hh;simp only [Bool.and_eq_true,decide_eq_true_eq]at hh;obtain ⟨⟨⟨c1,c2⟩,c3⟩,c4⟩:=hh;have hn:decide (zq (qh (rD k5 ⟨#[117]⟩))=rD k5 ⟨#[117]⟩)=zdC (rD k5 ⟨#[117]⟩):=rfl;rw [hn]at rn;obtain ⟨q1,hq1⟩:∃q,q=rB k1 ⟨#[99]⟩:=⟨_,rfl⟩;obtain ⟨q2,hq2⟩:∃q,q=rB k2 ⟨#[110]⟩:=⟨_,rfl⟩;obtain ⟨q5,hq5⟩:∃q,q=rB k5 ⟨#[117]⟩:=⟨_,rfl⟩;obtain ⟨qn,hqn⟩:∃q,q=zdC (rD k5 ⟨#[117]⟩):=⟨_,rfl⟩;obtain ⟨p0,hp0⟩:∃p,p=(q1 && q2 && q5 && qn):=⟨_,rfl⟩;have key:∀(e:Nat -> AV) (rg:Nat -> Option (List AV)) (S1:AS) (ks:List Kn),S1=⟨S.heap,S.n,S.n⟩ -> e 1=.reg 1 0 -> rg 1=some b.cells -> e 2=.reg 2 0 -> rg 2=some zC -> e 4=.reg 4 0 -> rg 4=some zC ->
  e 5=.sc (.string (rD k1 ⟨#[99]⟩)) -> e 7=.sc (.string (rD k2 ⟨#[110]⟩)) -> e 11=.sc (.int .i64 (qh (rD k5 ⟨#[117]⟩))) -> e 13=.sc (.bool p0) -> e 14=.i 0 ->
  (∀(e':Nat -> AV) (rg':Nat -> Option (List AV)) (S':AS) (v:AV),e' 1=.reg 1 0 -> rg' 1=some b.cells -> e' 2=.reg 2 0 -> rg' 2=some zC -> e' 4=.reg 4 0 -> rg' 4=some [.s ⟨#[]⟩,.s ⟨#[]⟩,v,.i 0,.s ⟨#[]⟩,.lst 0 true [],.i 0] ->
   e' 5=e 5 -> e' 7=e 7 -> e' 11=e 11 -> e' 13=.sc (.bool (p0 && dbR k3.kids)) -> Own ⟨S.heap,S.n,S.n⟩ S' 1 v (zS (dnR k3.kids)) ->
   zW S (fin [.cell 2 7 true,.tmp 3] (unw AA (some (.exit 0,st 145 e' rg' S')) ks))=some (.tup [.agg (ckR k1 k2 k3 k4 k5).cells,.sc (.bool (wj k1 k2 k3 k4 k5))],S)) ->
  zW S (fin [.cell 2 7 true,.tmp 3] (zA AA (.loop [15,16,92,93,94,95,96,97,98,99,100,101,102,103,104,105,106,107,108,109,110,111,112,113,114,115,116,117,118,119,120,121,122,123] [] zfh) (st 145 e rg S1) ks))=some (.tup [.agg (ckR k1 k2 k3 k4 k5).cells,.sc (.bool (wj k1 k2 k3 k4 k5))],S):=by
  intro e rg S1 ks hS1 g1 rg1 g2 rg2 g4 rg4 g5 g7 g11 g13 g14 hex;refine jY (α:=Nat) (R:=fun _ r=>zW S r=some (.tup [.agg (ckR k1 k2 k3 k4 k5).cells,.sc (.bool (wj k1 k2 k3 k4 k5))],S)) (fun i e' rg' S'=>i <=k3.kids.length /\ e' 1=.reg 1 0 /\ rg' 1=some b.cells /\ e' 2=.reg 2 0 /\ rg' 2=some zC /\ e' 4=.reg 4 0 /\ e' 5=e 5 /\ e' 7=e 7 /\ e' 11=e 11 /\ e' 13=.sc (.bool (p0 && dbR (k3.kids.take i))) /\ e' 14=.sc (.int .i64 (i:Nat)) /\ ∃v,rg' 4=some [.s ⟨#[]⟩,.s ⟨#[]⟩,v,.i 0,.s ⟨#[]⟩,.lst 0 true [],.i 0] /\ Own ⟨S.heap,S.n,S.n⟩ S' 1 v (zS (dnR (k3.kids.take i)))) (fun i=>k3.kids.length - i) ?_ 0 _ _ _ ?_;rotate_left
  ·refine ⟨by omega,g1,rg1,g2,rg2,g4,rfl,rfl,rfl,by rw [g13];simp [dbR],g14,.lst 0 true [],rg4,?_⟩;rw [hS1];simp [dnR,zS];exact zhX (Nat.le_refl _)
  intro kk hkk i e' rg' S' ⟨hi,g1,rg1,g2,rg2,g4,f5,f7,f11,g13,g14,v,rg4,hO⟩ ih;by_cases hc:i < k3.kids.length
  ·obtain ⟨u,hu⟩:=jK hc;have w2:IntKind.i64.wrap ((i:Int)+1)=((i+1:Nat):Int):=w64 (by omega);have hil:(k3.kids.take i).length=i:=by rw [List.length_take];omega
   have ru:=fun S=>@zja S u ⟨#[100]⟩ rfl;obtain ⟨v',S'',ha,hO',z1,z2,z3⟩:=hO.push (n:=i) (bytes:=16) (r:=[.sc (.string (rD u ⟨#[100]⟩))]) (f:=true) (d:=some 122) (rg:=rg') (by simp [dnR];omega) (by omega);have hvr:=hO.reg;rw [<- zHx hu]at hO';have hdb:=zw6 hu;have e13':(p0 && dbR (k3.kids.take i) && rB u ⟨#[100]⟩)=(p0 && dbR (k3.kids.take (i+1))):=by rw [hdb,Bool.and_assoc]
   cases hb13:(p0 && dbR (k3.kids.take i)) with
   |false=>
    rw [hb13]at g13 e13';simp only [Bool.false_and]at e13';simp [-zg,zfh,g1,rg1,g2,g4,rg4,g13,g14,hc,l3,zI hu,ru,hvr,zw];rw [ha];simp [-zg,z1,z2,z3,w2,g4,rg4,g14];refine ih (i+1) _ _ _ (by omega) (fun _ h=>h) ?_;exact ⟨by omega,by simp [g1],by simp [rg1],by simp [g2],by simp [rg2],by simp [g4],by simp [f5],by simp [f7],by simp [f11],by simp [<- e13'],by simp,v',by simp,hO'⟩
   |true=>
    rw [hb13]at g13 e13';simp only [Bool.true_and]at e13';simp [-zg,zfh,g1,rg1,g2,g4,rg4,g13,g14,hc,l3,zI hu,ru,hvr,zw];rw [ha];simp [-zg,z1,z2,z3,w2,g4,rg4,g14];refine ih (i+1) _ _ _ (by omega) (fun _ h=>h) ?_;exact ⟨by omega,by simp [g1],by simp [rg1],by simp [g2],by simp [rg2],by simp [g4],by simp [f5],by simp [f7],by simp [f11],by simp [<- e13'],by simp,v',by simp,hO'⟩
  ·have hi':i=k3.kids.length:=by omega
   subst hi';rw [List.take_length]at hO g13;simp [-zg,zfh,g1,rg1,g2,g4,g14,l3];rw [hkk];exact hex _ _ _ v (by simp [g1]) rg1 (by simp [g2]) rg2 (by simp [g4]) rg4 (by simp [f5]) (by simp [f7]) (by simp [f11]) (by simp [g13]) hO
 have done:∀(e':Nat -> AV) (rg':Nat -> Option (List AV)) (S':AS) (v:AV),e' 1=.reg 1 0 -> rg' 1=some b.cells -> e' 2=.reg 2 0 -> rg' 2=some zC -> e' 4=.reg 4 0 -> rg' 4=some [.s ⟨#[]⟩,.s ⟨#[]⟩,v,.i 0,.s ⟨#[]⟩,.lst 0 true [],.i 0] ->
  e' 5=.sc (.string (rD k1 ⟨#[99]⟩)) -> e' 7=.sc (.string (rD k2 ⟨#[110]⟩)) -> e' 11=.sc (.int .i64 (qh (rD k5 ⟨#[117]⟩))) -> e' 13=.sc (.bool (p0 && dbR k3.kids)) -> Own ⟨S.heap,S.n,S.n⟩ S' 1 v (zS (dnR k3.kids)) ->
  zW S (fin [.cell 2 7 true,.tmp 3] (zA AA (.seq (.ops [
  ⟨some 124,.pur (.faddr 2),[.t 1],none⟩,
  ⟨some 125,.ld (some 1) 1 false,[.t 124],none⟩,
  ⟨some 126,.pur (.iaddr 3),[.t 125,.k (.i 4)],none⟩,
  ⟨some 127,.ld none 3 true,[.t 126],none⟩,
  ⟨some 128,.call 211,[.t 127],none⟩,
  ⟨some 17,.pur .mov,[.t 128],none⟩])<|
 .seq (.ops [
  ⟨some 129,.pur .mov,[.t 5],none⟩,
  ⟨some 130,.pur (.faddr 0),[.t 4],none⟩,
  ⟨none,.st (some 4) 1,[.t 130,.t 129],none⟩])<|
 .seq (.ops [
  ⟨some 131,.pur .mov,[.t 7],none⟩,
  ⟨some 132,.pur (.faddr 1),[.t 4],none⟩,
  ⟨none,.st (some 4) 1,[.t 132,.t 131],none⟩])<|
 .seq (.ops [
  ⟨some 133,.pur .mov,[.t 11],none⟩,
  ⟨some 134,.pur (.faddr 6),[.t 4],none⟩,
  ⟨none,.st (some 4) 1,[.t 134,.t 133],none⟩])<|
 .seq (.ops [
  ⟨some 135,.pur (.faddr 2),[.t 1],none⟩,
  ⟨some 136,.ld (some 1) 1 false,[.t 135],none⟩,
  ⟨some 137,.pur (.iaddr 3),[.t 136,.k (.i 4)],none⟩,
  ⟨some 138,.ld none 3 true,[.t 137],none⟩,
  ⟨some 139,.pur (.faddr 3),[.t 4],none⟩,
  ⟨none,.st (some 4) 3,[.t 139,.t 138],none⟩])<|
 .seq (.ops [
  ⟨some 140,.ld (some 4) 7 true,[.t 4],none⟩,
  ⟨some 141,.pur .mov,[.t 13],none⟩,
  ⟨some 142,.pur .mov,[.t 141],none⟩,
  ⟨some 143,.pur .mov,[.t 17],some (142,true)⟩,
  ⟨some 144,.pur .pick,[.t 142,.t 143,.k (.b false)],none⟩,
  ⟨none,.st (some 2) 7,[.t 2,.t 140],none⟩,
  ⟨some 3,.pur .mov,[.t 144],none⟩]) .ret) (st 145 e' rg' S') []))=some (.tup [.agg (ckR k1 k2 k3 k4 k5).cells,.sc (.bool (wj k1 k2 k3 k4 k5))],S):=by
  intro e' rg' S' v g1 rg1 g2 rg2 g4 rg4 g5 g7 g11 g13 hO;have hvr:=hO.reg;have hvc:=hO.cell;have hfz:=hO.frzS (b:=S.n) (d:=1) (Nat.le_refl _);have hok:wj k1 k2 k3 k4 k5=(p0 && dbR k3.kids && k4.fit):=by
   unfold wj;rw [hp0,hq1,hq2,hq5,hqn]
  rw [hok];have hcells:(ckR k1 k2 k3 k4 k5).cells=[.sc (.string (rD k1 ⟨#[99]⟩)),.sc (.string (rD k2 ⟨#[110]⟩)),zB (dnR k3.kids)]++k4.cells++[.sc (.int .i64 (qh (rD k5 ⟨#[117]⟩)))]:=by rw [zu k4];rfl
  rw [hcells];cases hb13:(p0 && dbR k3.kids) with
  |false=>
   rw [hb13]at g13;simp [-zg,g1,rg1,g2,rg2,g4,rg4,g5,g7,g11,g13,l4,rf,hvc,hvr];rw [zu k4];simp [g2,hfz,AV.pure]
  |true=>
   rw [hb13]at g13;simp [-zg,g1,rg1,g2,rg2,g4,rg4,g5,g7,g11,g13,l4,rf,hvc,hvr];rw [zu k4];simp [g2,hfz,AV.pure]
 have hfin:∀(v:Bool),v=p0 -> True:=fun _ _=>trivial;simp only [zae];rcases q1 with _|_<;>rcases q2 with _|_<;>rcases q5 with _|_<;>rcases qn with _|_
 all_goals
  rw [<- hq1]at r1;rw [<- hq2]at r2;rw [<- hq5]at r5;rw [<- hqn]at rn;simp [-zg,za6,eq_true c1,h6,l0,l1,l2,l3,l5,eq_true c2,eq_true c3,eq_true c4,r1,r2,r5,rn];refine key _ _ _ _ rfl (by simp) (by simp) (by simp) (by simp [zC]) (by simp) (by simp [zC]) (by simp) (by simp) (by simp) (by simp [hp0]) (by simp) ?_;intro e' rg' S' v g1 rg1 g2 rg2 g4 rg4 g5 g7 g11 g13 hO;simp at g5 g7 g11;simpa using done e' rg' S' v g1 rg1 g2 rg2 g4 rg4 g5 g7 g11 g13 hO
end
theorem zto {t:T} (h:t.rshp=true):knd t.kind=true /\ (nmd t.kind=true↔t.name≠⟨#[]⟩) /\ (kdn t.kind < 0 \/ (t.kids.length:Int)=kdn t.kind):=by
 rw [t.rshp_def,Bool.and_eq_true]at h;exact T.one_iff.1 h.1
theorem zrc {t:T} (h:t.rshp=true) (h1:t.kind=1):t=zJ t.name:=by
 obtain ⟨_,_,h3⟩:=zto h;have hk:kdn t.kind=0:=by rw [h1];rfl
 have:t.kids.length=0:=by omega
 obtain ⟨k,n,l⟩:=t;have h1:k=1:=h1;have hl:l=[]:=List.length_eq_zero_iff.1 this;subst h1;subst hl;rfl
theorem zoG {t:T} (h:t.rshp=true) (h1:nmd t.kind=false):t.name=⟨#[]⟩:=by
 obtain ⟨_,h2,_⟩:=zto h;by_cases hn:t.name=⟨#[]⟩
 ·exact hn
 ·have:=h2.2 hn;rw [h1]at this;cases this
theorem zqC {t:T} (h:t.rshp=true) (h1:t.kind=3):t=zO t.kids:=by
 have hn:=zoG h (by rw [h1];rfl);obtain ⟨k,n,l⟩:=t;have h1:k=3:=h1;have hn:n=⟨#[]⟩:=hn;subst h1;subst hn;rfl
theorem zGd {t:T} {l r:ByteArray} (h:wY t l=some r):t.kind=1 /\ t.name=l++r:=by
 unfold wY at h;split at h
 ·rename_i h1;exact ⟨h1,zle.1 h⟩
 ·cases h
theorem zpt {l r:ByteArray}:wY (zJ (l++r)) l=some r:=by
 unfold wY;rw [if_pos (show (zJ (l++r)).kind=1 from rfl)];exact zmW
theorem zAd {t:T} {l:ByteArray} (h:rB t l=true):t.kind=1 /\ t.name=l++rD t l:=by
 unfold rB at h;obtain ⟨r,hr⟩:=Option.isSome_iff_exists.1 h;have:=zGd hr;unfold rD;rw [hr];exact this
theorem zij {t:T} {l:ByteArray} (ht:t.rshp=true) (h:rB t l=true):t=zJ (l++rD t l):=by
 obtain ⟨h1,h2⟩:=zAd h;rw [<- h2];exact zrc ht h1
theorem zvN {l r:ByteArray}:rD (zJ (l++r)) l=r:=by unfold rD;rw [zpt];rfl
theorem ziJ {l r:ByteArray}:rB (zJ (l++r)) l=true:=by unfold rB;rw [zpt];rfl
theorem zEq {l:List ByteArray}:dbR (y0 l)=true:=by
 unfold dbR y0;rw [List.all_map,List.all_eq_true];intro s _;exact ziJ
theorem zp7:∀{l:List T},(∀t∈l,t.rshp=true) -> dbR l=true -> y0 (dnR l)=l
 |[],_,_=>rfl
 |t::l,h,hd=>by
  unfold dbR at hd;rw [List.all_cons,Bool.and_eq_true]at hd;have ih:=zp7 (l:=l) (fun x hx=>h x (by simp [hx])) hd.2;have e:=zij (h t (by simp)) hd.1;show zJ (⟨#[100]⟩++rD t ⟨#[100]⟩)::y0 (dnR l)=t::l;rw [ih,<- e]
def zdD (key b k0 k1 k2 k3 k4 k5:T):Bool:=key.fit && (zao k0 k3 b && wj k1 k2 k3 k4 k5)
theorem zxC {key t b k0 k1 k2 k3 k4 k5:T} (hr:t.rshp=true) (h4:t.kind=4) (hk:t.kids=[key,b]) (hb:b.kids=[k0,k1,k2,k3,k4,k5]):
 (yC key (vS k1 k2 k3 k4 k5)).same t=zdD key b k0 k1 k2 k3 k4 k5 /\ (zdD key b k0 k1 k2 k3 k4 k5=true -> vS k1 k2 k3 k4 k5=ckR k1 k2 k3 k4 k5):=by
 have hbm:b.rshp=true:=T.rshp_kid hr (by rw [hk];simp);have kb:∀u∈[k0,k1,k2,k3,k4,k5],u.rshp=true:=fun u hu=>T.rshp_kid hbm (by rw [hb];exact hu);have fwd:zdD key b k0 k1 k2 k3 k4 k5=true -> vS k1 k2 k3 k4 k5=ckR k1 k2 k3 k4 k5 /\ yC key (ckR k1 k2 k3 k4 k5)=t:=by
  intro h;unfold zdD zao wj at h;simp only [Bool.and_eq_true,decide_eq_true_eq]at h;obtain ⟨hf,⟨⟨⟨c1,c2⟩,c3⟩,c4⟩,⟨⟨⟨⟨q1,q2⟩,q5⟩,qn⟩,qd⟩,q4⟩:=h;have e0:k0=zJ ⟨#[99,111,111,107,105,101]⟩:=by rw [<- c3];exact zrc (kb k0 (by simp)) c2
  have e1:=zij (kb k1 (by simp)) q1;have e2:=zij (kb k2 (by simp)) q2;have e5:=zij (kb k5 (by simp)) q5;have e3:k3=zO (y0 (dnR k3.kids)):=by
   rw [zp7 (fun u hu=>T.rshp_kid (kb k3 (by simp)) hu) qd];exact zqC (kb k3 (by simp)) c4
  unfold zdC at qn;rw [decide_eq_true_eq]at qn;have hin:inI (ckR k1 k2 k3 k4 k5).upto:=zqi;have hbody:jC (ckR k1 k2 k3 k4 k5)=[k0,k1,k2,k3,k4,k5]:=by
   show [_,_,_,_,_,_]=_;show [zJ ⟨#[99,111,111,107,105,101]⟩,zJ (⟨#[99]⟩++rD k1 ⟨#[99]⟩),zJ (⟨#[110]⟩++rD k2 ⟨#[110]⟩),zO (y0 (dnR k3.kids)),k4,zJ (⟨#[117]⟩++zq (qh (rD k5 ⟨#[117]⟩)))]=_;rw [qn,<- e0,<- e1,<- e2,<- e3,<- e5]
  have hbp:b=zO (jC (ckR k1 k2 k3 k4 k5)):=by rw [hbody,<- hb];exact zqC hbm c1
  have ht:t=jm key (zO (jC (ckR k1 k2 k3 k4 k5))):=by
   rw [<- hbp];have hn:=zoG hr (by rw [h4];rfl);obtain ⟨tk,tn,tl⟩:=t;have h4:tk=4:=h4;have hn:tn=⟨#[]⟩:=hn;have hk:tl=[key,b]:=hk;subst h4;subst hn;subst hk;rfl
  refine ⟨?_,?_⟩
  ·have:=zoD hin;have hb2:[zJ ⟨#[99,111,111,107,105,101]⟩,zJ (⟨#[99]⟩++(ckR k1 k2 k3 k4 k5).client),zJ (⟨#[110]⟩++(ckR k1 k2 k3 k4 k5).nonce),zO (y0 (ckR k1 k2 k3 k4 k5).done),(ckR k1 k2 k3 k4 k5).secret,zJ (⟨#[117]⟩++zq (ckR k1 k2 k3 k4 k5).upto)]=[k0,k1,k2,k3,k4,k5]:=hbody;simp only [List.cons.injEq,and_true]at hb2;obtain ⟨_,b1,b2,b3,b4,b5⟩:=hb2;rw [b1,b2,b3,b4,b5]at this;exact this
  ·rw [zug hf q4];exact ht.symm
 refine ⟨?_,fun h=>(fwd h).1⟩;rw [Bool.eq_iff_iff];constructor
 ·intro h;have h:=T.same_iff.1 h;have hfit:key.fit=true /\ k4.fit=true:=by
   have hkd:=congrArg T.kind h;rw [zpM,h4]at hkd;by_cases hf:(key.fit && (vS k1 k2 k3 k4 k5).secret.fit)=true
   ·rw [Bool.and_eq_true]at hf;exact hf
   ·rw [if_neg hf]at hkd;cases hkd
  have hse:=zug (c:=vS k1 k2 k3 k4 k5) hfit.1 hfit.2;rw [hse]at h;have hkk:=congrArg T.kids h;rw [hk]at hkk;have hkk:[key,zO (jC (vS k1 k2 k3 k4 k5))]=[key,b]:=hkk;simp only [List.cons.injEq,true_and,and_true]at hkk;have hbk:=congrArg T.kids hkk;rw [hb]at hbk;have hin:inI (vS k1 k2 k3 k4 k5).upto:=zGJ;generalize vS k1 k2 k3 k4 k5=c at *;have hbk:[zJ ⟨#[99,111,111,107,105,101]⟩,zJ (⟨#[99]⟩++c.client),zJ (⟨#[110]⟩++c.nonce),zO (y0 c.done),c.secret,zJ (⟨#[117]⟩++zq c.upto)]=[k0,k1,k2,k3,k4,k5]:=hbk;simp only [List.cons.injEq,and_true]at hbk;obtain ⟨b0,b1,b2,b3,b4,b5⟩:=hbk;unfold zdD zao wj;rw [<- b0,<- b1,<- b2,<- b3,<- b5,<- hkk,hfit.1,hfit.2,ziJ,ziJ,ziJ,zvN];have e3:dbR (zO (y0 c.done)).kids=true:=zEq;have en:zdC (zq c.upto)=true:=by unfold zdC;rw [zBj hin];simp
  rw [e3,en];rfl
 ·intro h;obtain ⟨h1,h2⟩:=fwd h;rw [h1,h2,T.same_self]
theorem zAm {key t b:T} {now:Int} (hk:t.kids=[key,b]) (h6:b.kids.length≠6):qI key t now=(j9,2):=by
 unfold qI;split
 ·rw [hk];simp only [T.same_self,if_true];split
  ·rename_i heq;rw [heq]at h6;simp at h6
  ·rfl
 ·rfl
section
variable {S:AS}
set_option maxHeartbeats 8000000 in
set_option maxRecDepth 100000 in
theorem zE3 {key t:T} {now:Int} (hkb:key.bulk <=1099511627776) (htb:t.bulk <=1099511627776):
 call 113 [.agg key.cells,.agg t.cells,.sc (.int .i64 now)] S=some (.tup [.agg (qI key t now).1.cells,.sc (.int .i64 (qI key t now).2)],S):=by
 rw [zh zBP rfl (by simp) rfl];have htf:=T.fits_bulk htb;have e219:=fun S=>@zsF S t htb;unfold qI;cases hr:t.right with
 |false=>
  rw [hr]at e219;simp [-zg,vW,wC,e219];exact zaM
 |true=>
  rw [hr]at e219;by_cases h4:t.kind=4
  ·have hrs:=(T.right_iff.1 hr).1;obtain ⟨k0,b,hab⟩:=T.enc_kids hrs h4;have m0:k0∈t.kids:=by rw [hab];simp
   have mb:b∈t.kids:=by rw [hab];simp
   have l0:pev (.iaddr 3) [zf t.kids,.i 0]=some (.iptr k0.cells):=zI (i:=0) (by rw [hab];rfl);have l1:pev (.iaddr 3) [zf t.kids,.i 1]=some (.iptr b.cells):=zI (i:=1) (by rw [hab];rfl);have f0:k0.fits:=(T.fits_kids htf).2 k0 m0;have bfits:=(T.fits_kids htf).2 b mb;have bbulk:b.bulk <=1099511627776:=by have:=T.bulk_kid mb;omega
   have e114:=fun S=>@zz6 k0 key S f0;have e211:=fun S=>@zg8 S key hkb;cases hs:k0.same key with
   |false=>
    rw [hs]at e114;simp [-zg,vW,wC,e219,eq_true h4,l0,e114,hs,hab];exact zaM
   |true=>
    rw [hs]at e114;have hk0:=T.same_iff.1 hs;subst hk0;by_cases h6:b.kids.length=6
    ·obtain ⟨c0,k1,k2,k3,k4,k5,hb⟩:∃u0 u1 u2 u3 u4 u5,b.kids=[u0,u1,u2,u3,u4,u5]:=by
      match hl:b.kids,h6 with
      |[u0,u1,u2,u3,u4,u5],_=>exact ⟨u0,u1,u2,u3,u4,u5,rfl⟩
     obtain ⟨o1,o2⟩:=zxC hrs h4 hab hb;have kbu:∀u∈b.kids,u.bulk+4 <=b.bulk:=fun u hu=>T.bulk_kid hu;have b3:=kbu k3 (by rw [hb];simp);have b4:=kbu k4 (by rw [hb];simp);have b5:=kbu k5 (by rw [hb];simp);have zdA:=@T.bulk_len k3;have nm5:=@T.bulk_name k5;rw [hab];simp only [Bool.true_and,h4,decide_true,if_true,hs,hb,o1];unfold zdD at o2 ⊢;cases hf:k0.fit with
     |false=>
      rw [hf]at e211;obtain ⟨C,q,e220⟩:∃C q,∀S,call 220 [.agg b.cells] S=some (.tup [.agg (Ck.cells C),.sc (.bool q)],S):=by
       cases hh:zao c0 k3 b with
       |false=>exact ⟨_,_,fun S=>zre hb hh⟩
       |true=>exact ⟨_,_,fun S=>znm hb hh (by omega) (by omega) (by omega)⟩
      simp [-zg,vW,wC,e219,eq_true h4,l0,l1,e114,e211,e220];exact zaM
     |true=>
      rw [hf]at e211 o2;cases hh:zao c0 k3 b with
      |false=>
       have e220:=fun S=>@zre S b c0 k1 k2 k3 k4 k5 hb hh;simp [-zg,vW,wC,e219,eq_true h4,l0,l1,e114,e211,e220];exact zaM
      |true=>
       have e220:=fun S=>@znm S b c0 k1 k2 k3 k4 k5 hb hh (by omega) (by omega) (by omega);rw [hh]at o2;cases hq:wj k1 k2 k3 k4 k5 with
       |false=>
        rw [hq]at e220;simp [-zg,vW,wC,e219,eq_true h4,l0,l1,e114,e211,e220];exact zaM
       |true=>
        rw [hq]at e220 o2;rw [o2 rfl];generalize ckR k1 k2 k3 k4 k5=C at *;by_cases hn:C.upto < now
        ·simp [-zg,vW,wC,e219,eq_true h4,l0,l1,e114,e211,e220,hn];exact zaM
        ·simp [vW,wC,e219,eq_true h4,l0,l1,e114,e211,e220,hn,AV.pure]
    ·have h6':¬(b.kids.length:Int)=6:=by omega
     have e220:=fun S=>@zxO S b (T.fits_kids bfits).1 h6;have hz:=zAm (now:=now) hab h6;unfold qI at hz;rw [hr]at hz;rw [hz];cases hf:k0.fit with
     |false=>
      rw [hf]at e211;simp [-zg,vW,wC,e219,eq_true h4,l0,l1,e114,e211,e220];exact zaM
     |true=>
      rw [hf]at e211;simp [-zg,vW,wC,e219,eq_true h4,l0,l1,e114,e211,e220];exact zaM
  ·simp [-zg,vW,wC,e219,h4];exact zaM
end
structure Kd where
 key:T
 cookies:T
 u:Us
 room:Int
 cache:List (ByteArray×Int)
 n:Int
def Kd.row (K:Kd) (kb wid:Nat) (iv:AV):List AV:=[.sc (.int .i64 K.key.kind),.sc (.string K.key.name),zf K.key.kids,.sc (.int .i64 K.cookies.kind),.sc (.string K.cookies.name),zf K.cookies.kids,
 .ptr kb 0 0,.sc (.int .i64 K.room),.ptr wid 0 0,.sc (.int .i64 K.n),iv]
structure Tlk where
 ak:T
 body:T
 c:Ck
 u:Us
 now:Int
def Tlk.cells (x:Tlk) (dv:AV):List AV:=[.sc (.int .i64 x.ak.kind),.sc (.string x.ak.name),zf x.ak.kids,.sc (.int .i64 x.body.kind),.sc (.string x.body.name),zf x.body.kids,
 .sc (.string x.c.client),.sc (.string x.c.nonce),dv,.sc (.int .i64 x.c.secret.kind),.sc (.string x.c.secret.name),zf x.c.secret.kids,.sc (.int .i64 x.c.upto),
 .sc (.string x.u.name),.sc (.int .i64 x.u.key.kind),.sc (.string x.u.key.name),zf x.u.key.kids,zB x.u.set,.sc (.int .i64 x.u.seed.kind),.sc (.string x.u.seed.name),zf x.u.seed.kids,
 .sc (.int .i64 x.u.tok.counter),.sc (.int .i64 x.u.tok.look),.sc (.int .i64 x.u.tok.sync),.sc (.int .i64 x.u.tok.pending),.sc (.int .i64 x.u.tok.fails),.sc (.int .i64 x.u.tok.limit),.sc (.int .i64 x.u.fails),.sc (.int .i64 x.now)]
def zaF:Tlk:=⟨tZ,tZ,⟨⟨#[]⟩,⟨#[]⟩,[],tZ,0⟩,zU,0⟩
section
variable {S:AS} {x:Tlk}
theorem Tlk.frz {b d:Nat}:zE (S.frzTo b d) (x.cells (zB x.c.done))=some (x.cells (zB x.c.done)):=by unfold Tlk.cells;simp
theorem Tlk.pure:jR (x.cells (zB x.c.done))=true:=by unfold Tlk.cells;simp
theorem Tlk.frz0 {b d:Nat} (h:x.c.done=[]):zE (S.frzTo b d) (x.cells (.lst 0 true []))=some (x.cells (zB x.c.done)):=by unfold Tlk.cells;rw [h];simp;rfl
end
def Kd.opF (K:Kd) (t p:T) (x:Tlk):Tlk×T×Int:=if 5 <=K.u.fails then (zaF,t,7) else (x,p,0)
def Kd.opC (K:Kd) (t p:T) (x:Tlk) (o:Ck×Int):Tlk×T×Int:=
 if o.2=0 then (if o.1.client=x.c.client /\ o.1.nonce=x.c.nonce /\ qP o.1.done K.u.set=true then K.opF t p {x with c:=o.1} else (zaF,t,11)) else (zaF,t,o.2)
def Kd.opR (K:Kd) (t ak body:T) (client nonce:ByteArray) (now:Int) (r:T×T×Int):Tlk×T×Int:=
 if r.2.2=0 then (if K.u.name=client then
  (if jD r.2.1=true then K.opF t r.1 ⟨ak,body,⟨client,nonce,[],zi,0⟩,K.u,now⟩ else K.opC t r.1 ⟨ak,body,⟨client,nonce,[],zi,0⟩,K.u,now⟩ (qI K.cookies r.2.1 now))
  else (zaF,t,3)) else (zaF,t,r.2.2)
def Kd.opA (K:Kd) (t body sealed:T) (client nonce:ByteArray) (now:Int) (a:T×Int):Tlk×T×Int:=
 if a.2=0 then K.opR t a.1 body client nonce now (kN a.1 body sealed) else (zaF,t,a.2)
def Kd.opB (K:Kd) (t body armor sealed:T) (now:Int):Option (ByteArray×ByteArray) -> Tlk×T×Int
 |none=>(zaF,t,2)
 |some (client,nonce)=>K.opA t body sealed client nonce now (vK K.key armor)
def Kd.opens (K:Kd) (t:T) (now:Int):Tlk×T×Int:=match zaD t with
 |none=>(zaF,t,2)
 |some (body,armor,sealed)=>K.opB t body armor sealed now (qU body)
structure AtK (S:AS) (k kb ub wid:Nat) (iv:AV) (K:Kd):Prop where
 hh:S.heap k=some (.rows 11 [K.row kb wid iv])
 b:AtB S kb ub K.u
section
variable {S:AS} {k kb ub wid:Nat} {iv:AV} {K:Kd}
theorem AtK.ro (h:AtK S k kb ub wid iv K) (r:Nat):AtK {S with ro:=r} k kb ub wid iv K:=⟨h.hh,h.b.ro r⟩
theorem AtK.key (h:AtK S k kb ub wid iv K) (d:Option Nat) (rg:Nat -> Option (List AV)):za (.ld none 3 true) d rg S [.ptr k 0 0]=some (.agg K.key.cells,none,S):=by rw [yg h.hh,<- tri];rfl
theorem AtK.cookies (h:AtK S k kb ub wid iv K) (d:Option Nat) (rg:Nat -> Option (List AV)):za (.ld none 3 true) d rg S [.ptr k 0 3]=some (.agg K.cookies.cells,none,S):=by rw [yg h.hh,<- tri];rfl
theorem AtK.users (h:AtK S k kb ub wid iv K) (d:Option Nat) (rg:Nat -> Option (List AV)):za (.ld none 1 false) d rg S [.ptr k 0 6]=some (.ptr kb 0 0,none,S):=by rw [yg h.hh];rfl
theorem AtK.cch (h:AtK S k kb ub wid iv K) (d:Option Nat) (rg:Nat -> Option (List AV)):za (.ld none 1 false) d rg S [.ptr k 0 8]=some (.ptr wid 0 0,none,S):=by rw [yg h.hh];rfl
theorem AtK.nn (h:AtK S k kb ub wid iv K) (d:Option Nat) (rg:Nat -> Option (List AV)):za (.ld none 1 false) d rg S [.ptr k 0 9]=some (.sc (.int .i64 K.n),none,S):=by rw [yg h.hh];rfl
theorem AtK.issued (h:AtK S k kb ub wid iv K) (d:Option Nat) (rg:Nat -> Option (List AV)):za (.ld none 1 false) d rg S [.ptr k 0 10]=some (iv,none,S):=by rw [yg h.hh];rfl
end
def zc9 (r:Tlk×T×Int):AV:=.tup [.agg (r.1.cells (zB r.1.c.done)),.agg r.2.1.cells,.sc (.int .i64 r.2.2)]
theorem zp6 {t a b c:T} (h:zaD t=some (a,b,c)):a∈t.kids /\ b∈t.kids /\ c∈t.kids:=by
 unfold zaD at h;cases hu:yw kB 3 t with
 |none=>rw [hu]at h;cases h
 |some l=>
  obtain ⟨hl,hm⟩:=qy (n:=3) hu;obtain ⟨x,y,z,rfl⟩:=zdA hl;rw [hu]at h;cases h;exact ⟨hm _ (by simp),hm _ (by simp),hm _ (by simp)⟩
theorem zof {k b t:T} (h:t.lo):(kN k b t).2.1.lo /\ (kN k b t).1.lo:=by
 have hb:=znq (k:=k) (u:=51) (tag:=vp) (n:=3) h;unfold kN;rcases zcE (k:=k) (t:=t) (u:=51) (tag:=vp) (n:=3) with ⟨l,hl,hlen⟩|⟨e,hne,hl⟩
 ·obtain ⟨x,p,c,rfl⟩:=zdA hlen;rw [hl]at hb ⊢;unfold zcD;simp only;split
  ·exact ⟨hb c (by simp),hb p (by simp)⟩
  ·exact ⟨qc,qc⟩
 ·rw [hl];exact ⟨qc,qc⟩
section
variable {S:AS} {k kb ub wid:Nat} {iv:AV} {K:Kd}
theorem zbq {client nonce:ByteArray}:pev (.build [.s ⟨#[]⟩,.s ⟨#[]⟩,.lst 0 true [],.i (0),.s ⟨#[]⟩,.lst 0 true [],.i (0)] [(0,1),(1,1),(3,3)]) [.sc (.string client),.sc (.string nonce),.agg zi.cells]=some (.agg (ckX ⟨client,nonce,[],zi,0⟩ (.lst 0 true []))):=by
 rw [zu];simp;rfl
theorem za2:pev (.build [.i (0),.s ⟨#[]⟩,.lst 0 true [],.i (0),.s ⟨#[]⟩,.lst 0 true [],.s ⟨#[]⟩,.s ⟨#[]⟩,.lst 0 true [],.i (0),.s ⟨#[]⟩,.lst 0 true [],.i (0),.s ⟨#[]⟩,.i (0),.s ⟨#[]⟩,.lst 0 true [],.lst 0 true [],.i (0),.s ⟨#[]⟩,.lst 0 true [],.i (0),.i (0),.i (0),.i (0),.i (0),.i (0),.i (0),.i (0)] []) []=some (.agg [.i (0),.s ⟨#[]⟩,.lst 0 true [],.i (0),.s ⟨#[]⟩,.lst 0 true [],.s ⟨#[]⟩,.s ⟨#[]⟩,.lst 0 true [],.i (0),.s ⟨#[]⟩,.lst 0 true [],.i (0),.s ⟨#[]⟩,.i (0),.s ⟨#[]⟩,.lst 0 true [],.lst 0 true [],.i (0),.s ⟨#[]⟩,.lst 0 true [],.i (0),.i (0),.i (0),.i (0),.i (0),.i (0),.i (0),.i (0)]):=by simp
theorem zGB {ak body:T} {u:Us} {c:Ck} {dv:AV} {now:Int} (hd:dv.isCell=true):pev (.build [.i (0),.s ⟨#[]⟩,.lst 0 true [],.i (0),.s ⟨#[]⟩,.lst 0 true [],.s ⟨#[]⟩,.s ⟨#[]⟩,.lst 0 true [],.i (0),.s ⟨#[]⟩,.lst 0 true [],.i (0),.s ⟨#[]⟩,.i (0),.s ⟨#[]⟩,.lst 0 true [],.lst 0 true [],.i (0),.s ⟨#[]⟩,.lst 0 true [],.i (0),.i (0),.i (0),.i (0),.i (0),.i (0),.i (0),.i (0)] [(0,3),(3,3),(13,15),(28,1),(6,7)]) [.agg ak.cells,.agg body.cells,.agg u.row,.sc (.int .i64 now),.agg (ckX c dv)]=some (.agg ((Tlk.mk ak body c u now).cells dv)):=by
 rw [zu ak,zu body];unfold Us.row ckX;simp [hd];rfl
set_option maxHeartbeats 8000000 in
set_option maxRecDepth 100000 in
theorem zEi (h:AtK S k kb ub wid iv K) {t:T} {now:Int} (ht:t.lo) (hc:K.cookies.lo) (hl:K.u.set.length <=1000):call 239 [.ptr k 0 0,.agg t.cells,.sc (.int .i64 now)] S=some (zc9 (K.opens t now),S):=by
 rw [zh zD7 rfl (by simp) rfl];have h':=h.ro S.n;have e95:=fun S=>@s95 S t;unfold Kd.opens;cases ha:zaD t with
 |none=>
  rw [ha]at e95;have e93:=fun S=>@s93 S tZ;have hb:qU tZ=none:=rfl;rw [hb]at e93;simp [qK,vJ,e95,qL,e93,j7];rfl
 |some r=>
  rw [ha]at e95;obtain ⟨body,armor,sealed⟩:=r;obtain ⟨m1,m2,m3⟩:=zp6 ha;have l2:=ht.kid m2;have l3:=ht.kid m3;have e93:=fun S=>@s93 S body;show _=some (zc9 (K.opB t body armor sealed now (qU body)),S);cases hb:qU body with
  |none=>
   rw [hb]at e93;simp [qK,vJ,e95,qL,e93,j7];rfl
  |some q=>
   rw [hb]at e93;obtain ⟨client,nonce⟩:=q;show _=some (zc9 (K.opA t body sealed client nonce now (vK K.key armor)),S);have e337:=fun S=>@zEo S K.key armor l2.bb;have hkey:=h'.key;unfold Kd.opA;generalize vK K.key armor=a at *;by_cases h0:a.2=0
   ·rw [if_pos h0];have e338:=fun S=>@zC1 S a.1 body sealed l3.bb;have hlo:=zof (k:=a.1) (b:=body) l3;unfold Kd.opR;generalize kN a.1 body sealed=r at *;by_cases h1:r.2.2=0
    ·rw [if_pos h1];have e339:=zsb (n:=client) h'.b;have hus:=h'.users;by_cases hn:K.u.name=client
     ·rw [if_pos hn]at e339 ⊢;have e84:=fun S=>@s84 S r.2.1;have e341:=zyY (n:=client) h'.b;rw [hn]at e341;have rc:=@Us.row_cell K.u;have rl:=@Us.row_len K.u;have rt:=@Us.take K.u;have r4:(K.u.row.drop 4).take 1=[zB K.u.set]:=rfl;have b97:=@zGB a.1 body K.u ⟨client,nonce,[],zi,0⟩ (.lst 0 true []) now rfl;have xf:=fun S b d=>@Tlk.frz0 S ⟨a.1,body,⟨client,nonce,[],zi,0⟩,K.u,now⟩ b d rfl;have xp:=@Tlk.pure ⟨a.1,body,⟨client,nonce,[],zi,0⟩,K.u,now⟩;have xs:∀c:Ck,setCells ((Tlk.mk a.1 body ⟨client,nonce,[],zi,0⟩ K.u now).cells (.lst 0 true [])) 6 c.cells=(Tlk.mk a.1 body c K.u now).cells (zB c.done):=fun c=>rfl;have xc:((Tlk.mk a.1 body ⟨client,nonce,[],zi,0⟩ K.u now).cells (.lst 0 true [])).all AV.isCell=true:=rfl;have xl:((Tlk.mk a.1 body ⟨client,nonce,[],zi,0⟩ K.u now).cells (.lst 0 true [])).length=29:=rfl;have xt:List.take 29 ((Tlk.mk a.1 body ⟨client,nonce,[],zi,0⟩ K.u now).cells (.lst 0 true []))=((Tlk.mk a.1 body ⟨client,nonce,[],zi,0⟩ K.u now).cells (.lst 0 true [])):=rfl;have opF:∀(x:Tlk),K.opF t r.1 x=if 5 <=K.u.fails then (zaF,t,7) else (x,r.1,0):=fun x=>rfl
      cases hi:jD r.2.1 with
      |true=>
       rw [hi]at e84;rw [if_pos rfl,opF];have hfin:zc9 (⟨a.1,body,⟨client,nonce,[],zi,0⟩,K.u,now⟩,r.1,0)=.tup [.agg ((Tlk.mk a.1 body ⟨client,nonce,[],zi,0⟩ K.u now).cells (zB (⟨client,nonce,[],zi,0⟩:Ck).done)),.agg r.1.cells,.i 0]:=rfl;generalize (Tlk.mk a.1 body ⟨client,nonce,[],zi,0⟩ K.u now).cells (.lst 0 true [])=X at *;generalize (Tlk.mk a.1 body ⟨client,nonce,[],zi,0⟩ K.u now).cells (zB _)=Y at *;generalize K.u.row=R at *;by_cases h5:5 <=K.u.fails
       ·rw [if_pos h5];simp [qK,vJ,e95,qL,e93,j7,hkey,e337,zy,h0,e338,vR,h1,hus,e339,e84,e341,rc,rl,rt,-vu,za2,zbq,b97,xc,xl,xt,h5];rfl
       ·rw [if_neg h5];simp [qK,vJ,e95,qL,e93,j7,hkey,e337,zy,h0,e338,vR,h1,hus,e339,e84,e341,rc,rl,rt,-vu,za2,zbq,b97,xc,xl,xt,h5,xf,xp,hfin]
      |false=>
       rw [hi]at e84;rw [if_neg (by simp)];have e113:=fun S=>@zE3 S K.cookies r.2.1 now hc hlo.1;have hck:=h'.cookies;unfold Kd.opC;simp only;generalize qI K.cookies r.2.1 now=o at *;by_cases h2:o.2=0
       ·rw [if_pos h2];have e340:=fun S=>@zD2 S o.1.done K.u.set (by omega);have o0:o.1.cells.take 1=[.sc (.string o.1.client)]:=rfl;have o1:o.1.cells.tail.take 1=[.sc (.string o.1.nonce)]:=rfl;have o1':(o.1.cells.drop 1).take 1=[.sc (.string o.1.nonce)]:=rfl;have o2:(o.1.cells.drop 2).take 1=[zB o.1.done]:=rfl;have ot:o.1.cells.take 7=o.1.cells:=rfl;have oc:o.1.cells.all AV.isCell=true:=rfl;have ol:o.1.cells.length=7:=rfl;by_cases c1:o.1.client=client
        ·by_cases c2:o.1.nonce=nonce
         ·cases hbg:qP o.1.done K.u.set with
          |true=>
           rw [hbg]at e340;rw [if_pos ⟨c1,c2,rfl⟩,opF];have xs:=xs o.1;have xs':List.take 6 ((Tlk.mk a.1 body ⟨client,nonce,[],zi,0⟩ K.u now).cells (.lst 0 true []))++(o.1.cells++List.drop 13 ((Tlk.mk a.1 body ⟨client,nonce,[],zi,0⟩ K.u now).cells (.lst 0 true [])))=(Tlk.mk a.1 body o.1 K.u now).cells (zB o.1.done):=rfl;have yf:=fun S b d=>@Tlk.frz S ⟨a.1,body,o.1,K.u,now⟩ b d;have yp:=@Tlk.pure ⟨a.1,body,o.1,K.u,now⟩;have yt:List.take 29 ((Tlk.mk a.1 body o.1 K.u now).cells (zB o.1.done))=((Tlk.mk a.1 body o.1 K.u now).cells (zB o.1.done)):=rfl;have yc:((Tlk.mk a.1 body o.1 K.u now).cells (zB o.1.done)).all AV.isCell=true:=rfl;have yl:((Tlk.mk a.1 body o.1 K.u now).cells (zB o.1.done)).length=29:=rfl;have hfin:zc9 (⟨a.1,body,o.1,K.u,now⟩,r.1,0)=.tup [.agg ((Tlk.mk a.1 body o.1 K.u now).cells (zB o.1.done)),.agg r.1.cells,.i 0]:=rfl;simp only at yf yp;generalize (Tlk.mk a.1 body ⟨client,nonce,[],zi,0⟩ K.u now).cells (.lst 0 true [])=X at *;generalize (Tlk.mk a.1 body o.1 K.u now).cells (zB o.1.done)=Y at *;generalize K.u.row=R at *;generalize o.1.cells=OC at *;by_cases h5:5 <=K.u.fails
           ·rw [if_pos h5];simp [qK,vJ,e95,qL,e93,j7,hkey,e337,zy,h0,e338,vR,h1,hus,e339,e84,e341,rc,rl,rt,-vu,za2,zbq,b97,xc,xl,xt,h5,hck,e113,h2,o0,o1,o1',o2,ot,oc,ol,c1,c2,r4,e340,xs,xs'];rfl
           ·rw [if_neg h5];simp [qK,vJ,e95,qL,e93,j7,hkey,e337,zy,h0,e338,vR,h1,hus,e339,e84,e341,rc,rl,rt,-vu,za2,zbq,b97,xc,xl,xt,h5,hck,e113,h2,o0,o1,o1',o2,ot,oc,ol,c1,c2,r4,e340,xs,xs',yf,yp,yt,yc,yl,hfin]
          |false=>
           rw [hbg]at e340;rw [if_neg (fun h=>by cases h.2.2)];generalize (Tlk.mk a.1 body ⟨client,nonce,[],zi,0⟩ K.u now).cells (.lst 0 true [])=X at *;generalize K.u.row=R at *;generalize o.1.cells=OC at *;simp [qK,vJ,e95,qL,e93,j7,hkey,e337,zy,h0,e338,vR,h1,hus,e339,e84,e341,rc,rl,rt,-vu,za2,zbq,b97,xc,xl,xt,hck,e113,h2,o0,o1,o1',o2,ot,oc,ol,c1,c2,r4,e340];rfl
         ·rw [if_neg (fun h=>c2 h.2.1)];generalize (Tlk.mk a.1 body ⟨client,nonce,[],zi,0⟩ K.u now).cells (.lst 0 true [])=X at *;generalize K.u.row=R at *;generalize o.1.cells=OC at *;simp [qK,vJ,e95,qL,e93,j7,hkey,e337,zy,h0,e338,vR,h1,hus,e339,e84,e341,rc,rl,rt,-vu,za2,zbq,b97,xc,xl,xt,hck,e113,h2,o0,o1,o1',o2,ot,oc,ol,c1,c2];rfl
        ·rw [if_neg (fun h=>c1 h.1)];generalize (Tlk.mk a.1 body ⟨client,nonce,[],zi,0⟩ K.u now).cells (.lst 0 true [])=X at *;generalize K.u.row=R at *;generalize o.1.cells=OC at *;simp [qK,vJ,e95,qL,e93,j7,hkey,e337,zy,h0,e338,vR,h1,hus,e339,e84,e341,rc,rl,rt,-vu,za2,zbq,b97,xc,xl,xt,hck,e113,h2,o0,o1,o1',o2,ot,oc,ol,c1];rfl
       ·rw [if_neg h2];have ot:o.1.cells.take 7=o.1.cells:=rfl;have oc:o.1.cells.all AV.isCell=true:=rfl;have ol:o.1.cells.length=7:=rfl;generalize (Tlk.mk a.1 body ⟨client,nonce,[],zi,0⟩ K.u now).cells (.lst 0 true [])=X at *;generalize K.u.row=R at *;generalize o.1.cells=OC at *;simp [qK,vJ,e95,qL,e93,j7,hkey,e337,zy,h0,e338,vR,h1,hus,e339,e84,e341,rc,rl,rt,-vu,za2,zbq,b97,xc,xl,xt,hck,e113,h2,ot,oc,ol];rfl
     ·rw [if_neg hn]at e339 ⊢;have rc:=@Us.row_cell zU;have rl:=@Us.row_len zU;have rt:=@Us.take zU;generalize zU.row=R at *;simp [qK,vJ,e95,qL,e93,j7,hkey,e337,zy,h0,e338,vR,h1,hus,e339,rc,rl,rt];rfl
    ·rw [if_neg h1];simp [qK,vJ,e95,qL,e93,j7,hkey,e337,zy,h0,e338,vR,h1];rfl
   ·rw [if_neg h0];simp [qK,vJ,e95,qL,e93,j7,hkey,e337,zy,h0];rfl
end
section
variable {x:Tlk} {dv:AV}
@[simp] theorem Tlk.len:(x.cells dv).length=29:=rfl
theorem Tlk.cell (h:dv.isCell=true):(x.cells dv).all AV.isCell=true:=by unfold Tlk.cells;simp [h]
@[simp] theorem Tlk.t_all:List.take 29 (x.cells dv)=x.cells dv:=rfl
@[simp] theorem Tlk.t_ak:List.take 3 (x.cells dv)=x.ak.cells:=by rw [zu];rfl
@[simp] theorem Tlk.t_body:List.take 3 (List.drop 3 (x.cells dv))=x.body.cells:=by rw [zu];rfl
@[simp] theorem Tlk.t_c:List.take 7 (List.drop 6 (x.cells dv))=ckX x.c dv:=rfl
@[simp] theorem Tlk.t_client:List.take 1 (List.drop 6 (x.cells dv))=[.sc (.string x.c.client)]:=rfl
@[simp] theorem Tlk.t_nonce:List.take 1 (List.drop 7 (x.cells dv))=[.sc (.string x.c.nonce)]:=rfl
@[simp] theorem Tlk.t_done:List.take 1 (List.drop 8 (x.cells dv))=[dv]:=rfl
@[simp] theorem Tlk.t_secret:List.take 3 (List.drop 9 (x.cells dv))=x.c.secret.cells:=by rw [zu];rfl
@[simp] theorem Tlk.t_key:List.take 3 (List.drop 14 (x.cells dv))=x.u.key.cells:=by rw [zu];rfl
@[simp] theorem Tlk.t_set:List.take 1 (List.drop 17 (x.cells dv))=[zB x.u.set]:=rfl
@[simp] theorem Tlk.t_seed:List.take 3 (List.drop 18 (x.cells dv))=x.u.seed.cells:=by rw [zu];rfl
@[simp] theorem Tlk.t_tok:List.take 6 (List.drop 21 (x.cells dv))=x.u.tok.cells:=rfl
@[simp] theorem Tlk.t_now:List.take 1 (List.drop 28 (x.cells dv))=[.sc (.int .i64 x.now)]:=rfl
@[simp] theorem Tlk.t_now':List.drop 28 (x.cells dv)=[.sc (.int .i64 x.now)]:=rfl
@[simp] theorem Tlk.s_secret {s:T}:List.take 9 (x.cells dv)++(s.cells++List.drop 12 (x.cells dv))=({x with c:={x.c with secret:=s}}:Tlk).cells dv:=by rw [zu];rfl
@[simp] theorem Tlk.s_upto {n:Int}:List.take 12 (x.cells dv)++.sc (.int .i64 n)::List.drop 13 (x.cells dv)=({x with c:={x.c with upto:=n}}:Tlk).cells dv:=rfl
end
structure Loc where
 kb:Nat
 ub:Nat
 wid:Nat
 ids:List Nat
 cv:AV
 iv:AV
structure yA (S:AS) (k:Nat) (L:Loc) (K:Kd) (R:List (List AV)):Prop where
 hh:S.heap k=some (.rows 11 [K.row L.kb L.wid L.iv])
 b:IsB S L.kb L.ub K.u
 c:Rf.IsRef S L.wid K.room K.cache L.ids L.cv
 gv:GV S 6 L.iv R
 ro:S.ro <=k
 lt:k < S.n
 d1:∀x,qR L.kb L.ub x -> x≠k /\ ¬Rf.ownR L.wid L.ids x /\ ¬jf L.iv x
 d2:∀x,Rf.ownR L.wid L.ids x -> x≠k /\ ¬jf L.iv x
 d3:¬jf L.iv k
def yK (k:Nat) (L:Loc) (x:Nat):Prop:=x=k \/ qR L.kb L.ub x \/ Rf.ownR L.wid L.ids x \/ jf L.iv x
theorem Chg.big {S S':AS} {o o' O O':Nat -> Prop} (h:Chg S S' o o') (h1:∀x,o x -> O x) (h2:∀x,O' x -> o' x \/ O x):Chg S S' O O':=by
 refine ⟨h.1,h.2.1,fun x hx hn=>?_⟩;obtain ⟨a,b⟩:=h.2.2 x hx fun e=>hn (h1 x e);exact ⟨a,fun e=>(h2 x e).elim b hn⟩
section
variable {S S':AS} {k:Nat} {L:Loc} {K:Kd} {R:List (List AV)}
theorem yA.hS (h:yA S k L K R):S.ro <=S.n:=by have:=h.ro;have:=h.lt;omega
theorem yA.at_ (h:yA S k L K R):AtK S k L.kb L.ub L.wid L.iv K:=⟨h.hh,h.b.toAtB⟩
theorem yA.own_lt (h:yA S k L K R) {x:Nat} (hx:yK k L x):x < S.n:=by
 rcases hx with rfl|hx|hx|hx
 ·exact h.lt
 ·exact h.b.lts hx
 ·exact h.c.lts hx
 ·exact (h.gv.lt hx).1
theorem yA.keep (h:yA S k L K R) (hr:S'.ro=S.ro) (hn:S.n <=S'.n) (hh:∀x,x < S.n -> yK k L x -> S'.heap x=S.heap x):yA S' k L K R:=
 ⟨(hh k h.lt (.inl rfl)).trans h.hh,h.b.keep hr hn fun x hx ho=>hh x hx (.inr (.inl ho)),h.c.keep hr hn fun x hx ho=>hh x hx (.inr (.inr (.inl ho))),h.gv.keep hr hn fun x hx ho=>hh x hx (.inr (.inr (.inr ho))),
   by rw [hr];exact h.ro,Nat.lt_of_lt_of_le h.lt hn,h.d1,h.d2,h.d3⟩
theorem yA.upB (h:yA S k L K R) {u':Us} (hb:IsB S' L.kb L.ub u') (hc:Chg S S' (qR L.kb L.ub) (qR L.kb L.ub)):yA S' k L {K with u:=u'} R /\ Chg S S' (yK k L) (yK k L):=by
 obtain ⟨c1,c2,c3⟩:=hc;refine ⟨⟨(c3 k h.lt fun e=>(h.d1 k e).1 rfl).1.trans h.hh,hb,h.c.keep c1 c2 fun x hx ho=>(c3 x hx fun e=>(h.d1 x e).2.1 ho).1,h.gv.keep c1 c2 fun x hx ho=>(c3 x hx fun e=>(h.d1 x e).2.2 ho).1,
  by rw [c1];exact h.ro,Nat.lt_of_lt_of_le h.lt c2,h.d1,h.d2,h.d3⟩,?_⟩
 exact Chg.big ⟨c1,c2,c3⟩ (fun x e=>.inr (.inl e)) fun x e=>.inr e
theorem yA.upC (h:yA S k L K R) {cache':List (ByteArray×Int)} {ids':List Nat} {cv':AV} (hb:Rf.IsRef S' L.wid K.room cache' ids' cv') (hc:Chg S S' (Rf.ownR L.wid L.ids) (Rf.ownR L.wid ids')):
 yA S' k {L with ids:=ids',cv:=cv'} {K with cache:=cache'} R /\ Chg S S' (yK k L) (yK k {L with ids:=ids',cv:=cv'}):=by
 obtain ⟨c1,c2,c3⟩:=hc;have nk:¬Rf.ownR L.wid L.ids k:=fun e=>(h.d2 k e).1 rfl;refine ⟨⟨(c3 k h.lt nk).1.trans h.hh,h.b.keep c1 c2 fun x hx ho=>(c3 x hx (h.d1 x ho).2.1).1,hb,h.gv.keep c1 c2 fun x hx ho=>(c3 x hx fun e=>(h.d2 x e).2 ho).1,
  by rw [c1];exact h.ro,Nat.lt_of_lt_of_le h.lt c2,fun x hx=>⟨(h.d1 x hx).1,(c3 x (h.b.lts hx) (h.d1 x hx).2.1).2,(h.d1 x hx).2.2⟩,fun x hx=>⟨fun e=>(c3 k h.lt nk).2 (e▸hx),fun e=>?_⟩,h.d3⟩,?_⟩
 ·have hlt:=(h.gv.lt e).1;exact (c3 x hlt fun e'=>(h.d2 x e').2 e).2 hx
 ·refine Chg.big ⟨c1,c2,c3⟩ (fun x e=>.inr (.inr (.inl e))) fun x e=>?_;rcases e with e|e|e|e
  ·exact .inr (.inl e)
  ·exact .inr (.inr (.inl e))
  ·exact .inl e
  ·exact .inr (.inr (.inr (.inr e)))
theorem yA.st (h:yA S k L K R) {col:Nat} {v:AV} {K':Kd} {iv':AV} (hl:v.cells=[v]) (hc:v.isCell=true) (hr:setCells (K.row L.kb L.wid L.iv) col [v]=K'.row L.kb L.wid iv') (hle:col+1 <=11) (d:Option Nat) (rg:Nat -> Option (List AV)):
 za (.st none 1) d rg S [.ptr k 0 col,v]=some (.junk,none,S.set k (some (.rows 11 [K'.row L.kb L.wid iv']))):=by
 simp only [za,h.hh,hl];rw [if_pos ⟨h.ro,by simp [hc],rfl⟩];simp only [List.getElem?_cons_zero,Option.bind_some];rw [if_pos (show col+1 <=(K.row L.kb L.wid L.iv).length from hle),hr];rfl
theorem yA.upK (h:yA S k L K R) {K':Kd} (hu:K'.u=K.u) (hc:K'.cache=K.cache) (hrm:K'.room=K.room):yA (S.set k (some (.rows 11 [K'.row L.kb L.wid L.iv]))) k L K' R /\ Chg S (S.set k (some (.rows 11 [K'.row L.kb L.wid L.iv]))) (yK k L) (yK k L):=by
 refine ⟨⟨if_pos rfl,by rw [hu];exact h.b.keep rfl (Nat.le_refl _) fun x _ ho=>if_neg (h.d1 x ho).1,by rw [hc,hrm];exact h.c.keep rfl (Nat.le_refl _) fun x _ ho=>if_neg (h.d2 x ho).1,h.gv.keep rfl (Nat.le_refl _) fun x _ ho=>if_neg fun e:x=k=>h.d3 (e▸ho),
  h.ro,h.lt,h.d1,h.d2,h.d3⟩,rfl,Nat.le_refl _,fun x _ hx=>⟨if_neg fun e=>hx (.inl e),hx⟩⟩
theorem yA.issue (h:yA S k L K R) {r:List AV} {f:Bool} (hb:R.length <=1000):∃v' S1 S',(∀d rg,za (.append 6 104) d rg S [L.iv,.lst 6 f [r]]=some (v',none,S1)) /\ v'.isReg=false /\ (∀d rg,za (.st none 1) d rg S1 [.ptr k 0 10,v']=some (.junk,none,S')) /\
 yA S' k {L with iv:=v'} K (R++[r]) /\ Chg S S' (yK k L) (yK k {L with iv:=v'}):=by
 obtain ⟨v',S1,ha,hg,c1,c2,c3⟩:=h.gv.app h.hS (r:=r) (bytes:=104) (f:=f) (by omega);have nk:=c3 k h.lt h.d3;have hk1:S1.heap k=some (.rows 11 [K.row L.kb L.wid L.iv]):=nk.1.trans h.hh;have hd:∀x,qR L.kb L.ub x -> x≠k /\ ¬Rf.ownR L.wid L.ids x /\ ¬jf v' x:=fun x hx=>⟨(h.d1 x hx).1,(h.d1 x hx).2.1,(c3 x (h.b.lts hx) (h.d1 x hx).2.2).2⟩;have hd2:∀x,Rf.ownR L.wid L.ids x -> x≠k /\ ¬jf v' x:=fun x hx=>⟨(h.d2 x hx).1,(c3 x (h.c.lts hx) (h.d2 x hx).2).2⟩;refine ⟨v',S1,S1.set k (some (.rows 11 [K.row L.kb L.wid v'])),ha,hg.reg,fun d rg=>?_,⟨if_pos rfl,h.b.keep c1 c2 fun x hx ho=>(if_neg (h.d1 x ho).1).trans (c3 x hx (h.d1 x ho).2.2).1,h.c.keep c1 c2 fun x hx ho=>(if_neg (h.d2 x ho).1).trans (c3 x hx (h.d2 x ho).2).1,
  hg.keep rfl (Nat.le_refl _) fun x _ ho=>if_neg fun e:x=k=>nk.2 (e▸ho),by rw [show (S1.set k _).ro=S1.ro from rfl,c1];exact h.ro,Nat.lt_of_lt_of_le h.lt c2,hd,hd2,nk.2⟩,c1,c2,fun x hx hn=>⟨?_,?_⟩⟩
 ·simp only [za,hk1,hg.cells];rw [if_pos ⟨by rw [c1];exact h.ro,by simp [hg.cell],rfl⟩];rfl
 ·exact (if_neg fun e=>hn (.inl e)).trans (c3 x hx fun e=>hn (.inr (.inr (.inr e)))).1
 ·rintro (e|e|e|e)
  ·exact hn (.inl e)
  ·exact hn (.inr (.inl e))
  ·exact hn (.inr (.inr (.inl e)))
  ·exact (c3 x hx fun e=>hn (.inr (.inr (.inr e)))).2 e
def kdB:ByteArray:=⟨#[107,100,99,32]⟩
def zD (n:Int):T:=ze (kdB++zq n)
theorem zjT (h:yA S k L K R) (hn:0 <=K.n /\ K.n < 4611686018427387904):∃S',call 342 [.ptr k 0 0] S=some (.agg (zD (K.n+1)).cells,S') /\ yA S' k L {K with n:=K.n+1} R /\ Chg S S' (yK k L) (yK k L):=by
 rw [ym zId (by simp) rfl];have w1:IntKind.i64.wrap (K.n+1)=K.n+1:=w64 (by omega);have hst:=h.st (col:=9) (v:=.sc (.int .i64 (K.n+1))) (K':={K with n:=K.n+1}) (iv':=L.iv) rfl rfl rfl (by omega);obtain ⟨h1,h2⟩:=h.upK (K':={K with n:=K.n+1}) rfl rfl rfl;generalize S.set k _=S' at *;have hn':=h1.at_.nn;have hit:=wI (n:=K.n+1) (by omega) (by omega);have e139:=fun S=>@zcX S (K.n+1) (by omega) (by omega);have p1:pev (.bin .add) [.s ⟨#[107,100,99,32]⟩,.sc (.string (zq (K.n+1)))]=some (.sc (.string (⟨#[107,100,99,32]⟩++zq (K.n+1)))):=yS (by show 4+_ <=_;omega);refine ⟨S',?_,h1,h2⟩;simp [zgE,znz,h.at_.nn,w1,hst,hn',e139,p1];rfl
end
def zal:ByteArray:=⟨#[97,115,45,114,101,112]⟩
def jJ:ByteArray:=⟨#[109,111,114,101]⟩
def Cl.takeD (c:Cl) (o k:T) (r:Cl×T×T×Int):Cl×T×Int:=
 if r.2.2.2=0 then ({r.1 with base:=r.2.2.1,z2:=false,done:=true,marks:=r.1.marks++[(yI o,c.nonce)]},r.1.says r.2.1 k,0) else (r.1,zi,r.2.2.2)
def Cl.takeM (c:Cl) (now:Int) (x:T):List T×Int -> Cl×T×Int
 |([o,k],0)=>c.takeD o k (c.does o now x)
 |(_,e)=>(c,zi,e)
noncomputable def Cl.take (c:Cl) (t:T) (now:Int) (x:T):Cl×T×Int:=
 if c.on then
  match wX t with
  |some e=>({c with on:=false},zi,e)
  |none=>match yw zal 3 t with
   |some [a,b,f]=>((c.ends a b f).1,zi,(c.ends a b f).2)
   |_=>c.takeM now x (qz jJ 2 (qw c.ak c.nonce t))
 else (c,zi,11)
structure Cl.ok (c:Cl):Prop where
 z1:c.on=true -> c.z1=false
 z1d:c.done=true -> c.z1=false
 z2:c.done=true -> c.z2=false
 z3:c.ended=true -> c.z3=false
 nonce:c.nonce.size <=4611686018427387904
 name:c.name.size <=4611686018427387904
 counter:0 <=c.counter /\ c.counter < 4611686018427387904
 marks:c.marks.length <=1000000
theorem T.lo.name {t:T} (h:t.lo):t.name.size <=1099511627776:=by
 obtain ⟨k,n,l⟩:=t;unfold T.lo at h;rw [T.bulk]at h;show n.size <=_;omega
theorem zoj {c:Cl} {o x:T} {now:Int}:∃n,(c.does o now x).1={c with counter:=n}:=by
 unfold Cl.does;split
 ·exact ⟨c.counter,rfl⟩
 ·split
  ·split
   ·exact ⟨_,rfl⟩
   ·exact ⟨c.counter,rfl⟩
  ·split<;>exact ⟨c.counter,rfl⟩
section
variable {S:AS} {id:Nat} {c:Cl} {mv:AV}
set_option maxHeartbeats 4000000 in
set_option maxRecDepth 100000 in
theorem zGz {t x:T} {now:Int} (h:yq S id c mv) (k:c.ok) (ht:t.lo) (hx:x.lo) (hn:inI now):
 ∃S' mv',call 141 [.ptr id 0 0,.agg t.cells,.sc (.int .i64 now),.agg x.cells] S=some (.tup [.agg (c.take t now x).2.1.cells,.sc (.int .i64 (c.take t now x).2.2)],S') /\ yq S' id (c.take t now x).1 mv' /\ Chg S S' (jH id mv) (jH id mv'):=by
 rw [ym zFu (by simp) rfl];have hon:=h.on;unfold Cl.take;cases honc:c.on with
 |false=>
  rw [honc]at hon;exact ⟨S,mv,by simp [zag,zb7,hon],h,Chg.refl⟩
 |true=>
  rw [honc]at hon;rw [if_pos rfl];have z1:=k.z1 honc;have hkl:t.kids.length <=4611686018427387904:=by have:=T.bb_len ht.bb;omega
  have e96:=fun S=>@s96 S t hkl (fun u hu=>by have:=(ht.kid hu).name;omega);cases hr:wX t with
  |some er=>
   rw [hr]at e96;have s1:=h.st (col:=0) (sz:=1) (x:=.b false) (c':={c with on:=false}) (mv':=mv) rfl rfl rfl (by omega);have h1:=h.set (c':={c with on:=false}) rfl;have g1:=h.chg (c':={c with on:=false});generalize S.set id _=S1 at s1 h1 g1;exact ⟨S1,mv,by simp [zag,zb7,hon,e96,yQ,s1],h1,g1⟩
  |none=>
   rw [hr]at e96;have e78:=fun S=>@s78 S zal 3 t hkl;simp only;cases hu:yw zal 3 t with
   |some l=>
    obtain ⟨a,b,f,rfl⟩:=zdA (qy (n:=3) hu).1;have hm:=(qy (n:=3) hu).2;rw [hu]at e78;unfold zal at e78;simp only;have lb:b.lo:=ht.kid (hm b (by simp));have lf:f.lo:=ht.kid (hm f (by simp));obtain ⟨S1,e250,h1,g1⟩:=zEx (t:=a) h k.z1d k.z2 k.nonce lb.bb lf.bb;exact ⟨S1,mv,by simp [zag,zb7,hon,e96,yQ,e78,zN,zel,zdW,zdO,e250],h1,g1⟩
   |none=>
    rw [hu]at e78;unfold zal at e78;simp only;have ha:=h.ak z1;have hno:=h.nonce;have e251:=fun S=>@zph S c.ak t c.nonce k.nonce ht.bb;have la:=zHG (k:=c.ak) (n:=c.nonce) ht;have e252:=fun S=>@zmn S (qw c.ak c.nonce t).1 (qw c.ak c.nonce t).2 jJ 2 2 rfl la.bb;have hol:=zpU (tag:=jJ) (n:=2) (r:=qw c.ak c.nonce t) la;unfold jJ at e252;rcases zmz (tag:=jJ) (n:=2) (r:=qw c.ak c.nonce t) with ⟨l,hl,hlen⟩|⟨er,hne,hl⟩
    ·obtain ⟨o,ck,rfl⟩:=wQ hlen;rw [hl]at hol;have hl':=hl;unfold jJ at hl';rw [hl']at e252;rw [hl];have lo_o:=hol o (by simp);show ∃S' mv',_=some (AV.tup [.agg (c.takeD o ck (c.does o now x)).2.1.cells,.sc (.int .i64 (c.takeD o ck (c.does o now x)).2.2)],S') /\ yq S' id (c.takeD o ck (c.does o now x)).1 mv' /\ _;obtain ⟨S1,p,b,e253,h1,g1,⟨pl,pc⟩,⟨bl,bc⟩,hpb⟩:=zEg (o:=o) (x:=x) (now:=now) h z1 k.counter lo_o hx hn;obtain ⟨cn,hcn⟩:=@zoj c o x now;have pc':∀v∈p,v.isCell=true:=List.all_eq_true.1 pc;have bc':∀v∈b,v.isCell=true:=List.all_eq_true.1 bc;have pt:p.take 3=p:=List.take_of_length_le (by omega);have bt:b.take 3=b:=List.take_of_length_le (by omega);have pd:p.drop 3=[]:=List.drop_of_length_le (by omega);have bd:b.drop 3=[]:=List.drop_of_length_le (by omega);unfold Cl.takeD;generalize c.does o now x=r at *;by_cases h0:r.2.2.2=0
     ·rw [if_pos h0];obtain ⟨rfl,rfl⟩:=hpb h0;have z1':r.1.z1=false:=by rw [hcn];exact z1
      have hn':r.1.nonce=c.nonce:=by rw [hcn]
      have hm':r.1.marks=c.marks:=by rw [hcn]
      have s1:=h1.st (col:=13) (sz:=3) (x:=.agg r.2.2.1.cells) (c':={r.1 with base:=r.2.2.1,z2:=false}) (mv':=mv) zpm zsQ (by show setCells _ _ r.2.2.1.cells=_;rw [zu];rfl) (by omega);have h2:=h1.set (c':={r.1 with base:=r.2.2.1,z2:=false}) rfl;have g2:=h1.chg (c':={r.1 with base:=r.2.2.1,z2:=false});generalize S1.set id _=S2 at s1 h2 g2;have s2:=h2.st (col:=1) (sz:=1) (x:=.b true) (c':={r.1 with base:=r.2.2.1,z2:=false,done:=true}) (mv':=mv) rfl rfl rfl (by omega);have h3:=h2.set (c':={r.1 with base:=r.2.2.1,z2:=false,done:=true}) rfl;have g3:=h2.chg (c':={r.1 with base:=r.2.2.1,z2:=false,done:=true});generalize S2.set id _=S3 at s2 h3 g3;have e81:=fun S=>@s81 S o;have hno3:=h3.nonce;simp only [hn']at hno3;have hmk:=h3.marks;have hmvr:=h3.gv.reg;have hml:(Cl.mrow r.1.marks).length=c.marks.length:=by rw [hm'];simp [Cl.mrow]
      obtain ⟨mv',S4,hap,gv',g4⟩:=h3.gv.app (r:=[.sc (.string (yI o)),.sc (.string c.nonce)]) (bytes:=32) (f:=true) h3.hS (by show ((Cl.mrow r.1.marks).length+1) * 32 <=_;have:=k.marks;omega);have hmr:Cl.mrow ({r.1 with base:=r.2.2.1,z2:=false,done:=true}:Cl).marks++[[.sc (.string (yI o)),.sc (.string c.nonce)]]=Cl.mrow (r.1.marks++[(yI o,c.nonce)]):=by simp [Cl.mrow]
      rw [hmr]at gv';have mvr':=gv'.reg;have mvc':=gv'.cell;have mvcs:=gv'.cells;have hid4:=g4.2.2 id h3.lt h3.ne;have h4h:S4.heap id=some (.rows 37 [({r.1 with base:=r.2.2.1,z2:=false,done:=true}:Cl).row mv]):=hid4.1.trans h3.hh;have hro4:S4.ro <=id:=by rw [g4.1];exact h3.ro
      have hlt4:id < S4.n:=Nat.lt_of_lt_of_le h3.lt g4.2.1;obtain ⟨S5,hS5⟩:∃S5,S5=S4.set id (some (.rows 37 [({r.1 with base:=r.2.2.1,z2:=false,done:=true,marks:=r.1.marks++[(yI o,c.nonce)]}:Cl).row mv'])):=⟨_,rfl⟩;have s3:∀d rg,za (.st none 1) d rg S4 [.ptr id 0 36,mv']=some (.junk,none,S5):=fun d rg=>by
       have hlen:∀(q:Cl) (v:AV),(q.row v).length=37:=fun _ _=>rfl;simp only [za,h4h];rw [if_pos ⟨hro4,by rw [mvcs];simp [mvc'],by rw [mvcs];rfl⟩];simp only [List.getElem?_cons_zero,Option.bind_some,hlen];rw [if_pos (by omega),hS5,mvcs];rfl
      have h5:yq S5 id {r.1 with base:=r.2.2.1,z2:=false,done:=true,marks:=r.1.marks++[(yI o,c.nonce)]} mv':=by
       rw [hS5];exact ⟨if_pos rfl,gv'.keep rfl (Nat.le_refl _) fun y _ hy=>if_neg fun e=>hid4.2 (by rw [<- e];exact hy),hro4,hlt4,hid4.2⟩
      have g5:Chg S3 S5 (jH id mv) (jH id mv'):=by
       refine ⟨by rw [hS5];exact g4.1,by rw [hS5];exact g4.2.1,fun y hy hny=>?_⟩;obtain ⟨a1,a2⟩:=g4.2.2 y hy fun e=>hny (.inr e);refine ⟨?_,?_⟩
       ·rw [hS5];show (if y=id then _ else S4.heap y)=_;rw [if_neg fun e=>hny (.inl e)];exact a1
       ·rintro (e|e)
        ·exact hny (.inl e)
        ·exact a2 e
      have e248:=zna (p:=r.2.1) (k:=ck) h5 z1';have hsay:Cl.says {r.1 with base:=r.2.2.1,z2:=false,done:=true,marks:=r.1.marks++[(yI o,c.nonce)]} r.2.1 ck=r.1.says r.2.1 ck:=rfl;rw [hsay]at e248;refine ⟨S5,mv',?_,h5,((g1.trans g2).trans g3).trans g5⟩;simp [zag,zb7,hon,e96,yQ,e78,zN,ha,hno,e251,zy,e252,jg,yV,yW,e253,h0,pt,bt,pd,bd,s1,s2,e81,hno3,hmk,hmvr,hap,mvr',s3,e248,zw]
     ·rw [if_neg h0];refine ⟨S1,mv,?_,h1,g1⟩;simp [zag,zb7,hon,e96,yQ,e78,zN,ha,hno,e251,zy,e252,jg,yV,yW,e253,h0,pl,bl,pc,bc,pc',bc',pt,bt,pd,bd]
    ·have hl':=hl;unfold jJ at hl';rw [hl']at e252;rw [hl];have hr':c.takeM now x ([],er)=(c,zi,er):=by unfold Cl.takeM;rfl
     rw [hr'];exact ⟨S,mv,by simp [zag,zb7,hon,e96,yQ,e78,zN,ha,hno,e251,zy,e252,jg,hne],h,Chg.refl⟩
end
def DV (S:AS) (o:Nat -> Prop) (dv:AV) (l:List ByteArray):Prop:=dv=zB l \/ ∃id,dv=.arr id 1 0 l.length none /\ S.heap id=some (.rows 1 (zS l)) /\ id < S.n /\ ¬o id
section
variable {S S':AS} {o o':Nat -> Prop} {dv:AV} {l:List ByteArray}
theorem DV.keep (h:DV S o dv l) (hc:Chg S S' o o'):DV S' o' dv l:=by
 rcases h with h|⟨id,h1,h2,h3,h4⟩
 ·exact .inl h
 ·obtain ⟨a,b⟩:=hc.2.2 id h3 h4;exact .inr ⟨id,h1,a.trans h2,Nat.lt_of_lt_of_le h3 hc.2.1,b⟩
theorem DV.ss (h:DV S o dv l):kG S dv l:=by
 rcases h with rfl|⟨id,rfl,h2,h3,h4⟩
 ·exact zCo
 ·exact zEp (by have:=wD h2 (Nat.zero_le id);rw [zjc]at this;exact this) h3 rfl
theorem DV.reg (h:DV S o dv l):dv.isReg=false:=by
 rcases h with rfl|⟨id,rfl,_⟩<;>rfl
theorem DV.cell (h:DV S o dv l):dv.isCell=true:=by
 rcases h with rfl|⟨id,rfl,_⟩<;>rfl
theorem DV.len (h:DV S o dv l):pev .lenL [dv]=some (.sc (.int .i64 (l.length:Nat))):=by
 rcases h with rfl|⟨id,rfl,_⟩
 ·simp
 ·rfl
end
structure Tlk.okk (x:Tlk):Prop where
 client:x.c.client.size <=1099511627776
 nonce:x.c.nonce.size <=1099511627776
 done:x.c.done.length <=1000
 names:∀s∈x.c.done,s.size <=1099511627776
 now: -1000000000000000 <=x.now /\ x.now <=1000000000000000
def Kd.offK (K:Kd) (nx:ByteArray):Kd:=if nx=zP then K else {K with n:=K.n+1}
def Kd.offS (K:Kd) (nx:ByteArray):T:=if nx=zP then zi else zD (K.n+1)
def yO (u:Us) (nx:ByteArray) (s:T):T:=if nx=zP then zj zP [] else if nx=zL then wS u.key s else wH s
def Kd.offC (K:Kd) (x:Tlk) (s:T):Ck:={x.c with secret:=s,upto:=x.now+100}
def znE (K:Kd) (x:Tlk) (o s:T):T:=jo x.ak x.c.nonce (zj jJ [o,yC K.cookies (K.offC x s)])
def Kd.offT (K:Kd) (x:Tlk) (nx:ByteArray):T:=znE K x (yO x.u nx (K.offS nx)) (K.offS nx)
theorem zlR:zi.lo:=by
 show zi.bulk <=_;decide
theorem zqy {n:Int} (h: -9223372036854775808 <=n) (h2:n < 9223372036854775808):(zD n).lo:=by
 have hit:=wI (n:=n) (by omega) (by omega);show (ze _).bulk <=_;rw [zdl];have:(kdB++zq n).size=4+(zq n).size:=by rw [ByteArray.size_append];rfl
 omega
theorem Tlk.okk.ck {x:Tlk} (h:x.okk) (K:Kd) {s:T} (hs:s.lo):(K.offC x s).ok where
 client:=by show x.c.client.size <=_;have:=h.client;omega
 nonce:=by show x.c.nonce.size <=_;have:=h.nonce;omega
 done:=by show x.c.done.length * 48 <=_;have:=h.done;omega
 names:=fun n hn=>by have:=h.names n hn;omega
 upto:=by have:=h.now;show inI (x.now+100);unfold inI;omega
 fits:=T.fits_bulk hs
 ofit:=T.ofit_bulk hs
section
variable {S:AS} {k:Nat} {L:Loc} {K:Kd} {R:List (List AV)}
set_option maxHeartbeats 2000000 in
set_option maxRecDepth 100000 in
theorem zjj (h:yA S k L K R) (hn:0 <=K.n /\ K.n < 4611686018427387904) (hc:K.cookies.lo) {x:Tlk} (hx:x.okk) {dv:AV} (hd:DV S (yK k L) dv x.c.done) {nx:ByteArray} (hnx:x.u.set[x.c.done.length]?=some nx):
 ∃S',call 240 [.ptr k 0 0,.agg (x.cells dv)] S=some (.agg (K.offT x nx).cells,S') /\ yA S' k L (K.offK nx) R /\ Chg S S' (yK k L) (yK k L):=by
 rw [ym zzY (by simp) rfl];have hat:=zaV hnx;have w1:IntKind.i64.wrap (x.now+100)=x.now+100:=w64 (by have:=hx.now;omega);have xc:=fun s:T=>@Tlk.cell ({x with c:={x.c with secret:=s}}:Tlk) dv hd.cell;have xc0:=@Tlk.cell x dv hd.cell;have e332:=fun S t=>@zrI S x.ak t x.c.nonce (by have:=hx.nonce;omega);have dl:=hd.len;by_cases h1:nx=zP
 ·have hK:K.offK nx=K:=if_pos h1;have hs:K.offS nx=zi:=if_pos h1;have ho:yO x.u nx zi=zj zP []:=if_pos h1;unfold Kd.offT;rw [hK,hs,ho];refine ⟨S,?_,h,Chg.refl⟩;have e111:call 111 [.agg K.cookies.cells,.agg (ckX ⟨x.c.client,x.c.nonce,x.c.done,zi,x.now+100⟩ dv)] S=some (.agg (yC K.cookies (K.offC x zi)).cells,S):=ztK (c:=K.offC x zi) hd.ss hc zlR (hx.ck K zlR);have n1:(nx=⟨#[99,104,97,108,108,101,110,103,101]⟩)=True:=eq_true h1;simp [f240,ziD,zw,xc0,xc,hat,dl,n1,w1,h.at_.cookies,e332,e111];rfl
 ·have hK:K.offK nx={K with n:=K.n+1}:=if_neg h1;have hs:K.offS nx=zD (K.n+1):=if_neg h1;have n1:(nx=⟨#[99,104,97,108,108,101,110,103,101]⟩)=False:=eq_false h1;obtain ⟨S1,e342,h',g'⟩:=zjT h hn;unfold Kd.offT;rw [hK,hs];have sl:(zD (K.n+1)).lo:=zqy (by omega) (by omega);generalize zD (K.n+1)=s at *;have hck1:∀d rg,za (.ld none 3 true) d rg S1 [.ptr k 0 3]=some (.agg K.cookies.cells,none,S1):=h'.at_.cookies;have e111:call 111 [.agg K.cookies.cells,.agg (ckX ⟨x.c.client,x.c.nonce,x.c.done,s,x.now+100⟩ dv)] S1=some (.agg (yC K.cookies (K.offC x s)).cells,S1):=ztK (c:=K.offC x s) (hd.keep g').ss hc sl (hx.ck K sl);have e283:=fun S=>@zw2 S s;refine ⟨S1,?_,h',g'⟩;by_cases h2:nx=zL
  ·have n2:(nx=⟨#[115,112,97,107,101]⟩)=True:=eq_true h2;have ho:yO x.u nx s=wS x.u.key s:=by unfold yO;rw [if_neg h1,if_pos h2]
   rw [ho];have e331:=fun S=>@zHN S x.u.key s;simp [f240,ziD,zw,xc0,xc,hat,dl,n1,n2,w1,e342,e283,e331,hck1,e332,e111];rfl
  ·have n2:(nx=⟨#[115,112,97,107,101]⟩)=False:=eq_false h2;have ho:yO x.u nx s=wH s:=by unfold yO;rw [if_neg h1,if_neg h2]
   rw [ho];simp [f240,ziD,zw,xc0,xc,hat,dl,n1,n2,w1,e342,e283,hck1,e332,e111];rfl
noncomputable def qj (x:Tlk) (p:T) (nx:ByteArray):T×List Int×Int:=
 if nx=zG then (yP x.ak 46,zaN x.ak x.c.secret p x.u.seed x.u.tok)
 else if nx=zL then ((zbj x.u.key x.body x.c.secret p).1,[],(zbj x.u.key x.body x.c.secret p).2)
 else (x.u.key,[],zcL x.ak x.u.key x.body p x.now)
def zdz (r:T×List Int×Int):AV:=.tup [.agg r.1.cells,jA r.2.1,.sc (.int .i64 r.2.2)]
set_option maxHeartbeats 2000000 in
theorem zBM {x:Tlk} {p:T} {nx:ByteArray} (hp:p.lo) (hs:x.c.secret.lo) (hn:x.now.natAbs <=1000000000000000):call 241 [.agg (x.cells (zB x.c.done)),.agg p.cells,.sc (.string nx)] S=some (zdz (qj x p nx),S):=by
 have hnr:yU (x.cells (zB x.c.done))=x.cells (zB x.c.done):=by unfold Tlk.cells;simp
 rw [zh zE6 rfl (by simp [hnr]) rfl];have xc:=@Tlk.cell x (zB x.c.done) rfl;unfold qj;by_cases h1:nx=zG
 ·have n1:(nx=⟨#[111,116,112]⟩)=True:=eq_true h1;rw [if_pos h1];have e343:=fun S=>@zxv S x.ak x.c.secret p x.u.seed x.u.tok hp.bb;have e336:=fun S=>@zgt S x.ak 46 i46 (by omega);simp [f241,zhx,xc,n1,e343,e336,kR,zdz]
 ·have n1:(nx=⟨#[111,116,112]⟩)=False:=eq_false h1;rw [if_neg h1];by_cases h2:nx=zL
  ·have n2:(nx=⟨#[115,112,97,107,101]⟩)=True:=eq_true h2;rw [if_pos h2];have e344:=fun S=>@zGl S x.u.key x.body x.c.secret p hp hs;simp [f241,zhx,xc,n1,n2,e344,zy,zdz];rfl
  ·have n2:(nx=⟨#[115,112,97,107,101]⟩)=False:=eq_false h2;rw [if_neg h2];have e151:=fun S=>@zEd S x.ak x.u.key x.body p x.now hp.bb hn;simp [f241,zhx,xc,n1,n2,e151,zdz];rfl
end
def zfr:ByteArray:=⟨#[116,105,99,107,101,116]⟩
def qT (client nonce:ByteArray) (dv:AV) (s:T):List AV:=.sc (.string client)::.sc (.string nonce)::dv::s.cells
def Kd.tktK (K:Kd):Kd:={K with n:=K.n+1+1,u:={K.u with fails:=0}}
def tkt (key:T) (client:ByteArray) (s:T) (done:List ByteArray) (now:Int):T:=yG key 3 (zj zfr [yF client,s,zO (jU done),qb now])
def vU (st base s:T) (nonce:ByteArray) (t:T):T:=yG (qu st base) 3 (zj kM [s,yF nonce,z8 t])
def kz (ak:T) (nonce:ByteArray) (base s st t:T):T:=zj zal [t,vU st base s nonce t,jo ak nonce (zj vk [st,z8 t])]
def Kd.tktT (K:Kd) (x:Tlk) (base:T):T:=kz x.ak x.c.nonce base (zD (K.n+1)) (zD (K.n+1+1)) (tkt K.key x.c.client (zD (K.n+1)) x.c.done x.now)
section
variable {S:AS} {k:Nat} {L:Loc} {K:Kd} {R:List (List AV)}
theorem zu5 {client nonce:ByteArray} {dv:AV} {s:T} (hd:dv.cells=[dv]) (hc:dv.isCell=true):pev (.build [.s ⟨#[]⟩,.s ⟨#[]⟩,.lst 0 true [],.i (0),.s ⟨#[]⟩,.lst 0 true []] [(0,1),(1,1),(2,1),(3,3)]) [.sc (.string client),.sc (.string nonce),dv,.agg s.cells]=some (.agg (qT client nonce dv s)):=by
 unfold qT;rw [zu];simp [hd,hc]
theorem DV.cells {S:AS} {o:Nat -> Prop} {dv:AV} {l:List ByteArray} (h:DV S o dv l):dv.cells=[dv]:=by
 rcases h with rfl|⟨id,rfl,_⟩<;>rfl
set_option maxHeartbeats 4000000 in
set_option maxRecDepth 100000 in
theorem zkC (h:yA S k L K R) (hn:0 <=K.n /\ K.n < 4611686018427387900) (hR:R.length <=1000) {x:Tlk} (hx:x.okk) {dv:AV} (hd:DV S (yK k L) dv x.c.done) (hcl:x.c.client=K.u.name) {base:T}:
 ∃S' v',call 245 [.ptr k 0 0,.agg (x.cells dv),.agg base.cells] S=some (.agg (K.tktT x base).cells,S') /\ yA S' k {L with iv:=v'} K.tktK (R++[qT x.c.client x.c.nonce dv (zD (K.n+1))]) /\ Chg S S' (yK k L) (yK k {L with iv:=v'}):=by
 rw [ym zzC (by simp) rfl];have xc:=@Tlk.cell x dv hd.cell;obtain ⟨S1,d1,h1,g1⟩:=zjT h (by omega);obtain ⟨S2,d2,h2,g2⟩:=zjT h1 ⟨by show 0 <=K.n+1;omega,by show K.n+1 < _;omega⟩;have d2:call 342 [.ptr k 0 0] S1=some (.agg (zD (K.n+1+1)).cells,S2):=d2;have hb2:IsB S2 L.kb L.ub K.u:=h2.b;obtain ⟨S3,d3,b3,gb3⟩:=zFx hb2;obtain ⟨h3,g3⟩:=h2.upB b3 gb3;obtain ⟨v',S4',S4,ha,hvr,hst,h4,g4⟩:=h3.issue (r:=qT x.c.client x.c.nonce dv (zD (K.n+1))) (f:=true) hR;have hus:∀d rg,za (.ld none 1 false) d rg S2 [.ptr k 0 6]=some (.ptr L.kb 0 0,none,S2):=h2.at_.users;have his:∀d rg,za (.ld none 1 false) d rg S3 [.ptr k 0 10]=some (L.iv,none,S3):=h3.at_.issued;have hky:∀d rg,za (.ld none 3 true) d rg S4 [.ptr k 0 0]=some (.agg K.key.cells,none,S4):=h4.at_.key;have gT:Chg S S4 (yK k L) (yK k {L with iv:=v'}):=g1.trans (g2.trans (g3.trans g4));have e69:=q69 (hd.keep gT).ss (fun s hs=>by have:=hx.names s hs;omega) (by have:=hx.done;omega);rw [<- hcl]at d3;have hbi:=@zu5 x.c.client x.c.nonce dv (zD (K.n+1)) hd.cells hd.cell;have hic:(qT x.c.client x.c.nonce dv (zD (K.n+1))).all AV.isCell=true:=by
  unfold qT;rw [zu];simp [hd.cell]
 have hil:(qT x.c.client x.c.nonce dv (zD (K.n+1))).length=6:=by
  unfold qT;rw [zu];rfl
 have hit:List.take 6 (qT x.c.client x.c.nonce dv (zD (K.n+1)))=qT x.c.client x.c.nonce dv (zD (K.n+1)):=by rw [<- hil,List.take_length]
 refine ⟨S4,v',?_,h4,gT⟩;generalize qT x.c.client x.c.nonce dv (zD (K.n+1))=I at *;have dc:=hd.cells;have dcc:=hd.cell;have dr:=hd.reg;have e65a:=fun S=>@s65 S x.c.client (by have:=hx.client;omega);have e65b:=fun S=>@s65 S x.c.nonce (by have:=hx.nonce;omega);have e67:=fun S=>@s67 S x.now (by have:=hx.now;omega) (by have:=hx.now;omega);have e332:=fun S t=>@zrI S x.ak t x.c.nonce (by have:=hx.nonce;omega);have e266:=fun S k t=>@zjF S k t 3 (by unfold inI;omega) (by omega);have e333:=fun S=>@zxB S (zD (K.n+1+1)) base;show _=some (AV.agg (kz x.ak x.c.nonce base (zD (K.n+1)) (zD (K.n+1+1)) (tkt K.key x.c.client (zD (K.n+1)) x.c.done x.now)).cells,S4);generalize zD (K.n+1)=s at *;generalize zD (K.n+1+1)=s2 at *;have p4:∀(S:AS),call 63 [.sc (.string ⟨#[116,105,99,107,101,116]⟩),.lst 3 true [(yF x.c.client).cells,s.cells,(zO (jU x.c.done)).cells,(qb x.now).cells]] S=some (.agg (zj zfr [yF x.c.client,s,zO (jU x.c.done),qb x.now]).cells,S):=fun S=>p63 (zcp (l:=[yF x.c.client,s,zO (jU x.c.done),qb x.now])) (by show 5 * 48 <=_;omega);unfold kz vU tkt;simp [-vu,f245,zn3,zw,xc,d1,d2,hus,d3,his,hbi,hic,hil,hit,ha,hvr,hst,hky,e65a,e65b,e67,e69,e332,e266,e333,p4,dr];rfl
end
def smE (e:Int):Prop:=0 <=e /\ e <=100
theorem zkp {k t:T} {n:Int}:smE (jl k n t).2:=by
 unfold jl vc smE;split
 ·split
  ·split<;>simp
  ·simp
 ·simp
theorem zIO {tag:ByteArray} {n:Nat} {r:T×Int} (h:smE r.2):smE (qz tag n r).2:=by
 unfold qz;split
 ·split<;>simp [smE]
 ·exact h
theorem zlP {k t:T} {u:Int} {tag:ByteArray} {n:Nat}:smE (qx k u t tag n).2:=zIO zkp
theorem zH1 {k b t:T}:smE (kN k b t).2.2:=by
 have h:=@zlP k t 51 vp 3;unfold kN;generalize qx k 51 t vp 3=r at h;obtain ⟨l,e⟩:=r;unfold zcD;split
 ·split<;>simp [smE]
 ·rename_i heq;cases heq;exact h
theorem zBH {h:T} {r:List T×Int} (hr:smE r.2):smE (zgY h r).2:=by
 unfold zgY;split
 ·simp [smE]
 ·exact hr
theorem zAH {t:T} {r:List T×Int} (hr:smE r.2):smE (wW t r).2:=by
 unfold wW;split
 ·exact zBH zlP
 ·exact hr
theorem zxj {k t:T}:smE (vK k t).2:=by
 unfold vK;split
 ·exact zAH zlP
 ·simp [smE]
theorem zBb {k t:T} {now:Int}:smE (qI k t now).2:=by
 unfold qI smE;split
 ·split
  ·split
   ·split
    ·split
     ·split<;>simp
     ·simp
    ·simp
   ·simp
  ·simp
 ·simp
theorem zEM {k t:T} {now:Int} (h:t.lo):(qI k t now).1.secret.lo:=by
 unfold qI;split
 ·split
  ·rename_i k0 b hk;have hb:b.lo:=h.kid (by rw [hk];simp);split
   ·split
    ·rename_i k1 k2 k3 k4 k5 hk2;have h4:k4.lo:=hb.kid (by rw [hk2];simp);split
     ·split
      ·exact qc
      ·exact h4
     ·exact qc
    ·exact qc
   ·exact qc
  ·exact qc
 ·exact qc
theorem zEC {u b y p:T}:smE (zbj u b y p).2:=by
 have he:∀l,smE (jX u l).2:=by
  intro l;unfold jX;split
  ·split
   ·unfold qZ;split
    ·split
     ·split<;>simp [smE]
     ·simp [smE]
    ·simp [smE]
   ·simp [smE]
  ·simp [smE]
 unfold zbj;split
 ·rename_i l f _;unfold zfK;split
  ·split<;>simp [smE]
  ·exact he l
 ·simp [smE]
theorem zDs {ak n p s:T} {t:Tk}:smE (zaN ak n p s t).2:=by
 unfold zaN;split
 ·rename_i x _;unfold zds;split
  ·split
   ·unfold zdH;split
    ·split<;>simp [smE]
    ·simp [smE]
   ·simp [smE]
  ·exact zkp
 ·simp [smE]
theorem zys {a u body p:T} {now:Int}:smE (zcL a u body p now):=by
 unfold zcL;split
 ·rename_i x _;unfold zic;split
  ·simp [smE]
  ·split
   ·split
    ·unfold zhN;split
     ·split
      ·unfold zgJ;split
       ·split<;>simp [smE]
       ·simp [smE]
      ·simp [smE]
     ·simp [smE]
    ·simp [smE]
   ·exact zkp
 ·simp [smE]
theorem zGm {x:Tlk} {p:T} {nx:ByteArray}:smE (qj x p nx).2.2:=by
 unfold qj;split
 ·exact zDs
 ·split
  ·exact zEC
  ·exact zys
theorem zCp {t:T} {a b:ByteArray} (ht:t.lo) (h:qU t=some (a,b)):a.size <=1099511627776 /\ b.size <=1099511627776:=by
 unfold qU at h;cases hu:yw zab 2 t with
 |none=>rw [hu]at h;cases h
 |some l=>
  obtain ⟨hl,hm⟩:=qy (n:=2) hu;obtain ⟨x,y,rfl⟩:=wQ hl;rw [hu]at h;have lx:x.lo:=ht.kid (hm x (by simp));have ly:y.lo:=ht.kid (hm y (by simp));have hw:∀(z:T) (w:ByteArray),z.lo -> j0 z=some w -> w.size <=1099511627776:=by
   intro z w hz hw;have:=hz.name;unfold j0 at hw;split at hw
   ·have:=zq4 hw;omega
   ·cases hw
  show _ /\ _;cases ha:j0 x with
  |none=>simp [zed,ha]at h
  |some p=>
   cases hb:j0 y with
   |none=>simp [zed,ha,hb]at h
   |some q=>
    simp [zed,ha,hb]at h;obtain ⟨_,rfl,rfl⟩:=h;exact ⟨hw _ _ lx ha,hw _ _ ly hb⟩
structure Kd.opOk (K:Kd) (now:Int) (r:Tlk×T×Int):Prop where
 e:smE r.2.2
 u:r.2.2=0 -> r.1.u=K.u
 now:r.2.2=0 -> r.1.now=now
 client:r.2.2=0 -> r.1.c.client=K.u.name
 nonce:r.2.2=0 -> r.1.c.nonce.size <=1099511627776
 done:r.2.2=0 -> r.1.c.done=[] \/ qP r.1.c.done K.u.set=true
 secret:r.2.2=0 -> r.1.c.secret.lo
 p:r.2.2=0 -> r.2.1.lo
theorem zav {K:Kd} {now:Int} {x:Tlk} {t:T} {e:Int} (he:smE e) (h0:e≠0):K.opOk now (x,t,e):=
 ⟨he,fun h=>absurd h h0,fun h=>absurd h h0,fun h=>absurd h h0,fun h=>absurd h h0,fun h=>absurd h h0,fun h=>absurd h h0,fun h=>absurd h h0⟩
theorem zxf {K:Kd} {t:T} {now:Int} (ht:t.lo):K.opOk now (K.opens t now):=by
 unfold Kd.opens;have e2:smE 2:=by simp [smE]
 have e3:smE 3:=by simp [smE]
 have e11:smE 11:=by simp [smE]
 have e7:smE 7:=by simp [smE]
 have e0:smE 0:=by simp [smE]
 cases ha:zaD t with
 |none=>exact zav e2 (by decide)
 |some r=>
  obtain ⟨body,armor,sealed⟩:=r;obtain ⟨m1,m2,m3⟩:=zp6 ha;have l1:=ht.kid m1;have l3:=ht.kid m3;show K.opOk now (K.opB t body armor sealed now (qU body));cases hb:qU body with
  |none=>exact zav e2 (by decide)
  |some q=>
   obtain ⟨client,nonce⟩:=q;have hz:=zCp l1 hb;show K.opOk now (K.opA t body sealed client nonce now (vK K.key armor));unfold Kd.opA;have ha:=@zxj K.key armor;generalize vK K.key armor=a at *;by_cases h0:a.2=0
   ·rw [if_pos h0];have hr:=@zH1 a.1 body sealed;have hlo:=zof (k:=a.1) (b:=body) l3;unfold Kd.opR;generalize kN a.1 body sealed=r at *;by_cases h1:r.2.2=0
    ·rw [if_pos h1];by_cases hn:K.u.name=client
     ·rw [if_pos hn];cases hi:jD r.2.1 with
      |true=>
       rw [if_pos rfl];unfold Kd.opF;split
       ·exact zav e7 (by decide)
       ·exact ⟨e0,fun _=>rfl,fun _=>rfl,fun _=>hn.symm,fun _=>hz.2,fun _=>.inl rfl,fun _=>zlR,fun _=>hlo.2⟩
      |false=>
       rw [if_neg (by simp)];have ho:=@zBb K.cookies r.2.1 now;have hs:=zEM (k:=K.cookies) (now:=now) hlo.1;unfold Kd.opC;generalize qI K.cookies r.2.1 now=o at *;by_cases h2:o.2=0
       ·rw [if_pos h2];split
        ·rename_i hc;obtain ⟨hc1,hc2,hc3⟩:=hc;simp only at hc1 hc2;unfold Kd.opF;split
         ·exact zav e7 (by decide)
         ·exact ⟨e0,fun _=>rfl,fun _=>rfl,fun _=>hc1.trans hn.symm,fun _=>by show o.1.nonce.size <=_;rw [hc2];exact hz.2,fun _=>.inr hc3,fun _=>hs,fun _=>hlo.2⟩
        ·exact zav e11 (by decide)
       ·rw [if_neg h2];exact zav ho h2
     ·rw [if_neg hn];exact zav e3 (by decide)
    ·rw [if_neg h1];exact zav hr h1
   ·rw [if_neg h0];exact zav ha h0
abbrev Isd:=Option (ByteArray×ByteArray×List ByteArray×T)
def Tlk.more (x:Tlk) (nx:ByteArray):Tlk:={x with c:={x.c with done:=x.c.done++[nx]}}
def Kd.reqD (K:Kd) (x:Tlk) (base:T):T×Kd×Isd:=if x.c.done.length=x.u.set.length then (K.tktT x base,K.tktK,some (x.c.client,x.c.nonce,x.c.done,zD (K.n+1))) else
 match x.u.set[x.c.done.length]? with
 |some nx=>(K.offT x nx,K.offK nx,none)
 |none=>(tZ,K,none)
def Kd.reqO (K:Kd) (x:Tlk) (base:T) (a:Tk×Int×Int):T×Kd×Isd:=
 if 5 <=K.u.fails then (qp 7,K,none) else
 if a.2.2=0 then Kd.reqD {K with u:={K.u with tok:=a.1}} x base else (qp a.2.2,{K with u:={K.u with tok:=a.1}},none)
def Kd.reqS (K:Kd) (x:Tlk) (nx:ByteArray) (r:T×List Int×Int) (s:Int×List (ByteArray×Int)):T×Kd×Isd:=
 if s.1=0 then (if nx=zG then Kd.reqO {K with cache:=s.2} (x.more nx) r.1 (K.u.tok.accept r.2.1) else Kd.reqD {K with cache:=s.2} (x.more nx) r.1) else (qp s.1,{K with cache:=s.2},none)
def Kd.reqC (K:Kd) (x:Tlk) (p:T) (nx:ByteArray) (now:Int) (r:T×List Int×Int):T×Kd×Isd:=
 if r.2.2=0 then K.reqS x nx r (Rf.seenR K.room K.cache p.txt (now+100+1) now) else (qp r.2.2,if r.2.2=6 then {K with u:={K.u with fails:=K.u.fails+1}} else K,none)
noncomputable def Kd.reqN (K:Kd) (x:Tlk) (p:T) (now:Int) (nx:ByteArray):T×Kd×Isd:=
 if jD p=true then (K.offT x nx,K.offK nx,none) else
 if yI p=nx /\ (nx=zP \/ jD x.c.secret=false) then K.reqC x p nx now (qj x p nx) else (qp 11,K,none)
noncomputable def Kd.reqX (K:Kd) (now:Int) (r:Tlk×T×Int):T×Kd×Isd:=
 if r.2.2=0 then (match r.1.u.set[r.1.c.done.length]? with
  |some nx=>K.reqN r.1 r.2.1 now nx
  |none=>(tZ,K,none)) else (qp r.2.2,K,none)
noncomputable def Kd.req (K:Kd) (t:T) (now:Int):T×Kd×Isd:=K.reqX now (K.opens t now)
theorem zmg {S:AS} {l:List ByteArray} {nx:ByteArray} (hro:S.ro <=S.n) (hl:l.length <=1000):∃v1 S1 id S2,(∀d rg,za (.append 1 16) d rg S [.lst 1 true [],zB l]=some (v1,none,S1)) /\ v1.isReg=false /\
 (∀d rg,za (.append 1 16) d rg S1 [v1,.lst 1 true [[.sc (.string nx)]]]=some (.arr id 1 0 (l++[nx]).length none,none,S2)) /\ S2.heap id=some (.rows 1 (zS (l++[nx]))) /\ S.n <=id /\ id < S2.n /\ S2.ro=S.ro /\ S.n <=S2.n /\ ∀j,j < S.n -> S2.heap j=S.heap j:=by
 have hr:=zqz S l;have hlen:(zS l).length=l.length:=zjc ..;refine ⟨.arr S.n 1 0 l.length none,S.new (.rows 1 (zS l)),S.n+1,((S.new (.rows 1 (zS l))).set S.n none).new (.rows 1 (zS (l++[nx]))),fun d rg=>?_,rfl,fun d rg=>?_,jw,Nat.le_succ _,Nat.lt_succ_self _,rfl,?_,fun j hj=>?_⟩
 ·simp only [za,hr,Option.bind_some];cases l with
  |nil=>simp [jd,zS]
  |cons a l=>
   unfold jd;simp only [show (zS (a::l)).isEmpty=false from rfl,Bool.false_eq_true,if_false,List.isEmpty_nil,Bool.true_or,Bool.true_and,List.length_nil,Nat.zero_add,decide_eq_true_eq,List.nil_append];rw [if_pos (by rw [hlen];simp at hl;simp;omega),hlen];rfl
 ·have hs:zkh (S.new (.rows 1 (zS l))) S.n 1 (zS l):=⟨jw,hro,Nat.lt_succ_self _⟩;have:=zs1 (d:=d) (rg:=rg) (bytes:=16) hs (ys:=[[.sc (.string nx)]]) (by simp) (by rw [hlen];simp;omega);rw [hlen]at this;have hn:(S.new (.rows 1 (zS l))).n=S.n+1:=rfl;rw [hn]at this;simpa [zS] using this
 ·show S.n <=S.n+1+1;omega
 ·show (if j=S.n+1 then _ else (if j=S.n then _ else (if j=S.n then _ else _)))=_;rw [if_neg (by omega),if_neg (by omega),if_neg (by omega)]
structure Kd.okk (K:Kd):Prop where
 cookies:K.cookies.lo
 set1:1 <=K.u.set.length
 set2:K.u.set.length <=1000
 names:∀s∈K.u.set,s.size <=1099511627776
 name:K.u.name.size <=1099511627776
 tok:K.u.tok.fails < 4611686018427387904
 fails:0 <=K.u.fails /\ K.u.fails < 4611686018427387904
 n:0 <=K.n /\ K.n < 4611686018427387000
 cache:K.cache.length <=1000
def zf5 (S S':AS) (o:Nat -> Prop) (R R':List (List AV)):Isd -> Prop
 |none=>R'=R
 |some (c,n,d,s)=>∃id,R'=R++[qT c n (.arr id 1 0 d.length none) s] /\ S'.heap id=some (.rows 1 (zS d)) /\ S.n <=id /\ id < S'.n /\ ¬o id
theorem zuy {K:Kd} {x:Tlk} {p:T} {now:Int} {nx:ByteArray} (h:jD p=true):K.reqN x p now nx=(K.offT x nx,K.offK nx,none):=if_pos h
theorem zoU {K:Kd} {x:Tlk} {p:T} {now:Int} {nx:ByteArray} (h:jD p=false) (h2:¬(yI p=nx /\ (nx=zP \/ jD x.c.secret=false))):K.reqN x p now nx=(qp 11,K,none):=by
 unfold Kd.reqN;rw [if_neg (by rw [h];simp),if_neg h2]
theorem zms {K:Kd} {x:Tlk} {p:T} {now:Int} {nx:ByteArray} (h:jD p=false) (h2:yI p=nx /\ (nx=zP \/ jD x.c.secret=false)):K.reqN x p now nx=K.reqC x p nx now (qj x p nx):=by
 unfold Kd.reqN;rw [if_neg (by rw [h];simp),if_pos h2]
theorem zrX {room t now:Int} {l:List (ByteArray×Int)} {id:ByteArray}:smE (Rf.seenR room l id t now).1:=by
 unfold Rf.seenR;split
 ·simp [smE]
 ·split
  ·simp [smE]
  ·split<;>simp [smE]
theorem zDa {t:Tk} {l:List Int}:smE (t.accept l).2.2:=by
 unfold Tk.accept;split
 ·split
  ·simp [smE]
  ·split
   ·simp [smE]
   ·split<;>simp [smE]
 ·simp [smE]
theorem zDv (t:Tk):y9 t <=71:=by unfold y9;omega
theorem zxX {t:Tk} {s b:T}:(zaR t s b).length <=73:=by
 have h0:=zDv t;have h1:=@zlt t s b (y9 t);have h2:(jy t s b).length <=72:=by
  unfold jy;split
  ·simp;omega
  ·omega
 unfold zaR;split
 ·split
  ·simp;omega
  ·omega
 ·simp
theorem zII {x:Tlk} {p:T} {nx:ByteArray}:(qj x p nx).2.1.length <=4611686018427387904:=by
 have h:∀ak n p s t,(zaN ak n p s t).1.length <=73:=by
  intro ak n p s t;unfold zaN;split
  ·unfold zds;split
   ·split
    ·unfold zdH;split
     ·split
      ·exact zxX
      ·simp
     ·simp
    ·simp
   ·simp
  ·simp
 unfold qj;split
 ·exact Nat.le_trans (h _ _ _ _ _) (by omega)
 ·split<;>simp
section
variable {S:AS} {k:Nat} {L:Loc} {K:Kd} {R:List (List AV)}
theorem yA.same (h:yA S k L K R) {S':AS} (hr:S'.ro=S.ro) (hn:S.n <=S'.n) (hh:∀j,j < S.n -> S'.heap j=S.heap j):yA S' k L K R /\ Chg S S' (yK k L) (yK k L):=
 ⟨h.keep hr hn fun x hx _=>hh x hx,hr,hn,fun x hx ho=>⟨hh x hx,ho⟩⟩
set_option maxHeartbeats 16000000 in
set_option maxRecDepth 100000 in
theorem zx9 (h:yA S k L K R) (hK:K.okk) (hR:R.length <=1000) {t:T} {now:Int} (ht:t.lo) (hnow:now.natAbs <=100000000000000):
 ∃S' L' R',call 137 [.ptr k 0 0,.agg t.cells,.sc (.int .i64 now)] S=some (.agg (K.req t now).1.cells,S') /\ yA S' k L' (K.req t now).2.1 R' /\ Chg S S' (yK k L) (yK k L') /\ zf5 S S' (yK k L') R R' (K.req t now).2.2:=by
 rw [ym zCd (by simp) rfl];have e239:=zEi h.at_ (t:=t) (now:=now) ht hK.cookies hK.set2;have ok:=zxf (K:=K) (now:=now) ht;unfold Kd.req;generalize K.opens t now=r at *;obtain ⟨x,p,e⟩:=r;unfold zc9 at e239;simp only at e239;have xc:=@Tlk.cell x (zB x.c.done) rfl;have e73:∀S n,smE n -> call 73 [.sc (.int .i64 n)] S=some (.agg (qp n).cells,S):=fun S n hn=>s73 (by unfold inI;unfold smE at hn;omega) (by unfold smE at hn;omega);by_cases h0:e=0
 case neg=>
  have hr:K.reqX now (x,p,e)=(qp e,K,none):=if_neg h0;rw [hr];refine ⟨S,L,R,?_,h,Chg.refl,rfl⟩;have e73':=fun S=>e73 S e ok.e;simp [jV,qo,e239,xc,h0,e73']
 subst h0;have xu:=ok.u rfl;have xn:=ok.now rfl;have xcl:=ok.client rfl;have xno:=ok.nonce rfl;have xd:=ok.done rfl;have xs:=ok.secret rfl;have xp:=ok.p rfl;simp only at xu xn xcl xno xd xs xp;have hlt:x.c.done.length < x.u.set.length:=by
  rw [xu];rcases xd with e|e
  ·rw [e];exact hK.set1
  ·unfold qP at e;simp at e;exact e.1
 have hmem:∀s∈x.c.done,s∈K.u.set:=by
  rcases xd with e|e
  ·rw [e];intro s hs;cases hs
  ·unfold qP at e;simp at e;intro s hs;rw [<- e.2]at hs;exact List.mem_of_mem_take hs
 have hs2:=hK.set2;have xk:x.okk:=⟨by rw [xcl];exact hK.name,xno,by rw [xu]at hlt;omega,fun s hs=>hK.names s (hmem s hs),by rw [xn];omega⟩;obtain ⟨nx,hnx⟩:∃nx,x.u.set[x.c.done.length]?=some nx:=⟨x.u.set[x.c.done.length],by simp [hlt]⟩;have hnxm:nx∈K.u.set:=by rw [<- xu];exact List.mem_of_getElem? hnx
 have hr:K.reqX now (x,p,0)=K.reqN x p now nx:=by unfold Kd.reqX;simp only [if_true,hnx]
 rw [hr];have hat:=zaV hnx;have e84:=fun S=>@s84 S p;have hS:=h.hS;cases hi:jD p with
 |true=>
  rw [hi]at e84;rw [zuy hi];obtain ⟨S',e240,h',g'⟩:=zjj h (by have:=hK.n;omega) hK.cookies xk (.inl rfl) hnx;refine ⟨S',L,R,?_,h',g',rfl⟩;simp [jV,qo,e239,xc,e84,e240]
 |false=>
 rw [hi]at e84;have e82:=fun S=>@s82 S p;have e84s:=fun S=>@s84 S x.c.secret;have e73b:=fun S=>e73 S 11 (by simp [smE]);by_cases htg:yI p=nx
 case neg=>
  rw [zoU hi (fun h=>htg h.1)];refine ⟨S,L,R,?_,h,Chg.refl,rfl⟩;have e73c:∀S,call 73 [AV.i 11] S=some (AV.agg (qp 11).cells,S):=e73b;simp [jV,qo,e239,xc,e84,hat,e82,htg,e73c]
 have e241:=fun S=>@zBM S x p nx xp xs (by rw [xn];omega);have csm:=@zGm x p nx;by_cases hc:nx=zP
 ·have n1:(nx=⟨#[99,104,97,108,108,101,110,103,101]⟩)=True:=eq_true hc;have hg:yI p=nx /\ (nx=zP \/ jD x.c.secret=false):=⟨htg,.inl hc⟩;rw [zms hi hg];unfold Kd.reqC;generalize qj x p nx=c at *;unfold zdz at e241;by_cases f0:c.2.2=0
  case neg=>
   rw [if_neg f0];have e73c:=fun S=>e73 S c.2.2 csm;by_cases f6:c.2.2=6
   ·obtain ⟨S1,e242,b1,g1⟩:=zub h.b hK.fails;obtain ⟨h1,G1⟩:=h.upB b1 g1;rw [<- xcl]at e242;rw [if_pos f6];refine ⟨S1,L,R,?_,h1,G1,rfl⟩;rw [f6]at e241 e73c ⊢;simp [jV,qo,e239,xc,e84,hat,e82,htg,n1,e241,h.at_.users,e242,e73c]
   ·rw [if_neg f6];refine ⟨S,L,R,?_,h,Chg.refl,rfl⟩;simp [jV,qo,e239,xc,e84,hat,e82,htg,n1,e241,f0,f6,e73c]
  rw [if_pos f0];rw [f0]at e241;have e243:=fun S=>@zcy S p xp;have w1:IntKind.i64.wrap (now+100)=now+100:=w64 (by omega);have w2:IntKind.i64.wrap (now+100+1)=now+100+1:=w64 (by omega);obtain ⟨S1,ids1,cv1,e56,c1,g1⟩:=Rf.cSeen (t:=now+100+1) (now:=now) (id:=p.txt) h.c hK.cache;have ssm:smE (Rf.seenR K.room K.cache p.txt (now+100+1) now).1:=zrX;generalize Rf.seenR K.room K.cache p.txt (now+100+1) now=q at *;obtain ⟨h1,G1⟩:=h.upC c1 g1;generalize hL1:({L with ids:=ids1,cv:=cv1}:Loc)=L1 at *;unfold Kd.reqS;have hcc:=h.at_.cch;by_cases q0:q.1=0
  case neg=>
   rw [if_neg q0];have e73c:=fun S=>e73 S q.1 ssm;refine ⟨S1,L1,R,?_,h1,G1,rfl⟩;simp [jV,qo,e239,xc,e84,hat,e82,htg,n1,e241,e243,w1,w2,hcc,e56,q0,e73c]
  rw [if_pos q0];rw [q0]at e56;have no:nx≠zG:=by rw [hc];decide
  have no':(nx=⟨#[111,116,112]⟩)=False:=eq_false no;rw [if_neg no];obtain ⟨v1,S3',id,S3,a1,a2,a3,a4,a5,a6,a7,a8,a9⟩:=@zmg S1 x.c.done nx h1.hS xk.done;obtain ⟨h3,G3⟩:=h1.same a7 a8 a9;have G3:=G1.trans G3;have hid:¬yK k L1 id:=fun e=>by have:=h1.own_lt e;omega
  have hD:DV S3 (yK k L1) (.arr id 1 0 (x.c.done++[nx]).length none) (x.more nx).c.done:=.inr ⟨id,rfl,a4,a6,hid⟩;have hsd:List.take 8 (x.cells (zB x.c.done))++.arr id 1 0 (x.c.done++[nx]).length none::List.drop 9 (x.cells (zB x.c.done))=(x.more nx).cells (.arr id 1 0 (x.c.done++[nx]).length none):=rfl;have xc3:((x.more nx).cells (.arr id 1 0 (x.c.done++[nx]).length none)).all AV.isCell=true:=Tlk.cell rfl;have t8:List.take 1 (List.drop 8 ((x.more nx).cells (.arr id 1 0 (x.c.done++[nx]).length none)))=[.arr id 1 0 (x.c.done++[nx]).length none]:=rfl;have t17:List.take 1 (List.drop 17 ((x.more nx).cells (.arr id 1 0 (x.c.done++[nx]).length none)))=[zB x.u.set]:=rfl;have t29:List.take 29 ((x.more nx).cells (.arr id 1 0 (x.c.done++[nx]).length none))=(x.more nx).cells (.arr id 1 0 (x.c.done++[nx]).length none):=rfl;have l29:((x.more nx).cells (.arr id 1 0 (x.c.done++[nx]).length none)).length=29:=rfl;have xk3:(x.more nx).okk:=⟨xk.client,xk.nonce,by show (x.c.done++[nx]).length <=1000;rw [xu]at hlt;simp;omega,fun s hs=>(List.mem_append.1 hs).elim (xk.names s) fun hs=>by rw [List.mem_singleton.1 hs];exact hK.names nx hnxm,xk.now⟩;unfold Kd.reqD;by_cases hm:(x.more nx).c.done.length=(x.more nx).u.set.length
  ·rw [if_pos hm];obtain ⟨S4,v4,e245,h4,G4⟩:=zkC h3 (by have:=hK.n;show 0 <=K.n /\ K.n < _;omega) hR xk3 hD (xcl:(x.more nx).c.client=K.u.name) (base:=c.1);refine ⟨S4,{L1 with iv:=v4},_,?_,h4,G3.trans G4,⟨id,rfl,?_,?_,?_,?_⟩⟩
   ·have hm':(x.c.done++[nx]).length=x.u.set.length:=hm;generalize (x.c.done++[nx]).length=m at *;have hmI:((m:Int)=(x.u.set.length:Int))=True:=eq_true (by rw [hm']);clear hm';generalize (x.more nx).cells (.arr id 1 0 m none)=X3 at *;simp [jV,qo,e239,xc,e84,hat,e82,htg,n1,e241,e243,w1,w2,hcc,e56,no',zw,a1,a2,a3,hsd,xc3,t8,t17,t29,l29,hmI,e245]
   ·exact (G4.2.2 id a6 hid).1.trans a4
   ·have:=G1.2.1;omega
   ·have:=G4.2.1;omega
   ·exact (G4.2.2 id a6 hid).2
  ·rw [if_neg hm];have hlt3:(x.more nx).c.done.length < (x.more nx).u.set.length:=by have:(x.more nx).c.done.length=x.c.done.length+1:=by {show (x.c.done++[nx]).length=_;simp};have:(x.more nx).u.set.length=x.u.set.length:=rfl;omega
   obtain ⟨nx3,hnx3⟩:∃nx3,(x.more nx).u.set[(x.more nx).c.done.length]?=some nx3:=⟨(x.more nx).u.set[(x.more nx).c.done.length],by simp [hlt3]⟩;simp only [hnx3];obtain ⟨S4,e240,h4,G4⟩:=zjj h3 (by have:=hK.n;show 0 <=K.n /\ K.n < _;omega) hK.cookies xk3 hD hnx3;refine ⟨S4,L1,R,?_,h4,G3.trans G4,rfl⟩;have hm':¬(x.c.done++[nx]).length=x.u.set.length:=hm;generalize (x.c.done++[nx]).length=m at *;have hmI:((m:Int)=(x.u.set.length:Int))=False:=eq_false (by omega);generalize (x.more nx).cells (.arr id 1 0 m none)=X3 at *;simp [jV,qo,e239,xc,e84,hat,e82,htg,n1,e241,e243,w1,w2,hcc,e56,no',zw,a1,a2,a3,hsd,xc3,t8,t17,t29,l29,hmI,e240]
 ·have n1:(nx=⟨#[99,104,97,108,108,101,110,103,101]⟩)=False:=eq_false hc;cases hsn:jD x.c.secret with
  |true=>
   rw [hsn]at e84s;rw [zoU hi (fun h=>h.2.elim hc fun h=>by rw [hsn]at h;cases h)];refine ⟨S,L,R,?_,h,Chg.refl,rfl⟩;have e73c:∀S,call 73 [AV.i 11] S=some (AV.agg (qp 11).cells,S):=e73b;simp [jV,qo,e239,xc,e84,hat,e82,htg,n1,e84s,e73c]
  |false=>
   rw [hsn]at e84s;have hg:yI p=nx /\ (nx=zP \/ jD x.c.secret=false):=⟨htg,.inr hsn⟩;have hcl:(qj x p nx).2.1.length <=4611686018427387904:=zII;rw [zms hi hg];unfold Kd.reqC;generalize qj x p nx=c at *;unfold zdz at e241;by_cases f0:c.2.2=0
   case neg=>
    rw [if_neg f0];have e73c:=fun S=>e73 S c.2.2 csm;by_cases f6:c.2.2=6
    ·obtain ⟨S1,e242,b1,g1⟩:=zub h.b hK.fails;obtain ⟨h1,G1⟩:=h.upB b1 g1;rw [<- xcl]at e242;rw [if_pos f6];refine ⟨S1,L,R,?_,h1,G1,rfl⟩;rw [f6]at e241 e73c ⊢;simp [jV,qo,e239,xc,e84,hat,e82,htg,n1,e84s,e241,h.at_.users,e242,e73c]
    ·rw [if_neg f6];refine ⟨S,L,R,?_,h,Chg.refl,rfl⟩;simp [jV,qo,e239,xc,e84,hat,e82,htg,n1,e84s,e241,f0,f6,e73c]
   rw [if_pos f0];rw [f0]at e241;have e243:=fun S=>@zcy S p xp;have w1:IntKind.i64.wrap (now+100)=now+100:=w64 (by omega);have w2:IntKind.i64.wrap (now+100+1)=now+100+1:=w64 (by omega);obtain ⟨S1,ids1,cv1,e56,c1,g1⟩:=Rf.cSeen (t:=now+100+1) (now:=now) (id:=p.txt) h.c hK.cache;have ssm:smE (Rf.seenR K.room K.cache p.txt (now+100+1) now).1:=zrX;generalize Rf.seenR K.room K.cache p.txt (now+100+1) now=q at *;obtain ⟨h1,G1⟩:=h.upC c1 g1;generalize hL1:({L with ids:=ids1,cv:=cv1}:Loc)=L1 at *;unfold Kd.reqS;have hcc:=h.at_.cch;by_cases q0:q.1=0
   case neg=>
    rw [if_neg q0];have e73c:=fun S=>e73 S q.1 ssm;refine ⟨S1,L1,R,?_,h1,G1,rfl⟩;simp [jV,qo,e239,xc,e84,hat,e82,htg,n1,e84s,e241,e243,w1,w2,hcc,e56,q0,e73c]
   rw [if_pos q0];rw [q0]at e56;by_cases no:nx=zG
   case neg=>
    have no':(nx=⟨#[111,116,112]⟩)=False:=eq_false no;rw [if_neg no];obtain ⟨v1,S3',id,S3,a1,a2,a3,a4,a5,a6,a7,a8,a9⟩:=@zmg S1 x.c.done nx h1.hS xk.done;obtain ⟨h3,G3⟩:=h1.same a7 a8 a9;have G3:=G1.trans G3;have hid:¬yK k L1 id:=fun e=>by have:=h1.own_lt e;omega
    have hD:DV S3 (yK k L1) (.arr id 1 0 (x.c.done++[nx]).length none) (x.more nx).c.done:=.inr ⟨id,rfl,a4,a6,hid⟩;have hsd:List.take 8 (x.cells (zB x.c.done))++.arr id 1 0 (x.c.done++[nx]).length none::List.drop 9 (x.cells (zB x.c.done))=(x.more nx).cells (.arr id 1 0 (x.c.done++[nx]).length none):=rfl;have xc3:((x.more nx).cells (.arr id 1 0 (x.c.done++[nx]).length none)).all AV.isCell=true:=Tlk.cell rfl;have t8:List.take 1 (List.drop 8 ((x.more nx).cells (.arr id 1 0 (x.c.done++[nx]).length none)))=[.arr id 1 0 (x.c.done++[nx]).length none]:=rfl;have t17:List.take 1 (List.drop 17 ((x.more nx).cells (.arr id 1 0 (x.c.done++[nx]).length none)))=[zB x.u.set]:=rfl;have t29:List.take 29 ((x.more nx).cells (.arr id 1 0 (x.c.done++[nx]).length none))=(x.more nx).cells (.arr id 1 0 (x.c.done++[nx]).length none):=rfl;have l29:((x.more nx).cells (.arr id 1 0 (x.c.done++[nx]).length none)).length=29:=rfl;have xk3:(x.more nx).okk:=⟨xk.client,xk.nonce,by show (x.c.done++[nx]).length <=1000;rw [xu]at hlt;simp;omega,fun s hs=>(List.mem_append.1 hs).elim (xk.names s) fun hs=>by rw [List.mem_singleton.1 hs];exact hK.names nx hnxm,xk.now⟩;unfold Kd.reqD;by_cases hm:(x.more nx).c.done.length=(x.more nx).u.set.length
    ·rw [if_pos hm];obtain ⟨S4,v4,e245,h4,G4⟩:=zkC h3 (by have:=hK.n;show 0 <=K.n /\ K.n < _;omega) hR xk3 hD (xcl:(x.more nx).c.client=K.u.name) (base:=c.1);refine ⟨S4,{L1 with iv:=v4},_,?_,h4,G3.trans G4,⟨id,rfl,?_,?_,?_,?_⟩⟩
     ·have hm':(x.c.done++[nx]).length=x.u.set.length:=hm;generalize (x.c.done++[nx]).length=m at *;have hmI:((m:Int)=(x.u.set.length:Int))=True:=eq_true (by rw [hm']);clear hm';generalize (x.more nx).cells (.arr id 1 0 m none)=X3 at *;simp [jV,qo,e239,xc,e84,hat,e82,htg,n1,e84s,e241,e243,w1,w2,hcc,e56,no',zw,a1,a2,a3,hsd,xc3,t8,t17,t29,l29,hmI,e245]
     ·exact (G4.2.2 id a6 hid).1.trans a4
     ·have:=G1.2.1;omega
     ·have:=G4.2.1;omega
     ·exact (G4.2.2 id a6 hid).2
    ·rw [if_neg hm];have hlt3:(x.more nx).c.done.length < (x.more nx).u.set.length:=by have:(x.more nx).c.done.length=x.c.done.length+1:=by {show (x.c.done++[nx]).length=_;simp};have:(x.more nx).u.set.length=x.u.set.length:=rfl;omega
     obtain ⟨nx3,hnx3⟩:∃nx3,(x.more nx).u.set[(x.more nx).c.done.length]?=some nx3:=⟨(x.more nx).u.set[(x.more nx).c.done.length],by simp [hlt3]⟩;simp only [hnx3];obtain ⟨S4,e240,h4,G4⟩:=zjj h3 (by have:=hK.n;show 0 <=K.n /\ K.n < _;omega) hK.cookies xk3 hD hnx3;refine ⟨S4,L1,R,?_,h4,G3.trans G4,rfl⟩;have hm':¬(x.c.done++[nx]).length=x.u.set.length:=hm;generalize (x.c.done++[nx]).length=m at *;have hmI:((m:Int)=(x.u.set.length:Int))=False:=eq_false (by omega);generalize (x.more nx).cells (.arr id 1 0 m none)=X3 at *;simp [jV,qo,e239,xc,e84,hat,e82,htg,n1,e84s,e241,e243,w1,w2,hcc,e56,no',zw,a1,a2,a3,hsd,xc3,t8,t17,t29,l29,hmI,e240]
   have no':(nx=⟨#[111,116,112]⟩)=True:=eq_true no;rw [if_pos no];have hus1:∀d rg,za (.ld none 1 false) d rg S1 [.ptr k 0 6]=some (.ptr L.kb 0 0,none,S1):=by have:=h1.at_.users;rw [<- hL1]at this;exact this
   have b1:IsB S1 L.kb L.ub K.u:=by have:=h1.b;rw [<- hL1]at this;exact this
   obtain ⟨S2,e244,b2,g2⟩:=zAL b1 (l:=c.2.1) hcl hK.tok;have hLk:L1.kb=L.kb:=by rw [<- hL1]
   have hLu:L1.ub=L.ub:=by rw [<- hL1]
   rw [<- hLk,<- hLu]at b2 g2;obtain ⟨h2,G2⟩:=h1.upB b2 g2;have G2:=G1.trans G2;rw [<- xcl]at e244;unfold Kd.reqO;show ∃S' L' R',_=some (AV.agg (if 5 <=K.u.fails then _ else _:T×Kd×Isd).1.cells,S') /\ _;by_cases h5:5 <=K.u.fails
   case pos=>
    rw [if_pos h5]at e244 h2 ⊢;have e73c:∀S,call 73 [AV.i 7] S=some (AV.agg (qp 7).cells,S):=fun S=>e73 S 7 (by simp [smE]);refine ⟨S2,L1,R,?_,h2,G2,rfl⟩;simp [jV,qo,e239,xc,e84,hat,e82,htg,n1,e84s,e241,e243,w1,w2,hcc,e56,no',hus1,e244,e73c]
   rw [if_neg h5]at e244 h2 ⊢;have asm:smE (K.u.tok.accept c.2.1).2.2:=zDa;generalize K.u.tok.accept c.2.1=a at *;by_cases a0:a.2.2=0
   case neg=>
    rw [if_neg a0];have e73c:=fun S=>e73 S a.2.2 asm;refine ⟨S2,L1,R,?_,h2,G2,rfl⟩;simp [jV,qo,e239,xc,e84,hat,e82,htg,n1,e84s,e241,e243,w1,w2,hcc,e56,no',hus1,e244,a0,e73c]
   rw [if_pos a0];rw [a0]at e244;obtain ⟨v1,S3',id,S3,a1,a2,a3,a4,a5,a6,a7,a8,a9⟩:=@zmg S2 x.c.done nx h2.hS xk.done;obtain ⟨h3,G3⟩:=h2.same a7 a8 a9;have G3:=G2.trans G3;have hid:¬yK k L1 id:=fun e=>by have:=h2.own_lt e;omega
   have hD:DV S3 (yK k L1) (.arr id 1 0 (x.c.done++[nx]).length none) (x.more nx).c.done:=.inr ⟨id,rfl,a4,a6,hid⟩;have hsd:List.take 8 (x.cells (zB x.c.done))++.arr id 1 0 (x.c.done++[nx]).length none::List.drop 9 (x.cells (zB x.c.done))=(x.more nx).cells (.arr id 1 0 (x.c.done++[nx]).length none):=rfl;have xc3:((x.more nx).cells (.arr id 1 0 (x.c.done++[nx]).length none)).all AV.isCell=true:=Tlk.cell rfl;have t8:List.take 1 (List.drop 8 ((x.more nx).cells (.arr id 1 0 (x.c.done++[nx]).length none)))=[.arr id 1 0 (x.c.done++[nx]).length none]:=rfl;have t17:List.take 1 (List.drop 17 ((x.more nx).cells (.arr id 1 0 (x.c.done++[nx]).length none)))=[zB x.u.set]:=rfl;have t29:List.take 29 ((x.more nx).cells (.arr id 1 0 (x.c.done++[nx]).length none))=(x.more nx).cells (.arr id 1 0 (x.c.done++[nx]).length none):=rfl;have l29:((x.more nx).cells (.arr id 1 0 (x.c.done++[nx]).length none)).length=29:=rfl;have xk3:(x.more nx).okk:=⟨xk.client,xk.nonce,by show (x.c.done++[nx]).length <=1000;rw [xu]at hlt;simp;omega,fun s hs=>(List.mem_append.1 hs).elim (xk.names s) fun hs=>by rw [List.mem_singleton.1 hs];exact hK.names nx hnxm,xk.now⟩;unfold Kd.reqD;by_cases hm:(x.more nx).c.done.length=(x.more nx).u.set.length
   ·rw [if_pos hm];obtain ⟨S4,v4,e245,h4,G4⟩:=zkC h3 (by have:=hK.n;show 0 <=K.n /\ K.n < _;omega) hR xk3 hD (xcl:(x.more nx).c.client=K.u.name) (base:=c.1);refine ⟨S4,{L1 with iv:=v4},_,?_,h4,G3.trans G4,⟨id,rfl,?_,?_,?_,?_⟩⟩
    ·have hm':(x.c.done++[nx]).length=x.u.set.length:=hm;generalize (x.c.done++[nx]).length=m at *;have hmI:((m:Int)=(x.u.set.length:Int))=True:=eq_true (by rw [hm']);clear hm';generalize (x.more nx).cells (.arr id 1 0 m none)=X3 at *;simp [jV,qo,e239,xc,e84,hat,e82,htg,n1,e84s,e241,e243,w1,w2,hcc,e56,no',hus1,e244,zw,a1,a2,a3,hsd,xc3,t8,t17,t29,l29,hmI,e245]
    ·exact (G4.2.2 id a6 hid).1.trans a4
    ·have:=G2.2.1;omega
    ·have:=G4.2.1;omega
    ·exact (G4.2.2 id a6 hid).2
   ·rw [if_neg hm];have hlt3:(x.more nx).c.done.length < (x.more nx).u.set.length:=by have:(x.more nx).c.done.length=x.c.done.length+1:=by {show (x.c.done++[nx]).length=_;simp};have:(x.more nx).u.set.length=x.u.set.length:=rfl;omega
    obtain ⟨nx3,hnx3⟩:∃nx3,(x.more nx).u.set[(x.more nx).c.done.length]?=some nx3:=⟨(x.more nx).u.set[(x.more nx).c.done.length],by simp [hlt3]⟩;simp only [hnx3];obtain ⟨S4,e240,h4,G4⟩:=zjj h3 (by have:=hK.n;show 0 <=K.n /\ K.n < _;omega) hK.cookies xk3 hD hnx3;refine ⟨S4,L1,R,?_,h4,G3.trans G4,rfl⟩;have hm':¬(x.c.done++[nx]).length=x.u.set.length:=hm;generalize (x.c.done++[nx]).length=m at *;have hmI:((m:Int)=(x.u.set.length:Int))=False:=eq_false (by omega);generalize (x.more nx).cells (.arr id 1 0 m none)=X3 at *;simp [jV,qo,e239,xc,e84,hat,e82,htg,n1,e84s,e241,e243,w1,w2,hcc,e56,no',hus1,e244,zw,a1,a2,a3,hsd,xc3,t8,t17,t29,l29,hmI,e240]
end
def Cl.new (name:ByteArray) (pass seed:T) (counter:Int) (ticket host:T):Cl:=
 {on:=false,done:=false,ended:=false,nonce:=⟨#[]⟩,body:=tZ,wrap:=tZ,ak:=tZ,base:=tZ,session:=tZ,name:=name,pass:=pass,seed:=seed,counter:=counter,ticket:=ticket,host:=host,key:=y5 pass name,marks:=[],z1:=true,z2:=true,z3:=true}
def vG (name:ByteArray) (pass seed:T) (counter:Int) (ticket host:T):List AV:=
 .sc (.string name)::(pass.cells++(seed.cells++(.sc (.int .i64 counter)::(ticket.cells++host.cells))))
theorem zn9 {name:ByteArray} {pass seed ticket host:T} {counter:Int}:vG name pass seed counter ticket host=[.sc (.string name),.sc (.int .i64 pass.kind),.sc (.string pass.name),zf pass.kids,.sc (.int .i64 seed.kind),.sc (.string seed.name),zf seed.kids,.sc (.int .i64 counter),
 .sc (.int .i64 ticket.kind),.sc (.string ticket.name),zf ticket.kids,.sc (.int .i64 host.kind),.sc (.string host.name),zf host.kids]:=by
 unfold vG;rw [zu pass,zu seed,zu ticket,zu host];rfl
theorem zBn {S:AS} {o:jb} {cols:List Nat}:Frm cols S (S.new o):=by
 intro id q hid ho;have e:(S.new o).heap id=S.heap id:=if_neg (by omega);cases q with
 |map es=>exact e.trans ho
 |rows z rs=>exact ⟨rs,e.trans ho,fun r cs hc=>⟨cs,hc,rfl,fun _ _=>rfl⟩⟩
section
variable {S:AS}
theorem zDZ {name:ByteArray} {pass seed ticket host:T} {counter:Int} (hS:S.ro <=S.n) (hn:name.size <=4611686018427387904):
 ∃S',call 204 [.agg (vG name pass seed counter ticket host)] S=some (.ptr S.n 0 0,S') /\ yq S' S.n (Cl.new name pass seed counter ticket host) (.lst 0 true []) /\ Chg S S' (fun _=>False) (jH S.n (.lst 0 true [])):=by
 obtain ⟨c,hc⟩:∃c,c=Cl.new name pass seed counter ticket host:=⟨_,rfl⟩;refine ⟨S.new (.rows 37 [c.row (.lst 0 true [])]),?_,?_,?_⟩
 ·have e200:=fun S=>@zAI S pass name hn;refine zzo zlN.1 zlN.2.1 zlN.2.2 (by simp) (by show 1 <=11;omega) ?_ zBn;have d:=@zn9 name pass seed ticket host counter;have t1:((vG name pass seed counter ticket host).drop 1).take 3=pass.cells:=by rw [d,<- tri pass];rfl
  have t0:(vG name pass seed counter ticket host).take 1=[.sc (.string name)]:=by rw [d];rfl
  have t14:(vG name pass seed counter ticket host).take 14=vG name pass seed counter ticket host:=by rw [d];rfl
  have hl:(vG name pass seed counter ticket host).length=14:=by rw [d];rfl
  have hcell:(vG name pass seed counter ticket host).all AV.isCell=true:=by rw [d];rfl
  have hcell':∀x∈vG name pass seed counter ticket host,x.isCell=true:=List.all_eq_true.1 hcell;have hb:pev (.build [.b false,.b false,.b false,.s ⟨#[]⟩,.i 0,.s ⟨#[]⟩,.lst 0 true [],.i 0,.s ⟨#[]⟩,.lst 0 true [],.i 0,.s ⟨#[]⟩,.lst 0 true [],.i 0,.s ⟨#[]⟩,.lst 0 true [],.i 0,.s ⟨#[]⟩,.lst 0 true [],.s ⟨#[]⟩,.i 0,.s ⟨#[]⟩,.lst 0 true [],.i 0,.s ⟨#[]⟩,.lst 0 true [],.i 0,.i 0,.s ⟨#[]⟩,.lst 0 true [],.i 0,.s ⟨#[]⟩,.lst 0 true [],.i 0,.s ⟨#[]⟩,.lst 0 true [],.lst 0 true []] [(19,14),(33,3)])
   [.agg (vG name pass seed counter ticket host),.agg (y5 pass name).cells]=some (.agg (c.row (.lst 0 true []))):=by
   rw [d,zu (y5 pass name),hc];rfl
  have hbx:∀d rg,za (.box .heap) d rg S [.agg (c.row (.lst 0 true []))]=some (.ptr S.n 0 0,none,S.new (.rows 37 [c.row (.lst 0 true [])])):=fun d rg=>by
   rw [hc];rfl
  generalize vG name pass seed counter ticket host=q at *;generalize c.row (.lst 0 true [])=r at *;have t1':(q.tail).take 3=pass.cells:=by rw [<- List.drop_one];exact t1
  simp [ziS,zpq,t0,t1,t1',t14,hl,hcell,hcell',e200,hb,hbx]
 ·rw [<- hc];exact ⟨jw,.inl ⟨by rw [hc];rfl,rfl⟩,hS,Nat.lt_succ_self _,by rintro ⟨a,b,c,d,e⟩;cases e⟩
 ·refine ⟨rfl,Nat.le_succ _,fun x hx _=>⟨if_neg (by omega),?_⟩⟩;rintro (e|⟨a,b,c,d,e⟩)
  ·omega
  ·cases e
end
end Abs
