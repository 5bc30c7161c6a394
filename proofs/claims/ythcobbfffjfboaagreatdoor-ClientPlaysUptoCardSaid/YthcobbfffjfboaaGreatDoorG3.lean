/- Rows of numbers in memory: DeleteFunc, Compact. -/
import Derived.Test.YthcobbfffjfboaaGreatDoorG2
import Derived.Test.YthcobbfffjfboaaGreatDoorG1
set_option linter.unusedVariables false
set_option linter.unusedSimpArgs false
set_option linter.unusedSectionVars false
namespace Abs
open Go
section
variable {S:AS} {id:Nat} {m:List Int}
end
section
variable {S:AS} {id:Nat} {m:List Int}
end
structure Tk where
 counter:Int
 look:Int
 sync:Int
 pending:Int
 fails:Int
 limit:Int
def Tk.cells (t:Tk):List AV:=[.sc (.int .i64 t.counter),.sc (.int .i64 t.look),.sc (.int .i64 t.sync),.sc (.int .i64 t.pending),.sc (.int .i64 t.fails),.sc (.int .i64 t.limit)]
@[simp] theorem Tk.nrm {t:Tk}:nrmL t.cells=t.cells:=by simp [Tk.cells]
@[simp] theorem Tk.len {t:Tk}:t.cells.length=6:=rfl
@[simp] theorem Tk.t0 {t:Tk}:t.cells.take 1=[.sc (.int .i64 t.counter)]:=rfl
@[simp] theorem Tk.t1 {t:Tk}:(t.cells.drop 1).take 1=[.sc (.int .i64 t.look)]:=rfl
@[simp] theorem Tk.t1' {t:Tk}:t.cells.tail.take 1=[.sc (.int .i64 t.look)]:=rfl
@[simp] theorem Tk.t2 {t:Tk}:(t.cells.drop 2).take 1=[.sc (.int .i64 t.sync)]:=rfl
@[simp] theorem Tk.t3 {t:Tk}:(t.cells.drop 3).take 1=[.sc (.int .i64 t.pending)]:=rfl
@[simp] theorem Tk.t6 {t:Tk}:t.cells.take 6=t.cells:=rfl
theorem Tk.cell {t:Tk}:t.cells.all AV.isCell=true:=rfl
@[simp] theorem Tk.cell' {t:Tk}:(∀v:AV,v∈t.cells→v.isCell=true)=True:=eq_true (List.all_eq_true.1 Tk.cell)
def inB (n a b:Int):Bool:=decide (a≤n) && decide (n≤b)
def Tk.right (t:Tk):Bool:=inB t.counter 0 1099511627776 && (inB t.look 0 20 && (inB t.sync 0 50 && (inB t.pending 0 1099511627976 && (decide (0≤t.fails) && inB t.limit 1 100))))
def rng (c:Int) (n:Nat):List Int:=(List.range n).map fun (i:Nat)=>c+(i:Int)
theorem rng_len {c:Int} {n:Nat}:(rng c n).length=n:=by simp [rng]
theorem rng_succ {c:Int} {n:Nat}:rng c (n+1)=rng c n++[c+(n:Int)]:=by simp [rng,List.range_succ]
theorem rng_mem {c x:Int} {n:Nat}:x∈rng c n↔c≤x∧x < c+(n:Int):=by
 simp only [rng,List.mem_map,List.mem_range]
 constructor
 ·rintro ⟨i,hi,rfl⟩;omega
 ·rintro ⟨h1,h2⟩;exact ⟨(x - c).toNat,by omega,by omega⟩
section
variable {S:AS}
end
def resH (r:List Int×Int):AV:=.tup [lstI r.1,.sc (.int .i64 r.2)]
section
variable {S:AS}
theorem opev_appB {sz bytes:Nat} {S:AS} {s x:AV} {d:Option Nat} {rg:Nat→Option (List AV)} {v:AV} {S':AS} {ys:List (List AV)} (hy:rowsOf sz S x=some ys) (h:opev (.append sz bytes) d rg S [s,x]=some (v,none,S')):appendA sz bytes S s ys=some (v,S'):=by
 simp only [opev,hy,Option.bind_some,Option.map_eq_some_iff]at h
 obtain ⟨r,h1,h2⟩:=h
 cases h2;exact h1
theorem inI_of {x:Int} (h:0≤x∧x≤4611686018427387904):inI x:=by unfold inI;omega
theorem Tk.right_iff {t:Tk}:t.right=true↔(0≤t.counter∧t.counter≤1099511627776)∧(0≤t.look∧t.look≤20)∧(0≤t.sync∧t.sync≤50)∧(0≤t.pending∧t.pending≤1099511627976)∧0≤t.fails∧1≤t.limit∧t.limit≤100:=by
 unfold Tk.right inB
 simp only [Bool.and_eq_true,decide_eq_true_eq]
theorem iRow_snoc {l:List Int} {x:Int}:iRow (l++[x])=iRow l++[[.sc (.int .i64 x)]]:=by simp [iRow]
end
section
variable {S:AS}
set_option maxHeartbeats 4000000 in
theorem s421 {t:Tk}:call 421 [.agg t.cells] S=some (.sc (.bool t.right),S):=by
 rw [call_calm a421 rfl (by simp) rfl]
 unfold Tk.right inB
 have t4:(t.cells.drop 4).take 1=[.sc (.int .i64 t.fails)]:=rfl
 have t5:(t.cells.drop 5).take 1=[.sc (.int .i64 t.limit)]:=rfl
 have t5':t.cells.drop 5=[.sc (.int .i64 t.limit)]:=rfl
 by_cases h0:0≤t.counter
 ·by_cases h1:t.counter≤1099511627776
  ·by_cases h2:0≤t.look
   ·by_cases h3:t.look≤20
    ·by_cases h4:0≤t.sync
     ·by_cases h5:t.sync≤50
      ·by_cases h6:0≤t.pending
       ·by_cases h7:t.pending≤1099511627976
        ·by_cases h8:0≤t.fails
         ·by_cases h9:1≤t.limit
          ·simp [f421,f421b,h0,h1,h2,h3,h4,h5,h6,h7,h8,h9,t4,t5,t5']
          ·simp [f421,f421b,h0,h1,h2,h3,h4,h5,h6,h7,h8,h9,t4,t5,t5']
         ·simp [f421,f421b,h0,h1,h2,h3,h4,h5,h6,h7,h8,t4,t5,t5']
        ·simp [f421,f421b,h0,h1,h2,h3,h4,h5,h6,h7]
       ·simp [f421,f421b,h0,h1,h2,h3,h4,h5,h6]
      ·simp [f421,f421b,h0,h1,h2,h3,h4,h5]
     ·simp [f421,f421b,h0,h1,h2,h3,h4]
    ·simp [f421,f421b,h0,h1,h2,h3]
   ·simp [f421,f421b,h0,h1,h2]
  ·simp [f421,f421b,h0,h1]
 ·simp [f421,f421b,h0]
end
@[simp] theorem Tk.frz {S:AS} {b d:Nat} {t:Tk}:mapO (S.frzTo b d) t.cells=some t.cells:=by cases d<;>rfl
@[simp] theorem Tk.pure {t:Tk}:pureL t.cells=true:=rfl
def lst1 (f t b h:Int):Int:=if (f≤h∧h≤t)∧h < 1099511627776∧(b < 0∨h < b) then h else b
def leastP (l:List Int) (f t:Int):Int:=l.foldl (lst1 f t) (-1)
def Tk.reach (t:Tk):Int×Int:=if t.right then (t.counter,max (t.counter+t.look+t.sync) t.pending) else (0,-1)
def Tk.acc0 (t:Tk) (l:List Int):Int:=if leastP l t.counter (t.counter+t.look) < 0∧t.counter+t.look < t.pending then leastP l t.pending t.pending else leastP l t.counter (t.counter+t.look)
def Tk.accept (t:Tk) (l:List Int):Tk×Int×Int:=
 if t.right then
  if t.limit≤t.fails then (t,0,7)
  else if 0≤t.acc0 l then ({t with counter:=t.acc0 l+1,pending:=0,fails:=0},t.acc0 l,0)
  else if 0≤leastP l (t.counter+t.look+1) (t.counter+t.look+t.sync) then ({t with fails:=t.fails+1,pending:=leastP l (t.counter+t.look+1) (t.counter+t.look+t.sync)+1},0,8)
  else ({t with fails:=t.fails+1,pending:=0},0,6)
 else (t,0,1)
section
variable {S:AS}
theorem s418 {t:Tk}:call 418 [.agg t.cells] S=some (.tup [.sc (.int .i64 t.reach.1),.sc (.int .i64 t.reach.2)],S):=by
 rw [call_calm a418 rfl (by simp) rfl]
 have e:=fun S=>@s421 S t
 unfold Tk.reach
 cases hr:t.right with
 |false=>rw [hr]at e;simp [f418,f418b,e]
 |true=>
  rw [hr]at e
  have h:=Tk.right_iff.1 hr
  have w1:IntKind.i64.wrap (t.counter+t.look)=t.counter+t.look:=w64 (by omega)
  have w2:IntKind.i64.wrap (t.counter+t.look+t.sync)=t.counter+t.look+t.sync:=w64 (by omega)
  simp [f418,f418b,e,w1,w2]
theorem s422 {l:List Int} {f t:Int} (hl:l.length≤4611686018427387904):call 422 [lstI l,.sc (.int .i64 f),.sc (.int .i64 t)] S=some (.sc (.int .i64 (leastP l f t)),S):=by
 rw [call_calm a422 rfl (by simp) rfl]
 simp only [f422]
 simp [-calmR_some,f422b]
 refine loop_gen (α:=Nat) (R:=fun _ r=>calmR S r=some (.sc (.int .i64 (leastP l f t)),S)) (fun i e rg S'=>i≤l.length∧e 0=lstI l∧e 1=.sc (.int .i64 f)∧e 2=.sc (.int .i64 t)∧e 7=.sc (.int .i64 (leastP (l.take i) f t))∧e 8=.sc (.int .i64 (i:Nat))) (fun i=>l.length - i) ?_ 0 _ _ _ ?_
 rotate_left
 ·exact ⟨by omega,by simp,by simp,by simp,by simp [leastP],by simp⟩
 intro kk hkk i e rg S' ⟨hi,h0,h1,h2,h7,h8⟩ ih
 by_cases hc:i < l.length
 ·obtain ⟨x,hx⟩:∃x,l[i]?=some x:=⟨l[i],by simp [hc]⟩
  have w2:IntKind.i64.wrap ((i:Int)+1)=((i+1:Nat):Int):=w64 (by omega)
  have hci:(i:Int) < (l.length:Int):=by omega
  have hst:leastP (l.take (i+1)) f t=lst1 f t (leastP (l.take i) f t) x:=by
   unfold leastP
   rw [List.take_add_one,hx,Option.toList_some,List.foldl_append];rfl
  have hat:=@lstI_at l i x hx
  have hat2:=hat
  generalize leastP (l.take i) f t=b at *
  have step:∀v:Int,lst1 f t b x=v→∀(e':Nat→AV) (rg':Nat→Option (List AV)) (S':AS),e' 0=lstI l→e' 1=.sc (.int .i64 f)→e' 2=.sc (.int .i64 t)→e' 7=.sc (.int .i64 v)→e' 8=.sc (.int .i64 ((i:Int)+1))→
   calmR S (fin [ARes.tmp 6] (unw AA (some (.normal,st 53 e' rg' S')) kk))=some (.sc (.int .i64 (leastP l f t)),S):=by
   intro v hv e' rg' S' k0 k1 k2 k7 k8
   exact ih (i+1) e' rg' S' (by omega) (fun _ h=>h) ⟨by omega,k0,k1,k2,by rw [k7,hst,hv],by rw [k8];rfl⟩
  unfold lst1 at step
  by_cases c1:f≤x
  ·by_cases c2:x≤t
   ·by_cases c3:x < 1099511627776
    ·by_cases c4:b < 0
     ·simp [-calmR_some,f422_l0,h0,h1,h2,h7,h8,hci,hat,c1,c2,c3,c4,w2]
      exact step x (if_pos ⟨⟨c1,c2⟩,c3,.inl c4⟩) _ _ _ (by simp [h0]) (by simp [h1]) (by simp [h2]) (by simp) (by simp)
     ·by_cases c5:x < b
      ·simp [-calmR_some,f422_l0,h0,h1,h2,h7,h8,hci,hat,c1,c2,c3,c4,c5,w2]
       exact step x (if_pos ⟨⟨c1,c2⟩,c3,.inr c5⟩) _ _ _ (by simp [h0]) (by simp [h1]) (by simp [h2]) (by simp) (by simp)
      ·simp [-calmR_some,f422_l0,h0,h1,h2,h7,h8,hci,hat,c1,c2,c3,c4,c5,w2]
       exact step b (if_neg (by rintro ⟨_,_,h|h⟩<;>omega)) _ _ _ (by simp [h0]) (by simp [h1]) (by simp [h2]) (by simp [h7]) (by simp)
    ·simp [-calmR_some,f422_l0,h0,h1,h2,h7,h8,hci,hat,c1,c2,c3,w2]
     exact step b (if_neg (by rintro ⟨_,h,_⟩;omega)) _ _ _ (by simp [h0]) (by simp [h1]) (by simp [h2]) (by simp [h7]) (by simp)
   ·simp [-calmR_some,f422_l0,h0,h1,h2,h7,h8,hci,hat,c1,c2,w2]
    exact step b (if_neg (by rintro ⟨⟨_,h⟩,_⟩;omega)) _ _ _ (by simp [h0]) (by simp [h1]) (by simp [h2]) (by simp [h7]) (by simp)
  ·simp [-calmR_some,f422_l0,h0,h1,h2,h7,h8,hci,hat,c1,w2]
   exact step b (if_neg (by rintro ⟨⟨h,_⟩,_⟩;omega)) _ _ _ (by simp [h0]) (by simp [h1]) (by simp [h2]) (by simp [h7]) (by simp)
 ·have hi':i=l.length:=by omega
  subst hi'
  rw [List.take_length]at h7
  simp [-calmR_some,f422_l0,h0,h8]
  rw [hkk]
  simp [h7]
theorem leastP_le {l:List Int} {f t:Int} (hf:0≤f):leastP l f t= -1∨(f≤leastP l f t∧leastP l f t≤t∧leastP l f t < 1099511627776):=by
 unfold leastP
 have:∀(l:List Int) (b:Int),(b= -1∨(f≤b∧b≤t∧b < 1099511627776))→(l.foldl (lst1 f t) b= -1∨(f≤l.foldl (lst1 f t) b∧l.foldl (lst1 f t) b≤t∧l.foldl (lst1 f t) b < 1099511627776)):=by
  intro l
  induction l with
  |nil=>intro b h;exact h
  |cons x l ih=>
   intro b h
   rw [List.foldl_cons]
   refine ih _ ?_
   unfold lst1
   split
   ·rename_i h';exact .inr ⟨h'.1.1,h'.1.2,h'.2.1⟩
   ·exact h
 exact this l (-1) (.inl rfl)
def resK (r:Tk×Int×Int):AV:=.tup [.agg r.1.cells,.sc (.int .i64 r.2.1),.sc (.int .i64 r.2.2)]
theorem s348 {t:Tk} {l:List Int} (hl:l.length≤4611686018427387904) (hf:t.fails < 4611686018427387904):call 348 [.agg t.cells,lstI l] S=some (resK (t.accept l),S):=by
 rw [call_calm a348 rfl (by simp) rfl]
 have e:=fun S=>@s421 S t
 unfold Tk.accept
 have t4:(t.cells.drop 4).take 1=[.sc (.int .i64 t.fails)]:=rfl
 have t5:(t.cells.drop 5).take 1=[.sc (.int .i64 t.limit)]:=rfl
 have t5':t.cells.drop 5=[.sc (.int .i64 t.limit)]:=rfl
 cases hr:t.right with
 |false=>rw [hr]at e;simp [f348,f348b,e,resK]
 |true=>
  rw [hr]at e
  rw [if_pos rfl]
  have h:=Tk.right_iff.1 hr
  by_cases hlk:t.limit≤t.fails
  ·rw [if_pos hlk]
   simp [f348,f348b,e,t4,t5,t5',hlk,resK]
  ·rw [if_neg hlk]
   have w1:IntKind.i64.wrap (t.counter+t.look)=t.counter+t.look:=w64 (by omega)
   have e1:=fun S=>@s422 S l t.counter (t.counter+t.look) hl
   have e2:=fun S=>@s422 S l t.pending t.pending hl
   have e3:=fun S=>@s422 S l (t.counter+t.look+1) (t.counter+t.look+t.sync) hl
   have b1:=@leastP_le l t.counter (t.counter+t.look) (by omega)
   have b2:=@leastP_le l t.pending t.pending (by omega)
   have b3:=@leastP_le l (t.counter+t.look+1) (t.counter+t.look+t.sync) (by omega)
   have w3:IntKind.i64.wrap (t.counter+t.look+1)=t.counter+t.look+1:=w64 (by omega)
   have w4:IntKind.i64.wrap (t.counter+t.look+t.sync)=t.counter+t.look+t.sync:=w64 (by omega)
   have w6:IntKind.i64.wrap (t.fails+1)=t.fails+1:=w64 (by omega)
   unfold Tk.acc0
   generalize leastP l t.counter (t.counter+t.look)=L1 at *
   generalize leastP l t.pending t.pending=L2 at *
   generalize leastP l (t.counter+t.look+1) (t.counter+t.look+t.sync)=L3 at *
   have w7:IntKind.i64.wrap (L1+1)=L1+1:=w64 (by omega)
   have w8:IntKind.i64.wrap (L2+1)=L2+1:=w64 (by omega)
   have w9:IntKind.i64.wrap (L3+1)=L3+1:=w64 (by omega)
   unfold resK Tk.cells at *
   have hA0:∃A,A=(if L1 < 0∧t.counter+t.look < t.pending then L2 else L1):=⟨_,rfl⟩
   obtain ⟨A,hA⟩:=hA0
   rw [←hA]
   have body:∀(cA:(L1 < 0∧t.counter+t.look < t.pending∧A=L2)∨(L1 < 0∧¬t.counter+t.look < t.pending∧A=L1)∨(¬L1 < 0∧A=L1)),True:=fun _=>trivial
   have cA:(L1 < 0∧t.counter+t.look < t.pending∧A=L2)∨(L1 < 0∧¬t.counter+t.look < t.pending∧A=L1)∨(¬L1 < 0∧A=L1):=by
    by_cases h1:L1 < 0
    ·by_cases h2:t.counter+t.look < t.pending
     ·exact .inl ⟨h1,h2,by rw [hA,if_pos ⟨h1,h2⟩]⟩
     ·exact .inr (.inl ⟨h1,h2,by rw [hA,if_neg (fun h=>h2 h.2)]⟩)
    ·exact .inr (.inr ⟨h1,by rw [hA,if_neg (fun h=>h1 h.1)]⟩)
   clear hA body
   have wA:IntKind.i64.wrap (A+1)=A+1:=w64 (by omega)
   by_cases hA0:0≤A
   ·rw [if_pos hA0]
    rcases cA with ⟨c1,c2,rfl⟩|⟨c1,c2,rfl⟩|⟨c1,rfl⟩
    ·simp [f348,f348b,e,hlk,w1,e1,e2,c1,c2,hA0,wA]
    ·omega
    ·simp [f348,f348b,e,hlk,w1,e1,c1,hA0,wA]
   ·rw [if_neg hA0]
    by_cases h3:0≤L3
    ·rw [if_pos h3]
     rcases cA with ⟨c1,c2,rfl⟩|⟨c1,c2,rfl⟩|⟨c1,rfl⟩
     ·simp [f348,f348b,e,hlk,w1,e1,e2,e3,c1,c2,hA0,w3,w4,w6,w9,h3]
     ·simp [f348,f348b,e,hlk,w1,e1,e3,c1,c2,hA0,w3,w4,w6,w9,h3]
     ·omega
    ·rw [if_neg h3]
     rcases cA with ⟨c1,c2,rfl⟩|⟨c1,c2,rfl⟩|⟨c1,rfl⟩
     ·simp [f348,f348b,e,hlk,w1,e1,e2,e3,c1,c2,hA0,w3,w4,w6,w9,h3]
     ·simp [f348,f348b,e,hlk,w1,e1,e3,c1,c2,hA0,w3,w4,w6,w9,h3]
     ·omega
end
instance:DecidableEq T:=fun a b=>decidable_of_iff (a.same b=true) T.same_iff
theorem same_ne {a b:T} (h:a≠b):a.same b=false:=by rw [Bool.eq_false_iff];exact fun e=>h (T.same_iff.1 e)
theorem app_inj {p x y:ByteArray} (h:p++x=p++y):x=y:=by
 have:=congrArg (fun b=>b.data.toList) h
 simp only [ByteArray.data_append,Array.toList_append,List.append_cancel_left_eq]at this
 exact ba_data this
theorem tHash_inj {a b:T}:tHash a=tHash b↔a=b:=by simp [tHash]
theorem tKdf_inj {a b:T} {m n:ByteArray}:tKdf a m=tKdf b n↔a=b∧m=n:=by simp [tKdf,and_comm]
theorem tUse_inj {a b:T} {m n:Int} (hm:inI m) (hn:inI n):tUse a m=tUse b n↔a=b∧m=n:=by
 unfold tUse
 rw [tKdf_inj]
 exact ⟨fun h=>⟨h.1,itoaB_inj hm hn (app_inj h.2)⟩,fun h=>⟨h.1,by rw [h.2]⟩⟩
theorem tOtp_inj {a b:T} {m n:Int} (hm:inI m) (hn:inI n):tOtp a m=tOtp b n↔a=b∧m=n:=by
 unfold tOtp
 rw [tKdf_inj]
 exact ⟨fun h=>⟨h.1,itoaB_inj hm hn (app_inj h.2)⟩,fun h=>⟨h.1,by rw [h.2]⟩⟩
theorem tJoin_inj {a b c d:T} {f g:ByteArray}:tJoin a b f g=tJoin c d f g↔a=c∧b=d:=by simp [tJoin,tHash,tPair,tKdf]
theorem tCk_inj {a b c d:T}:tCk a b=tCk c d↔a=c∧b=d:=tJoin_inj
theorem tWd_inj {a b:T}:tWd a=tWd b↔a=b:=by simp [tWd,tKdf]
theorem uns_seal {k t:T} {n:Int}:unsT k n (tSeal k n t)=(t,0):=by
 unfold unsT
 rw [if_pos (show (tSeal k n t).kind=4 from rfl)]
 show (if (tUse k n).same (tUse k n) then (t,(0:Int)) else (tZ,4))=_
 rw [T.same_self];rfl
theorem uns_other {k k' t:T} {n:Int} (hn:inI n) (h:k≠k'):unsT k' n (tSeal k n t)=(tZ,4):=by
 unfold unsT
 rw [if_pos (show (tSeal k n t).kind=4 from rfl)]
 show (if (tUse k n).same (tUse k' n) then (t,(0:Int)) else (tZ,4))=_
 rw [same_ne (fun e=>h ((tUse_inj hn hn).1 e).1)];rfl
theorem chal_ne:chalB≠⟨#[]⟩:=by decide
theorem time_ne:timeB≠⟨#[]⟩:=by decide
theorem otpB_ne:otpB≠⟨#[]⟩:=by decide
theorem codeB_ne:codeB≠⟨#[]⟩:=by decide
theorem spk_ne:spkB≠⟨#[]⟩:=by decide
theorem chk_chal {a u b a' u' b':T} {now at':Int} (hn:inI now) (h18:(itoaB now).size≤18):chkT a' u' b' (tChal a u b now) at'=if a=a'∧u=u' then (if b=b' then (if (now - at').natAbs > 5 then 5 else 0) else 6) else 6:=by
 unfold chkT tChal
 rw [unpT_pack (n:=1) chal_ne rfl]
 simp only
 by_cases h:a=a'∧u=u'
 ·rw [if_pos h]
  obtain ⟨rfl,rfl⟩:=h
  rw [uns_seal]
  unfold chkU tTime
  simp only
  rw [if_neg (by decide),if_pos trivial,unpT_pack (n:=2) time_ne rfl]
  simp only [chkL]
  rw [numOf_num hn h18]
  simp only [chkN]
  by_cases hb:b=b'
  ·rw [if_pos hb,hb,T.same_self];simp
  ·rw [if_neg hb,same_ne (fun e=>hb (tHash_inj.1 e))];simp
 ·rw [if_neg h,uns_other i54 (fun e=>h (tCk_inj.1 e))]
  rfl
theorem ans_offer {ak n c:T}:ansO ak (tOffer n) c=(tCode ak n c,0):=by
 unfold ansO tOffer;rw [unpT_pack (n:=1) otpB_ne rfl]
theorem exp_msk {u u' x:T}:expT u' (tMsk x u)=if u=u' then (x,0) else (tZ,6):=by
 unfold expT
 rw [if_pos (show (tMsk x u).kind=10 from rfl)]
 show expP u' (tWd u) (tPub x)=_
 unfold expP
 rw [if_pos (show (tPub x).kind=8 from rfl)]
 show (if (tWd u).same (tWd u') then (x,(0:Int)) else (tZ,6))=_
 by_cases h:u=u'
 ·subst h;rw [T.same_self];simp
 ·rw [same_ne (fun e=>h (tWd_inj.1 e)),if_neg h];simp
theorem ans_point {u u' b x y:T}:ansS u' b (tPoint u y) x=if u=u' then (tPack spkB [tMsk x u,tFac x y u (tMsk y u) (tMsk x u) b],xKey x y u (tMsk y u) (tMsk x u) b 0,0) else (tZ,tZ,6):=by
 unfold ansS tPoint
 rw [unpT_pack (n:=1) spk_ne rfl]
 simp only
 rw [exp_msk]
 by_cases h:u=u'
 ·subst h;rw [if_pos rfl,if_pos rfl];unfold ansP;rw [if_pos rfl]
 ·rw [if_neg h,if_neg h];rfl
theorem chk_point {u x f u' b' y':T}:chkS u' b' y' (tPack spkB [tMsk x u,f])=if u=u' then (if f.same (tFac x y' u (tMsk y' u) (tMsk x u) b') then (xKey x y' u (tMsk y' u) (tMsk x u) b' 0,0) else (tZ,6)) else (tZ,6):=by
 unfold chkS
 rw [unpT_pack (n:=2) spk_ne rfl]
 simp only
 rw [exp_msk]
 by_cases h:u=u'
 ·subst h;rw [if_pos rfl,if_pos rfl];unfold chkP;rw [if_pos rfl]
 ·rw [if_neg h,if_neg h];rfl
section
variable {S:AS}
end
structure Fv where
 ak:T
 user:T
 body:T
 x:T
 y:T
def Fv.cells (f:Fv):List AV:=f.ak.cells++(f.user.cells++(f.body.cells++(f.x.cells++f.y.cells)))
theorem Fv.cells_def {f:Fv}:f.cells=[.sc (.int .i64 f.ak.kind),.sc (.string f.ak.name),lstT f.ak.kids,.sc (.int .i64 f.user.kind),.sc (.string f.user.name),lstT f.user.kids,.sc (.int .i64 f.body.kind),.sc (.string f.body.name),lstT f.body.kids,
 .sc (.int .i64 f.x.kind),.sc (.string f.x.name),lstT f.x.kids,.sc (.int .i64 f.y.kind),.sc (.string f.y.name),lstT f.y.kids]:=by
 unfold Fv.cells;rw [cells_T f.ak,cells_T f.user,cells_T f.body,cells_T f.x,cells_T f.y];rfl
section
variable {f:Fv}
@[simp] theorem Fv.len:f.cells.length=15:=by rw [Fv.cells_def];rfl
@[simp] theorem Fv.t0:f.cells.take 3=f.ak.cells:=by rw [Fv.cells_def,cells_T f.ak];rfl
@[simp] theorem Fv.t3:(f.cells.drop 3).take 3=f.user.cells:=by rw [Fv.cells_def,cells_T f.user];rfl
@[simp] theorem Fv.t6:(f.cells.drop 6).take 3=f.body.cells:=by rw [Fv.cells_def,cells_T f.body];rfl
@[simp] theorem Fv.t9:(f.cells.drop 9).take 3=f.x.cells:=by rw [Fv.cells_def,cells_T f.x];rfl
@[simp] theorem Fv.t12:(f.cells.drop 12).take 3=f.y.cells:=by rw [Fv.cells_def,cells_T f.y];rfl
@[simp] theorem Fv.t12':f.cells.drop 12=f.y.cells:=by rw [Fv.cells_def,cells_T f.y];rfl
@[simp] theorem Fv.t15:f.cells.take 15=f.cells:=by rw [Fv.cells_def];rfl
@[simp] theorem Fv.dr15:f.cells.drop 15=[]:=by rw [Fv.cells_def];rfl
@[simp] theorem Fv.nrm:nrmL f.cells=f.cells:=by rw [Fv.cells_def];simp [lstT_nrm]
@[simp] theorem Fv.frz {S:AS} {b d:Nat}:mapO (S.frzTo b d) f.cells=some f.cells:=by
 rw [Fv.cells_def];simp [mapO]
@[simp] theorem Fv.pure:pureL f.cells=true:=by rw [Fv.cells_def];simp [pureL]
theorem Fv.cell:f.cells.all AV.isCell=true:=by rw [Fv.cells_def];simp
@[simp] theorem Fv.cell':(∀v:AV,v∈f.cells→v.isCell=true)=True:=eq_true (List.all_eq_true.1 Fv.cell)
end
section
variable {S:AS}
end
theorem itoa_sz {n:Int} (h:inI n):(itoaB n).size≤20:=itoaB_le h.1 h.2
section
variable {S:AS}
end
def resL (r:List T×Int):AV:=.tup [lstT r.1,.sc (.int .i64 r.2)]
def opnL (tag:ByteArray) (n:Nat) (r:T×Int):List T×Int:=if r.2=0 then (match unpT tag n r.1 with|some l=>(l,0)|none=>([],2)) else ([],r.2)
def sealD (k:T) (u:Int) (t:T) (tag:ByteArray) (n:Nat):List T×Int:=opnL tag n (unsT k u t)
theorem opnL_cases {tag:ByteArray} {n:Nat} {r:T×Int}:(∃l,unpT tag n r.1=some l∧opnL tag n r=(l,0)∧l.length=n∧(∀u∈l,u∈r.1.kids)∧r.2=0)∨(∃e,e≠0∧opnL tag n r=([],e)∧(r.2=0→e=2∧unpT tag n r.1=none)∧(r.2≠0→e=r.2)):=by
 unfold opnL
 by_cases h:r.2=0
 ·rw [if_pos h]
  cases hu:unpT tag n r.1 with
  |none=>right;exact ⟨2,by decide,rfl,fun _=>⟨rfl,rfl⟩,fun h'=>absurd h h'⟩
  |some l=>left;obtain ⟨h1,h2⟩:=unpT_len hu;exact ⟨l,rfl,rfl,h1,h2,h⟩
 ·rw [if_neg h]
  right;exact ⟨r.2,h,rfl,fun h'=>absurd h' h,fun _=>rfl⟩
def hostB:ByteArray:=⟨#[104,111,115,116]⟩
def authB:ByteArray:=⟨#[97,117,116,104]⟩
def armoB:ByteArray:=⟨#[97,114,109,111,114]⟩
def fastB:ByteArray:=⟨#[102,97,115,116]⟩
def answB:ByteArray:=⟨#[97,110,115,119,101,114]⟩
def subkB:ByteArray:=⟨#[115,117,98,107,101,121,97,114,109,111,114]⟩
def tickB:ByteArray:=⟨#[116,105,99,107,101,116,97,114,109,111,114]⟩
def strkB:ByteArray:=⟨#[115,116,114,101,110,103,116,104,101,110,107,101,121]⟩
def repkB:ByteArray:=⟨#[114,101,112,108,121,107,101,121]⟩
def longB:ByteArray:=⟨#[108,111,110,103,32]⟩
def tTick (kdc host:T):T:=tSeal kdc 2 (tPack hostB [host])
def tWrap (tk host sub:T):T:=tPack armoB [tk,tSeal host 11 (tPack authB [sub])]
def tArm (sub host:T):T:=tJoin sub host subkB tickB
def tRep (s b:T):T:=tJoin s b strkB repkB
def tLong (p:T) (n:ByteArray):T:=tKdf p (longB++n)
def tReq (k b p c:T):T:=tSeal k 51 (tPack fastB [tHash b,p,c])
def tAns (k:T) (n:ByteArray) (t:T):T:=tSeal k 52 (tPack answB [tWord n,t])
def ansL (n:ByteArray):List T×Int→T×Int
 |([a,b],0)=>if a.same (tWord n) then (b,0) else (tZ,6)
 |(_,e)=>(tZ,e)
def ansOf (k:T) (n:ByteArray) (t:T):T×Int:=ansL n (sealD k 52 t answB 2)
def reqL (b:T):List T×Int→T×T×Int
 |([h,p,c],0)=>if h.same (tHash b) then (p,c,0) else (tZ,tZ,6)
 |(_,e)=>(tZ,tZ,e)
def reqOf (k b t:T):T×T×Int:=reqL b (sealD k 51 t fastB 3)
def armS (host:T):List T×Int→T×Int
 |([s],0)=>(tArm s host,0)
 |(_,e)=>(tZ,e)
def armH (t:T):List T×Int→T×Int
 |([h],0)=>armS h (sealD h 11 t authB 1)
 |(_,e)=>(tZ,e)
def armOf (kdc a:T):T×Int:=match unpT armoB 2 a with
 |some [tk,t]=>armH t (sealD kdc 2 tk hostB 1)
 |_=>(tZ,2)
theorem bb_kid {t u:T} (h:t.bb) (hu:u∈t.kids):u.bb:=T.bb_kids h u hu
theorem opnL_bb {tag:ByteArray} {n:Nat} {r:T×Int} (h:r.1.bb):∀u∈(opnL tag n r).1,u.bb:=by
 rcases opnL_cases (tag:=tag) (n:=n) (r:=r) with ⟨l,_,e,_,hm,_⟩|⟨e',_,e,_⟩
 ·rw [e];exact fun u hu=>bb_kid h (hm u hu)
 ·rw [e];intro u hu;cases hu
theorem sealD_bb {k t:T} {u:Int} {tag:ByteArray} {n:Nat} (h:t.bb):∀x∈(sealD k u t tag n).1,x.bb:=opnL_bb (unsT_bb h)
section
variable {S:AS}
theorem s353 {k t:T} {u:Int} {tag:ByteArray} {n:Nat} {m:Int} (hm:m=(n:Int)) (hu:inI u) (ht:t.bb):call 353 [.agg k.cells,.sc (.int .i64 u),.agg t.cells,.sc (.string tag),.sc (.int .i64 m)] S=some (resL (sealD k u t tag n),S):=by
 subst hm
 rw [call_calm a353 rfl (by simp) rfl]
 have e1:=fun S=>@s263 S k t u hu (T.bb_fits ht)
 have hb:=unsT_bb (k:=k) (n:=u) ht
 unfold sealD
 generalize unsT k u t=r at *
 have e2:=fun S=>@s78 S tag n r.1 (by have:=T.bb_len hb;omega)
 rcases opnL_cases (tag:=tag) (n:=n) (r:=r) with ⟨l,hl,e,_,_,h0⟩|⟨e',hne,e,h1,h2⟩
 ·rw [e];rw [hl]at e2
  simp [f353,f353b,e1,resU,h0,e2,optL,resL]
 ·rw [e]
  by_cases h0:r.2=0
  ·obtain ⟨rfl,hl⟩:=h1 h0
   rw [hl]at e2
   simp [f353,f353b,e1,resU,h0,e2,optL,resL]
   rfl
  ·have:=h2 h0
   subst this
   simp [f353,f353b,e1,resU,h0,resL]
   rfl
theorem s417 {k t:T} {u:Int} {tag:ByteArray} {n:Nat} {m:Int} (hm:m=(n:Int)) (hu:inI u) (hu0:u≠ -9223372036854775808) (hn:n≤100) (ht:t.bb):call 417 [.agg k.cells,.sc (.int .i64 u),.agg t.cells,.sc (.string tag),.sc (.int .i64 m)] S=some (resL (sealD k u t tag n),S):=by
 subst hm
 rw [call_calm a417 rfl (by simp) rfl]
 have e1:=fun S=>@s268 S k t u hu hu0 (T.bb_fits ht)
 have hb:=unsT_bb (k:=k) (n:=u) ht
 unfold sealD
 generalize unsT k u t=r at *
 have e2:=fun S=>@s79 S tag n r.1 (by omega)
 rcases opnL_cases (tag:=tag) (n:=n) (r:=r) with ⟨l,hl,e,_,_,h0⟩|⟨e',hne,e,h1,h2⟩
 ·rw [e];rw [hl]at e2
  simp [f417,f417b,e1,resU,h0,e2,optL,resL]
 ·rw [e]
  by_cases h0:r.2=0
  ·obtain ⟨rfl,hl⟩:=h1 h0
   rw [hl]at e2
   simp [f417,f417b,e1,resU,h0,e2,optL,resL]
   rfl
  ·have:=h2 h0
   subst this
   simp [f417,f417b,e1,resU,h0,resL]
   rfl
theorem i52:inI 52:=by unfold inI;omega
theorem i51:inI 51:=by unfold inI;omega
theorem i11:inI 11:=by unfold inI;omega
theorem i2:inI 2:=by unfold inI;omega
theorem s246 {tk host sub:T}:call 246 [.agg tk.cells,.agg host.cells,.agg sub.cells] S=some (.agg (tWrap tk host sub).cells,S):=by
 rw [call_calm a246 rfl (by simp) rfl]
 have e1:=fun S t=>@s261 S host t 11 i11
 simp [f246,f246b,e1,fillR]
 rfl
theorem s285 {tk host sub:T}:call 285 [.agg tk.cells,.agg host.cells,.agg sub.cells] S=some (.agg (tWrap tk host sub).cells,S):=by
 rw [call_calm a285 rfl (by simp) rfl]
 have e1:=fun S t=>@s266 S host t 11 i11 (by omega)
 simp [f285,f285b,e1,fillR]
 rfl
theorem s247 {a b:T}:call 247 [.agg a.cells,.agg b.cells] S=some (.agg (tArm a b).cells,S):=by
 rw [call_calm a247 rfl (by simp) rfl]
 have e1:∀S,call 350 [.agg a.cells,.agg b.cells,.sc (.string subkB),.sc (.string tickB)] S=_:=fun S=>s350 (by decide) (by decide)
 unfold subkB tickB at e1
 simp [f247,f247b,e1]
 rfl
theorem s175 {a b:T}:call 175 [.agg a.cells,.agg b.cells] S=some (.agg (tArm a b).cells,S):=by
 rw [call_calm a175 rfl (by simp) rfl]
 have e1:∀S,call 293 [.agg a.cells,.agg b.cells,.sc (.string subkB),.sc (.string tickB)] S=_:=fun S=>s293 (by decide) (by decide)
 unfold subkB tickB at e1
 simp [f175,f175b,e1]
 rfl
theorem s352 {a b:T}:call 352 [.agg a.cells,.agg b.cells] S=some (.agg (tRep a b).cells,S):=by
 rw [call_calm a352 rfl (by simp) rfl]
 have e1:∀S,call 350 [.agg a.cells,.agg b.cells,.sc (.string strkB),.sc (.string repkB)] S=_:=fun S=>s350 (by decide) (by decide)
 unfold strkB repkB at e1
 simp [f352,f352b,e1]
 rfl
theorem s333 {a b:T}:call 333 [.agg a.cells,.agg b.cells] S=some (.agg (tRep a b).cells,S):=by
 rw [call_calm a333 rfl (by simp) rfl]
 have e1:∀S,call 293 [.agg a.cells,.agg b.cells,.sc (.string strkB),.sc (.string repkB)] S=_:=fun S=>s293 (by decide) (by decide)
 unfold strkB repkB at e1
 simp [f333,f333b,e1]
 rfl
theorem s286 {a b:T}:call 286 [.agg a.cells,.agg b.cells] S=some (.agg (tTick a b).cells,S):=by
 rw [call_calm a286 rfl (by simp) rfl]
 have e1:=fun S t=>@s266 S a t 2 i2 (by omega)
 simp [f286,f286b,e1,fillR]
 rfl
theorem s200 {a:T} {n:ByteArray} (hn:n.size≤4611686018427387904):call 200 [.agg a.cells,.sc (.string n)] S=some (.agg (tLong a n).cells,S):=by
 rw [call_calm a200 rfl (by simp) rfl]
 have p1:=pev_sadd (x:=longB) (y:=n) (by show 5+_≤_;omega)
 unfold longB at p1
 simp [f200,f200b,p1]
 rfl
theorem s145n {a:T} {n:ByteArray} (hn:n.size≤4611686018427387904):call 145 [.agg a.cells,.sc (.string n)] S=some (.agg (tLong a n).cells,S):=by
 rw [call_calm a145 rfl (by simp) rfl]
 have p1:=pev_sadd (x:=longB) (y:=n) (by show 5+_≤_;omega)
 unfold longB at p1
 simp [f145,f145b,p1]
 rfl
theorem s351 {k b p c:T}:call 351 [.agg k.cells,.agg b.cells,.agg p.cells,.agg c.cells] S=some (.agg (tReq k b p c).cells,S):=by
 rw [call_calm a351 rfl (by simp) rfl]
 have e1:=fun S t=>@s261 S k t 51 i51
 simp [f351,f351b,e1,fillR]
 rfl
theorem s287 {k b p c:T}:call 287 [.agg k.cells,.agg b.cells,.agg p.cells,.agg c.cells] S=some (.agg (tReq k b p c).cells,S):=by
 rw [call_calm a287 rfl (by simp) rfl]
 have e1:=fun S t=>@s266 S k t 51 i51 (by omega)
 simp [f287,f287b,e1,fillR]
 rfl
theorem s332 {k t:T} {n:ByteArray} (hn:n.size≤4611686018427387904):call 332 [.agg k.cells,.sc (.string n),.agg t.cells] S=some (.agg (tAns k n t).cells,S):=by
 rw [call_calm a332 rfl (by simp) rfl]
 have e1:=fun S t=>@s266 S k t 52 i52 (by omega)
 have e2:=fun S=>@s65 S n hn
 simp [f332,f332b,e1,e2,fillR]
 rfl
end
theorem sealD_cases {k t:T} {u:Int} {tag:ByteArray} {n:Nat}:(∃l,sealD k u t tag n=(l,0)∧l.length=n)∨(∃e,e≠0∧sealD k u t tag n=([],e)):=by
 rcases opnL_cases (tag:=tag) (n:=n) (r:=unsT k u t) with ⟨l,_,e,h,_⟩|⟨e',hne,e,_⟩
 ·exact .inl ⟨l,e,h⟩
 ·exact .inr ⟨e',hne,e⟩
section
variable {S:AS}
theorem at2a {a b:T}:pev (.iaddr 3) [lstT [a,b],.i 0]=some (.iptr a.cells):=lstT_at (i:=0) rfl
theorem at2b {a b:T}:pev (.iaddr 3) [lstT [a,b],.i 1]=some (.iptr b.cells):=lstT_at (i:=1) rfl
theorem at3a {a b c:T}:pev (.iaddr 3) [lstT [a,b,c],.i 0]=some (.iptr a.cells):=lstT_at (i:=0) rfl
theorem at3b {a b c:T}:pev (.iaddr 3) [lstT [a,b,c],.i 1]=some (.iptr b.cells):=lstT_at (i:=1) rfl
theorem at3c {a b c:T}:pev (.iaddr 3) [lstT [a,b,c],.i 2]=some (.iptr c.cells):=lstT_at (i:=2) rfl
theorem at1a {a:T}:pev (.iaddr 3) [lstT [a],.i 0]=some (.iptr a.cells):=lstT_at (i:=0) rfl
theorem len1 {l:List T} (h:l.length=1):∃a,l=[a]:=by
 match l,h with
 |[a],_=>exact ⟨a,rfl⟩
theorem len2 {l:List T} (h:l.length=2):∃a b,l=[a,b]:=by
 match l,h with
 |[a,b],_=>exact ⟨a,b,rfl⟩
theorem len3 {l:List T} (h:l.length=3):∃a b c,l=[a,b,c]:=by
 match l,h with
 |[a,b,c],_=>exact ⟨a,b,c,rfl⟩
theorem tZ_zT:(tZ.cells:List AV)=[.i 0,.s ⟨#[]⟩,lstT []]:=rfl
theorem s252 {t:T} {e:Int} {tag:ByteArray} {n:Nat} {m:Int} (hm:m=(n:Int)) (ht:t.bb):call 252 [.agg t.cells,.sc (.int .i64 e),.sc (.string tag),.sc (.int .i64 m)] S=some (resL (opnL tag n (t,e)),S):=by
 subst hm
 rw [call_calm a252 rfl (by simp) rfl]
 have e2:=fun S=>@s78 S tag n t (by have:=T.bb_len ht;omega)
 rcases opnL_cases (tag:=tag) (n:=n) (r:=(t,e)) with ⟨l,hl,e',_,_,h0⟩|⟨e',hne,e'',h1,h2⟩
 ·have hl:unpT tag n t=some l:=hl
  have h0:e=0:=h0
  rw [e']
  rw [hl]at e2
  simp [f252,f252b,h0,e2,optL,resL]
 ·rw [e'']
  by_cases h0:e=0
  ·obtain ⟨rfl,hl⟩:=h1 h0
   have hl:unpT tag n t=none:=hl
   rw [hl]at e2
   simp [f252,f252b,h0,e2,optL,resL]
   rfl
  ·have:=h2 h0
   subst this
   simp [f252,f252b,h0,resL]
   rfl
theorem s251 {k t:T} {n:ByteArray} (hn:n.size≤4611686018427387904) (ht:t.bb):call 251 [.agg k.cells,.sc (.string n),.agg t.cells] S=some (resU (ansOf k n t),S):=by
 rw [call_calm a251 rfl (by simp) rfl]
 have e1:=fun S=>@s353 S k t 52 answB 2 2 rfl i52 ht
 have e2:=fun S=>@s64 S n hn
 have hb:=sealD_bb (k:=k) (u:=52) (tag:=answB) (n:=2) ht
 unfold ansOf
 rcases sealD_cases (k:=k) (t:=t) (u:=52) (tag:=answB) (n:=2) with ⟨l,hl,hlen⟩|⟨e,hne,hl⟩
 ·obtain ⟨a,b,rfl⟩:=len2 hlen
  rw [hl]at e1 hb ⊢
  have fa:a.fits:=T.bb_fits (hb a (by simp))
  unfold answB at e1
  cases hs:a.same (tWord n) with
  |true=>simp [f251,f251b,e1,resL,at2a,at2b,e2,fa,hs,ansL,resU]
  |false=>simp [f251,f251b,e1,resL,at2a,at2b,e2,fa,hs,ansL,resU,tZ_zT];rfl
 ·rw [hl]at e1 ⊢
  have hr:ansL n ([],e)=(tZ,e):=by unfold ansL;rfl
  rw [hr]
  unfold answB at e1
  simp [f251,f251b,e1,resL,hne,resU,tZ_zT]
  rfl
theorem s335 {k t:T} {n:ByteArray} (hn:n.size≤4611686018427387904) (ht:t.bb):call 335 [.agg k.cells,.sc (.string n),.agg t.cells] S=some (resU (ansOf k n t),S):=by
 rw [call_calm a335 rfl (by simp) rfl]
 have e1:=fun S=>@s417 S k t 52 answB 2 2 rfl i52 (by omega) (by omega) ht
 have e2:=fun S=>@s65 S n hn
 have hb:=sealD_bb (k:=k) (u:=52) (tag:=answB) (n:=2) ht
 unfold ansOf
 rcases sealD_cases (k:=k) (t:=t) (u:=52) (tag:=answB) (n:=2) with ⟨l,hl,hlen⟩|⟨e,hne,hl⟩
 ·obtain ⟨a,b,rfl⟩:=len2 hlen
  rw [hl]at e1 hb ⊢
  have fa:a.fits:=T.bb_fits (hb a (by simp))
  unfold answB at e1
  cases hs:a.same (tWord n) with
  |true=>simp [f335,f335b,e1,resL,at2a,at2b,e2,fa,hs,ansL,resU]
  |false=>simp [f335,f335b,e1,resL,at2a,at2b,e2,fa,hs,ansL,resU,tZ_zT];rfl
 ·rw [hl]at e1 ⊢
  have hr:ansL n ([],e)=(tZ,e):=by unfold ansL;rfl
  rw [hr]
  unfold answB at e1
  simp [f335,f335b,e1,resL,hne,resU,tZ_zT]
  rfl
def resR (r:T×T×Int):AV:=.tup [.agg r.1.cells,.agg r.2.1.cells,.sc (.int .i64 r.2.2)]
theorem s338 {k b t:T} (ht:t.bb):call 338 [.agg k.cells,.agg b.cells,.agg t.cells] S=some (resR (reqOf k b t),S):=by
 rw [call_calm a338 rfl (by simp) rfl]
 have e1:=fun S=>@s417 S k t 51 fastB 3 3 rfl i51 (by omega) (by omega) ht
 have hb:=sealD_bb (k:=k) (u:=51) (tag:=fastB) (n:=3) ht
 unfold reqOf
 rcases sealD_cases (k:=k) (t:=t) (u:=51) (tag:=fastB) (n:=3) with ⟨l,hl,hlen⟩|⟨e,hne,hl⟩
 ·obtain ⟨x,p,c,rfl⟩:=len3 hlen
  rw [hl]at e1 hb ⊢
  have fa:x.fits:=T.bb_fits (hb x (by simp))
  unfold fastB at e1
  cases hs:x.same (tHash b) with
  |true=>simp [f338,f338b,e1,resL,at3a,at3b,at3c,fa,hs,reqL,resR]
  |false=>simp [f338,f338b,e1,resL,at3a,at3b,at3c,fa,hs,reqL,resR,tZ_zT];rfl
 ·rw [hl]at e1 ⊢
  have hr:reqL b ([],e)=(tZ,tZ,e):=by unfold reqL;rfl
  rw [hr]
  unfold fastB at e1
  simp [f338,f338b,e1,resL,hne,resR,tZ_zT]
  rfl
theorem s337 {kdc a:T} (ha:a.bb):call 337 [.agg kdc.cells,.agg a.cells] S=some (resU (armOf kdc a),S):=by
 rw [call_calm a337 rfl (by simp) rfl]
 have e0:=fun S=>@s79 S armoB 2 a (by omega)
 unfold armOf
 cases hu:unpT armoB 2 a with
 |none=>
  rw [hu]at e0
  unfold armoB at e0
  simp [f337,f337b,e0,optL,resU,tZ_zT];rfl
 |some l=>
  rw [hu]at e0
  obtain ⟨h2,hm⟩:=unpT_len (n:=2) hu
  obtain ⟨tk,t,rfl⟩:=len2 h2
  have btk:tk.bb:=bb_kid ha (hm tk (by simp))
  have bt:t.bb:=bb_kid ha (hm t (by simp))
  unfold armoB at e0
  have e1:=fun S=>@s417 S kdc tk 2 hostB 1 1 rfl i2 (by omega) (by omega) btk
  rcases sealD_cases (k:=kdc) (t:=tk) (u:=2) (tag:=hostB) (n:=1) with ⟨l,hl,hlen⟩|⟨e,hne,hl⟩
  ·obtain ⟨host,rfl⟩:=len1 hlen
   rw [hl]at e1;simp only [hl]
   unfold hostB at e1
   have e2:=fun S=>@s417 S host t 11 authB 1 1 rfl i11 (by omega) (by omega) bt
   rcases sealD_cases (k:=host) (t:=t) (u:=11) (tag:=authB) (n:=1) with ⟨l',hl',hlen'⟩|⟨e,hne,hl'⟩
   ·obtain ⟨sub,rfl⟩:=len1 hlen'
    rw [hl']at e2
    unfold authB at e2
    have hr:armH t ([host],0)=(tArm sub host,0):=by unfold armH;simp only [hl'];rfl
    rw [hr]
    simp [f337,f337b,e0,optL,e1,e2,resL,resU,at2a,at2b,at1a,s175]
   ·rw [hl']at e2
    unfold authB at e2
    have hr:armH t ([host],0)=(tZ,e):=by unfold armH;simp only [hl'];rfl
    rw [hr]
    simp [f337,f337b,e0,optL,e1,e2,resL,resU,at2a,at2b,at1a,hne,tZ_zT];rfl
  ·rw [hl]at e1;simp only [hl]
   unfold hostB at e1
   have hr:armH t ([],e)=(tZ,e):=by unfold armH;rfl
   rw [hr]
   simp [f337,f337b,e0,optL,e1,resL,resU,at2a,at2b,hne,tZ_zT];rfl
end
theorem sle_eq {x y:ByteArray}:(sLt x y ||decide (x=y))=!(sLt y x):=by
 rw [sLt_iff,sLt_iff,Bool.eq_iff_iff]
 simp only [Bool.or_eq_true,decide_eq_true_eq,Bool.not_eq_true',decide_eq_false_iff_not]
 have hd:x=y↔x.data.toList=y.data.toList:=⟨fun h=>by rw [h],ba_data⟩
 rw [hd,List.not_lt,List.le_iff_lt_or_eq]
section
variable {S:AS}
theorem ord316:∀(n:Nat) (t:T) (S:AS),sizeOf t < n→t.bulk≤1099511627776→t.rshp=true→t.dp≤60→call 316 [.agg t.cells] S=some (.sc (.bool t.ord),S)
 |0,_,_,h,_,_,_=>by omega
 |n+1,t,S,hn,hb,hr,hd=>by
  have hlen:=t.bulk_len
  have hkb:∀u∈t.kids,u.bulk≤1099511627776:=fun u hu=>by have:=T.bulk_kid hu;omega
  have hkd:∀u∈t.kids,u.dp≤60:=fun u hu=>by have:=T.dp_kid hu;omega
  have ih:∀u∈t.kids,∀S,call 316 [.agg u.cells] S=some (.sc (.bool u.ord),S):=fun u hu S=>ord316 n u S (by have:=T.kid_lt hu;omega) (hkb u hu) (T.rshp_kid hr hu) (hkd u hu)
  rw [call_calm a316 rfl (by simp) rfl]
  rw [t.ord_def,ordL_all]
  simp only [f316]
  simp [-calmR_some,f316b]
  refine loop_gen (α:=Nat) (R:=fun _ r=>calmR S r=some (.sc (.bool (shareOk t.kind t.kids && t.kids.all T.ord)),S)) (fun i e rg S'=>i≤t.kids.length∧e 1=.reg 1 0∧rg 1=some t.cells∧e 3=.sc (.int .i64 (i:Nat))∧∀u∈t.kids.take i,u.ord=true) (fun i=>t.kids.length - i) ?_ 0 _ _ _ ?_
  rotate_left
  ·exact ⟨by omega,by simp,by simp,by simp,fun u hu=>by simp at hu⟩
  intro kk hkk i e rg S' ⟨hi,q1,q2,q5,hu⟩ ihl
  by_cases hc:i < t.kids.length
  ·obtain ⟨k,hk'⟩:=get_of_lt hc
   have w2:IntKind.i64.wrap ((i:Int)+1)=((i+1:Nat):Int):=w64 (by omega)
   have e316:=ih k (List.mem_of_getElem? hk')
   cases hb:k.ord with
   |false=>
    rw [hb]at e316
    have:t.kids.all T.ord=false:=by
     rw [List.all_eq_false];exact ⟨k,List.mem_of_getElem? hk',by simp [hb]⟩
    simp [-calmR_some,f316_l0,q1,q2,q5,hc,lstT_at hk',e316]
    rw [hkk,this]
    simp
   |true=>
    rw [hb]at e316
    simp [-calmR_some,f316_l0,q1,q2,q5,hc,lstT_at hk',e316,w2]
    refine ihl (i+1) _ _ _ (by omega) (fun _ h=>h) ?_
    refine ⟨by omega,by simp [q1],by simp [q2],by simp,fun u hu'=>?_⟩
    rw [List.take_add_one,hk']at hu'
    rcases List.mem_append.1 hu' with hu'|hu'
    ·exact hu u hu'
    ·simp at hu';rw [hu'];exact hb
  ·have hi':i=t.kids.length:=by omega
   subst hi'
   rw [List.take_length]at hu
   have hall:t.kids.all T.ord=true:=List.all_eq_true.2 hu
   by_cases h9:t.kind=9
   ·obtain ⟨a,b,hab⟩:=T.share_kids hr h9
    have ha:a∈t.kids:=by rw [hab];simp
    have hb:b∈t.kids:=by rw [hab];simp
    have ta:∀S,call 243 [.agg a.cells] S=some (.sc (.string a.text),S):=fun S=>by
     rw [s243 (hkb a ha)];unfold T.txt;rw [if_pos (by rw [T.rshp_kid hr ha];simp [hkd a ha])]
    have tb:∀S,call 243 [.agg b.cells] S=some (.sc (.string b.text),S):=fun S=>by
     rw [s243 (hkb b hb)];unfold T.txt;rw [if_pos (by rw [T.rshp_kid hr hb];simp [hkd b hb])]
    have l0:pev (.iaddr 3) [lstT t.kids,.i 0]=some (.iptr a.cells):=lstT_at (i:=0) (by rw [hab];rfl)
    have l1:pev (.iaddr 3) [lstT t.kids,.i 1]=some (.iptr b.cells):=lstT_at (i:=1) (by rw [hab];rfl)
    have hsh:shareOk t.kind t.kids=(sLt a.text b.text ||decide (a.text=b.text)):=by unfold shareOk;rw [if_pos h9,hab,sle_eq]
    rw [hall,hsh]
    simp [-calmR_some,f316_l0,q1,q2,q5]
    rw [hkk]
    simp [q1,q2,eq_true h9,l0,l1,ta,tb]
   ·have hsh:shareOk t.kind t.kids=true:=by unfold shareOk;rw [if_neg h9]
    rw [hall,hsh]
    simp [-calmR_some,f316_l0,q1,q2,q5]
    rw [hkk]
    simp [q1,q2,h9]
theorem s316 {t:T} (hb:t.bulk≤1099511627776) (hr:t.rshp=true) (hd:t.dp≤60):call 316 [.agg t.cells] S=some (.sc (.bool t.ord),S):=ord316 _ t S (Nat.lt_succ_self _) hb hr hd
theorem s219 {t:T} (hb:t.bulk≤1099511627776):call 219 [.agg t.cells] S=some (.sc (.bool t.right),S):=by
 rw [call_calm a219 rfl (by simp) rfl]
 have e1:=fun S=>@s243 S t hb
 unfold T.right
 unfold T.txt at e1
 cases hr:(t.rshp && decide (t.dp≤60)) with
 |false=>rw [hr]at e1;simp only [Bool.false_eq_true,if_false]at e1;simp [f219,f219b,e1]
 |true=>
  rw [hr]at e1
  rw [Bool.and_eq_true,decide_eq_true_eq]at hr
  simp only [if_true]at e1
  have e2:=fun S=>@s316 S t hb hr.1 hr.2
  simp [f219,f219b,e1,e2,T.text_ne]
def T.fit (t:T):Bool:=t.right && decide (t.dp≤57)
theorem dep57 {t:T}:(((t.dep 61:Nat):Int)≤57)↔t.dp≤57:=by rw [T.dep_eq];omega
theorem s211 {t:T} (hb:t.bulk≤1099511627776):call 211 [.agg t.cells] S=some (.sc (.bool t.fit),S):=by
 rw [call_calm a211 rfl (by simp) rfl]
 have e1:=fun S=>@s219 S t hb
 have e2:∀S,call 314 [.agg t.cells,.i 61] S=some (.sc (.int .i64 (t.dep 61:Nat)),S):=fun S=>@s314 61 t S (by omega) (T.fits_bulk hb)
 unfold T.fit
 cases hr:t.right with
 |false=>rw [hr]at e1;simp [f211,f211b,e1]
 |true=>rw [hr]at e1;simp [f211,f211b,e1,e2,dep57]
@[simp] theorem s212 (s:ByteArray):call 212 [.sc (.string s)] S=some (.agg (tData s).cells,S):=by
 rw [call_calm a212 rfl (by simp) rfl]
 simp [f212,f212b,tData,T.cells,rowsT,lstN]
def restOf (t:T) (l:ByteArray):Option ByteArray:=if t.kind=1 then cutB t.name l else none
theorem s317 {t:T} {l:ByteArray} (hl:l.size=1):call 317 [.agg t.cells,.sc (.string l)] S=some (.tup [.sc (.string ((restOf t l).getD ⟨#[]⟩)),.sc (.bool (restOf t l).isSome)],S):=by
 rw [call_calm a317 rfl (by simp) rfl]
 unfold restOf
 by_cases h1:t.kind=1
 ·rw [if_pos h1]
  by_cases h2:t.name.size < 1
  ·have hc:cutB t.name l=none:=by
    unfold cutB
    rw [if_neg]
    intro hc
    have:=congrArg ByteArray.size hc
    rw [ByteArray.size_extract]at this;omega
   have h2':(t.name.size:Int) < 1:=by omega
   simp [f317,f317b,eq_true h1,h2,h2',hc]
  ·have e1:pev (.sliceS false true) [.sc (.string t.name),.i 1]=some (.sc (.string (t.name.extract 0 1))):=pev_sliceS01 (by omega) (by omega)
   have e2:pev (.sliceS true false) [.sc (.string t.name),.i 1]=some (.sc (.string (t.name.extract 1 t.name.size))):=pev_sliceS10 (by omega) (by omega)
   have h2':¬(t.name.size:Int) < 1:=by omega
   unfold cutB
   rw [hl]
   by_cases h3:t.name.extract 0 1=l
   ·simp [f317,f317b,eq_true h1,h2,h2',e1,e2,h3]
   ·simp [f317,f317b,eq_true h1,h2,h2',e1,e2,h3]
 ·simp [f317,f317b,h1]
end
structure T.tidy (t:T):Prop where
 right:t.right=true
 bulk:t.bulk≤1099511627776
theorem T.tidy.txt {t:T} (h:t.tidy):t.txt=t.text:=by
 obtain ⟨h1,h2,h3⟩:=T.right_iff.1 h.right
 unfold T.txt
 rw [if_pos];rw [h1];simpa using h2
section
end
theorem wrap_in (x:Int):inI (IntKind.i64.wrap x):=by
 rw [Go.IntWalk.i64_left]
 exact i64_in (RowKit.wrap64_wf x)
theorem digB_neg {m:Nat} (h:m < 10):pev .bytesStr [AV.lst 1 true [[.sc (.int .u8 (IntKind.u8.wrap (IntKind.i64.wrap (48 - (-(m:Int))))))]]]=some (.sc (.string (digB m))):=by
 rw [show (48:Int) - -(m:Int)=48+(m:Int) by omega,wrap_u8 h];exact pev_dig
theorem itoaB_neg {m:Nat} (h:0 < m):itoaB (-(m:Int))=⟨#[45]⟩++numB m:=by
 unfold itoaB Lib.itoa numB
 rw [if_pos (by omega),show (-(m:Int)).natAbs=m by omega]
 exact (ba_app (x:=[45]) (y:=Lib.decDigits m)).symm
section
variable {S:AS}
theorem dig_neg:∀{m:Nat} {S:AS},0 < m→m≤9223372036854775808→call 213 [.sc (.int .i64 (-(m:Int)))] S=some (.sc (.string (itoaB (-(m:Int)))),S):=by
 intro m
 induction m using Nat.strongRecOn with
 |_ m ih=>
  intro S h0 hm
  rw [call_calm a213 rfl (by simp) rfl]
  have hneg:(-(m:Int)) < 0:=by omega
  have hd:m % 10 < 10:=Nat.mod_lt _ (by omega)
  by_cases h:m < 10
  ·have h1:(-10:Int) < -(m:Int):=by omega
   have hb:=digB_neg h
   have hsz:(digB m).size=1:=rfl
   have p:pev (.bin .add) [AV.s ⟨#[45]⟩,.sc (.string (digB m))]=some (.sc (.string (itoaB (-(m:Int))))):=by
    rw [itoaB_neg h0,numB_one h];exact pev_sadd (by have:(⟨#[45]⟩:ByteArray).size=1:=rfl;omega)
   simp [-Int.sub_neg,f213,f213b,hneg,h1,fillR,hb,p,h0]
  ·have h1:¬(-10:Int) < -(m:Int):=by omega
   have hb:=digB_neg hd
   have e213:=fun S=>ih (m / 10) (by omega) (S:=S) (by omega) (by omega)
   have hq:pev (.bin .quo) [.sc (.int .i64 (-(m:Int))),.i 10]=some (.sc (.int .i64 (-((m / 10:Nat):Int)))):=by
    have:IntKind.i64.wrap ((-(m:Int)).tdiv 10)=(-((m / 10:Nat):Int)):=by
     rw [Int.neg_tdiv,show (m:Int).tdiv 10=((m / 10:Nat):Int) by rw [Int.tdiv_eq_ediv_of_nonneg (by omega)];omega]
     exact w64 (by omega)
    simp only [pev,intBin,this]
    rfl
   have hr:pev (.bin .rem) [.sc (.int .i64 (-(m:Int))),.i 10]=some (.sc (.int .i64 (-((m % 10:Nat):Int)))):=by
    have:(-(m:Int)).tmod 10=(-((m % 10:Nat):Int)):=by
     rw [Int.neg_tmod,show (m:Int).tmod 10=((m % 10:Nat):Int) by rw [Int.tmod_eq_emod_of_nonneg (by omega)];omega]
    simp only [pev,intBin,this]
    rfl
   have hsz:(digB (m % 10)).size=1:=rfl
   have hp:pev (.bin .add) [.sc (.string (itoaB (-((m / 10:Nat):Int)))),.sc (.string (digB (m % 10)))]=some (.sc (.string (itoaB (-(m:Int))))):=by
    rw [itoaB_neg h0,numB_step (by omega),itoaB_neg (by omega),←ba_assoc]
    exact pev_sadd (by
     have:=numB20 (n:=m / 10) (by omega)
     have:(⟨#[45]⟩:ByteArray).size=1:=rfl
     rw [ByteArray.size_append];omega)
   have hneg':0 < m:=h0
   generalize (m / 10:Nat)=q at *
   generalize (m % 10:Nat)=r at *
   simp [-Int.sub_neg,f213,f213b,hneg,h1,fillR,hq,hr,e213,hb,hp,h0]
theorem dig_pos:∀{n:Nat} {S:AS},n≤9223372036854775807→call 213 [.sc (.int .i64 (n:Int))] S=some (.sc (.string (numB n)),S):=by
 intro n
 induction n using Nat.strongRecOn with
 |_ n ih=>
  intro S hn
  rw [call_calm a213 rfl (by simp) rfl]
  have hd:n % 10 < 10:=Nat.mod_lt _ (by omega)
  have hneg:¬(n:Int) < 0:=by omega
  have hbyte:∀m:Nat,m < 10→pev .bytesStr [AV.lst 1 true [[.sc (.int .u8 (IntKind.u8.wrap (IntKind.i64.wrap (48+(m:Int)))))]]]=some (.sc (.string (digB m))):=fun m hm=>by
   rw [wrap_u8 hm];exact pev_dig
  by_cases h:n < 10
  ·have h':(n:Int) < 10:=by omega
   simp [f213,f213b,hneg,h',fillR,hbyte n h,numB_one h]
  ·have h':¬(n:Int) < 10:=by omega
   have e213:=fun S=>ih (n / 10) (by omega) (S:=S) (by omega)
   have hb:=hbyte (n % 10) hd
   have hsz:(digB (n % 10)).size=1:=rfl
   have hs:=pev_sadd (x:=numB (n / 10)) (y:=digB (n % 10)) (by have:=numB20 (n:=n / 10) (by omega);omega)
   rw [←numB_step (by omega)]at hs
   have hq:=@pev_quo10 n hn
   have hr:=@pev_rem10 n
   generalize (n / 10:Nat)=q at *
   generalize (n % 10:Nat)=r at *
   simp [f213,f213b,hneg,h',fillR,hq,hr,e213,hb,hs]
theorem s213 {n:Int} (h:inI n):call 213 [.sc (.int .i64 n)] S=some (.sc (.string (itoaB n)),S):=by
 unfold inI at h
 by_cases hn:n < 0
 ·obtain ⟨m,rfl⟩:∃m:Nat,n= -(m:Int):=⟨n.natAbs,by omega⟩
  exact dig_neg (by omega) (by omega)
 ·obtain ⟨m,rfl⟩:∃m:Nat,n=m:=⟨n.toNat,by omega⟩
  rw [itoaB_nat];exact dig_pos (by omega)
end
def stepA (n:Int) (c:UInt8):Int:=IntKind.i64.wrap (IntKind.i64.wrap (n * 10) - IntKind.i64.wrap (IntKind.u8.wrap ((c.toNat:Int) - 48)))
def accA:Int→List UInt8→Int
 |n,[]=>n
 |n,c::l=>accA (stepA n c) l
theorem u8w {n:Int} (h:0≤n∧n≤255):IntKind.u8.wrap n=n:=by
 simp [IntKind.wrap,IntKind.bits,IntKind.signed];omega
theorem stepA_dig {a d b:Nat} {c:UInt8} (hc:c.toNat=48+d) (hd:d≤9) (hb:b≤9223372036854775808) (h:a * 10+d≤b):stepA (-(a:Int)) c= -((a * 10+d:Nat):Int):=by
 have e1:IntKind.u8.wrap ((c.toNat:Int) - 48)=(d:Int):=by rw [u8w (by omega)];omega
 have e2:IntKind.i64.wrap (d:Int)=(d:Int):=w64 (by omega)
 have e3:IntKind.i64.wrap (-(a:Int) * 10)= -(a:Int) * 10:=w64 (by omega)
 have e4:IntKind.i64.wrap (-(a:Int) * 10 - (d:Int))= -(a:Int) * 10 - (d:Int):=w64 (by omega)
 unfold stepA
 rw [e1,e2,e3,e4]
 omega
theorem accA_cons {n:Int} {c:UInt8} {l:List UInt8}:accA n (c::l)=accA (stepA n c) l:=rfl
theorem foldD_cons {a:Nat} {c:UInt8} {l:List UInt8}:foldD a (c::l)=foldD (a * 10+(c.toNat - 48)) l:=by conv=>lhs;unfold foldD
theorem accA_digB {b:Nat} (hb:b≤9223372036854775808) (l:List UInt8):∀(a:Nat),(∀c∈l,isDig c)→foldD a l≤b→accA (-(a:Int)) l= -((foldD a l:Nat):Int):=by
 induction l with
 |nil=>intro a _ _;rfl
 |cons c l ih=>
  intro a hd h
  rw [foldD_cons]at h ⊢
  have hge:=@foldD_ge l (a * 10+(c.toNat - 48))
  have hc:=hd c (by simp)
  unfold isDig at hc
  rw [accA_cons,stepA_dig (d:=c.toNat - 48) (by omega) (by omega) hb (by omega)]
  exact ih _ (fun x hx=>hd x (by simp [hx])) h
theorem accA_dig {l:List UInt8} {a:Nat} (hd:∀c∈l,isDig c) (h:foldD a l≤9223372036854775808):accA (-(a:Int)) l= -((foldD a l:Nat):Int):=accA_digB (b:=9223372036854775808) (by omega) l a hd h
theorem accA_in:∀{l:List UInt8} {n:Int},inI n→inI (accA n l)
 |[],_,h=>h
 |_::l,_,_=>accA_in (l:=l) (wrap_in _)
def minusS (s:ByteArray):Bool:=decide (1 < s.size) && decide (s.data.toList[0]?=some 45)
def numA (s:ByteArray):Int:=if minusS s then accA 0 (s.data.toList.drop 1) else IntKind.i64.wrap (-(accA 0 s.data.toList))
theorem inI0:inI 0:=by unfold inI;omega
theorem numA_in {s:ByteArray}:inI (numA s):=by
 unfold numA;split
 ·exact accA_in inI0
 ·exact wrap_in _
theorem numA_itoa {m:Int} (h:inI m):numA (itoaB m)=m:=by
 unfold numA minusS
 have hs:(itoaB m).size=(itoaB m).data.toList.length:=by simp
 rw [hs,itoaB_list]
 unfold inI at h
 unfold Lib.itoa
 by_cases hneg:m < 0
 ·rw [if_pos hneg]
  obtain ⟨i1,i2,i3⟩:=decDigits_dig m.natAbs
  have h0:=@accA_dig (Lib.decDigits m.natAbs) 0 i1 (by rw [i2];omega)
  have hl:0 < (Lib.decDigits m.natAbs).length:=List.length_pos_iff.2 i3
  rw [i2]at h0
  have h0:accA 0 (Lib.decDigits m.natAbs)= -(m.natAbs:Int):=h0
  simp [hl,h0];omega
 ·rw [if_neg hneg]
  obtain ⟨i1,i2,i3⟩:=decDigits_dig m.toNat
  have h0:=@accA_dig (Lib.decDigits m.toNat) 0 i1 (by rw [i2];omega)
  rw [i2]at h0
  have h0:accA 0 (Lib.decDigits m.toNat)= -(m.toNat:Int):=h0
  have e3:¬(Lib.decDigits m.toNat)[0]?=some 45:=by
   intro h
   have:=i1 45 (List.mem_of_getElem? h)
   exact absurd this (by decide)
  rw [h0]
  simp only [e3,decide_false,Bool.and_false,Bool.false_eq_true,if_false]
  rw [w64 (by omega)];omega
section
variable {S:AS}
theorem s318 {s:ByteArray} (hsz:s.size≤4611686018427387904):call 318 [.sc (.string s)] S=some (.tup [.sc (.int .i64 (numA s)),.sc (.bool (decide (itoaB (numA s)=s)))],S):=by
 rw [call_calm a318 rfl (by simp) rfl]
 have hsl:s.data.toList.length=s.size:=by simp
 have hcc:∀(f:Nat) (ks:List Kn) (e:Nat→AV) (rg:Nat→Option (List AV)) (S0:AS) (r:Option (AV×AS)),f≤s.size→e 0=.sc (.string s)→e 6=.i 0→e 7=.sc (.int .i64 (f:Nat))→
  (∀e' rg S',e' 0=e 0→e' 4=e 4→e' 6=.sc (.int .i64 (accA 0 (s.data.toList.drop f)))→calmR S (fin [.tmp 2,.tmp 3] (unw AA (some (.exit 0,st 41 e' rg S')) ks))=r)→
  calmR S (fin [.tmp 2,.tmp 3] (exec AA (.loop [18,19,20,21,22,23,24,25,26,27,28,29,30,31] [] f318_l0) (st 41 e rg S0) ks))=r:=by
  intro f ks e rg S0 r hf h0 h6 h7 hex
  refine loop_gen (α:=Nat) (R:=fun _ x=>calmR S x=r) (fun i e' rg S'=>i≤s.size∧e' 0=e 0∧e' 4=e 4∧(∃n,e' 6=.sc (.int .i64 n)∧accA n (s.data.toList.drop i)=accA 0 (s.data.toList.drop f))∧e' 7=.sc (.int .i64 (i:Nat))) (fun i=>s.size - i) ?_ f _ _ _ ⟨hf,rfl,rfl,⟨0,h6,rfl⟩,h7⟩
  intro kk hkk i e' rg S' ⟨hi,g0,g4,⟨n,g6,hn⟩,g7⟩ ih
  rw [h0]at g0
  by_cases hc:i < s.size
  ·have hc':(i:Int) < s.size:=by omega
   obtain ⟨b,hb⟩:∃b,s.data.toList[i]?=some b:=⟨s.data.toList[i],by simp [hsl,hc]⟩
   have hdrop:s.data.toList.drop i=b::s.data.toList.drop (i+1):=by
    obtain ⟨hlt',rfl⟩:=List.getElem?_eq_some_iff.1 hb
    exact List.drop_eq_getElem_cons hlt'
   have hix:=idxS hb
   have w2:IntKind.i64.wrap ((i:Int)+1)=((i+1:Nat):Int):=w64 (by omega)
   simp [-calmR_some,f318_l0,g0,g6,g7,hc',hc,hix,w2]
   refine ih (i+1) _ _ _ (by omega) (fun _ h=>h) ?_
   refine ⟨by omega,by simp [g0,h0],by simp [g4],⟨stepA n b,by simp [stepA],?_⟩,by simp⟩
   rw [←hn,hdrop];rfl
  ·have hi':i=s.size:=by omega
   subst hi'
   rw [List.drop_eq_nil_of_le (by omega)]at hn
   have hn:n=_:=hn
   simp [-calmR_some,f318_l0,g0,g6,g7]
   rw [hkk]
   exact hex _ _ _ (by simp [g0,h0]) (by simp [g4]) (by simp [g6,hn])
 have e213:=fun S=>@s213 S (numA s) numA_in
 have hm:minusS s=true∨minusS s=false:=by cases minusS s<;>simp
 rcases hm with hm|hm
 ·have hm':=hm
  unfold minusS at hm'
  rw [Bool.and_eq_true,decide_eq_true_eq,decide_eq_true_eq]at hm'
  have hgt:(1:Int) < s.size:=by omega
  have hix:pev .indexS [.sc (.string s),.i 0]=some (.sc (.int .u8 45)):=idxS (i:=0) hm'.2
  have hnA:numA s=accA 0 (s.data.toList.drop 1):=by unfold numA;rw [hm];rfl
  simp only [f318]
  simp [-calmR_some,f318b,hgt,hm'.1,hix]
  refine hcc 1 _ _ _ _ _ (by omega) (by simp) (by simp) (by simp) ?_
  intro e' rg S' g0 g4 g6
  rw [←hnA]at g6
  simp at g0 g4
  simp [g0,g4,g6,e213]
 ·have hnA:numA s=IntKind.i64.wrap (-(accA 0 s.data.toList)):=by unfold numA;rw [hm];rfl
  have fin:∀(e':Nat→AV) (rg:Nat→Option (List AV)) (S':AS),e' 0=.sc (.string s)→e' 4=.b false→e' 6=.sc (.int .i64 (accA 0 (s.data.toList.drop 0)))→calmR S (fin [.tmp 2,.tmp 3] (exec AA (.seq (.seq (.ops [
   ⟨some 32,.pur .mov,[.t 4],none⟩,
   ⟨some 33,.pur (.un .not),[.t 32],none⟩]) (.cond (.t 33) (.ops [
    ⟨some 34,.pur .mov,[.t 6],none⟩,
    ⟨some 35,.pur (.un .neg),[.t 34],none⟩,
    ⟨some 6,.pur .mov,[.t 35],none⟩]) (.skip))) (.seq (.ops [
   ⟨some 36,.pur .mov,[.t 6],none⟩,
   ⟨some 37,.pur .mov,[.t 6],none⟩,
   ⟨some 38,.call 213,[.t 37],none⟩,
   ⟨some 39,.pur .mov,[.t 0],none⟩,
   ⟨some 40,.pur (.bin .eql),[.t 38,.t 39],none⟩,
   ⟨some 2,.pur .mov,[.t 36],none⟩,
   ⟨some 3,.pur .mov,[.t 40],none⟩]) .ret)) (st 41 e' rg S') []))=some (.tup [.sc (.int .i64 (numA s)),.sc (.bool (decide (itoaB (numA s)=s)))],S):=by
   intro e' rg S' g0 g4 g6
   rw [List.drop_zero]at g6
   simp [g0,g4,g6,←hnA,e213]
  unfold minusS at hm
  by_cases hgt:1 < s.size
  ·have hgt':(1:Int) < s.size:=by omega
   have hne:¬s.data.toList[0]?=some 45:=by simpa [hgt] using hm
   obtain ⟨b,hb⟩:∃b,s.data.toList[0]?=some b:=⟨s.data.toList[0]'(by omega),by simp⟩
   have hix:pev .indexS [.sc (.string s),.i 0]=some (.sc (.int .u8 (b.toNat:Int))):=idxS (i:=0) hb
   have h45:¬((b.toNat:Int)=45):=by
    intro h
    have:b=45:=by rw [←UInt8.toNat_inj];show b.toNat=45;omega
    exact hne (by rw [hb,this])
   simp only [f318]
   simp [-calmR_some,f318b,hgt,hgt',hix,h45]
   refine hcc 0 _ _ _ _ _ (by omega) (by simp) (by simp) (by simp) ?_
   intro e' rg S' g0 g4 g6
   simp at g0 g4
   simpa [g0,g4] using fin e' rg S' g0 g4 g6
  ·have hgt':¬(1:Int) < s.size:=by omega
   simp only [f318]
   simp [-calmR_some,f318b,hgt,hgt']
   refine hcc 0 _ _ _ _ _ (by omega) (by simp) (by simp) (by simp) ?_
   intro e' rg S' g0 g4 g6
   simp at g0 g4
   simpa [g0,g4] using fin e' rg S' g0 g4 g6
end
structure Ck where
 client:ByteArray
 nonce:ByteArray
 done:List ByteArray
 secret:T
 upto:Int
def Ck.cells (c:Ck):List AV:=[.sc (.string c.client),.sc (.string c.nonce),lstS c.done,.sc (.int .i64 c.secret.kind),.sc (.string c.secret.name),lstT c.secret.kids,.sc (.int .i64 c.upto)]
def tZero:T:=.mk 0 ⟨#[]⟩ []
def ckZero:Ck:=⟨⟨#[]⟩,⟨#[]⟩,[],tZero,0⟩
abbrev zC:List AV:=[.s ⟨#[]⟩,.s ⟨#[]⟩,.lst 0 true [],.i 0,.s ⟨#[]⟩,.lst 0 true [],.i 0]
section
variable (c:Ck)
@[simp] theorem Ck.len_cells:c.cells.length=7:=rfl
@[simp] theorem Ck.cell_cells:c.cells.all AV.isCell=true:=rfl
@[simp] theorem Ck.get0:getCells c.cells 0 1 false=some (.sc (.string c.client)):=rfl
@[simp] theorem Ck.get1:getCells c.cells 1 1 false=some (.sc (.string c.nonce)):=rfl
@[simp] theorem Ck.get2:getCells c.cells 2 1 false=some (lstS c.done):=rfl
@[simp] theorem Ck.get3:getCells c.cells 3 3 true=some (.agg c.secret.cells):=by rw [cells_T];rfl
@[simp] theorem Ck.get6:getCells c.cells 6 1 false=some (.sc (.int .i64 c.upto)):=rfl
@[simp] theorem Ck.get7:getCells c.cells 0 7 true=some (.agg c.cells):=rfl
@[simp] theorem Ck.dt0:c.cells.take 1=[.sc (.string c.client)]:=rfl
@[simp] theorem Ck.dt1:(c.cells.drop 1).take 1=[.sc (.string c.nonce)]:=rfl
@[simp] theorem Ck.dt1':c.cells.tail.take 1=[.sc (.string c.nonce)]:=rfl
@[simp] theorem Ck.dt2:(c.cells.drop 2).take 1=[lstS c.done]:=rfl
@[simp] theorem Ck.dt3:(c.cells.drop 3).take 3=c.secret.cells:=by rw [cells_T];rfl
@[simp] theorem Ck.dt6:(c.cells.drop 6).take 1=[.sc (.int .i64 c.upto)]:=rfl
@[simp] theorem Ck.nrm_cells:nrmL c.cells=c.cells:=by
 unfold Ck.cells
 simp only [nrmL,AV.nrm]
 rw [show (lstS c.done).nrm=lstS c.done from lstS_nrm _,lstT_nrm]
@[simp] theorem Ck.tk7:c.cells.take 7=c.cells:=rfl
@[simp] theorem Ck.frz_cells (S:AS) (b d:Nat):mapO (S.frzTo b (d+1)) c.cells=some c.cells:=by
 unfold Ck.cells lstS lstT
 simp
@[simp] theorem Ck.pure_cells:pureL c.cells=true:=by
 unfold Ck.cells
 simp [pureL,AV.pure]
end
section
variable {S:AS}
def doneT (l:List ByteArray):List T:=l.map fun s=>tData (⟨#[100]⟩++s)
def bodyT (c:Ck):List T:=[tData ⟨#[99,111,111,107,105,101]⟩,tData (⟨#[99]⟩++c.client),tData (⟨#[110]⟩++c.nonce),tPair (doneT c.done),c.secret,tData (⟨#[117]⟩++itoaB c.upto)]
def sealT (key:T) (c:Ck):T:=if key.fit && c.secret.fit then tEnc key (tPair (bodyT c)) else tZero
structure Ck.ok (c:Ck):Prop where
 client:c.client.size≤4611686018427387904
 nonce:c.nonce.size≤4611686018427387904
 done:c.done.length * 48≤140737488355328
 names:∀s∈c.done,s.size≤4611686018427387904
 upto:inI c.upto
 fits:c.secret.fits
 ofit:c.secret.ofit
theorem doneT_len {l:List ByteArray}:(doneT l).length=l.length:=by simp [doneT]
theorem doneT_take {l:List ByteArray} {i:Nat} {s:ByteArray} (h:l[i]?=some s):(doneT (l.take (i+1))).map T.cells=(doneT (l.take i)).map T.cells++[(tData (⟨#[100]⟩++s)).cells]:=by
 rw [List.take_add_one,h];simp [doneT]
end
structure IsSs (S:AS) (x:AV) (l:List ByteArray):Prop where
 reg:x.isReg=false
 len:pev .lenL [x.nrm]=some (.sc (.int .i64 l.length))
 nn:x.nrm.nrm=x.nrm
 rows:∀S':AS,(∀id,id < S.n→S'.heap id=S.heap id)→rowsOf 1 S' x.nrm=some (sRow l)
section
variable {S:AS}
theorem IsSs.nrm {x:AV} {l:List ByteArray} (h:IsSs S x l):IsSs S x.nrm l:=
 ⟨by rw [nrm_isReg];exact h.reg,by rw [h.nn];exact h.len,by rw [h.nn,h.nn],fun S' h2=>by rw [h.nn];exact h.rows S' h2⟩
theorem IsSs.cell {y:AV} {l:List ByteArray} (h:IsSs S y l) (hn:y.nrm=y):y.isCell=true:=by
 have:=h.rows S fun _ _=>rfl
 rw [hn]at this
 cases y<;>first|rfl|(simp [rowsOf]at this)
theorem isSs_S {l:List ByteArray}:IsSs S (lstS l) l:=⟨rfl,by simp,by simp,fun S' _=>by rw [lstS_nrm];exact lstS_rows S' l⟩
theorem isSs_arr {id off n:Nat} {lim:Option Nat} {l:List ByteArray} (h:S.slice 0 id 1 off n=some (sRow l)) (hid:id < S.n) (hn:n=l.length):IsSs S (.arr id 1 off n lim) l:=by
 refine ⟨rfl,by subst hn;rfl,rfl,fun S' h2=>?_⟩
 show rowsOf 1 S' (.arr id 1 off n lim)=_
 simp only [rowsOf,if_true]
 unfold AS.slice at h ⊢
 rw [h2 id hid];exact h
theorem IsSs.at {x:AV} {l:List ByteArray} (h:IsSs S x l) {i:Nat} {t:ByteArray} (ht:l[i]?=some t):∃p,pev (.iaddr 1) [x.nrm,.sc (.int .i64 (i:Int))]=some p∧p.isReg=false∧
 ∀S':AS,(∀id,id < S.n→S'.heap id=S.heap id)→∀d rg,opev (.ld none 1 false) d rg S' [p]=some (.sc (.string t),none,S'):=by
 have hlen:i < l.length:=(List.getElem?_eq_some_iff.1 ht).1
 have hr:=h.rows
 have hl:=h.len
 generalize x.nrm=y at hr hl ⊢
 have h0:=hr S fun _ _=>rfl
 cases y with
 |lst z f xs=>
  simp only [rowsOf]at h0
  split at h0
  ·rename_i hz
   cases h0
   have hne:(sRow l).isEmpty=false:=by cases l with
    |nil=>simp at hlen
    |cons _ _=>rfl
   rw [hne]at hz
   have hz:z=1:=by simpa using hz
   subst hz
   exact ⟨.iptr [.sc (.string t)],by simp [pev,sRow,ht],rfl,fun S' _ d rg=>by simp⟩
  ·cases h0
 |arr id z off n lim=>
  simp only [rowsOf]at h0
  split at h0
  ·rename_i hz
   subst hz
   have hn:n=l.length:=by
    have hl:(n:Int)=(l.length:Int):=by simpa using hl
    omega
   refine ⟨.ptr id (off+i) 0,by simp [pev];omega,rfl,fun S' h2 d rg=>?_⟩
   have h1:=hr S' h2
   simp only [rowsOf,if_true]at h1
   unfold AS.slice at h1
   simp only [Nat.zero_le,if_true]at h1
   split at h1
   ·rename_i z' rs hh
    split at h1
    ·rename_i hc
     simp only [Option.some.injEq]at h1
     have:((rs.drop off).take n)[i]?=some [.sc (.string t)]:=by rw [h1];simp [sRow,ht]
     rw [List.getElem?_take,if_pos (by omega),List.getElem?_drop]at this
     rw [opev_ld_ptr hh,this];simp
    ·cases h1
   ·cases h1
  ·cases h0
 |_=>simp [rowsOf]at h0
def ckX (c:Ck) (x:AV):List AV:=[.sc (.string c.client),.sc (.string c.nonce),x,.sc (.int .i64 c.secret.kind),.sc (.string c.secret.name),lstT c.secret.kids,.sc (.int .i64 c.upto)]
section
variable (c:Ck) (x:AV)
@[simp] theorem ckX_len:(ckX c x).length=7:=rfl
theorem ckX_cell (h:x.isCell=true):(ckX c x).all AV.isCell=true:=by simp [ckX,h]
@[simp] theorem ckX_t0:(ckX c x).take 1=[.sc (.string c.client)]:=rfl
@[simp] theorem ckX_t1:((ckX c x).drop 1).take 1=[.sc (.string c.nonce)]:=rfl
@[simp] theorem ckX_t1':(ckX c x).tail.take 1=[.sc (.string c.nonce)]:=rfl
@[simp] theorem ckX_t2:((ckX c x).drop 2).take 1=[x]:=rfl
@[simp] theorem ckX_t3:((ckX c x).drop 3).take 3=c.secret.cells:=by rw [cells_T];rfl
@[simp] theorem ckX_t6:((ckX c x).drop 6).take 1=[.sc (.int .i64 c.upto)]:=rfl
@[simp] theorem ckX_nrm:nrmL (ckX c x)=ckX c x.nrm:=by simp [ckX,lstT_nrm]
end
end
end Abs
