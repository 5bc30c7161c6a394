/- MessageMakes. -/
import Derived.Test.YthcobbfffjfboaaGreatDoorG1
set_option linter.unusedVariables false
set_option linter.unusedSimpArgs false
set_option linter.unusedSectionVars false
namespace Abs
open Go
section
variable {S:AS}
end
def knd (k:Int):Bool:=decide (1≤k∧k≤10)
def nmd (k:Int):Bool:=decide (k=1∨k=2∨k=7)
def kdn (k:Int):Int:=if k=3 then -1 else if k=1∨k=2 then 0 else if k=6∨k=7∨k=8 then 1 else 2
def ltr (k:Int):ByteArray:=⟨#[if k=1 then 100 else if k=2 then 97 else if k=3 then 112 else if k=4 then 101 else if k=5 then 109 else if k=6 then 104 else if k=7 then 107 else if k=8 then 117 else if k=9 then 115 else 120]⟩
def T.one (t:T):Bool:=knd t.kind && (nmd t.kind !=decide (t.name=⟨#[]⟩)) && (decide (kdn t.kind < 0) ||decide ((t.kids.length:Int)=kdn t.kind))
def T.shp:Nat→T→Bool
 |0,_=>false
 |d+1,t=>t.one && t.kids.all (T.shp d)
theorem knd_cases {k:Int} (h:knd k=true):k=1∨k=2∨k=3∨k=4∨k=5∨k=6∨k=7∨k=8∨k=9∨k=10:=by
 simp only [knd,decide_eq_true_eq]at h;omega
theorem kindAt {k:Int} (h:knd k=true):pev (.iaddrA 3 11) [.iptr kindsV,.sc (.int .i64 k)]=some (.iptr (.sc (.string (ltr k))::.sc (.int .i64 (kdn k))::.sc (.bool (nmd k))::kindsV.drop (k.toNat * 3+3))):=by
 rcases knd_cases h with rfl|rfl|rfl|rfl|rfl|rfl|rfl|rfl|rfl|rfl<;>rfl
theorem glob0:AA.glob 0=some (.iptr kindsV):=rfl
section
variable {S:AS}
@[simp] theorem s319 {t:T}:call 319 [.agg t.cells] S=some (.sc (.bool (knd t.kind)),S):=by
 rw [call_calm a319 rfl (by simp) rfl]
 by_cases h:1≤t.kind
 ·simp [f319,f319b,knd,h]
 ·simp [f319,f319b,knd,h]
@[simp] theorem pev_ibox_sc {v:Value}:pev .ibox [.sc v]=some (.iptr [.sc v]):=rfl
theorem s408 {f:AV} {k:Nat} {c:List AV} {l:List T} {g:T→Bool} (hf:f=.fn k [] c) (hl:l.length≤4611686018427387904)
 (hg:∀t∈l,∀S',call k (.agg t.cells::c) S'=some (.sc (.bool (g t)),S')):call 408 [lstT l,f] S=some (.sc (.int .i64 (match l.findIdx? g with|some i=>i|none=> -1)),S):=by
 have hr:f.isReg=false:=by rw [hf];rfl
 rw [call_keep a408 (by simp [hr]) rfl]
 simp only [f408]
 simp [f408b,-calmR_some,hr]
 refine loop_gen (α:=Nat) (R:=fun _ r=>r=some (.sc (.int .i64 (match l.findIdx? g with|some i=>i|none=> -1)),S)) (fun i e rg S'=>i≤l.length∧S'=S∧e 0=lstT l∧e 1=f∧e 7=.sc (.int .i64 (l.length:Nat))∧e 8=.sc (.int .i64 (i:Nat))∧(∀t∈l.take i,g t=false)) (fun i=>l.length - i) ?_ 0 _ _ _ ?_
 rotate_left
 ·exact ⟨by omega,rfl,by simp,by simp,by simp,by simp,fun t ht=>by simp at ht⟩
 intro kk hkk i e rg S' ⟨hi,hS,h0,h1,h7,h8,hno⟩ ih
 subst hS
 by_cases hc:i < l.length
 ·have hc':(i:Int) < l.length:=by omega
  obtain ⟨t,ht⟩:∃t,l[i]?=some t:=⟨l[i],by simp [hc]⟩
  have hgt:=hg t (List.mem_of_getElem? ht)
  have w1:IntKind.i64.wrap ((i:Int)+1)=((i+1:Nat):Int):=w64 (by omega)
  have hci:callvA AA=callvA AA:=rfl
  cases hb:g t with
  |true=>
   rw [hb]at hgt
   simp [f408_l0,h0,h1,h7,h8,hc',lstT_at ht,hf,hgt,-calmR_some]
   have hfi:l.findIdx? g=some i:=by
    rw [List.findIdx?_eq_some_iff_getElem]
    obtain ⟨hh,e1⟩:=List.getElem?_eq_some_iff.1 ht
    refine ⟨hh,by rw [e1];exact hb,fun j hj=>?_⟩
    have:=hno (l[j]'(by omega)) (by rw [List.mem_take_iff_getElem];exact ⟨j,by omega,rfl⟩)
    simp [this]
   rw [hkk];simp [hfi]
  |false=>
   rw [hb]at hgt
   simp [f408_l0,h0,h1,h7,h8,hc',lstT_at ht,hf,hgt,w1,-calmR_some]
   refine ih (i+1) _ _ _ (by omega) (fun _ h=>h) ?_
   refine ⟨by omega,rfl,by simp [h0],by simp [h1,hf],by simp [h7],by simp,fun u hu=>?_⟩
   rw [List.take_add_one,ht]at hu
   rcases List.mem_append.1 hu with hu|hu
   ·exact hno u hu
   ·simp at hu;rw [hu];exact hb
 ·have hc':¬(i:Int) < l.length:=by omega
  simp [f408_l0,h0,h1,h7,h8,hc',-calmR_some]
  have hfi:l.findIdx? g=none:=by
   rw [List.findIdx?_eq_none_iff]
   intro t ht
   exact hno t (by rw [List.take_of_length_le (by omega)];exact ht)
  rw [hkk];simp [hfi]
theorem s320 {f:AV} {k:Nat} {c:List AV} {l:List T} {g:T→Bool} (hf:f=.fn k [] c) (hl:l.length≤4611686018427387904)
 (hg:∀t∈l,∀S',call k (.agg t.cells::c) S'=some (.sc (.bool (g t)),S')):call 320 [lstT l,f] S=some (.sc (.bool (l.any g)),S):=by
 have hr:f.isReg=false:=by rw [hf];rfl
 rw [call_keep a320 (by simp [hr]) rfl]
 have e:=fun S'=>@s408 S' f k c l g hf hl hg
 simp [f320,f320b,e,hr]
 cases hfi:l.findIdx? g with
 |none=>
  rw [List.findIdx?_eq_none_iff]at hfi
  have:l.any g=false:=by rw [List.any_eq_false];intro x hx;rw [hfi x hx];simp
  simp [this]
 |some i=>
  rw [List.findIdx?_eq_some_iff_getElem]at hfi
  obtain ⟨h1,h2,_⟩:=hfi
  have:l.any g=true:=List.any_eq_true.2 ⟨_,List.getElem_mem h1,h2⟩
  simp [this]
theorem any_not {α:Type} {g:α→Bool} {l:List α}:(!(l.any fun x=>!(g x)))=l.all g:=by
 induction l with
 |nil=>rfl
 |cons x l ih=>rw [List.any_cons,List.all_cons,←ih];cases g x<;>simp
theorem s321_of {d:Nat} {t:T} (hd:d≤1000) (h:∀S,call 221 [.agg t.cells,.sc (.int .i64 (d:Nat))] S=some (.sc (.bool (t.shp d)),S)):
 call 321 [.agg t.cells,.iptr [.sc (.int .i64 ((d:Int)+1))]] S=some (.sc (.bool (!(t.shp d))),S):=by
 rw [call_calm a321 rfl (by simp) rfl]
 have w1:IntKind.i64.wrap (d:Int)=(d:Int):=w64 (by omega)
 simp [f321,f321b,h,w1]
theorem s221:∀{d:Nat} {t:T} {S:AS},d≤1000→t.fits→call 221 [.agg t.cells,.sc (.int .i64 (d:Nat))] S=some (.sc (.bool (t.shp d)),S)
 |0,t,S,_,_=>by
  rw [call_calm a221 rfl (by simp) rfl]
  simp [f221,f221b,T.shp]
 |d+1,t,S,hd,hf=>by
  obtain ⟨hl,hk⟩:=T.fits_kids hf
  rw [call_calm a221 rfl (by simp) rfl]
  have h0:¬((d:Int)+1=0):=by omega
  have e320:=fun S'=>@s320 S' (.fn 321 [] [.iptr [.sc (.int .i64 ((d:Int)+1))]]) 321 [.iptr [.sc (.int .i64 ((d:Int)+1))]] t.kids (fun t=>!(t.shp d)) rfl hl (fun u hu S''=>s321_of (by omega) (fun S=>s221 (by omega) (hk u hu)))
  rw [T.shp,←any_not]
  unfold T.one
  simp only [bne]
  by_cases h1:knd t.kind=true
  ·by_cases h2:(nmd t.kind==decide (t.name=⟨#[]⟩))=true
   ·simp [f221,f221b,h0,h1,glob0,kindAt h1,h2]
   ·by_cases h3:0≤kdn t.kind
    ·by_cases h4:(t.kids.length:Int)=kdn t.kind
     ·simp [f221,f221b,h0,h1,glob0,kindAt h1,h2,h3,h4,e320]
     ·have h5:¬kdn t.kind < 0:=by omega
      simp [f221,f221b,h0,h1,glob0,kindAt h1,h2,h3,h4,h5,e320]
    ·have h5:kdn t.kind < 0:=by omega
     simp [f221,f221b,h0,h1,glob0,kindAt h1,h2,h3,h5,e320]
  ·simp [f221,f221b,h0,h1]
end
def T.dep:Nat→T→Nat
 |0,_=>0
 |1,_=>1
 |d+2,t=>(t.kids.foldl (fun n k=>max n (T.dep (d+1) k)) 0)+1
def depL (d:Nat) (l:List T):Nat:=l.foldl (fun n k=>max n (T.dep d k)) 0
theorem depL_snoc {d:Nat} {l:List T} {k:T}:depL d (l++[k])=max (depL d l) (k.dep d):=by simp [depL]
theorem depL_take {d i:Nat} {l:List T} {k:T} (h:l[i]?=some k):depL d (l.take (i+1))=max (depL d (l.take i)) (k.dep d):=by
 rw [List.take_add_one,h];exact depL_snoc
theorem foldl_max_le {d b:Nat} {g:T→Nat}:∀{l:List T} {n:Nat},n≤b→(∀k∈l,g k≤b)→l.foldl (fun n k=>max n (g k)) n≤b
 |[],n,hn,_=>hn
 |k::l,n,hn,h=>foldl_max_le (d:=d) (l:=l) (Nat.max_le.2 ⟨hn,h k (by simp)⟩) fun x hx=>h x (by simp [hx])
theorem T.dep_le:∀{d:Nat} {t:T},t.dep d≤d
 |0,_=>Nat.le_refl _
 |1,_=>Nat.le_refl _
 |d+2,t=>by
  rw [T.dep]
  have:=@foldl_max_le d (d+1) (T.dep (d+1)) t.kids 0 (Nat.zero_le _) fun k _=>T.dep_le
  omega
theorem depL_le {d:Nat} {l:List T}:depL d l≤d:=foldl_max_le (d:=d) (Nat.zero_le _) fun _ _=>T.dep_le
section
theorem same07_loop {a b:T} {rg:Nat→Option (List AV)} {S:AS} {ks:List Kn} (h2:rg 2=some a.cells) (h3:rg 3=some b.cells)
 (hl:a.kids.length=b.kids.length) (hb:a.kids.length≤4611686018427387904)
 (ih:∀t∈a.kids,∀u,call 114 [.agg t.cells,.agg u.cells] S=some (.sc (.bool (t.same u)),S))
 (hf:∀e,e 4=.sc (.bool false)→fin [.tmp 4] (unw AA (some (.ret,st 48 e rg S)) ks)=some (.sc (.bool false),S))
 (hk:∀e,fin [.tmp 4] (unw AA (some (.exit 0,st 48 e rg S)) ks)=some (.sc (.bool true),S)):
 ∀(n i:Nat) (e:Nat→AV) (tm:List Nat),n+i=a.kids.length→tm=[4,6,28,29,30,31,32,33,34,35,36,37,38,39,40,41,42,43,44,45,46,47]→e 2=.reg 2 0→e 3=.reg 3 0→e 5=.sc (.int .i64 i)→
  fin [.tmp 4] (exec AA (.loop tm [] f114_l0) (st 48 e rg S) ks)=some (.sc (.bool (sameL (a.kids.drop i) (b.kids.drop i))),S):=by
 intro n
 induction n with
 |zero=>
  intro i e tm hn htm h2' h3' h5
  rw [exec_loop]
  generalize hkk:Kn.loop tm [] f114_l0::ks=kk
  have hc:¬(i:Int) < a.kids.length:=by omega
  simp [f114_l0,put_apply,htm,h2',h3',h5,h2,hc]
  rw [←hkk];simp
  rw [hk,List.drop_eq_nil_of_le (by omega),List.drop_eq_nil_of_le (by omega)]
  rfl
 |succ n ihn=>
  intro i e tm hn htm h2' h3' h5
  rw [exec_loop]
  generalize hkk:Kn.loop tm [] f114_l0::ks=kk
  have hc:(i:Int) < a.kids.length:=by omega
  have hi:i < a.kids.length:=by omega
  have hi':i < b.kids.length:=by omega
  obtain ⟨t,ht⟩:∃t,a.kids[i]?=some t:=⟨a.kids[i],by simp [hi]⟩
  obtain ⟨u,hu⟩:∃u,b.kids[i]?=some u:=⟨b.kids[i],by simp [hi']⟩
  have hd:sameL (a.kids.drop i) (b.kids.drop i)=(t.same u && sameL (a.kids.drop (i+1)) (b.kids.drop (i+1))):=by
   obtain ⟨_,e1⟩:=List.getElem?_eq_some_iff.1 ht
   obtain ⟨_,e2⟩:=List.getElem?_eq_some_iff.1 hu
   rw [List.drop_eq_getElem_cons hi,List.drop_eq_getElem_cons hi',e1,e2];rfl
  have hs:=ih t (List.mem_of_getElem? ht) u
  have w1:IntKind.i64.wrap ((i:Int)+1)=((i+1:Nat):Int):=w64 (by omega)
  rw [hd]
  cases hsm:t.same u with
  |false=>
   rw [hsm]at hs
   simp [f114_l0,put_apply,htm,h2',h3',h5,h2,h3,hc,lstT_at ht,lstT_at hu,hs]
   rw [←hkk];simp
   exact hf _ (by simp [put_apply])
  |true=>
   rw [hsm]at hs
   simp [f114_l0,put_apply,htm,h2',h3',h5,h2,h3,hc,lstT_at ht,lstT_at hu,hs,w1]
   rw [←hkk,unw_loop]
   exact ihn (i+1) _ tm (by omega) htm (by simp [put_apply,htm,h2']) (by simp [put_apply,htm,h3']) (by simp [put_apply])
theorem same07':∀(n:Nat) (a b:T) (S:AS),sizeOf a < n→a.fits→call 114 [.agg a.cells,.agg b.cells] S=some (.sc (.bool (a.same b)),S)
 |0,_,_,_,h,_=>by omega
 |n+1,a,b,S,hn,hfit=>by
  obtain ⟨hlen,hkids⟩:=T.fits_kids hfit
  rw [call_calm a114 rfl (by simp) rfl]
  simp only [f114]
  rw [T.same_def]
  by_cases h1:a.kind=b.kind
  ·by_cases h2:a.name=b.name
   ·by_cases h3:a.kids.length=b.kids.length
    ·simp [f114b,put_apply,upd_apply,h1,h2,h3]
     refine (congrArg (calmR S) (same07_loop (a:=a) (b:=b) (by simp [upd_apply]) (by simp [upd_apply]) h3 hlen
      (fun t ht u=>same07' n t u _ (by have:=T.kid_lt ht;omega) (hkids t ht)) ?_ ?_ a.kids.length 0 _ _ (by omega) rfl (by simp [put_apply]) (by simp [put_apply]) (by simp [put_apply]))).trans ?_
     ·intro e he;simp [he,retRs,retR]
     ·intro e;simp [put_apply,retRs,retR]
     ·simp [calm_sc]
    ·have hs:sameL a.kids b.kids=false:=by
      rw [Bool.eq_false_iff];intro h;exact h3 (by rw [sameL_iff.1 h])
     have h3':¬(a.kids.length:Int)=b.kids.length:=by omega
     simp [f114b,put_apply,upd_apply,h1,h2,h3,h3',hs,retRs,retR,calm_sc]
   ·simp [f114b,put_apply,upd_apply,h1,h2,retRs,retR,calm_sc]
  ·simp [f114b,put_apply,upd_apply,h1,retRs,retR,calm_sc]
@[simp] theorem s114 {a b:T} {S:AS} (h:a.fits):call 114 [.agg a.cells,.agg b.cells] S=some (.sc (.bool (a.same b)),S):=same07' _ a b S (Nat.lt_succ_self _) h
theorem s314:∀{d:Nat} {t:T} {S:AS},d≤1000→t.fits→call 314 [.agg t.cells,.sc (.int .i64 (d:Nat))] S=some (.sc (.int .i64 (t.dep d:Nat)),S)
 |0,t,S,_,_=>by
  rw [call_calm a314 rfl (by simp) rfl]
  simp [f314,f314b,T.dep]
 |1,t,S,_,_=>by
  rw [call_calm a314 rfl (by simp) rfl]
  simp [f314,f314b,T.dep]
 |d+2,t,S,hd,hf=>by
  obtain ⟨hl,hk⟩:=T.fits_kids hf
  rw [call_calm a314 rfl (by simp) rfl]
  have h0:¬((d:Int)+2≤1):=by omega
  have e1:IntKind.i64.wrap ((d:Int)+2 - 1)=((d+1:Nat):Int):=by rw [w64 (by omega)];omega
  rw [T.dep]
  simp only [f314]
  simp [-calmR_some,f314b,h0]
  refine loop_gen (α:=Nat) (R:=fun _ r=>calmR S r=some (.sc (.int .i64 ((depL (d+1) t.kids:Nat)+1)),S)) (fun i e rg S'=>i≤t.kids.length∧e 1=.sc (.int .i64 ((d:Int)+2))∧e 2=.reg 2 0∧rg 2=some t.cells∧e 5=.sc (.int .i64 (depL (d+1) (t.kids.take i):Nat))∧e 6=.sc (.int .i64 (i:Nat))) (fun i=>t.kids.length - i) ?_ 0 _ _ _ ?_
  rotate_left
  ·exact ⟨by omega,by simp,by simp,by simp,by simp [depL],by simp⟩
  intro kk hkk i e rg S' ⟨hi,h1,h2,hr,h5,h6⟩ ih
  by_cases hc:i < t.kids.length
  ·obtain ⟨k,hkk'⟩:=get_of_lt hc
   have hm:=List.mem_of_getElem? hkk'
   have w2:IntKind.i64.wrap ((i:Int)+1)=((i+1:Nat):Int):=w64 (by omega)
   have e314:∀S,call 314 [.agg k.cells,.sc (.int .i64 ((d:Int)+1))] S=some (.sc (.int .i64 (k.dep (d+1):Nat)),S):=fun S=>@s314 (d+1) k S (by omega) (hk k hm)
   have hmx:(max (depL (d+1) (t.kids.take i):Int) (k.dep (d+1):Int))=(depL (d+1) (t.kids.take (i+1)):Nat):=by rw [depL_take hkk'];omega
   simp [-calmR_some,f314_l0,h1,h2,hr,h5,h6,hc,lstT_at hkk',e1,w2,e314]
   refine ih (i+1) _ _ _ (by omega) (fun _ h=>h) ?_
   exact ⟨by omega,by simp [h1],by simp [h2],by simp [hr],by simpa using hmx,by simp⟩
  ·have hi':i=t.kids.length:=by omega
   subst hi'
   rw [List.take_length]at h5
   have hle:=@depL_le (d+1) t.kids
   have w3:IntKind.i64.wrap ((depL (d+1) t.kids:Int)+1)=(depL (d+1) t.kids:Int)+1:=w64 (by omega)
   simp [-calmR_some,f314_l0,h1,h2,hr,h6]
   rw [hkk]
   simp [h5,w3]
def eqF (g:T→T→Bool):List T→List T→Bool
 |[],[]=>true
 |a::l,b::m=>g a b && eqF g l m
 |_,_=>false
theorem eqF_len {g:T→T→Bool}:∀{l m:List T},eqF g l m=true→l.length=m.length
 |[],[],_=>rfl
 |a::l,b::m,h=>by
  simp only [eqF,Bool.and_eq_true]at h
  simp [eqF_len h.2]
 |[],_::_,h=>by cases h
 |_::_,[],h=>by cases h
theorem eqF_same:∀{l m:List T},eqF T.same l m=sameL l m
 |[],[]=>rfl
 |[],_::_=>rfl
 |_::_,[]=>rfl
 |a::l,b::m=>by rw [eqF,sameL,eqF_same]
theorem eqF_drop {g:T→T→Bool} {l m:List T} {i:Nat} {t u:T} (ht:l[i]?=some t) (hu:m[i]?=some u):eqF g (l.drop i) (m.drop i)=(g t u && eqF g (l.drop (i+1)) (m.drop (i+1))):=by
 obtain ⟨hi,e1⟩:=List.getElem?_eq_some_iff.1 ht
 obtain ⟨hi',e2⟩:=List.getElem?_eq_some_iff.1 hu
 rw [List.drop_eq_getElem_cons hi,List.drop_eq_getElem_cons hi',e1,e2];rfl
theorem s224 {S:AS} {k:Nat} {l m:List T} {g:T→T→Bool} (hl:l.length≤4611686018427387904)
 (hg:∀t∈l,∀u S',call k [.agg t.cells,.agg u.cells] S'=some (.sc (.bool (g t u)),S')):call 224 [lstT l,lstT m,.fn k [] []] S=some (.sc (.bool (eqF g l m)),S):=by
 rw [call_keep a224 (by simp) rfl]
 simp only [f224]
 by_cases hlm:l.length=m.length
 ·simp [f224b,hlm]
  refine loop_genR (α:=Nat) (R:=fun i r=>r=some (.sc (.bool (eqF g (l.drop i) (m.drop i))),S)) (fun i e rg S'=>i≤l.length∧S'=S∧NQ [6,7,8,9,18,19,20,21,22,23,24,25,26,27,28,29,30,31] [8,9] e∧e 1=lstT m∧e 2=.fn k [] []∧e 15=lstT l∧e 16=.sc (.int .i64 (l.length:Nat))∧e 17=.sc (.int .i64 (i:Nat))) (fun i=>l.length - i) (fun _ _ _ _ h=>h.2.2.1) ?_ 0 _ _ _ ?_
  rotate_left
  ·refine ⟨by omega,rfl,?_,by simp,by simp,by simp,by simp [hlm],by simp⟩
   repeat (first|exact NQ_ini rfl|refine NQ_put ?_ (by simp))
  intro kk hkk i e rg S' ⟨hi,hS,hq,h1,h2,h15,h16,h17⟩ ih
  subst hS
  by_cases hc:i < l.length
  ·obtain ⟨t,ht⟩:=get_of_lt hc
   obtain ⟨u,hu⟩:=get_of_lt (l:=m) (i:=i) (by omega)
   have w2:IntKind.i64.wrap ((i:Int)+1)=((i+1:Nat):Int):=w64 (by omega)
   have hcall:=hg t (List.mem_of_getElem? ht) u
   cases hb:g t u with
   |false=>
    rw [hb]at hcall
    rw [eqF_drop ht hu,hb]
    simp [f224_l0,h1,h2,h15,h16,h17,hc,lstT_at ht,lstT_at hu,hcall,fgtR_apply]
    rw [hkk];simp
   |true=>
    rw [hb]at hcall
    simp [f224_l0,h1,h2,h15,h16,h17,hc,lstT_at ht,lstT_at hu,hcall,w2]
    refine ih (i+1) _ _ _ (by omega) (fun _ h=>?_) ?_
    ·rw [h];rw [eqF_drop ht hu,hb];simp
    ·refine ⟨by omega,rfl,?_,by simp [h1],by simp [h2],by simp [h15],by simp [h16],by simp⟩
     repeat (first|exact NQ_fgt hq|refine NQ_put ?_ (by simp))
  ·have hi':i=l.length:=by omega
   subst hi'
   simp [f224_l0,h1,h2,h15,h16,h17,eqF]
   rw [hkk,hlm];simp [eqF]
 ·have h2:¬((l.length:Int)=m.length):=by omega
  have h3:eqF g l m=false:=by
   rw [Bool.eq_false_iff];exact fun h=>hlm (eqF_len h)
  simp [f224b,h2,h3]
theorem same118:∀(n:Nat) (a b:T) (S:AS),sizeOf a < n→a.fits→call 118 [.agg a.cells,.agg b.cells] S=some (.sc (.bool (a.same b)),S)
 |0,_,_,_,h,_=>by omega
 |n+1,a,b,S,hn,hfit=>by
  obtain ⟨hlen,hkids⟩:=T.fits_kids hfit
  rw [call_calm a118 rfl (by simp) rfl]
  have e224:=fun S=>@s224 S 118 a.kids b.kids T.same hlen (fun t ht u S'=>same118 n t u S' (by have:=T.kid_lt ht;omega) (hkids t ht))
  rw [eqF_same]at e224
  rw [T.same_def]
  by_cases h1:a.kind=b.kind
  ·by_cases h2:a.name=b.name
   ·simp [f118,f118b,h1,h2,e224]
   ·simp [f118,f118b,h1,h2]
  ·simp [f118,f118b,h1]
@[simp] theorem s118 {a b:T} {S:AS} (h:a.fits):call 118 [.agg a.cells,.agg b.cells] S=some (.sc (.bool (a.same b)),S):=same118 _ a b S (Nat.lt_succ_self _) h
end
def tUse (k:T) (n:Int):T:=tKdf k (⟨#[117,115,101,32]⟩++itoaB n)
def tOtp (k:T) (n:Int):T:=tKdf k (⟨#[111,116,112,32]⟩++itoaB n)
def tWd (k:T):T:=tKdf k ⟨#[119,111,114,100]⟩
def tJoin (a b:T) (f g:ByteArray):T:=tHash (tPair [tKdf a (⟨#[106,111,105,110,32]⟩++f),tKdf b (⟨#[106,111,105,110,32]⟩++g)])
def tSecond (s w o a b:T) (n:Int):T:=tUse (tHash (tPair [s,w,o,a,b])) n
def tSeal (k:T) (n:Int) (t:T):T:=tEnc (tUse k n) t
def unsL (k:T) (n:Int):List T→T×Int
 |[a,b]=>if a.same (tUse k n) then (b,0) else (tZ,4)
 |_=>(tZ,2)
def unsT (k:T) (n:Int) (t:T):T×Int:=if t.kind=4 then unsL k n t.kids else (tZ,2)
section
variable {S:AS}
theorem s368 {a:T} {w:ByteArray} {n:Int} (hw:w.size≤1000) (hn:inI n):call 368 [.agg a.cells,.sc (.string w),.sc (.int .i64 n)] S=some (.agg (tKdf a (w++⟨#[32]⟩++itoaB n)).cells,S):=by
 rw [call_calm a368 rfl (by simp) rfl]
 have e1:=fun S=>@c193 S n hn
 have h32:(⟨#[32]⟩:ByteArray).size=1:=rfl
 have p1:=pev_sadd (x:=w) (y:=⟨#[32]⟩) (by omega)
 have hs:=itoaB_le hn.1 hn.2
 have p2:=pev_sadd (x:=w++⟨#[32]⟩) (y:=itoaB n) (by rw [ByteArray.size_append];omega)
 simp [f368,f368b,e1,p1,p2]
theorem s354 {a:T} {n:Int} (hn:inI n):call 354 [.agg a.cells,.sc (.int .i64 n)] S=some (.agg (tUse a n).cells,S):=by
 rw [call_calm a354 rfl (by simp) rfl]
 have e1:=fun S=>@s368 S a ⟨#[117,115,101]⟩ n (by show 3≤1000;omega) hn
 have h1:(⟨#[117,115,101]⟩:ByteArray)++⟨#[32]⟩=⟨#[117,115,101,32]⟩:=rfl
 rw [h1]at e1
 simp [f354,f354b,e1,tUse]
theorem s278 {a:T} {n:Int} (hn:inI n):call 278 [.agg a.cells,.sc (.int .i64 n)] S=some (.agg (tOtp a n).cells,S):=by
 rw [call_calm a278 rfl (by simp) rfl]
 have e1:=fun S=>@s368 S a ⟨#[111,116,112]⟩ n (by show 3≤1000;omega) hn
 have h1:(⟨#[111,116,112]⟩:ByteArray)++⟨#[32]⟩=⟨#[111,116,112,32]⟩:=rfl
 rw [h1]at e1
 simp [f278,f278b,e1,tOtp]
theorem s336 {a:T} {n:Int} (hn:inI n) (h0:n≠ -9223372036854775808):call 336 [.agg a.cells,.sc (.int .i64 n)] S=some (.agg (tUse a n).cells,S):=by
 rw [call_calm a336 rfl (by simp) rfl]
 have e1:=fun S=>@s139 S n (by have:=hn.1;omega) hn.2
 have h32:(⟨#[117,115,101,32]⟩:ByteArray).size=4:=rfl
 have hs:=itoaB_le hn.1 hn.2
 have p1:=pev_sadd (x:=⟨#[117,115,101,32]⟩) (y:=itoaB n) (by omega)
 simp [f336,f336b,e1,p1,tUse]
theorem s158 {a:T} {n:Int} (hn:inI n) (h0:n≠ -9223372036854775808):call 158 [.agg a.cells,.sc (.int .i64 n)] S=some (.agg (tOtp a n).cells,S):=by
 rw [call_calm a158 rfl (by simp) rfl]
 have e1:=fun S=>@s139 S n (by have:=hn.1;omega) hn.2
 have h32:(⟨#[111,116,112,32]⟩:ByteArray).size=4:=rfl
 have hs:=itoaB_le hn.1 hn.2
 have p1:=pev_sadd (x:=⟨#[111,116,112,32]⟩) (y:=itoaB n) (by omega)
 simp [f158,f158b,e1,p1,tOtp]
@[simp] theorem s363 {a:T}:call 363 [.agg a.cells] S=some (.agg (tWd a).cells,S):=by
 rw [call_calm a363 rfl (by simp) rfl]
 simp [f363,f363b,tWd]
theorem s350 {a b:T} {f g:ByteArray} (hf:f.size≤1000) (hg:g.size≤1000):call 350 [.agg a.cells,.agg b.cells,.sc (.string f),.sc (.string g)] S=some (.agg (tJoin a b f g).cells,S):=by
 rw [call_calm a350 rfl (by simp) rfl]
 have h5:(⟨#[106,111,105,110,32]⟩:ByteArray).size=5:=rfl
 have p1:=pev_sadd (x:=⟨#[106,111,105,110,32]⟩) (y:=f) (by omega)
 have p2:=pev_sadd (x:=⟨#[106,111,105,110,32]⟩) (y:=g) (by omega)
 have e1:∀(S:AS) (x y:T),call 126 [.lst 3 true [x.cells,y.cells]] S=some (.agg (tPair [x,y]).cells,S):=fun S x y=>q126 isTs2 (by show 2 * 48≤_;omega)
 simp [f350,f350b,p1,p2,e1,tJoin,fillR]
theorem p385 {f:Bool} {l:List T} (hne:l≠[]) (hl:l.length * 48≤140737488355328):call 385 [.lst 3 f (l.map T.cells)] S=some (.agg (tPair l).cells,S):=by
 rw [call_calm' a385 (args':=[lstT l]) (by first|rw [nrmL,nrmL,lstT_nrm' _ _ _ (fun _=>rfl)]|simp) (by first|rw [nrmL,nrmL,lstT_nrm' _ _ _ (fun _=>rfl)]|simp) rfl]
 have e:=@calm_mk_arr S (AS.new ⟨S.heap,S.n,S.n⟩ (.rows 3 (l.map T.cells))) 3 ⟨#[]⟩ S.n 0 l.length none l (by
  have:=@slice_of (AS.new ⟨S.heap,S.n,S.n⟩ (.rows 3 (l.map T.cells))) S.n S.n 3 _ heap_new (Nat.le_refl _)
  simpa using this)
 have hap:∀d rg,opev (.append 3 48) d rg ⟨S.heap,S.n,S.n⟩ [.lst 3 true [],lstT l]=some (.arr S.n 3 0 l.length none,none,AS.new ⟨S.heap,S.n,S.n⟩ (.rows 3 (l.map T.cells))):=fun d rg=>by
  have hr:rowsOf 3 ⟨S.heap,S.n,S.n⟩ (lstT l)=some (l.map T.cells):=lstT_rows _ l
  have hem:(l.map T.cells).isEmpty=false:=by cases l with|nil=>exact absurd rfl hne|cons _ _=>rfl
  simp [opev,hr,appendA,hem,hl]
  exact fun h=>absurd h hne
 simp only [f385]
 simp [-calmR_some,f385b,hap,fillR]
 exact e
theorem s293 {a b:T} {f g:ByteArray} (hf:f.size≤1000) (hg:g.size≤1000):call 293 [.agg a.cells,.agg b.cells,.sc (.string f),.sc (.string g)] S=some (.agg (tJoin a b f g).cells,S):=by
 rw [call_calm a293 rfl (by simp) rfl]
 have h5:(⟨#[106,111,105,110,32]⟩:ByteArray).size=5:=rfl
 have p1:=pev_sadd (x:=⟨#[106,111,105,110,32]⟩) (y:=f) (by omega)
 have p2:=pev_sadd (x:=⟨#[106,111,105,110,32]⟩) (y:=g) (by omega)
 have e1:∀(S:AS) (x y:T),call 385 [.lst 3 true [x.cells,y.cells]] S=some (.agg (tPair [x,y]).cells,S):=fun S x y=>p385 (l:=[x,y]) (by simp) (by simp)
 simp [f293,f293b,p1,p2,e1,tJoin,fillR]
theorem s364 {s w o a b:T} {n:Int} (hn:inI n):call 364 [.agg s.cells,.agg w.cells,.agg o.cells,.agg a.cells,.agg b.cells,.sc (.int .i64 n)] S=some (.agg (tSecond s w o a b n).cells,S):=by
 rw [call_calm a364 rfl (by simp) rfl]
 have e1:∀(S:AS),call 126 [.lst 3 true [s.cells,w.cells,o.cells,a.cells,b.cells]] S=some (.agg (tPair [s,w,o,a,b]).cells,S):=fun S=>q126 (isTs_lst (l:=[s,w,o,a,b])) (by show 5 * 48≤_;omega)
 have e2:=fun S k=>@s354 S k n hn
 simp [f364,f364b,e1,e2,tSecond,fillR]
theorem s261 {k t:T} {n:Int} (hn:inI n):call 261 [.agg k.cells,.sc (.int .i64 n),.agg t.cells] S=some (.agg (tSeal k n t).cells,S):=by
 rw [call_calm a261 rfl (by simp) rfl]
 have e2:=fun S=>@s354 S k n hn
 simp [f261,f261b,e2,tSeal]
theorem s266 {k t:T} {n:Int} (hn:inI n) (h0:n≠ -9223372036854775808):call 266 [.agg k.cells,.sc (.int .i64 n),.agg t.cells] S=some (.agg (tSeal k n t).cells,S):=by
 rw [call_calm a266 rfl (by simp) rfl]
 have e2:=fun S=>@s336 S k n hn h0
 simp [f266,f266b,e2,tSeal]
def resU (r:T×Int):AV:=.tup [.agg r.1.cells,.sc (.int .i64 r.2)]
theorem s263 {k t:T} {n:Int} (hn:inI n) (ht:t.fits):call 263 [.agg k.cells,.sc (.int .i64 n),.agg t.cells] S=some (resU (unsT k n t),S):=by
 rw [call_calm a263 rfl (by simp) rfl]
 have e2:=fun S=>@s354 S k n hn
 unfold unsT
 by_cases h4:t.kind=4
 ·rw [if_pos h4]
  by_cases h2:t.kids.length=2
  ·obtain ⟨a,b,hab⟩:∃a b,t.kids=[a,b]:=by
    match hl:t.kids,h2 with
    |[a,b],_=>exact ⟨a,b,rfl⟩
   have l0:pev (.iaddr 3) [lstT t.kids,.i 0]=some (.iptr a.cells):=lstT_at (i:=0) (by rw [hab];rfl)
   have l1:pev (.iaddr 3) [lstT t.kids,.i 1]=some (.iptr b.cells):=lstT_at (i:=1) (by rw [hab];rfl)
   have fa:a.fits:=(T.fits_kids ht).2 a (by rw [hab];simp)
   have h2':(t.kids.length:Int)=2:=by omega
   cases hs:a.same (tUse k n) with
   |true=>
    have hr:unsL k n t.kids=(b,0):=by rw [hab];simp [unsL,hs]
    rw [hr]
    simp [f263,f263b,eq_true h4,h2',l0,l1,fa,e2,hs,resU]
   |false=>
    have hr:unsL k n t.kids=(tZ,4):=by rw [hab];simp [unsL,hs]
    rw [hr]
    simp [f263,f263b,eq_true h4,h2',l0,l1,fa,e2,hs,resU,tZ,T.cells,rowsT]
    rfl
  ·have hr:unsL k n t.kids=(tZ,2):=by
    unfold unsL;split
    ·rename_i heq;rw [heq]at h2;simp at h2
    ·rfl
   rw [hr]
   have h2':¬(t.kids.length:Int)=2:=by omega
   simp [f263,f263b,eq_true h4,h2',resU,tZ,T.cells,rowsT]
   rfl
 ·rw [if_neg h4]
  simp [f263,f263b,h4,resU,tZ,T.cells,rowsT]
  rfl
theorem s268 {k t:T} {n:Int} (hn:inI n) (h0:n≠ -9223372036854775808) (ht:t.fits):call 268 [.agg k.cells,.sc (.int .i64 n),.agg t.cells] S=some (resU (unsT k n t),S):=by
 rw [call_calm a268 rfl (by simp) rfl]
 have e2:=fun S=>@s336 S k n hn h0
 unfold unsT
 by_cases h4:t.kind=4
 ·rw [if_pos h4]
  by_cases h2:t.kids.length=2
  ·obtain ⟨a,b,hab⟩:∃a b,t.kids=[a,b]:=by
    match hl:t.kids,h2 with
    |[a,b],_=>exact ⟨a,b,rfl⟩
   have l0:pev (.iaddr 3) [lstT t.kids,.i 0]=some (.iptr a.cells):=lstT_at (i:=0) (by rw [hab];rfl)
   have l1:pev (.iaddr 3) [lstT t.kids,.i 1]=some (.iptr b.cells):=lstT_at (i:=1) (by rw [hab];rfl)
   have fa:a.fits:=(T.fits_kids ht).2 a (by rw [hab];simp)
   have h2':(t.kids.length:Int)=2:=by omega
   cases hs:a.same (tUse k n) with
   |true=>
    have hr:unsL k n t.kids=(b,0):=by rw [hab];simp [unsL,hs]
    rw [hr]
    simp [f268,f268b,eq_true h4,h2',l0,l1,fa,e2,hs,resU]
   |false=>
    have hr:unsL k n t.kids=(tZ,4):=by rw [hab];simp [unsL,hs]
    rw [hr]
    simp [f268,f268b,eq_true h4,h2',l0,l1,fa,e2,hs,resU,tZ,T.cells,rowsT]
    rfl
  ·have hr:unsL k n t.kids=(tZ,2):=by
    unfold unsL;split
    ·rename_i heq;rw [heq]at h2;simp at h2
    ·rfl
   rw [hr]
   have h2':¬(t.kids.length:Int)=2:=by omega
   simp [f268,f268b,eq_true h4,h2',resU,tZ,T.cells,rowsT]
   rfl
 ·rw [if_neg h4]
  simp [f268,f268b,h4,resU,tZ,T.cells,rowsT]
  rfl
end
def chalB:ByteArray:=⟨#[99,104,97,108,108,101,110,103,101]⟩
def timeB:ByteArray:=⟨#[116,105,109,101]⟩
def armB:ByteArray:=⟨#[99,108,105,101,110,116,99,104,97,108,108,101,110,103,101,97,114,109,111,114]⟩
def lonB:ByteArray:=⟨#[99,104,97,108,108,101,110,103,101,108,111,110,103,116,101,114,109]⟩
def tCk (a u:T):T:=tJoin a u armB lonB
def tTime (body:T) (now:Int):T:=tPack timeB [tNum now,tHash body]
def tChal (a u body:T) (now:Int):T:=tPack chalB [tSeal (tCk a u) 54 (tTime body now)]
def chkN (body b:T) (now n:Int):Int:=if b.same (tHash body) then (if (n - now).natAbs > 5 then 5 else 0) else 6
noncomputable def chkL (body:T) (now:Int):List T→Int
 |[a,b]=>match numOf a with
  |some n=>chkN body b now n
  |none=>2
 |_=>2
noncomputable def chkU (body:T) (now:Int) (r:T×Int):Int:=if r.2=4 then 6 else if r.2=0 then (match unpT timeB 2 r.1 with|some l=>chkL body now l|none=>2) else r.2
noncomputable def chkT (a u body p:T) (now:Int):Int:=match unpT chalB 1 p with
 |some [x]=>chkU body now (unsT (tCk a u) 54 x)
 |_=>2
theorem endN_lt {s:ByteArray} {o:Option Nat} {n:Int} {b:Nat} (h:endN s o=some n) (hb:∀k,o=some k→k < b):n.natAbs < b:=by
 unfold endN at h
 obtain ⟨k,hk,h⟩:=Option.bind_eq_some_iff.1 h
 have:=hb k hk
 by_cases hc:s.data[0]?=some 45
 ·simp only [hc,if_true]at h
  split at h
  ·cases h;omega
  ·cases h
 ·simp only [hc,if_false]at h
  split at h
  ·cases h;omega
  ·cases h
theorem numOf_lt {t:T} {n:Int} (h:numOf t=some n):n.natAbs < 1000000000000000000:=by
 unfold numOf at h
 obtain ⟨s,_,h⟩:=Option.bind_eq_some_iff.1 h
 split at h
 ·rename_i h18
  rw [←endN_eq h18]at h
  refine endN_lt h fun k hk=>?_
  have hlt:=scan_lt (k:=0) (by omega) hk
  have hpow:10 ^ (0+s.data.toList.length)≤10 ^ 18:=Nat.pow_le_pow_right (by omega) (by simp;omega)
  omega
 ·cases h
section
variable {S:AS}
theorem s262 {a u:T}:call 262 [.agg a.cells,.agg u.cells] S=some (.agg (tCk a u).cells,S):=by
 rw [call_calm a262 rfl (by simp) rfl]
 have e1:=fun S=>@s350 S a u armB lonB (by show 20≤1000;omega) (by show 17≤1000;omega)
 simp only [armB,lonB]at e1
 simp [f262,f262b,e1,tCk,armB,lonB]
theorem s267 {a u:T}:call 267 [.agg a.cells,.agg u.cells] S=some (.agg (tCk a u).cells,S):=by
 rw [call_calm a267 rfl (by simp) rfl]
 have e1:=fun S=>@s293 S a u armB lonB (by show 20≤1000;omega) (by show 17≤1000;omega)
 simp only [armB,lonB]at e1
 simp [f267,f267b,e1,tCk,armB,lonB]
theorem i54:inI 54:=by unfold inI;omega
theorem s148 {a u body:T} {now:Int} (hn:inI now):call 148 [.agg a.cells,.agg u.cells,.agg body.cells,.sc (.int .i64 now)] S=some (.agg (tChal a u body now).cells,S):=by
 rw [call_calm a148 rfl (by simp) rfl]
 have e1:=fun S=>@s66 S now hn
 have e2:∀S,call 62 [.s ⟨#[116,105,109,101]⟩,.lst 3 true [(tNum now).cells,(tHash body).cells]] S=some (.agg (tTime body now).cells,S):=fun S=>p62 isTs2 (by show 3 * 48≤_;omega)
 have e3:∀S,call 62 [.s ⟨#[99,104,97,108,108,101,110,103,101]⟩,.lst 3 true [(tSeal (tCk a u) 54 (tTime body now)).cells]] S=some (.agg (tChal a u body now).cells,S):=fun S=>p62 isTs1 (by show 2 * 48≤_;omega)
 have e4:=fun S=>@s261 S (tCk a u) (tTime body now) 54 i54
 have e5:=fun S=>@s262 S a u
 simp [f148,f148b,e1,e2,e3,e4,e5,fillR]
theorem s150 {a u body:T} {now:Int} (hn:inI now) (h0:now≠ -9223372036854775808):call 150 [.agg a.cells,.agg u.cells,.agg body.cells,.sc (.int .i64 now)] S=some (.agg (tChal a u body now).cells,S):=by
 rw [call_calm a150 rfl (by simp) rfl]
 have e1:=fun S=>@s67 S now (by have:=hn.1;omega) hn.2
 have e2:∀S,call 63 [.s ⟨#[116,105,109,101]⟩,.lst 3 true [(tNum now).cells,(tHash body).cells]] S=some (.agg (tTime body now).cells,S):=fun S=>p63 isTs2 (by show 3 * 48≤_;omega)
 have e3:∀S,call 63 [.s ⟨#[99,104,97,108,108,101,110,103,101]⟩,.lst 3 true [(tSeal (tCk a u) 54 (tTime body now)).cells]] S=some (.agg (tChal a u body now).cells,S):=fun S=>p63 isTs1 (by show 2 * 48≤_;omega)
 have e4:=fun S=>@s266 S (tCk a u) (tTime body now) 54 i54 (by omega)
 have e5:=fun S=>@s267 S a u
 simp [f150,f150b,e1,e2,e3,e4,e5,fillR]
end
mutual
def T.bd (r:Nat):T→Prop
 | .mk _ n l=>n.size≤r∧l.length * 48≤r∧bdL r l
def bdL (r:Nat):List T→Prop
 |[]=>True
 |t::l=>t.bd r∧bdL r l
end
mutual
def T.bulk:T→Nat
 | .mk _ n l=>1+(n.size+1)+(bulkL l+1)+1
def bulkL:List T→Nat
 |[]=>0
 |t::l=>t.bulk+bulkL l
end
mutual
def T.kr:T→Prop
 | .mk k _ l=>(-9223372036854775808≤k∧k≤9223372036854775807)∧krL l
def krL:List T→Prop
 |[]=>True
 |t::l=>t.kr∧krL l
end
theorem bdL_iff {r:Nat}:∀{l:List T},bdL r l↔∀t∈l,t.bd r
 |[]=>by simp [bdL]
 |t::l=>by simp [bdL,bdL_iff (l:=l)]
theorem bulkL_mem:∀{l:List T},∀t∈l,t.bulk≤bulkL l
 |[],t,h=>by cases h
 |a::l,t,h=>by
  rcases List.mem_cons.1 h with rfl|h
  ·rw [bulkL];omega
  ·have:=bulkL_mem t h;rw [bulkL];omega
theorem bulkL_len:∀{l:List T},l.length≤bulkL l
 |[]=>Nat.zero_le _
 | .mk k n m::l=>by
   have:=@bulkL_len l
   rw [bulkL,T.bulk,List.length_cons];omega
mutual
theorem T.fits_bd {r:Nat} (hr:r≤4611686018427387904):∀{t:T},t.bd r→t.fits
 | .mk _ _ l,h=>⟨by have:=h.2.1;omega,fitsL_bd hr h.2.2⟩
theorem fitsL_bd {r:Nat} (hr:r≤4611686018427387904):∀{l:List T},bdL r l→fitsL l
 |[],_=>trivial
 |t::l,h=>⟨t.fits_bd hr h.1,fitsL_bd hr h.2⟩
end
mutual
theorem T.bd_bulk:∀{t:T} {n:Nat},t.bulk≤n→t.bd (48 * n)
 | .mk k m l,n,h=>by
   rw [T.bulk]at h
   have:=@bulkL_len l
   refine ⟨by omega,by omega,bdL_bulk (l:=l) (n:=n) (by omega)⟩
theorem bdL_bulk:∀{l:List T} {n:Nat},bulkL l≤n→bdL (48 * n) l
 |[],_,_=>trivial
 |t::l,n,h=>by
  rw [bulkL]at h
  exact ⟨T.bd_bulk (by omega),bdL_bulk (by omega)⟩
end
structure IsBulk {H:Type} (B:DataW H→Nat) (BA:List (DataW H)→Nat):Prop where
 str:∀l,B (.lit (.string l))=l.length+1
 int:∀k n,B (.lit (.int k n))=1
 bool:∀b,B (.lit (.bool b))=1
 nil:B .nil=1
 agg:∀ds,B (.agg ds)=BA ds+1
 slice:∀ds rest,B (.slice ds rest)=BA ds+BA rest+1
 nilA:BA []=0
 consA:∀d r,BA (d::r)=B d+BA r
structure TermTy (P:Program) (t i s l:TypeId) (fs:Array Field):Prop where
 hs:P.underlying t=some (.struct fs)
 hf:fs.toList.map (·.type)=[i,s,l]
 hi:P.underlying i=some (.int .i64)
 hst:P.underlying s=some .string
 hl:P.underlying l=some (.slice t)
 hc:P.cellsOf t=3
 hb:P.bytesOf t=48
section
variable {H:Type} {P:Program} {t i s l:TypeId} {fs:Array Field}
theorem rd_int {k:IntKind} {d:DataW H} {as:List AV} (hu:P.underlying i=some (.int k)) (h:Rd P i d as):∃n,as=[.sc (.int k n)]∧(Lit.int k n).wf=true∧d=.lit (.int k n):=by
 cases h with
 |int h hw=>rw [hu]at h;cases h;exact ⟨_,rfl,hw,rfl⟩
 |str h=>rw [hu]at h;cases h
 |bool h=>rw [hu]at h;cases h
 |slice h=>rw [hu]at h;cases h
 |nil h=>rw [hu]at h;cases h
 |struct h=>rw [hu]at h;cases h
theorem rd_str {d:DataW H} {as:List AV} (hu:P.underlying s=some .string) (h:Rd P s d as):∃x,as=[.sc (.string x)]∧x.size≤maxLen∧d=.lit (.string x.data.toList):=by
 cases h with
 |str h hs=>exact ⟨_,rfl,hs,rfl⟩
 |int h=>rw [hu]at h;cases h
 |bool h=>rw [hu]at h;cases h
 |slice h=>rw [hu]at h;cases h
 |nil h=>rw [hu]at h;cases h
 |struct h=>rw [hu]at h;cases h
theorem rd_slice {e:TypeId} {d:DataW H} {as:List AV} (hu:P.underlying l=some (.slice e)) (h:Rd P l d as):∃ds xs,as=[lstN (P.cellsOf e) xs]∧xs.length≤maxLen∧RdR P e ds xs∧((d=.nil∧ds=[])∨∃rest,d=.slice ds rest):=by
 cases h with
 |slice h hl hx=>rw [hu]at h;cases h;exact ⟨_,_,rfl,hl,hx,.inr ⟨_,rfl⟩⟩
 |nil h=>rw [hu]at h;cases h;exact ⟨[],[],rfl,Nat.zero_le _,.nil,.inl ⟨rfl,rfl⟩⟩
 |str h=>rw [hu]at h;cases h
 |int h=>rw [hu]at h;cases h
 |bool h=>rw [hu]at h;cases h
 |struct h=>rw [hu]at h;cases h
theorem rd_struct {d:DataW H} {as:List AV} (hu:P.underlying t=some (.struct fs)) (h:Rd P t d as):∃ds,d=.agg ds∧RdF P fs.toList ds as:=by
 cases h with
 |struct h hf=>rw [hu]at h;cases h;exact ⟨_,rfl,hf⟩
 |str h=>rw [hu]at h;cases h
 |int h=>rw [hu]at h;cases h
 |bool h=>rw [hu]at h;cases h
 |slice h=>rw [hu]at h;cases h
 |nil h=>rw [hu]at h;cases h
theorem rdF_cons {f:Field} {fl:List Field} {ds:List (DataW H)} {as:List AV} (h:RdF P (f::fl) ds as):∃d r a l,ds=d::r∧as=a++l∧Rd P f.type d a∧RdF P fl r l:=by
 cases h with
 |cons h t=>exact ⟨_,_,_,_,rfl,rfl,h,t⟩
theorem rdF_nil {ds:List (DataW H)} {as:List AV} (h:RdF P [] ds as):ds=[]∧as=[]:=by cases h;exact ⟨rfl,rfl⟩
theorem rdR_len {e:TypeId} {ds:List (DataW H)} {xs:List (List AV)}:RdR P e ds xs→ds.length=xs.length
 | .nil=>rfl
 | .cons _ h=>by simp [rdR_len h]
theorem rdA_cons {ts:List TypeId} {ds:List (DataW H)} {avs:List AV} (h:RdArgs P (t::ts) ds avs):∃d r as l,ds=d::r∧avs=argOf P t as::l∧Rd P t d as∧RdArgs P ts r l:=by
 cases h with
 |cons h t=>exact ⟨_,_,_,_,rfl,rfl,h,t⟩
theorem rdA_nil {ds:List (DataW H)} {avs:List AV} (h:RdArgs P [] ds avs):ds=[]∧avs=[]:=by cases h;exact ⟨rfl,rfl⟩
theorem size_slice {ds rest:List (DataW H)}:sizeOf ds < sizeOf (DataW.slice ds rest):=by simp only [DataW.slice.sizeOf_spec];omega
theorem term_of_rd (hT:TermTy P t i s l fs) {B:DataW H→Nat} {BA:List (DataW H)→Nat} (hB:IsBulk B BA):∀(n:Nat),
 (∀(d:DataW H) (as:List AV),sizeOf d < n→Rd P t d as→∃x:T,as=x.cells∧x.kr∧(∀r,(d.weights P t).all (· ≤r)=true→x.bd r)∧x.bulk≤B d)∧
 (∀(ds:List (DataW H)) (xs:List (List AV)),sizeOf ds < n→RdR P t ds xs→∃m:List T,xs=m.map T.cells∧krL m∧(∀r,(DataW.weightsAll P t ds).all (· ≤r)=true→bdL r m)∧bulkL m≤BA ds)
 |0=>⟨fun _ _ h=>by omega,fun _ _ h=>by omega⟩
 |n+1=>by
  obtain ⟨ih1,ih2⟩:=term_of_rd hT hB n
  refine ⟨fun d as hn h=>?_,fun ds xs hn h=>?_⟩
  ·obtain ⟨ds,rfl,h⟩:=rd_struct hT.hs h
   have hfs:=hT.hf
   obtain ⟨fl⟩:=fs
   simp only at hfs
   match fl,hfs with
   |[f1,f2,f3],hfs=>
    simp only [List.map_cons,List.map_nil,List.cons.injEq,and_true]at hfs
    obtain ⟨e1,e2,e3⟩:=hfs
    obtain ⟨d1,r,a,m,rfl,rfl,h1,h⟩:=rdF_cons h
    obtain ⟨d2,r,b,m,rfl,rfl,h2,h⟩:=rdF_cons h
    obtain ⟨d3,r,c,m,rfl,rfl,h3,h⟩:=rdF_cons h
    obtain ⟨rfl,rfl⟩:=rdF_nil h
    rw [e1]at h1;rw [e2]at h2;rw [e3]at h3
    obtain ⟨k,rfl,hk,rfl⟩:=rd_int hT.hi h1
    obtain ⟨nm,rfl,_,rfl⟩:=rd_str hT.hst h2
    obtain ⟨ds,xs,rfl,_,hx,hd⟩:=rd_slice hT.hl h3
    have hsz:sizeOf ds < n:=by
     rcases hd with ⟨rfl,rfl⟩|⟨rest,rfl⟩
     ·have h1:sizeOf ([]:List (DataW H))=1:=rfl
      simp only [DataW.agg.sizeOf_spec,List.cons.sizeOf_spec]at hn
      omega
     ·simp only [DataW.agg.sizeOf_spec,List.cons.sizeOf_spec]at hn
      have:=@size_slice H ds rest
      omega
    obtain ⟨m,rfl,hkr,hbd,hbk⟩:=ih2 ds xs hsz hx
    refine ⟨.mk k nm m,?_,⟨i64_in hk,hkr⟩,?_,?_⟩
    ·rw [cells_T,hT.hc];rfl
    ·intro r hw
     have hw:(DataW.weightsEach P [f1.type,f2.type,f3.type] [.lit (.int .i64 k),.lit (.string nm.data.toList),d3]).all (· ≤r)=true:=by
      simpa only [DataW.weights,hT.hs,List.map_cons,List.map_nil] using hw
     rw [e1,e2,e3]at hw
     simp only [DataW.weightsEach,DataW.weights,List.nil_append,List.append_nil,List.singleton_append,List.all_cons,Bool.and_eq_true,decide_eq_true_eq]at hw
     refine ⟨by have:=hw.1;simpa using this,?_⟩
     rcases hd with ⟨rfl,rfl⟩|⟨rest,rfl⟩
     ·have:=rdR_len hx
      cases m with
      |nil=>exact ⟨by simp,trivial⟩
      |cons _ _=>simp at this
     ·have h2:=hw.2
      simp only [DataW.weights,hT.hl,List.all_cons,List.all_append,Bool.and_eq_true,decide_eq_true_eq,hT.hb]at h2
      have:=rdR_len hx
      simp only [List.length_map]at this
      exact ⟨by omega,hbd r h2.2.1⟩
    ·rw [T.bulk,hB.agg,hB.consA,hB.consA,hB.consA,hB.nilA,hB.int,hB.str]
     have:bulkL m+1≤B d3:=by
      rcases hd with ⟨rfl,rfl⟩|⟨rest,rfl⟩
      ·rw [hB.nil];rw [hB.nilA]at hbk;omega
      ·rw [hB.slice];omega
     have hl:nm.data.toList.length=nm.size:=by simp
     omega
  ·cases h with
   |nil=>exact ⟨[],rfl,trivial,fun _ _=>trivial,by rw [bulkL];exact Nat.zero_le _⟩
   |cons h ht=>
    rename_i d ds r rs
    simp only [List.cons.sizeOf_spec]at hn
    have h0:0 < sizeOf ds:=by cases ds<;>simp<;>omega
    obtain ⟨x,rfl,k1,b1,c1⟩:=ih1 d r (by omega) h
    obtain ⟨m,rfl,k2,b2,c2⟩:=ih2 ds rs (by omega) ht
    refine ⟨x::m,rfl,⟨k1,k2⟩,fun r hr=>?_,by rw [bulkL,hB.consA];omega⟩
    rw [DataW.weightsAll,List.all_append,Bool.and_eq_true]at hr
    exact ⟨b1 r hr.1,b2 r hr.2⟩
section
variable {r:Nat} {ts:List TypeId} {ds:List (DataW H)} {avs:List AV}
theorem ra_nil (h:RdArgs P [] ds avs):avs=[]:=(rdA_nil h).2
end
end
mutual
def T.dp:T→Nat
 | .mk _ _ l=>dpL l+1
def dpL:List T→Nat
 |[]=>0
 |t::l=>max t.dp (dpL l)
end
mutual
def T.rshp:T→Bool
 | .mk k n l=>(T.mk k n l).one && rshpL l
def rshpL:List T→Bool
 |[]=>true
 |t::l=>t.rshp && rshpL l
end
theorem T.dp_def:∀t:T,t.dp=dpL t.kids+1
 | .mk _ _ _=>by rw [T.dp];rfl
theorem T.rshp_def:∀t:T,t.rshp=(t.one && rshpL t.kids)
 | .mk _ _ _=>by rw [T.rshp];rfl
theorem rshpL_iff:∀{l:List T},rshpL l=true↔∀t∈l,t.rshp=true
 |[]=>by simp [rshpL]
 |t::l=>by simp [rshpL,rshpL_iff (l:=l)]
theorem rshpL_all:∀{l:List T},rshpL l=l.all T.rshp
 |[]=>rfl
 |t::l=>by rw [rshpL,List.all_cons,rshpL_all]
theorem dpL_mem:∀{l:List T},∀t∈l,t.dp≤dpL l
 |[],t,h=>by cases h
 |a::l,t,h=>by
  rw [dpL]
  rcases List.mem_cons.1 h with rfl|h
  ·exact Nat.le_max_left _ _
  ·exact Nat.le_trans (dpL_mem t h) (Nat.le_max_right _ _)
theorem T.dp_kid {t u:T} (h:u∈t.kids):u.dp+1≤t.dp:=by
 rw [t.dp_def];have:=dpL_mem u h;omega
theorem T.dp_pos {t:T}:1≤t.dp:=by rw [T.dp_def];omega
theorem depL_fold {d:Nat}:∀{l:List T} {n:Nat},(∀k∈l,T.dep d k=min d k.dp)→n≤d→l.foldl (fun n k=>max n (T.dep d k)) n=max n (min d (dpL l))
 |[],n,_,_=>by simp [dpL]
 |k::l,n,h,hn=>by
  rw [List.foldl_cons,depL_fold (fun x hx=>h x (by simp [hx])) (by rw [h k (by simp)];omega),h k (by simp),dpL]
  omega
theorem T.dep_eq:∀{d:Nat} {t:T},t.dep d=min d t.dp
 |0,t=>by rw [T.dep];omega
 |1,t=>by rw [T.dep];have:=t.dp_pos;omega
 |d+2,t=>by
  rw [T.dep,depL_fold (fun k _=>T.dep_eq) (Nat.zero_le _),t.dp_def]
  omega
theorem T.shp_eq:∀{d:Nat} {t:T},t.shp d=(t.rshp && decide (t.dp≤d))
 |0,t=>by rw [T.shp];have:=t.dp_pos;simp;intro;omega
 |d+1,t=>by
  rw [T.shp,t.rshp_def,t.dp_def]
  have h:(t.kids.all fun k=>k.shp d)=(rshpL t.kids && decide (dpL t.kids≤d)):=by
   generalize t.kids=l
   induction l with
   |nil=>simp [rshpL,dpL]
   |cons k l ih=>
    rw [List.all_cons,ih,T.shp_eq,rshpL,dpL]
    cases k.rshp<;>cases rshpL l<;>simp
    by_cases h1:k.dp≤d<;>by_cases h2:dpL l≤d<;>simp [h1,h2]<;>omega
  show (t.one && t.kids.all fun k=>k.shp d)=_
  rw [h]
  cases t.one<;>simp
theorem T.one_iff {t:T}:t.one=true↔knd t.kind=true∧(nmd t.kind=true↔t.name≠⟨#[]⟩)∧(kdn t.kind < 0∨(t.kids.length:Int)=kdn t.kind):=by
 unfold T.one
 cases knd t.kind<;>cases nmd t.kind<;>by_cases h:t.name=⟨#[]⟩<;>simp [h]
section
variable {S:AS}
@[simp] theorem s419 {k:Int}:call 419 [.sc (.int .i64 k)] S=some (.sc (.int .i64 (if knd k then kdn k else -2)),S):=by
 rw [call_calm a419 rfl (by simp) rfl]
 by_cases h1:k=1
 ·subst h1;simp [f419,f419b];rfl
 by_cases h2:k=2
 ·subst h2;simp [f419,f419b];rfl
 by_cases h3:k=3
 ·subst h3;simp [f419,f419b];rfl
 by_cases h4:k=4
 ·subst h4;simp [f419,f419b];rfl
 by_cases h5:k=5
 ·subst h5;simp [f419,f419b];rfl
 by_cases h6:k=6
 ·subst h6;simp [f419,f419b];rfl
 by_cases h7:k=7
 ·subst h7;simp [f419,f419b];rfl
 by_cases h8:k=8
 ·subst h8;simp [f419,f419b];rfl
 by_cases h9:k=9
 ·subst h9;simp [f419,f419b];rfl
 by_cases h10:k=10
 ·subst h10;simp [f419,f419b];rfl
 have:knd k=false:=by
  unfold knd;rw [decide_eq_false_iff_not];omega
 simp [f419,f419b,h1,h2,h3,h4,h5,h6,h7,h8,h9,h10,this]
theorem shape346:∀(n:Nat) (t:T) (S:AS),sizeOf t < n→t.fits→call 346 [.agg t.cells] S=some (.sc (.bool t.rshp),S)
 |0,_,_,h,_=>by omega
 |n+1,t,S,hn,hfit=>by
  obtain ⟨hl,hk⟩:=T.fits_kids hfit
  rw [call_calm a346 rfl (by simp) rfl]
  have ih:∀u∈t.kids,∀S,call 346 [.agg u.cells] S=some (.sc (.bool u.rshp),S):=fun u hu S=>shape346 n u S (by have:=T.kid_lt hu;omega) (hk u hu)
  rw [t.rshp_def,rshpL_all]
  simp only [f346]
  by_cases h1:knd t.kind=true
  ·have hm2:¬kdn t.kind= -2:=by unfold kdn;split<;>(try split)<;>(try split)<;>omega
   have hnm:(nmd t.kind:Bool)=(decide (t.kind=1) ||(decide (t.kind=2) ||decide (t.kind=7))):=by
    unfold nmd;by_cases a:t.kind=1<;>by_cases b:t.kind=2<;>by_cases c:t.kind=7<;>simp [a,b,c]
   have key:∀(e:Nat→AV) (rg:Nat→Option (List AV)) (S':AS) (kk:List Kn),e 1=.reg 1 0→rg 1=some t.cells→e 5=.i 0→
    (∀e rg S',fin [.tmp 2] (unw AA (some (.exit 0,st 58 e rg S')) kk)=some (.sc (.bool true),S'))→(∀e rg S',e 2=.sc (.bool false)→fin [.tmp 2] (unw AA (some (.ret,st 58 e rg S')) kk)=some (.sc (.bool false),S'))→
    calmR S (fin [.tmp 2] (exec AA (.loop [2,6,43,44,45,46,47,48,49,50,51,52,53,54,55,56,57] [] f346_l0) (st 58 e rg S') kk))=some (.sc (.bool (t.kids.all T.rshp)),S):=by
    intro e rg S' ks g1 g2 g5 hex hrt
    refine loop_gen (α:=Nat) (R:=fun _ r=>calmR S r=some (.sc (.bool (t.kids.all T.rshp)),S)) (fun i e rg S'=>i≤t.kids.length∧e 1=.reg 1 0∧rg 1=some t.cells∧e 5=.sc (.int .i64 (i:Nat))∧∀u∈t.kids.take i,u.rshp=true) (fun i=>t.kids.length - i) ?_ 0 _ _ _ ⟨by omega,g1,g2,g5,fun u hu=>by simp at hu⟩
    intro kk hkk i e rg S' ⟨hi,q1,q2,q5,hu⟩ ihl
    by_cases hc:i < t.kids.length
    ·obtain ⟨k,hk'⟩:=get_of_lt hc
     have w2:IntKind.i64.wrap ((i:Int)+1)=((i+1:Nat):Int):=w64 (by omega)
     have e346:=ih k (List.mem_of_getElem? hk')
     cases hb:k.rshp with
     |false=>
      rw [hb]at e346
      have:t.kids.all T.rshp=false:=by
       rw [List.all_eq_false];exact ⟨k,List.mem_of_getElem? hk',by simp [hb]⟩
      simp [-calmR_some,f346_l0,q1,q2,q5,hc,lstT_at hk',e346]
      rw [hkk,this]
      simp [-calmR_some]
      rw [hrt _ _ _ (by simp)]
      simp
     |true=>
      rw [hb]at e346
      simp [-calmR_some,f346_l0,q1,q2,q5,hc,lstT_at hk',e346,w2]
      refine ihl (i+1) _ _ _ (by omega) (fun _ h=>h) ?_
      refine ⟨by omega,by simp [q1],by simp [q2],by simp,fun u hu'=>?_⟩
      rw [List.take_add_one,hk']at hu'
      rcases List.mem_append.1 hu' with hu'|hu'
      ·exact hu u hu'
      ·simp at hu';rw [hu'];exact hb
    ·have hi':i=t.kids.length:=by omega
     subst hi'
     rw [List.take_length]at hu
     have:t.kids.all T.rshp=true:=List.all_eq_true.2 hu
     simp [-calmR_some,f346_l0,q1,q2,q5]
     rw [hkk,this]
     simp [-calmR_some]
     rw [hex];simp
   have hcs:t.kind=1∨t.kind=2∨t.kind=7∨(¬t.kind=1∧¬t.kind=2∧¬t.kind=7):=by omega
   rcases hcs with c|c|c|⟨c1,c2,c7⟩
   ·skip
    have e1:(t.kind=1)=True:=eq_true c
    have e2:(t.kind=2)=False:=eq_false (by omega)
    have e7:(t.kind=7)=False:=eq_false (by omega)
    have hn:nmd t.kind=true:=by unfold nmd;simp [e1,e2,e7]
    by_cases h5:kdn t.kind < 0
    ·have h5':¬0≤kdn t.kind:=by omega
     by_cases hname:t.name=⟨#[]⟩
     ·have hone:t.one=false:=by unfold T.one;simp [h1,hn,hname,h5,h5']
      simp [f346b,h1,hm2,e1,e2,e7,h5,h5',hname,hone]
     ·have hone:t.one=true:=by unfold T.one;simp [h1,hn,hname,h5,h5']
      simp [-calmR_some,f346b,h1,hm2,e1,e2,e7,h5,h5',hname,hone]
      exact key _ _ _ _ (by simp) (by simp) (by simp) (fun e rg S'=>by simp) (fun e rg S' he=>by simp [he])
    ·have h5':0≤kdn t.kind:=by omega
     by_cases h6:(t.kids.length:Int)=kdn t.kind
     ·skip
      by_cases hname:t.name=⟨#[]⟩
      ·have hone:t.one=false:=by unfold T.one;simp [h1,hn,hname,h5,h5',h6]
       simp [f346b,h1,hm2,e1,e2,e7,h5,h5',h6,hname,hone]
      ·have hone:t.one=true:=by unfold T.one;simp [h1,hn,hname,h5,h5',h6]
       simp [-calmR_some,f346b,h1,hm2,e1,e2,e7,h5,h5',h6,hname,hone]
       exact key _ _ _ _ (by simp) (by simp) (by simp) (fun e rg S'=>by simp) (fun e rg S' he=>by simp [he])
     ·skip
      by_cases hname:t.name=⟨#[]⟩
      ·have hone:t.one=false:=by unfold T.one;simp [h1,hn,hname,h5,h5',h6]
       simp [f346b,h1,hm2,e1,e2,e7,h5,h5',h6,hname,hone]
      ·have hone:t.one=false:=by unfold T.one;simp [h1,hn,hname,h5,h5',h6]
       simp [f346b,h1,hm2,e1,e2,e7,h5,h5',h6,hname,hone]
   ·skip
    have e1:(t.kind=1)=False:=eq_false (by omega)
    have e2:(t.kind=2)=True:=eq_true c
    have e7:(t.kind=7)=False:=eq_false (by omega)
    have hn:nmd t.kind=true:=by unfold nmd;simp [e1,e2,e7]
    by_cases h5:kdn t.kind < 0
    ·have h5':¬0≤kdn t.kind:=by omega
     by_cases hname:t.name=⟨#[]⟩
     ·have hone:t.one=false:=by unfold T.one;simp [h1,hn,hname,h5,h5']
      simp [f346b,h1,hm2,e1,e2,e7,h5,h5',hname,hone]
     ·have hone:t.one=true:=by unfold T.one;simp [h1,hn,hname,h5,h5']
      simp [-calmR_some,f346b,h1,hm2,e1,e2,e7,h5,h5',hname,hone]
      exact key _ _ _ _ (by simp) (by simp) (by simp) (fun e rg S'=>by simp) (fun e rg S' he=>by simp [he])
    ·have h5':0≤kdn t.kind:=by omega
     by_cases h6:(t.kids.length:Int)=kdn t.kind
     ·skip
      by_cases hname:t.name=⟨#[]⟩
      ·have hone:t.one=false:=by unfold T.one;simp [h1,hn,hname,h5,h5',h6]
       simp [f346b,h1,hm2,e1,e2,e7,h5,h5',h6,hname,hone]
      ·have hone:t.one=true:=by unfold T.one;simp [h1,hn,hname,h5,h5',h6]
       simp [-calmR_some,f346b,h1,hm2,e1,e2,e7,h5,h5',h6,hname,hone]
       exact key _ _ _ _ (by simp) (by simp) (by simp) (fun e rg S'=>by simp) (fun e rg S' he=>by simp [he])
     ·skip
      by_cases hname:t.name=⟨#[]⟩
      ·have hone:t.one=false:=by unfold T.one;simp [h1,hn,hname,h5,h5',h6]
       simp [f346b,h1,hm2,e1,e2,e7,h5,h5',h6,hname,hone]
      ·have hone:t.one=false:=by unfold T.one;simp [h1,hn,hname,h5,h5',h6]
       simp [f346b,h1,hm2,e1,e2,e7,h5,h5',h6,hname,hone]
   ·skip
    have e1:(t.kind=1)=False:=eq_false (by omega)
    have e2:(t.kind=2)=False:=eq_false (by omega)
    have e7:(t.kind=7)=True:=eq_true c
    have hn:nmd t.kind=true:=by unfold nmd;simp [e1,e2,e7]
    by_cases h5:kdn t.kind < 0
    ·have h5':¬0≤kdn t.kind:=by omega
     by_cases hname:t.name=⟨#[]⟩
     ·have hone:t.one=false:=by unfold T.one;simp [h1,hn,hname,h5,h5']
      simp [f346b,h1,hm2,e1,e2,e7,h5,h5',hname,hone]
     ·have hone:t.one=true:=by unfold T.one;simp [h1,hn,hname,h5,h5']
      simp [-calmR_some,f346b,h1,hm2,e1,e2,e7,h5,h5',hname,hone]
      exact key _ _ _ _ (by simp) (by simp) (by simp) (fun e rg S'=>by simp) (fun e rg S' he=>by simp [he])
    ·have h5':0≤kdn t.kind:=by omega
     by_cases h6:(t.kids.length:Int)=kdn t.kind
     ·skip
      by_cases hname:t.name=⟨#[]⟩
      ·have hone:t.one=false:=by unfold T.one;simp [h1,hn,hname,h5,h5',h6]
       simp [f346b,h1,hm2,e1,e2,e7,h5,h5',h6,hname,hone]
      ·have hone:t.one=true:=by unfold T.one;simp [h1,hn,hname,h5,h5',h6]
       simp [-calmR_some,f346b,h1,hm2,e1,e2,e7,h5,h5',h6,hname,hone]
       exact key _ _ _ _ (by simp) (by simp) (by simp) (fun e rg S'=>by simp) (fun e rg S' he=>by simp [he])
     ·skip
      by_cases hname:t.name=⟨#[]⟩
      ·have hone:t.one=false:=by unfold T.one;simp [h1,hn,hname,h5,h5',h6]
       simp [f346b,h1,hm2,e1,e2,e7,h5,h5',h6,hname,hone]
      ·have hone:t.one=false:=by unfold T.one;simp [h1,hn,hname,h5,h5',h6]
       simp [f346b,h1,hm2,e1,e2,e7,h5,h5',h6,hname,hone]
   ·skip
    have e1:(t.kind=1)=False:=eq_false c1
    have e2:(t.kind=2)=False:=eq_false c2
    have e7:(t.kind=7)=False:=eq_false c7
    have hn:nmd t.kind=false:=by unfold nmd;simp [e1,e2,e7]
    by_cases h5:kdn t.kind < 0
    ·have h5':¬0≤kdn t.kind:=by omega
     by_cases hname:t.name=⟨#[]⟩
     ·have hone:t.one=true:=by unfold T.one;simp [h1,hn,hname,h5,h5']
      simp [-calmR_some,f346b,h1,hm2,e1,e2,e7,h5,h5',hname,hone]
      exact key _ _ _ _ (by simp) (by simp) (by simp) (fun e rg S'=>by simp) (fun e rg S' he=>by simp [he])
     ·have hone:t.one=false:=by unfold T.one;simp [h1,hn,hname,h5,h5']
      simp [f346b,h1,hm2,e1,e2,e7,h5,h5',hname,hone]
    ·have h5':0≤kdn t.kind:=by omega
     by_cases h6:(t.kids.length:Int)=kdn t.kind
     ·skip
      by_cases hname:t.name=⟨#[]⟩
      ·have hone:t.one=true:=by unfold T.one;simp [h1,hn,hname,h5,h5',h6]
       simp [-calmR_some,f346b,h1,hm2,e1,e2,e7,h5,h5',h6,hname,hone]
       exact key _ _ _ _ (by simp) (by simp) (by simp) (fun e rg S'=>by simp) (fun e rg S' he=>by simp [he])
      ·have hone:t.one=false:=by unfold T.one;simp [h1,hn,hname,h5,h5',h6]
       simp [f346b,h1,hm2,e1,e2,e7,h5,h5',h6,hname,hone]
     ·skip
      by_cases hname:t.name=⟨#[]⟩
      ·have hone:t.one=false:=by unfold T.one;simp [h1,hn,hname,h5,h5',h6]
       simp [f346b,h1,hm2,e1,e2,e7,h5,h5',h6,hname,hone]
      ·have hone:t.one=false:=by unfold T.one;simp [h1,hn,hname,h5,h5',h6]
       simp [f346b,h1,hm2,e1,e2,e7,h5,h5',h6,hname,hone]
  ·have e1:(t.kind=1)=False:=eq_false (by rintro c;rw [c]at h1;exact h1 rfl)
   have e2:(t.kind=2)=False:=eq_false (by rintro c;rw [c]at h1;exact h1 rfl)
   have e7:(t.kind=7)=False:=eq_false (by rintro c;rw [c]at h1;exact h1 rfl)
   have hone:t.one=false:=by unfold T.one;simp [h1]
   simp [f346b,h1,e1,e2,e7,hone]
@[simp] theorem s346 {t:T} (h:t.fits):call 346 [.agg t.cells] S=some (.sc (.bool t.rshp),S):=shape346 _ t S (Nat.lt_succ_self _) h
end
def nameT (n:ByteArray):ByteArray:=if n=⟨#[]⟩ then ⟨#[]⟩ else numB n.size++⟨#[58]⟩++n
def hdT (k:Int) (n:ByteArray):ByteArray:=ltr k++nameT n
mutual
def T.text:T→ByteArray
 | .mk k n l=>if l.isEmpty && !(decide (k=3)) then hdT k n else hdT k n++⟨#[40]⟩++joinT l++⟨#[41]⟩
def joinT:List T→ByteArray
 |[]=>⟨#[]⟩
 |t::l=>t.text++commaT l
def commaT:List T→ByteArray
 |[]=>⟨#[]⟩
 |t::l=>⟨#[44]⟩++t.text++commaT l
end
theorem T.text_def:∀t:T,t.text=if t.kids.isEmpty && !(decide (t.kind=3)) then hdT t.kind t.name else hdT t.kind t.name++⟨#[40]⟩++joinT t.kids++⟨#[41]⟩
 | .mk _ _ _=>by rw [T.text];rfl
theorem ba_nil {x:ByteArray}:x++⟨#[]⟩=x:=by apply ba_data;simp [ByteArray.data_append]
theorem nil_ba {x:ByteArray}:(⟨#[]⟩:ByteArray)++x=x:=by apply ba_data;simp [ByteArray.data_append]
theorem commaT_app:∀{l m:List T},commaT (l++m)=commaT l++commaT m
 |[],m=>by simp only [commaT,List.nil_append,nil_ba]
 |t::l,m=>by simp only [commaT,List.cons_append,commaT_app,ba_assoc]
theorem joinT_snoc {l:List T} {k:T}:joinT (l++[k])=if l.isEmpty then k.text else joinT l++⟨#[44]⟩++k.text:=by
 cases l with
 |nil=>simp only [List.nil_append,joinT,commaT,ba_nil];rfl
 |cons t l=>simp only [List.cons_append,joinT,commaT_app,commaT,ba_nil,ba_assoc,List.isEmpty_cons];rfl
theorem joinT_take {l:List T} {i:Nat} {k:T} (h:l[i]?=some k):joinT (l.take (i+1))=if i=0 then k.text else joinT (l.take i)++⟨#[44]⟩++k.text:=by
 rw [List.take_add_one,h,Option.toList_some,joinT_snoc]
 have hi:=(List.getElem?_eq_some_iff.1 h).1
 by_cases h0:i=0
 ·subst h0;simp
 ·rw [if_neg h0,if_neg]
  rw [List.isEmpty_iff,List.take_eq_nil_iff]
  rintro (h|h)
  ·exact h0 h
  ·subst h;simp at hi
theorem joinB_text:∀{l:List T},joinB (l.map T.text) ⟨#[44]⟩=joinT l
 |[]=>by unfold joinB;rfl
 |t::l=>by
  have tail:∀l:List T,(⟨(Lib.joinTail [44] (l.map (fun t=>t.text.data.toList))).toArray⟩:ByteArray)=commaT l:=by
   intro l
   induction l with
   |nil=>rfl
   |cons t l ih=>
    rw [commaT,←ih]
    apply ba_data
    simp [Lib.joinTail,ByteArray.data_append]
  unfold joinB
  simp only [List.map_cons,List.map_map]
  rw [Lib.join_cons,joinT,←tail l]
  apply ba_data
  simp only [ByteArray.data_append]
  simp
  rfl
theorem ltr_size {k:Int}:(ltr k).size=1:=rfl
theorem numB20 {n:Nat} (h:n≤9223372036854775807):(numB n).size≤20:=Nat.le_succ_of_le (numB_le 18 n (by omega))
theorem nameT_size {n:ByteArray} (h:n.size≤9223372036854775807):(nameT n).size≤21+n.size:=by
 unfold nameT;split
 ·exact Nat.zero_le _
 ·have:=numB20 h
  rw [ByteArray.size_append,ByteArray.size_append]
  have h1:(⟨#[58]⟩:ByteArray).size=1:=rfl
  omega
theorem hdT_size {k:Int} {n:ByteArray} (h:n.size≤9223372036854775807):(hdT k n).size≤22+n.size:=by
 unfold hdT
 have:=nameT_size h
 rw [ByteArray.size_append,ltr_size];omega
mutual
theorem T.text_size:∀{t:T},t.bulk≤9223372036854775807→t.text.size+1≤8 * t.bulk
 | .mk k n l,h=>by
   rw [T.bulk]at h ⊢
   have h1:=@hdT_size k n (by omega)
   have h2:=@joinT_size l (by omega)
   have e1:(⟨#[40]⟩:ByteArray).size=1:=rfl
   have e2:(⟨#[41]⟩:ByteArray).size=1:=rfl
   rw [T.text]
   split
   ·omega
   ·simp only [ByteArray.size_append];omega
theorem joinT_size:∀{l:List T},bulkL l≤9223372036854775807→(joinT l).size≤8 * bulkL l
 |[],_=>Nat.zero_le _
 |t::l,h=>by
  rw [bulkL]at h ⊢
  have h1:=@T.text_size t (by omega)
  have h2:=@commaT_size l (by omega)
  rw [joinT,ByteArray.size_append];omega
theorem commaT_size:∀{l:List T},bulkL l≤9223372036854775807→(commaT l).size≤8 * bulkL l
 |[],_=>Nat.zero_le _
 |t::l,h=>by
  rw [bulkL]at h ⊢
  have h1:=@T.text_size t (by omega)
  have h2:=@commaT_size l (by omega)
  have e1:(⟨#[44]⟩:ByteArray).size=1:=rfl
  rw [commaT,ByteArray.size_append,ByteArray.size_append];omega
end
theorem T.bulk_kid {t u:T} (h:u∈t.kids):u.bulk+4≤t.bulk:=by
 obtain ⟨k,n,l⟩:=t
 have:=bulkL_mem (l:=l) u h
 rw [T.bulk];omega
theorem T.bulk_name {t:T}:t.name.size+4≤t.bulk:=by
 obtain ⟨k,n,l⟩:=t
 rw [T.bulk];show n.size+4≤_;omega
theorem T.bulk_len {t:T}:t.kids.length+4≤t.bulk:=by
 obtain ⟨k,n,l⟩:=t
 have:=@bulkL_len l
 rw [T.bulk];show l.length+4≤_;omega
theorem T.bulk_kids {t:T}:bulkL t.kids+4≤t.bulk:=by
 obtain ⟨k,n,l⟩:=t
 rw [T.bulk];show bulkL l+4≤_;omega
theorem T.fits_bulk {t:T} (h:t.bulk≤1099511627776):t.fits:=T.fits_bd (r:=48 * 1099511627776) (by omega) (T.bd_bulk h)
theorem bulkL_app:∀{l m:List T},bulkL (l++m)=bulkL l+bulkL m
 |[],m=>by simp [bulkL]
 |t::l,m=>by rw [List.cons_append,bulkL,bulkL,bulkL_app];omega
theorem bulkL_take {l:List T} {i:Nat}:bulkL (l.take i)≤bulkL l:=by
 conv=>rhs;rw [←List.take_append_drop i l,bulkL_app]
 omega
section
variable {S:AS}
theorem itoaB_nat {m:Nat}:itoaB (m:Int)=numB m:=by
 unfold itoaB Lib.itoa numB
 rw [if_neg (by omega)];rfl
theorem rowStr_sRow:∀{ws:List ByteArray},rowStr (sRow ws)=some ws
 |[]=>rfl
 |w::ws=>by
  have:=@rowStr_sRow ws
  unfold sRow at this ⊢
  simp only [List.map_cons,rowStr,this,Option.map_some]
theorem c324 {v:AV} {sep:ByteArray} {ws:List ByteArray} (hr:v.isReg=false) (h:rowsOf 1 S v=some (sRow ws)) (hl:ws.length≤140737488355328) (hj:(joinB ws sep).size≤140737488355328):
 call 324 [v,.sc (.string sep)] S=some (.sc (.string (joinB ws sep)),S):=by
 rw [call_ext a324 (by simp [hr])]
 have hj':(Lib.join (ws.map (·.data.toList)) sep.data.toList).length≤140737488355328:=by
  have:(joinB ws sep).size=(Lib.join (ws.map (·.data.toList)) sep.data.toList).length:=by
   unfold joinB;show (List.toArray _).size=_;rw [List.size_toArray]
  omega
 simp only [joinG,h,Option.bind_some,rowStr_sRow,hl,hj',and_self,if_true]
theorem Own.rows0 {S0 S':AS} {v:AV} {rs:List (List AV)} (h:Own S0 S' 1 v rs):rowsOf 1 S' v=some rs:=by
 rcases h.h with ⟨z,rfl,hz⟩|⟨id,rfl,hh,hid,hlt⟩
 ·rcases hz with hz|rfl
  ·subst hz;simp [rowsOf]
  ·simp [rowsOf]
 ·simp only [rowsOf,if_true]
  exact slice_of hh (Nat.zero_le _)
theorem loop227 {t:T} {h:ByteArray} {S S0:AS} (hb:t.bulk≤1099511627776) (hh:h.size≤1099511627798)
 (ih:∀u∈t.kids,∀S,call 227 [.agg u.cells] S=some (.sc (.string u.text),S)) (hS0:S0.ro≤S0.n) (e:Nat→AV) (rg:Nat→Option (List AV))
 (hq:NQ [6,39,40,41,42,43,44,45,46,47] [6] e) (h3:e 3=.sc (.string h)) (h4:e 4=.lst 0 true []) (h36:e 36=lstT t.kids) (h37:e 37=.sc (.int .i64 (t.kids.length:Nat))) (h38:e 38=.i 0) (ks:List Kn)
 (hex:∀e rg S' v,e 3=.sc (.string h)→e 4=v→v.isReg=false→rowsOf 1 S' v=some (sRow (t.kids.map T.text))→fin [.tmp 2] (unw AA (some (.exit 0,st 54 e rg S')) ks)=some (.sc (.string (h++⟨#[40]⟩++joinT t.kids++⟨#[41]⟩)),S')):
 calmR S (fin [.tmp 2] (exec AA (.loop [6,39,40,41,42,43,44,45,46,47] [6] f227_l0) (st 54 e rg S0) ks))=some (.sc (.string (h++⟨#[40]⟩++joinT t.kids++⟨#[41]⟩)),S):=by
 have hlen:=t.bulk_len
 refine loop_genR (α:=Nat) (R:=fun _ r=>calmR S r=some (.sc (.string (h++⟨#[40]⟩++joinT t.kids++⟨#[41]⟩)),S)) (fun i e rg S'=>i≤t.kids.length∧NQ [6,39,40,41,42,43,44,45,46,47] [6] e∧e 3=.sc (.string h)∧e 36=lstT t.kids∧e 37=.sc (.int .i64 (t.kids.length:Nat))∧e 38=.sc (.int .i64 (i:Nat))∧Own S0 S' 1 (e 4) (sRow ((t.kids.take i).map T.text))) (fun i=>t.kids.length - i) (fun _ _ _ _ h=>h.2.1) ?_ 0 _ _ _ ⟨by omega,hq,h3,h36,h37,h38,by rw [h4];exact own_nil hS0⟩
 intro kk hkk i e rg S' ⟨hi,hq,h3,h36,h37,h38,hO⟩ ihl
 by_cases hc:i < t.kids.length
 ·obtain ⟨k,hk⟩:=get_of_lt hc
  have w2:IntKind.i64.wrap ((i:Int)+1)=((i+1:Nat):Int):=w64 (by omega)
  have hil:(t.kids.take i).length=i:=by rw [List.length_take];omega
  obtain ⟨v',S'',ha,hO',q1,q2,q3⟩:=hO.push (n:=i) (bytes:=16) (r:=[.sc (.string k.text)]) (f:=true) (d:=some 46) (rg:=upd (upd (fgtR [6] rg) 6 zT) 6 k.cells) (by rw [sRow_len,List.length_map,hil]) (by omega)
  have h4r:=hO.reg
  have e227:=ih k (List.mem_of_getElem? hk)
  rw [←sRow_snoc]at hO'
  simp only [zT]at ha
  simp [-calmR_some,f227_l0,h3,h36,h37,h38,hc,lstT_at hk,e227,h4r,fillR]
  rw [ha]
  simp [-calmR_some,q1,w2,h3,h36,h37,h38]
  refine ihl (i+1) _ _ _ (by omega) (fun _ h=>h) ?_
  refine ⟨by omega,?_,by simp [h3],by simp [h36],by simp [h37],by simp,?_⟩
  ·repeat (first|exact NQ_fgt hq|refine NQ_put ?_ (by simp [q1]))
  ·rw [List.take_add_one,hk];simpa using hO'
 ·have hi':i=t.kids.length:=by omega
  subst hi'
  rw [List.take_length]at hO
  simp [-calmR_some,f227_l0,h37,h38]
  rw [hkk]
  simp [-calmR_some]
  rw [hex _ _ _ (e 4) (by simp [h3]) (by simp) hO.reg hO.rows0]
  simp
end
section
variable {S:AS}
set_option maxHeartbeats 2000000 in
theorem text227:∀(n:Nat) (t:T) (S:AS),sizeOf t < n→t.bulk≤1099511627776→t.rshp=true→call 227 [.agg t.cells] S=some (.sc (.string t.text),S)
 |0,_,_,h,_,_=>by omega
 |n+1,t,S,hn,hb,hr=>by
  have ih:∀u∈t.kids,∀S,call 227 [.agg u.cells] S=some (.sc (.string u.text),S):=fun u hu S=>text227 n u S (by have:=T.kid_lt hu;omega) (by have:=T.bulk_kid hu;omega) (by
   rw [t.rshp_def,Bool.and_eq_true]at hr;exact rshpL_iff.1 hr.2 u hu)
  rw [call_calm a227 rfl (by simp) rfl]
  rw [t.rshp_def,Bool.and_eq_true]at hr
  obtain ⟨h1,h2,h3⟩:=T.one_iff.1 hr.1
  have hlen:=t.bulk_len
  have hname:=t.bulk_name
  have hts:=T.text_size (t:=t) (by omega)
  have hks:=joinT_size (l:=t.kids) (by have:=t.bulk_kids;omega)
  have hbk:=t.bulk_kids
  have hhd:=@hdT_size t.kind t.name (by omega)
  have e40:(⟨#[40]⟩:ByteArray).size=1:=rfl
  have e41:(⟨#[41]⟩:ByteArray).size=1:=rfl
  have e58:(⟨#[58]⟩:ByteArray).size=1:=rfl
  have hJ:(joinB (t.kids.map T.text) ⟨#[44]⟩).size≤140737488355328:=by rw [joinB_text];omega
  have fin227:∀(h:ByteArray),h.size≤1099511627798→∀e rg S' v,e 3=.sc (.string h)→e 4=v→v.isReg=false→rowsOf 1 S' v=some (sRow (t.kids.map T.text))→fin [.tmp 2] (exec AA (.seq (.ops [
   ⟨some 48,.pur .mov,[.t 3],none⟩,
   ⟨some 49,.pur (.bin .add),[.t 48,.k (.s ⟨#[40]⟩)],none⟩,
   ⟨some 50,.pur .mov,[.t 4],none⟩,
   ⟨some 51,.call 324,[.t 50,.k (.s ⟨#[44]⟩)],none⟩,
   ⟨some 52,.pur (.bin .add),[.t 49,.t 51],none⟩,
   ⟨some 53,.pur (.bin .add),[.t 52,.k (.s ⟨#[41]⟩)],none⟩,
   ⟨some 2,.pur .mov,[.t 53],none⟩]) .ret) (st 54 e rg S') [])=some (.sc (.string (h++⟨#[40]⟩++joinT t.kids++⟨#[41]⟩)),S'):=by
   intro h hh e rg S' v g3 g4 gr grow
   have j:=c324 (S:=S') (sep:=⟨#[44]⟩) gr grow (by rw [List.length_map];omega) hJ
   rw [joinB_text]at j
   have p1:pev (.bin .add) [.sc (.string h),.s ⟨#[40]⟩]=some (.sc (.string (h++⟨#[40]⟩))):=pev_sadd (by omega)
   have p2:=pev_sadd (x:=h++⟨#[40]⟩) (y:=joinT t.kids) (by rw [ByteArray.size_append];omega)
   have p3:pev (.bin .add) [.sc (.string (h++⟨#[40]⟩++joinT t.kids)),.s ⟨#[41]⟩]=some (.sc (.string (h++⟨#[40]⟩++joinT t.kids++⟨#[41]⟩))):=pev_sadd (by rw [ByteArray.size_append,ByteArray.size_append];omega)
   simp [g3,g4,gr,p1,p2,p3,j]
  have hemp:(t.kids.isEmpty && !(decide (t.kind=3)))=(decide ((t.kids.length:Int)=0) && !(decide (t.kind=3))):=by
   congr 1;cases t.kids<;>simp<;>omega
  rw [T.text_def,hemp]
  have w58:pev (.bin .add) [.sc (.string (numB t.name.size)),.s ⟨#[58]⟩]=some (.sc (.string (numB t.name.size++⟨#[58]⟩))):=pev_sadd (by have:=numB20 (n:=t.name.size) (by omega);omega)
  have wn:=pev_sadd (x:=numB t.name.size++⟨#[58]⟩) (y:=t.name) (by have:=numB20 (n:=t.name.size) (by omega);rw [ByteArray.size_append];omega)
  have wl:=pev_sadd (x:=ltr t.kind) (y:=numB t.name.size++⟨#[58]⟩++t.name) (by have:=numB20 (n:=t.name.size) (by omega);rw [ByteArray.size_append,ByteArray.size_append,ltr_size];omega)
  have e193:∀S,call 193 [.sc (.int .i64 (t.name.size:Int))] S=some (.sc (.string (numB t.name.size)),S):=fun S=>by rw [c193 (by unfold inI;omega),itoaB_nat]
  have kA:=kindAt h1
  have hL1:(ltr t.kind).size=1:=rfl
  by_cases hn0:t.name=⟨#[]⟩
  ·have hd:hdT t.kind t.name=ltr t.kind:=by unfold hdT nameT;rw [if_pos hn0,ba_nil]
   rw [hd]at hhd ⊢
   generalize ltr t.kind=L at *
   by_cases hem:(t.kids.length:Int)=0
   ·by_cases hk3:t.kind=3
    ·simp [-calmR_some,f227,f227b,glob0,kA,hn0,hem,eq_true hk3]
     refine loop227 (h:=L) hb (by omega) ih (Nat.le_refl _) _ _ ?_ (by simp) (by simp) (by simp) (by simp [hem]) (by simp) _ ?_
     ·repeat (first|exact NQ_ini rfl|refine NQ_put ?_ (by simp))
     ·intro e rg S' v g3 g4 gr grow
      simpa [g4,gr] using fin227 _ (by omega) e rg S' v g3 g4 gr grow
    ·simp [f227,f227b,glob0,kA,hn0,hem,hk3]
   ·have hem':¬t.kids=[]:=fun h=>hem (by rw [h];rfl)
    simp [-calmR_some,f227,f227b,glob0,kA,hn0,hem,hem']
    refine loop227 (h:=L) hb (by omega) ih (Nat.le_refl _) _ _ ?_ (by simp) (by simp) (by simp) (by simp [hem]) (by simp) _ ?_
    ·repeat (first|exact NQ_ini rfl|refine NQ_put ?_ (by simp))
    ·intro e rg S' v g3 g4 gr grow
     simpa [g4,gr] using fin227 _ (by omega) e rg S' v g3 g4 gr grow
  ·have hd:hdT t.kind t.name=ltr t.kind++(numB t.name.size++⟨#[58]⟩++t.name):=by unfold hdT nameT;rw [if_neg hn0]
   rw [hd]at hhd ⊢
   generalize ltr t.kind=L at *
   generalize hH:L++(numB t.name.size++⟨#[58]⟩++t.name)=H at *
   by_cases hem:(t.kids.length:Int)=0
   ·by_cases hk3:t.kind=3
    ·simp [-calmR_some,f227,f227b,glob0,kA,hn0,hem,eq_true hk3,e193,w58,wn,wl]
     refine loop227 (h:=H) hb (by omega) ih (Nat.le_refl _) _ _ ?_ (by simp) (by simp) (by simp) (by simp [hem]) (by simp) _ ?_
     ·repeat (first|exact NQ_ini rfl|refine NQ_put ?_ (by simp))
     ·intro e rg S' v g3 g4 gr grow
      simpa [g4,gr] using fin227 _ (by omega) e rg S' v g3 g4 gr grow
    ·simp [f227,f227b,glob0,kA,hn0,hem,hk3,e193,w58,wn,wl]
   ·have hem':¬t.kids=[]:=fun h=>hem (by rw [h];rfl)
    simp [-calmR_some,f227,f227b,glob0,kA,hn0,hem,hem',e193,w58,wn,wl]
    refine loop227 (h:=H) hb (by omega) ih (Nat.le_refl _) _ _ ?_ (by simp) (by simp) (by simp) (by simp [hem]) (by simp) _ ?_
    ·repeat (first|exact NQ_ini rfl|refine NQ_put ?_ (by simp))
    ·intro e rg S' v g3 g4 gr grow
     simpa [g4,gr] using fin227 _ (by omega) e rg S' v g3 g4 gr grow
end
abbrev T.bb (t:T):Prop:=t.bd 140737488355328
theorem T.bb_kids:∀{t:T},t.bb→∀u∈t.kids,u.bb
 | .mk _ _ _,h,u,hu=>bdL_iff.1 h.2.2 u hu
theorem T.bb_len:∀{t:T},t.bb→t.kids.length * 48≤140737488355328
 | .mk _ _ _,h=>h.2.1
theorem T.bb_fits {t:T} (h:t.bb):t.fits:=T.fits_bd (by omega) h
theorem tZ_bb:tZ.bb:=⟨by show 0≤_;omega,by show 0 * 48≤_;omega,trivial⟩
theorem unsT_bb {k t:T} {n:Int} (h:t.bb):(unsT k n t).1.bb:=by
 unfold unsT
 split
 ·unfold unsL
  split
  ·rename_i a b hab
   split
   ·exact T.bb_kids h b (by rw [hab];simp)
   ·exact tZ_bb
  ·exact tZ_bb
 ·exact tZ_bb
section
variable {S:AS}
set_option maxHeartbeats 1000000 in
theorem s151 {a u body p:T} {now:Int} (hp:p.bb) (hn:now.natAbs≤1000000000000000):call 151 [.agg a.cells,.agg u.cells,.agg body.cells,.agg p.cells,.sc (.int .i64 now)] S=some (.sc (.int .i64 (chkT a u body p now)),S):=by
 rw [call_calm a151 rfl (by simp) rfl]
 have e1:=fun S=>@s79 S chalB 1 p (by omega)
 simp only [chalB]at e1
 have e2:=fun S=>@s267 S a u
 unfold chkT
 cases hu:unpT chalB 1 p with
 |none=>
  simp only [chalB]at hu
  simp [f151,f151b,e1,hu,optL]
 |some l=>
  obtain ⟨hl,hm⟩:=unpT_len (n:=1) hu
  match l,hl with
  |[x],_=>
   simp only [chalB]at hu
   have hx:=T.bb_kids hp x (hm x (by simp))
   have e3:=fun S=>@s268 S (tCk a u) x 54 i54 (by omega) (T.bb_fits hx)
   have hr:=@unsT_bb (tCk a u) x 54 hx
   simp only
   generalize unsT (tCk a u) 54 x=r at e3 hr ⊢
   obtain ⟨y,er⟩:=r
   simp only at hr
   have lx:pev (.iaddr 3) [lstT [x],.i 0]=some (.iptr x.cells):=lstT_at (i:=0) rfl
   unfold chkU
   simp only
   by_cases h4:er=4
   ·subst h4
    simp [f151,f151b,e1,e2,e3,hu,optL,resU,lx]
   ·by_cases h0:er=0
    ·subst h0
     have e5:=fun S=>@s79 S timeB 2 y (by omega)
     simp only [timeB]at e5
     cases hv:unpT timeB 2 y with
     |none=>
      simp only [timeB]at hv
      simp [f151,f151b,e1,e2,e3,e5,hu,hv,optL,resU,lx]
     |some m=>
      obtain ⟨hml,hmm⟩:=unpT_len (n:=2) hv
      match m,hml with
      |[c,b],_=>
       simp only [timeB]at hv
       have hc:=T.bb_kids hr c (hmm c (by simp))
       have hb:=T.bb_kids hr b (hmm b (by simp))
       have e6:=fun S=>@s88 S c
       have lc:pev (.iaddr 3) [lstT [c,b],.i 0]=some (.iptr c.cells):=lstT_at (i:=0) rfl
       have lb:pev (.iaddr 3) [lstT [c,b],.i 1]=some (.iptr b.cells):=lstT_at (i:=1) rfl
       have fb:=T.bb_fits hb
       simp only [chkL]
       cases hnum:numOf c with
       |none=>simp [f151,f151b,e1,e2,e3,e5,e6,hu,hv,optL,resU,lx,lc,hnum,optI]
       |some n=>
        have hlt:=numOf_lt hnum
        have w1:IntKind.i64.wrap (n - now)=n - now:=w64 (by omega)
        have w2:IntKind.i64.wrap (now - n)=now - n:=w64 (by omega)
        unfold chkN
        cases hs:b.same (tHash body) with
        |false=>simp [f151,f151b,e1,e2,e3,e5,e6,hu,hv,optL,resU,lx,lc,lb,hnum,optI,fb,hs]
        |true=>
         by_cases hl:n < now
         ·have g:¬now < n:=by omega
          by_cases h5:5 < now - n
          ·have h5':(n - now).natAbs > 5:=by omega
           simp [f151,f151b,e1,e2,e3,e5,e6,hu,hv,optL,resU,lx,lc,lb,hnum,optI,fb,hs,w2,hl,g,h5,h5']
          ·have h5':¬(n - now).natAbs > 5:=by omega
           simp [f151,f151b,e1,e2,e3,e5,e6,hu,hv,optL,resU,lx,lc,lb,hnum,optI,fb,hs,w2,hl,g,h5,h5']
         ·by_cases g:now < n
          ·by_cases h5:5 < n - now
           ·have h5':(n - now).natAbs > 5:=by omega
            simp [f151,f151b,e1,e2,e3,e5,e6,hu,hv,optL,resU,lx,lc,lb,hnum,optI,fb,hs,w1,hl,g,h5,h5']
           ·have h5':¬(n - now).natAbs > 5:=by omega
            simp [f151,f151b,e1,e2,e3,e5,e6,hu,hv,optL,resU,lx,lc,lb,hnum,optI,fb,hs,w1,hl,g,h5,h5']
          ·have h5':¬(n - now).natAbs > 5:=by omega
           simp [f151,f151b,e1,e2,e3,e5,e6,hu,hv,optL,resU,lx,lc,lb,hnum,optI,fb,hs,hl,g,h5']
    ·simp [f151,f151b,e1,e2,e3,hu,optL,resU,lx,h4,h0]
end
def lettersV:List (List AV):=[[.s ⟨#[100]⟩],[.s ⟨#[97]⟩],[.s ⟨#[112]⟩],[.s ⟨#[101]⟩],[.s ⟨#[109]⟩],[.s ⟨#[104]⟩],[.s ⟨#[107]⟩],[.s ⟨#[117]⟩],[.s ⟨#[115]⟩],[.s ⟨#[120]⟩]]
theorem letAt {k:Int} (h:knd k=true):pev (.iaddr 1) [.lst 1 true lettersV,.sc (.int .i64 (IntKind.i64.wrap (k - 1)))]=some (.iptr [.sc (.string (ltr k))]):=by
 rcases knd_cases h with rfl|rfl|rfl|rfl|rfl|rfl|rfl|rfl|rfl|rfl<;>rfl
section
variable {S:AS}
theorem s420:∀{n:Nat} {S:AS},n≤9223372036854775807→call 420 [.sc (.int .i64 (n:Int))] S=some (.sc (.string (numB n)),S):=by
 intro n
 induction n using Nat.strongRecOn with
 |_ n ih=>
  intro S hn
  rw [call_calm a420 rfl (by simp) rfl]
  have hd:n % 10 < 10:=Nat.mod_lt _ (by omega)
  have hbyte:∀m:Nat,m < 10→pev .bytesStr [AV.lst 1 true [[.sc (.int .u8 (IntKind.u8.wrap (IntKind.i64.wrap (48+(m:Int)))))]]]=some (.sc (.string (digB m))):=fun m hm=>by
   rw [wrap_u8 hm];exact pev_dig
  by_cases h:n < 10
  ·have h':(n:Int) < 10:=by omega
   simp [f420,f420b,h',fillR,hbyte n h,numB_one h]
  ·have h':¬(n:Int) < 10:=by omega
   have e420:=fun S=>ih (n / 10) (by omega) (S:=S) (by omega)
   have hb:=hbyte (n % 10) hd
   have hsz:(digB (n % 10)).size=1:=rfl
   have hs:=pev_sadd (x:=numB (n / 10)) (y:=digB (n % 10)) (by have:=numB20 (n:=n / 10) (by omega);omega)
   rw [←numB_step (by omega)]at hs
   rw [show ((n % 10:Nat):Int)=(n:Int) % 10 by omega]at hb
   rw [show ((n / 10:Nat):Int)=(n:Int) / 10 by omega]at e420
   have hq:=@pev_quo10 n hn
   have hr:=@pev_rem10 n
   rw [show ((n % 10:Nat):Int)=(n:Int) % 10 by omega]at hr
   rw [show ((n / 10:Nat):Int)=(n:Int) / 10 by omega]at hq
   simp [f420,f420b,h',fillR,hq,hr,e420,hb,hs]
theorem loop347 {t:T} {h:ByteArray} {S S0:AS} (hb:t.bulk≤1099511627776) (hh:h.size≤1099511627799)
 (ih:∀u∈t.kids,∀S,call 347 [.agg u.cells] S=some (.sc (.string u.text),S)) (e:Nat→AV) (rg:Nat→Option (List AV))
 (h1:e 1=.reg 1 0) (hr:rg 1=some t.cells) (h4:e 4=.sc (.string h)) (h5:e 5=.i 0) (ks:List Kn)
 (hex:∀e rg S',e 4=.sc (.string (h++joinT t.kids))→fin [.tmp 2] (unw AA (some (.exit 0,st 55 e rg S')) ks)=some (.sc (.string (h++joinT t.kids++⟨#[41]⟩)),S')):
 calmR S (fin [.tmp 2] (exec AA (.loop [6,33,34,35,36,37,38,39,40,41,42,43,44,45,46,47,48,49,50,51,52] [] f347_l0) (st 55 e rg S0) ks))=some (.sc (.string (h++joinT t.kids++⟨#[41]⟩)),S):=by
 have hlen:=t.bulk_len
 have hbk:=t.bulk_kids
 have htk:∀i,(joinT (t.kids.take i)).size≤8 * 1099511627776:=fun i=>by
  have h1:=@bulkL_take t.kids i
  have h2:=joinT_size (l:=t.kids.take i) (by omega)
  omega
 have e44:(⟨#[44]⟩:ByteArray).size=1:=rfl
 refine loop_gen (α:=Nat) (R:=fun _ r=>calmR S r=some (.sc (.string (h++joinT t.kids++⟨#[41]⟩)),S)) (fun i e rg S'=>i≤t.kids.length∧e 1=.reg 1 0∧rg 1=some t.cells∧e 4=.sc (.string (h++joinT (t.kids.take i)))∧e 5=.sc (.int .i64 (i:Nat))) (fun i=>t.kids.length - i) ?_ 0 _ _ _ ⟨by omega,h1,hr,by rw [h4];simp only [List.take_zero,joinT,ba_nil],h5⟩
 intro kk hkk i e rg S' ⟨hi,h1,hr,h4,h5⟩ ihl
 by_cases hc:i < t.kids.length
 ·obtain ⟨k,hk⟩:=get_of_lt hc
  have w2:IntKind.i64.wrap ((i:Int)+1)=((i+1:Nat):Int):=w64 (by omega)
  have e347:=ih k (List.mem_of_getElem? hk)
  have hkb:=T.bulk_kid (List.mem_of_getElem? hk)
  have hkt:=T.text_size (t:=k) (by omega)
  have hti:=htk i
  have htake:=joinT_take hk
  by_cases hi0:i=0
  ·subst hi0
   rw [if_pos rfl]at htake
   have p:=pev_sadd (x:=h) (y:=k.text) (by omega)
   simp only [List.take_zero,joinT,ba_nil]at h4
   have hk0:pev (.iaddr 3) [lstT t.kids,.i 0]=some (.iptr k.cells):=lstT_at (i:=0) hk
   have w20:IntKind.i64.wrap 1=1:=rfl
   simp [-calmR_some,f347_l0,h1,hr,h4,h5,hc,hk0,e347,w20,p]
   refine ihl 1 _ _ _ (by omega) (fun _ h=>h) ?_
   exact ⟨by omega,by simp [h1],by simp [hr],by simp only [put_apply];simp;rw [htake],by simp⟩
  ·rw [if_neg hi0]at htake
   have hi1:(0:Int) < i:=by omega
   have hi2:0 < i:=by omega
   have p1:pev (.bin .add) [.sc (.string (h++joinT (t.kids.take i))),.s ⟨#[44]⟩]=some (.sc (.string (h++joinT (t.kids.take i)++⟨#[44]⟩))):=pev_sadd (by rw [ByteArray.size_append];omega)
   have p2:=pev_sadd (x:=h++joinT (t.kids.take i)++⟨#[44]⟩) (y:=k.text) (by rw [ByteArray.size_append,ByteArray.size_append];omega)
   simp [-calmR_some,f347_l0,h1,hr,h4,h5,hc,hi1,hi2,lstT_at hk,e347,w2,p1,p2]
   refine ihl (i+1) _ _ _ (by omega) (fun _ h=>h) ?_
   refine ⟨by omega,by simp [h1],by simp [hr],?_,by simp⟩
   simp;rw [htake];simp only [ba_assoc]
 ·have hi':i=t.kids.length:=by omega
  subst hi'
  rw [List.take_length]at h4
  simp [-calmR_some,f347_l0,h1,hr,h4,h5]
  rw [hkk]
  simp [-calmR_some]
  rw [hex _ _ _ (by simp [h4])]
  simp
set_option maxHeartbeats 2000000 in
theorem text347:∀(n:Nat) (t:T) (S:AS),sizeOf t < n→t.bulk≤1099511627776→t.rshp=true→call 347 [.agg t.cells] S=some (.sc (.string t.text),S)
 |0,_,_,h,_,_=>by omega
 |n+1,t,S,hn,hb,hr=>by
  have ih:∀u∈t.kids,∀S,call 347 [.agg u.cells] S=some (.sc (.string u.text),S):=fun u hu S=>text347 n u S (by have:=T.kid_lt hu;omega) (by have:=T.bulk_kid hu;omega) (by
   rw [t.rshp_def,Bool.and_eq_true]at hr;exact rshpL_iff.1 hr.2 u hu)
  rw [call_calm a347 rfl (by simp) rfl]
  rw [t.rshp_def,Bool.and_eq_true]at hr
  obtain ⟨h1,h2,h3⟩:=T.one_iff.1 hr.1
  have hlen:=t.bulk_len
  have hname:=t.bulk_name
  have hts:=T.text_size (t:=t) (by omega)
  have hks:=joinT_size (l:=t.kids) (by have:=t.bulk_kids;omega)
  have hbk:=t.bulk_kids
  have hhd:=@hdT_size t.kind t.name (by omega)
  have e40:(⟨#[40]⟩:ByteArray).size=1:=rfl
  have e41:(⟨#[41]⟩:ByteArray).size=1:=rfl
  have e58:(⟨#[58]⟩:ByteArray).size=1:=rfl
  have hemp:(t.kids.isEmpty && !(decide (t.kind=3)))=decide (t.kind≤2):=by
   have hk:=knd_cases h1
   by_cases hc:t.kids=[]
   ·have hz:t.kids.length=0:=by rw [hc];rfl
    rw [hz]at h3
    have:t.kind=3∨t.kind≤2:=by
     rcases hk with h|h|h|h|h|h|h|h|h|h<;>rw [h]at h3 ⊢<;>simp [kdn]at h3<;>omega
    rw [hc]
    by_cases h3':t.kind=3
    ·simp [h3']
    ·have:t.kind≤2:=by omega
     simp [h3',this]
   ·have:¬t.kind≤2:=by
     intro h
     have:t.kids.length=0:=by
      rcases (show t.kind=1∨t.kind=2 by omega) with h|h<;>rw [h]at h3<;>simp [kdn]at h3<;>simp [h3]
     exact hc (List.length_eq_zero_iff.1 this)
    simp [hc,this]
  rw [T.text_def,hemp]
  have e420:∀S,call 420 [.sc (.int .i64 (t.name.size:Int))] S=some (.sc (.string (numB t.name.size)),S):=fun S=>s420 (by omega)
  have kA:=letAt h1
  unfold lettersV at kA
  have hL1:(ltr t.kind).size=1:=rfl
  have fin347:∀(h:ByteArray),h.size≤1099511627799→∀e rg S',e 4=.sc (.string (h++joinT t.kids))→fin [.tmp 2] (exec AA (.seq (.ops [
   ⟨some 53,.pur .mov,[.t 4],none⟩,
   ⟨some 54,.pur (.bin .add),[.t 53,.k (.s ⟨#[41]⟩)],none⟩,
   ⟨some 2,.pur .mov,[.t 54],none⟩]) .ret) (st 55 e rg S') [])=some (.sc (.string (h++joinT t.kids++⟨#[41]⟩)),S'):=by
   intro h hh e rg S' g4
   have p3:pev (.bin .add) [.sc (.string (h++joinT t.kids)),.s ⟨#[41]⟩]=some (.sc (.string (h++joinT t.kids++⟨#[41]⟩))):=pev_sadd (by rw [ByteArray.size_append];omega)
   simp [g4,p3]
  have p40:∀(h:ByteArray),h.size≤1099511627798→pev (.bin .add) [.sc (.string h),.s ⟨#[40]⟩]=some (.sc (.string (h++⟨#[40]⟩))):=fun h hh=>pev_sadd (by omega)
  have wl:=pev_sadd (x:=ltr t.kind) (y:=numB t.name.size) (by have:=numB20 (n:=t.name.size) (by omega);rw [ltr_size];omega)
  have w58:pev (.bin .add) [.sc (.string (ltr t.kind++numB t.name.size)),.s ⟨#[58]⟩]=some (.sc (.string (ltr t.kind++numB t.name.size++⟨#[58]⟩))):=pev_sadd (by have:=numB20 (n:=t.name.size) (by omega);rw [ByteArray.size_append,ltr_size];omega)
  have wn:=pev_sadd (x:=ltr t.kind++numB t.name.size++⟨#[58]⟩) (y:=t.name) (by have:=numB20 (n:=t.name.size) (by omega);rw [ByteArray.size_append,ByteArray.size_append,ltr_size];omega)
  by_cases hn0:t.name=⟨#[]⟩
  ·have hd:hdT t.kind t.name=ltr t.kind:=by unfold hdT nameT;rw [if_pos hn0,ba_nil]
   rw [hd]at hhd ⊢
   generalize ltr t.kind=L at *
   by_cases hk2:t.kind≤2
   ·simp [f347,f347b,fillR,kA,hn0,hk2]
   ·have q:=p40 L (by omega)
    simp [-calmR_some,f347,f347b,fillR,kA,hn0,hk2,q]
    refine loop347 (h:=L++⟨#[40]⟩) hb (by rw [ByteArray.size_append];omega) ih _ _ ?_ ?_ ?_ ?_ _ ?_
    ·simp
    ·simp
    ·simp
    ·simp
    intro e rg S' g4
    simpa [g4] using fin347 (L++⟨#[40]⟩) (by rw [ByteArray.size_append];omega) e rg S' g4
  ·have hd:hdT t.kind t.name=ltr t.kind++numB t.name.size++⟨#[58]⟩++t.name:=by unfold hdT nameT;rw [if_neg hn0];simp only [ba_assoc]
   rw [hd]at hhd ⊢
   generalize ltr t.kind=L at *
   generalize hH:L++numB t.name.size++⟨#[58]⟩++t.name=H at *
   by_cases hk2:t.kind≤2
   ·simp [f347,f347b,fillR,kA,hn0,hk2,e420,wl,w58,wn]
   ·have q:=p40 H (by omega)
    simp [-calmR_some,f347,f347b,fillR,kA,hn0,hk2,e420,wl,w58,wn,q]
    refine loop347 (h:=H++⟨#[40]⟩) hb (by rw [ByteArray.size_append];omega) ih _ _ ?_ ?_ ?_ ?_ _ ?_
    ·simp
    ·simp
    ·simp
    ·simp
    intro e rg S' g4
    simpa [g4] using fin347 (H++⟨#[40]⟩) (by rw [ByteArray.size_append];omega) e rg S' g4
theorem s227 {t:T} (h:t.bulk≤1099511627776) (hr:t.rshp=true):call 227 [.agg t.cells] S=some (.sc (.string t.text),S):=text227 _ t S (Nat.lt_succ_self _) h hr
theorem s347 {t:T} (h:t.bulk≤1099511627776) (hr:t.rshp=true):call 347 [.agg t.cells] S=some (.sc (.string t.text),S):=text347 _ t S (Nat.lt_succ_self _) h hr
end
def shareOk (k:Int) (l:List T):Bool:=if k=9 then (match l with|a::b::_=>!(sLt b.text a.text)|_=>true) else true
mutual
def T.ord:T→Bool
 | .mk k _ l=>shareOk k l && ordL l
def ordL:List T→Bool
 |[]=>true
 |t::l=>t.ord && ordL l
end
mutual
def T.ofit:T→Prop
 | .mk k _ l=>(k=9→∀u∈l,u.bulk≤1099511627776)∧ofitL l
def ofitL:List T→Prop
 |[]=>True
 |t::l=>t.ofit∧ofitL l
end
theorem T.ord_def:∀t:T,t.ord=(shareOk t.kind t.kids && ordL t.kids)
 | .mk _ _ _=>by rw [T.ord];rfl
theorem ordL_all:∀{l:List T},ordL l=l.all T.ord
 |[]=>rfl
 |t::l=>by rw [ordL,List.all_cons,ordL_all]
mutual
theorem T.ofit_bulk:∀{t:T},t.bulk≤1099511627776→t.ofit
 | .mk k n l,h=>by
   rw [T.bulk]at h
   exact ⟨fun _ u hu=>by have:=bulkL_mem (l:=l) u hu;omega,ofitL_bulk (by omega)⟩
theorem ofitL_bulk:∀{l:List T},bulkL l≤1099511627776→ofitL l
 |[],_=>trivial
 |t::l,h=>by
  rw [bulkL]at h
  exact ⟨T.ofit_bulk (by omega),ofitL_bulk (by omega)⟩
end
def T.right (t:T):Bool:=t.rshp && decide (t.dp≤60) && t.ord
theorem T.right_iff {t:T}:t.right=true↔t.rshp=true∧t.dp≤60∧t.ord=true:=by
 unfold T.right;simp only [Bool.and_eq_true,decide_eq_true_eq,and_assoc]
theorem T.rshp_kid {t u:T} (h:t.rshp=true) (hu:u∈t.kids):u.rshp=true:=by
 rw [t.rshp_def,Bool.and_eq_true]at h;exact rshpL_iff.1 h.2 u hu
theorem T.share_kids {t:T} (h:t.rshp=true) (h9:t.kind=9):∃a b,t.kids=[a,b]:=by
 rw [t.rshp_def,Bool.and_eq_true]at h
 obtain ⟨_,_,h3⟩:=T.one_iff.1 h.1
 have hk:kdn t.kind=2:=by rw [h9];rfl
 have:t.kids.length=2:=by omega
 match hl:t.kids,this with
 |[a,b],_=>exact ⟨a,b,rfl⟩
section
variable {S:AS}
theorem e221 {t:T} {S:AS} (hf:t.fits):call 221 [.agg t.cells,.i 60] S=some (.sc (.bool (t.rshp && decide (t.dp≤60))),S):=by
 rw [←T.shp_eq];exact @s221 60 t S (by omega) hf
def T.txt (t:T):ByteArray:=if t.rshp && decide (t.dp≤60) then t.text else ⟨#[]⟩
theorem s121 {t:T} (hb:t.bulk≤1099511627776):call 121 [.agg t.cells] S=some (.sc (.string t.txt),S):=by
 rw [call_calm a121 rfl (by simp) rfl]
 have e1:=fun S=>@e221 t S (T.fits_bulk hb)
 unfold T.txt
 cases hr:(t.rshp && decide (t.dp≤60)) with
 |false=>rw [hr]at e1;simp [f121,f121b,e1]
 |true=>
  rw [hr]at e1
  have e2:=fun S=>@s227 S t hb (by rw [Bool.and_eq_true]at hr;exact hr.1)
  simp [f121,f121b,e1,e2]
theorem s229 {a b:T} (ha:a.bulk≤1099511627776) (hb:b.bulk≤1099511627776):call 229 [.agg a.cells,.agg b.cells] S=some (.sc (.bool (sLt a.txt b.txt)),S):=by
 rw [call_calm a229 rfl (by simp) rfl]
 have e1:=fun S=>@s121 S a ha
 have e2:=fun S=>@s121 S b hb
 simp [f229,f229b,e1,e2]
def tShare (a b:T):T:=if sLt b.txt a.txt then .mk 9 ⟨#[]⟩ [b,a] else .mk 9 ⟨#[]⟩ [a,b]
theorem s127 {a b:T} (ha:a.bulk≤1099511627776) (hb:b.bulk≤1099511627776):call 127 [.agg a.cells,.agg b.cells] S=some (.agg (tShare a b).cells,S):=by
 rw [call_calm a127 rfl (by simp) rfl]
 have e1:=fun S=>@s229 S b a hb ha
 unfold tShare
 cases hs:sLt b.txt a.txt with
 |true=>rw [hs]at e1;simp [f127,f127b,e1,T.cells,rowsT]
 |false=>rw [hs]at e1;simp [f127,f127b,e1,T.cells,rowsT]
theorem T.text_ne {t:T}:t.text≠⟨#[]⟩:=by
 intro h
 have:=congrArg ByteArray.size h
 rw [T.text_def]at this
 have h1:(hdT t.kind t.name).size=1+(nameT t.name).size:=by unfold hdT;rw [ByteArray.size_append,ltr_size]
 have h0:(⟨#[]⟩:ByteArray).size=0:=rfl
 split at this
 ·omega
 ·simp only [ByteArray.size_append]at this;omega
theorem s243 {t:T} (hb:t.bulk≤1099511627776):call 243 [.agg t.cells] S=some (.sc (.string t.txt),S):=by
 rw [call_calm a243 rfl (by simp) rfl]
 have hf:=T.fits_bulk hb
 have e1:∀S,call 314 [.agg t.cells,.i 61] S=some (.sc (.int .i64 (t.dep 61:Nat)),S):=fun S=>@s314 61 t S (by omega) hf
 have e2:=fun S=>@s346 S t hf
 rw [T.dep_eq]at e1
 unfold T.txt
 by_cases hd:t.dp≤60
 ·have hd':¬((60:Int) < (min 61 t.dp:Nat)):=by omega
  cases hr:t.rshp with
  |false=>rw [hr]at e2;simp [f243,f243b,e1,e2,hd,hd']
  |true=>
   rw [hr]at e2
   have e3:=fun S=>@s347 S t hb hr
   simp [f243,f243b,e1,e2,e3,hd,hd']
 ·have hd':(60:Int) < (min 61 t.dp:Nat):=by omega
  simp [f243,f243b,e1,hd,hd']
end
def otpB:ByteArray:=⟨#[111,116,112]⟩
def codeB:ByteArray:=⟨#[99,111,100,101]⟩
def spkB:ByteArray:=⟨#[115,112,97,107,101]⟩
def facB:ByteArray:=⟨#[102,97,99,116,111,114]⟩
def tOffer (n:T):T:=tPack otpB [n]
def tCode (ak l c:T):T:=tPack otpB [tSeal ak 45 (tPack codeB [l,c])]
def ansO (ak offer c:T):T×Int:=match unpT otpB 1 offer with
 |some [x]=>(tCode ak x c,0)
 |_=>(tZ,2)
def tMsk (x u:T):T:=tMask (tPub x) (tWd u)
def tPoint (u y:T):T:=tPack spkB [tMsk y u]
def expP (u w:T) (p:T):T×Int:=if p.kind=8 then (match p.kids with
 |[x]=>if w.same (tWd u) then (x,0) else (tZ,6)
 |_=>(tZ,2)) else (tZ,2)
def expT (u t:T):T×Int:=if t.kind=10 then (match t.kids with
 |[p,w]=>expP u w p
 |_=>(tZ,2)) else (tZ,2)
def xKey (x y u o a b:T) (n:Int):T:=tSecond (tShare x y) (tWd u) o a (tHash b) n
def tFac (x y u o a b:T):T:=tSeal (xKey x y u o a b 1) 60 (tPack facB [])
def ansP (u b x l:T) (r:T×Int):T×T×Int:=if r.2=0 then (tPack spkB [tMsk x u,tFac x r.1 u l (tMsk x u) b],xKey x r.1 u l (tMsk x u) b 0,0) else (tZ,tZ,r.2)
def ansS (u b o x:T):T×T×Int:=match unpT spkB 1 o with
 |some [l]=>ansP u b x l (expT u l)
 |_=>(tZ,tZ,2)
def chkP (u b y l f:T) (r:T×Int):T×Int:=if r.2=0 then (if f.same (tFac r.1 y u (tMsk y u) l b) then (xKey r.1 y u (tMsk y u) l b 0,0) else (tZ,6)) else (tZ,r.2)
def chkS (u b y p:T):T×Int:=match unpT spkB 2 p with
 |some [l,f]=>chkP u b y l f (expT u l)
 |_=>(tZ,2)
def exC (x y u o a b:T):List AV:=x.cells++(y.cells++(u.cells++(o.cells++(a.cells++b.cells))))
def ShOk (x y:T):Prop:=∀S,call 127 [.agg x.cells,.agg y.cells] S=some (.agg (tShare x y).cells,S)
theorem exC_def {x y u o a b:T}:exC x y u o a b=[.sc (.int .i64 x.kind),.sc (.string x.name),lstT x.kids,.sc (.int .i64 y.kind),.sc (.string y.name),lstT y.kids,.sc (.int .i64 u.kind),.sc (.string u.name),lstT u.kids,
 .sc (.int .i64 o.kind),.sc (.string o.name),lstT o.kids,.sc (.int .i64 a.kind),.sc (.string a.name),lstT a.kids,.sc (.int .i64 b.kind),.sc (.string b.name),lstT b.kids]:=by
 unfold exC;rw [cells_T x,cells_T y,cells_T u,cells_T o,cells_T a,cells_T b];rfl
section
variable {x y u o a b:T}
@[simp] theorem exC_len:(exC x y u o a b).length=18:=by rw [exC_def];rfl
@[simp] theorem exC_t0:(exC x y u o a b).take 3=x.cells:=by rw [exC_def,cells_T x];rfl
@[simp] theorem exC_t3:((exC x y u o a b).drop 3).take 3=y.cells:=by rw [exC_def,cells_T y];rfl
@[simp] theorem exC_t6:((exC x y u o a b).drop 6).take 3=u.cells:=by rw [exC_def,cells_T u];rfl
@[simp] theorem exC_t9:((exC x y u o a b).drop 9).take 3=o.cells:=by rw [exC_def,cells_T o];rfl
@[simp] theorem exC_t12:((exC x y u o a b).drop 12).take 3=a.cells:=by rw [exC_def,cells_T a];rfl
@[simp] theorem exC_t15:((exC x y u o a b).drop 15).take 3=b.cells:=by rw [exC_def,cells_T b];rfl
@[simp] theorem exC_t15':(exC x y u o a b).drop 15=b.cells:=by rw [exC_def,cells_T b];rfl
@[simp] theorem exC_t18:(exC x y u o a b).take 18=exC x y u o a b:=by rw [exC_def];rfl
@[simp] theorem exC_nrm:nrmL (exC x y u o a b)=exC x y u o a b:=by rw [exC_def];simp [lstT_nrm]
theorem exC_cell:(exC x y u o a b).all AV.isCell=true:=by rw [exC_def];simp
@[simp] theorem exC_cell':(∀v:AV,v∈exC x y u o a b→v.isCell=true)=True:=eq_true (List.all_eq_true.1 exC_cell)
end
theorem i45:inI 45:=by unfold inI;omega
theorem i60:inI 60:=by unfold inI;omega
theorem i1:inI 1:=by unfold inI;omega
theorem i0:inI 0:=by unfold inI;omega
section
variable {S:AS}
theorem s156 {ak o c:T} (ho:o.bb):call 156 [.agg ak.cells,.agg o.cells,.agg c.cells] S=some (resU (ansO ak o c),S):=by
 rw [call_calm a156 rfl (by simp) rfl]
 have e1:=fun S=>@s78 S otpB 1 o (by have:=T.bb_len ho;omega)
 simp only [otpB]at e1
 unfold ansO
 cases hu:unpT otpB 1 o with
 |none=>
  simp only [otpB]at hu
  simp [f156,f156b,e1,hu,optL,resU,tZ,T.cells,rowsT]
  rfl
 |some l=>
  obtain ⟨hl,hm⟩:=unpT_len (n:=1) hu
  match l,hl with
  |[x],_=>
   simp only [otpB]at hu
   have lx:pev (.iaddr 3) [lstT [x],.i 0]=some (.iptr x.cells):=lstT_at (i:=0) rfl
   have e2:∀S,call 62 [.s ⟨#[99,111,100,101]⟩,.lst 3 true [x.cells,c.cells]] S=some (.agg (tPack codeB [x,c]).cells,S):=fun S=>p62 isTs2 (by show 3 * 48≤_;omega)
   have e3:=fun S=>@s261 S ak (tPack codeB [x,c]) 45 i45
   have e4:∀S,call 62 [.s ⟨#[111,116,112]⟩,.lst 3 true [(tSeal ak 45 (tPack codeB [x,c])).cells]] S=some (.agg (tCode ak x c).cells,S):=fun S=>p62 isTs1 (by show 2 * 48≤_;omega)
   simp [f156,f156b,e1,hu,optL,resU,lx,e2,e3,e4]
@[simp] theorem s269 {x u:T}:call 269 [.agg x.cells,.agg u.cells] S=some (.agg (tMsk x u).cells,S):=by
 rw [call_calm a269 rfl (by simp) rfl]
 simp [f269,f269b,tMsk]
theorem s272 {x y u o a b:T} {n:Int} (hs:ShOk x y) (hn:inI n):call 272 [.agg (exC x y u o a b),.sc (.int .i64 n)] S=some (.agg (xKey x y u o a b n).cells,S):=by
 rw [call_calm a272 rfl (by simp) rfl]
 have e1:=hs
 unfold ShOk at e1
 have e2:=fun S=>@s364 S (tShare x y) (tWd u) o a (tHash b) n hn
 simp [f272,f272b,e1,e2,xKey,exC_cell']
theorem s271 {x y u o a b:T} (hs:ShOk x y):call 271 [.agg (exC x y u o a b)] S=some (.agg (tFac x y u o a b).cells,S):=by
 rw [call_calm a271 rfl (by simp) rfl]
 have e1:=fun S=>@s272 S x y u o a b 1 hs i1
 have e2:∀S,call 62 [.s ⟨#[102,97,99,116,111,114]⟩,.lst 0 true []] S=some (.agg (tPack facB []).cells,S):=fun S=>p62 isTs_nil (by show 1 * 48≤_;omega)
 have e3:=fun S=>@s261 S (xKey x y u o a b 1) (tPack facB []) 60 i60
 simp [f271,f271b,e1,e2,e3,tFac,exC_cell']
theorem s270 {u t:T} (ht:t.bb):call 270 [.agg t.cells,.agg u.cells] S=some (resU (expT u t),S):=by
 rw [call_calm a270 rfl (by simp) rfl]
 unfold expT
 by_cases h1:t.kind=10
 ·rw [if_pos h1]
  by_cases h2:t.kids.length=2
  ·obtain ⟨p,w,hpw⟩:∃p w,t.kids=[p,w]:=by
    match hl:t.kids,h2 with
    |[p,w],_=>exact ⟨p,w,rfl⟩
   have l0:pev (.iaddr 3) [lstT t.kids,.i 0]=some (.iptr p.cells):=lstT_at (i:=0) (by rw [hpw];rfl)
   have l1:pev (.iaddr 3) [lstT t.kids,.i 1]=some (.iptr w.cells):=lstT_at (i:=1) (by rw [hpw];rfl)
   have fw:w.fits:=T.bb_fits (T.bb_kids ht w (by rw [hpw];simp))
   have h2':(t.kids.length:Int)=2:=by omega
   have hr:(match t.kids with|[p,w]=>expP u w p|_=>(tZ,2))=expP u w p:=by rw [hpw]
   rw [hr]
   unfold expP
   by_cases h3:p.kind=8
   ·rw [if_pos h3]
    by_cases h4:p.kids.length=1
    ·obtain ⟨x,hx⟩:∃x,p.kids=[x]:=by
      match hl:p.kids,h4 with
      |[x],_=>exact ⟨x,rfl⟩
     have l2:pev (.iaddr 3) [lstT p.kids,.i 0]=some (.iptr x.cells):=lstT_at (i:=0) (by rw [hx];rfl)
     have h4':(p.kids.length:Int)=1:=by omega
     have hr:(match p.kids with|[x]=>if w.same (tWd u) then (x,(0:Int)) else (tZ,6)|_=>(tZ,2))=if w.same (tWd u) then (x,0) else (tZ,6):=by rw [hx]
     rw [hr]
     cases hs:w.same (tWd u) with
     |true=>simp [f270,f270b,eq_true h1,h2',l0,l1,l2,fw,eq_true h3,h4',hs,resU]
     |false=>
      simp [f270,f270b,eq_true h1,h2',l0,l1,l2,fw,eq_true h3,h4',hs,resU,tZ,T.cells,rowsT]
      rfl
    ·have hr:(match p.kids with|[x]=>if w.same (tWd u) then (x,(0:Int)) else (tZ,6)|_=>(tZ,2))=(tZ,2):=by
      split
      ·rename_i heq;rw [heq]at h4;simp at h4
      ·rfl
     have h4':¬(p.kids.length:Int)=1:=by omega
     rw [hr]
     simp [f270,f270b,eq_true h1,h2',l0,l1,eq_true h3,h4',resU,tZ,T.cells,rowsT]
     rfl
   ·rw [if_neg h3]
    simp [f270,f270b,eq_true h1,h2',l0,l1,h3,resU,tZ,T.cells,rowsT]
    rfl
  ·have hr:(match t.kids with|[p,w]=>expP u w p|_=>(tZ,2))=(tZ,2):=by
    split
    ·rename_i heq;rw [heq]at h2;simp at h2
    ·rfl
   have h2':¬(t.kids.length:Int)=2:=by omega
   rw [hr]
   simp [f270,f270b,eq_true h1,h2',resU,tZ,T.cells,rowsT]
   rfl
 ·rw [if_neg h1]
  simp [f270,f270b,h1,resU,tZ,T.cells,rowsT]
  rfl
def resA (r:T×T×Int):AV:=.tup [.agg r.1.cells,.agg r.2.1.cells,.sc (.int .i64 r.2.2)]
theorem spk_build {x y u o a b:T}:pev (.build [.i 0,.s ⟨#[]⟩,.lst 0 true [],.i 0,.s ⟨#[]⟩,.lst 0 true [],.i 0,.s ⟨#[]⟩,.lst 0 true [],.i 0,.s ⟨#[]⟩,.lst 0 true [],.i 0,.s ⟨#[]⟩,.lst 0 true [],.i 0,.s ⟨#[]⟩,.lst 0 true []] [(0,3),(3,3),(6,3),(9,3),(12,3),(15,3)])
 [.agg x.cells,.agg y.cells,.agg u.cells,.agg o.cells,.agg a.cells,.agg b.cells]=some (.agg (exC x y u o a b)):=by
 rw [exC_def,cells_T x,cells_T y,cells_T u,cells_T o,cells_T a,cells_T b]
 simp
set_option maxHeartbeats 1000000 in
theorem s154 {u b o x:T} (ho:o.bb) (hs:∀l y,unpT spkB 1 o=some [l]→expT u l=(y,0)→ShOk x y):call 154 [.agg u.cells,.agg b.cells,.agg o.cells,.agg x.cells] S=some (resA (ansS u b o x),S):=by
 rw [call_calm a154 rfl (by simp) rfl]
 have e1:=fun S=>@s78 S spkB 1 o (by have:=T.bb_len ho;omega)
 simp only [spkB]at e1
 unfold ansS
 cases hu:unpT spkB 1 o with
 |none=>
  simp only [spkB]at hu
  simp [f154,f154b,e1,hu,optL,resA,tZ,T.cells,rowsT]
  rfl
 |some l=>
  obtain ⟨hl,hm⟩:=unpT_len (n:=1) hu
  match l,hl with
  |[l],_=>
   have hs':=hs l
   have hl:=T.bb_kids ho l (hm l (by simp))
   have ll:pev (.iaddr 3) [lstT [l],.i 0]=some (.iptr l.cells):=lstT_at (i:=0) rfl
   have e2:=fun S=>@s270 S u l hl
   simp only
   cases hr:expT u l with
   |mk y er=>
    rw [hr]at e2
    have hs2:=fun y'=>hs' y' hu
    simp only [spkB]at hu
    unfold ansP
    by_cases h0:er=0
    ·subst h0
     have hsy:=hs2 y hr
     have e3:=fun S=>@s271 S x y u l (tMsk x u) b hsy
     have e4:=fun S=>@s272 S x y u l (tMsk x u) b 0 hsy i0
     have e5:∀S,call 62 [.s ⟨#[115,112,97,107,101]⟩,.lst 3 true [(tMsk x u).cells,(tFac x y u l (tMsk x u) b).cells]] S=some (.agg (tPack spkB [tMsk x u,tFac x y u l (tMsk x u) b]).cells,S):=fun S=>p62 isTs2 (by show 3 * 48≤_;omega)
     simp [-pev_build,f154,f154b,e1,hu,optL,resU,ll,e2,e3,e4,e5,spk_build,resA]
    ·simp [f154,f154b,e1,hu,optL,resU,ll,e2,h0,resA,tZ,T.cells,rowsT]
     rfl
end
section
variable {S:AS} {id:Nat} {l:List Int}
structure Upd (S S':AS) (id:Nat):Prop where
 n:S'.n=S.n
 ro:S'.ro=S.ro
 h:∀j,j≠id→S'.heap j=S.heap j
end
section
variable {S:AS} {id:Nat} {m:List Int}
end
end Abs
