/- The Client laws: shown. -/
import Derived.Test.YthcobbfffjfboaaGreatDoorG8
import Derived.Test.YthcobbfffjfboaaGreatDoorG2
import Derived.Test.YthcobbfffjfboaaGreatDoorG5
set_option linter.unusedVariables false
set_option linter.unusedSimpArgs false
set_option linter.unusedSectionVars false
namespace Abs
open Go
section
variable {S:AS}
theorem GV.at_ {S:AS} {sz:Nat} {v:AV} {R:List (List AV)} (h:GV S sz v R) {i:Nat} (hi:i < R.length):∃id,IsArr v id∧pev (.iaddr sz) [v,.sc (.int .i64 (i:Int))]=some (.ptr id i 0)∧S.heap id=some (.rows sz R)∧S.ro≤id∧id < S.n:=by
 rcases h with ⟨rfl,_⟩|⟨id,rfl,h1,h2,h3⟩
 ·simp at hi
 ·exact ⟨id,⟨_,_,_,_,rfl⟩,by rw [pev_iaddrA (by omega) (by omega)];simp,h1,h2,h3⟩
theorem iss_at {k:Nat} {L:Loc} {K:Kd} {cl no:ByteArray} {dv:AV} {s:T} (h:IsKd S k L K [issR cl no dv s]):∃x,pev (.iaddr 6) [L.iv,.i 0]=some (.ptr x 0 0)∧(∀d rg,opev (.ld none 3 true) d rg S [.ptr x 0 3]=some (.agg s.cells,none,S))∧(∀d rg,opev (.ld none 1 false) d rg S [.ptr x 0 2]=some (dv,none,S))∧pev .lenL [L.iv]=some (.i 1):=by
 obtain ⟨x,_,h1,h2,_,_⟩:=h.gv.at_ (i:=0) (by simp)
 refine ⟨x,h1,fun d rg=>?_,fun d rg=>?_,h.gv.len⟩
 ·rw [opev_ld_ptr h2,←tri];unfold issR;rw [cells_T];rfl
 ·rw [opev_ld_ptr h2];unfold issR;rw [cells_T];rfl
theorem none84:call 84 [.agg tNone.cells] S=some (.sc (.bool true),S):=by rw [s84,isNone_none]
theorem marksV_len {l:List (ByteArray×ByteArray)}:pev .lenL [marksV l]=some (.sc (.int .i64 (l.length:Nat))):=by
 unfold marksV;rw [pev_lenLN];simp [Cl.mrow]
theorem marksV_reg {l:List (ByteArray×ByteArray)}:(marksV l).isReg=false:=rfl
set_option maxHeartbeats 8000000 in
set_option maxRecDepth 100000 in
theorem s131:call 131 [] S=some (.sc (.bool true),S):=by
 rw [call_calm a131 rfl rfl rfl]
 obtain ⟨S1,S2,bp,k,L,d1,d2,p,_⟩:=beg (S:={S with ro:=S.n}) (Nat.le_refl _) (j:=7)
 obtain ⟨S3,d3,p3,_⟩:=p.start (nonce:=n1B) (sub:=tAtom subB) (by show 1≤_;omega)
 have hs0:=sti0 (K:=kd0 (setL 7)) (j:=7) (nonce:=n1B) (sn:=subB) (t0:=0) kd0_KD pw_ok sd_ok n1_ok sub_ok
 have e134:∀S,call 134 [.i 7] S=some (lstS (setL 7),S):=fun S=>s134
 have e140:=fun S s=>@s140 S s
 have hcl:=(Nat.le_refl 0)
 have gk:((c0 (tAtom pwaB) (tAtom sdaB)).start n1B (tAtom subB)).key=(kd0 (setL 7)).u.key:=rfl
 have gs:((c0 (tAtom pwaB) (tAtom sdaB)).start n1B (tAtom subB)).seed=(kd0 (setL 7)).u.seed:=rfl
 have gn:((c0 (tAtom pwaB) (tAtom sdaB)).start n1B (tAtom subB)).nonce=n1B:=rfl
 generalize ((c0 (tAtom pwaB) (tAtom sdaB)).start n1B (tAtom subB)).says tNone tNone=m0 at *
 generalize (c0 (tAtom pwaB) (tAtom sdaB)).start n1B (tAtom subB)=cc at *
 have hl3:(setL 7).length=3:=rfl
 have hot:otpB∈setL 7:=by simp [setL]
 generalize kd0 (setL 7)=KK at *
 generalize setL 7=st7 at *
 unfold n1B subB at d3
 simp only [f131]
 simp [-calmR_some,f131b,d1,d2,e134,e140,d3]
 refine loop_genR (α:=Nat) (R:=fun _ r=>calmR S r=some (.sc (.bool true),S)) (fun i e rg S'=>i≤3∧NQ [0,6,7,28,29,30,31,32,33,34,35,36,37,38,39,40,41,42,43] [6] e∧e 1=.ptr S.n 0 0∧e 3=.ptr k 0 0∧e 4=.reg 4 0∧e 5=.sc (.int .i64 (i:Nat))∧∃c mv L K m b,Pr S' S.n c mv k L K [] b∧b≤10+4 * i∧Sti st7 i c K m 0∧c.key=K.u.key∧c.seed=K.u.seed∧c.nonce=n1B∧rg 4=some m.cells∧rg 8=none∧rg 10=none) (fun i=>3 - i) (fun _ _ _ _ h=>h.2.1) ?_ 0 _ _ _ ?_
 rotate_left
 ·refine ⟨by omega,?_,by simp,by simp,by simp,by simp,cc,_,L,KK,m0,10,p3,by omega,hs0,gk,gs,gn,by simp,by simp,by simp⟩
  repeat (first|exact NQ_ini rfl|refine NQ_put ?_ (by simp))
 intro kk hkk i e rg S' ⟨hi,hq,g1,g3,g4,g5,c,mv,L',K,m,b,p,hb,hs,gk,gs,gn,gr,gr8,gr10⟩ ih
 by_cases hc:i < 3
 ·have hc':(i:Int) < 3:=by omega
  have w2:IntKind.i64.wrap ((i:Int)+1)=((i+1:Nat):Int):=w64 (by omega)
  obtain ⟨S4,S5,r,c',m',mv',L'',K',q1,q2,q3,q4,q5,q6,q7,_⟩:=p.good (now:=0) (by omega) hs (by omega) (by omega) (by omega) gk gs
  unfold xxB at q2
  simp [-calmR_some,f131_l0,g1,g3,g4,g5,gr,hc',q1,e140,q2,w2]
  refine ih (i+1) _ _ _ (by omega) (fun _ h=>h) ⟨by omega,?_,by simp [g1],by simp [g3],by simp [g4],by simp,c',mv',L'',K',m',b+4,q3,by omega,q4,q5,q6,q7.trans gn,by simp,by simp [gr8],by simp [gr10]⟩
  repeat (first|exact NQ_fgt hq|refine NQ_put ?_ (by simp))
 ·have hi':i=3:=by omega
  subst hi'
  obtain ⟨S4,S5,r,c',mv',L'',K',dv,s,q1,q2,q3,q4,q5,q6,q7,q8,q9,q10,q11,q12,_⟩:=p.last (now:=0) (by omega) hs (by omega) (by omega) (by omega) gk gs
  unfold xxB at q2
  have e104:=s104 q3.cl q3.cs.z3
  rw [q6]at e104
  have hm:=c120 q3.cl (by rw [q11];simp;omega)
  have hml:c'.marks.length=3:=by rw [q11];simp [hl3]
  have e232:=s232 q3.cl
  rw [q12.1 hot]at e232
  obtain ⟨x,r1,r2,_,r3⟩:=iss_at q3.kd
  have his:=q3.kd.at_.issued
  have e61:=@s61 s s S5 q9
  rw [T.same_self]at e61
  have e84:=fun S=>@none84 S
  have mr:=@marksV_reg c'.marks
  have ml:=@marksV_len c'.marks
  rw [hml]at ml
  have ml:pev .lenL [marksV c'.marks]=some (.i 3):=ml
  rw [q8,q10,gn]at e104
  unfold n1B at e104
  generalize marksV c'.marks=mV at *
  simp [-calmR_some,f131_l0,g5]
  rw [hkk]
  rw [if_pos rfl]at e104
  simp [-calmR_some,g1,g3,g4,gr,gr8,gr10,q1,e140,q2,e104,e84,his,r1,r2,r3,e61,hm,ml,e232]
  simp
end
structure Stp where
 kind:Int
 nn:Int
 bad:Int
 tick:Int
 t:T
def Stp.v (p:Stp):List AV:=stepV p.kind p.nn p.bad p.tick p.t
def lstP (l:List Stp):AV:=lstN 7 (l.map Stp.v)
theorem lstP_len {l:List Stp}:pev .lenL [lstP l]=some (.sc (.int .i64 (l.length:Nat))):=by
 show some (AV.sc (.int .i64 ((l.map Stp.v).length:Nat)))=_
 rw [List.length_map]
theorem lstP_at {l:List Stp} {i:Nat} {p:Stp} (h:l[i]?=some p):pev (.iaddr 7) [lstP l,.sc (.int .i64 (i:Int))]=some (.iptr p.v):=by
 have h2:(l.map Stp.v)[i]?=some p.v:=by simp [h]
 have hne:(l.map Stp.v).isEmpty=false:=by
  cases l with
  |nil=>simp at h
  |cons _ _=>rfl
 simp [pev,lstP,lstN,hne,h2]
def sv0:Sv:=⟨tZ,true,tZ,true,tZ,true,0,0⟩
theorem wp0 {j:Nat}:Wp sv0 (c0 (tAtom pwaB) (tAtom sdaB)) {} (kd0 (setL j)) [] 10:=by
 have z1:pwaB.size=10:=rfl
 have z2:sdaB.size=6:=rfl
 have z3:naB.size=1:=rfl
 have z4:kdcB.size=3:=rfl
 have z5:cokB.size=6:=rfl
 have z6:hostB.size=4:=rfl
 have z7:longB.size=5:=rfl
 have hk:(tLong (tAtom pwaB) naB).bulk≤100:=by unfold tLong;rw [kdf_b,atom_bulk,ByteArray.size_append,z1,z3,z7];omega
 have tz:tZ.bulk≤4:=by rw [tZ_b];omega
 have ht:tickT.bulk≤200:=by
  unfold tickT tTick
  have h:=seal_bulkT (k:=tAtom kdcB) (t:=tPack hostB [hostT]) (n:=2) (by unfold inI;omega)
  rw [pack_bulk,bulkL_cons,bulkL_nil,atom_bulk,z4,z6]at h
  have:hostT.bulk=8:=by unfold hostT;rw [atom_bulk,z6]
  omega
 obtain ⟨s1,s2,s3,s4⟩:=@setL_ok j
 refine ⟨c0_sz,kd0_sz,by simp,⟨?_,?_,?_,?_,?_,?_⟩,⟨?_,?_,?_⟩,⟨?_,?_,?_,s3,s2⟩,fun _=>rfl,?_,?_,(fun e=>by cases e),.inl rfl,.small (Nat.le_trans tz (by omega)),.small (Nat.le_trans tz (by omega)),fun _=>rfl,fun _=>rfl,fun _=>rfl,⟨by show (0:Int)≤0;omega,by show (0:Int)≤((10:Nat):Int);omega⟩,⟨by show (0:Int)≤0;omega,by show (0:Int)≤((10:Nat):Int);omega⟩⟩
 ·exact Nat.le_trans tz (by omega)
 ·exact Nat.le_trans hk (by omega)
 ·exact Nat.le_trans tz (by omega)
 ·show (tAtom sdaB).bulk≤_;rw [atom_bulk,z2];omega
 ·exact Nat.le_trans tz (by omega)
 ·show 0≤1000;omega
 ·exact Nat.le_trans ht (by omega)
 ·show (tAtom hostB).bulk≤_;rw [atom_bulk,z6];omega
 ·show 1≤500;omega
 ·show (tAtom kdcB).bulk≤_;rw [atom_bulk,z4];omega
 ·show (tAtom cokB).bulk≤_;rw [atom_bulk,z5];omega
 ·exact Nat.le_trans hk (by omega)
 ·exact Nat.le_trans tz (by omega)
 ·exact Nat.le_trans tz (by omega)
section
variable {S:AS}
theorem c0_row {pass seed:T}:(({}:Dz).row (c0 pass seed))=dRow naB (tLong pass naB) seed 2 tickT hostT:=rfl
theorem plays0 (hS:S.ro≤S.n) {j:Nat}:∃S1 S2 b k L,call 132 [] S=some (.tup [.ptr S.n 0 0,.ptr b 0 0],S1)∧call 133 [lstS (setL j)] S1=some (.ptr k 0 0,S2)∧
 Wd (S2.new (.rows 14 [sv0.row S.n b k])) S2.n S.n b k sv0 (c0 (tAtom pwaB) (tAtom sdaB)) (.lst 0 true []) {} L (kd0 (setL j)) [] 10:=by
 obtain ⟨S1,b,d1,h1,hb,hb1,hb2,g1⟩:=c132 (S:=S) hS
 have hS1:S1.ro≤S1.n:=by have:=g1.1;have:=g1.2.1;omega
 obtain ⟨S2,k,L,d2,h2,g2⟩:=c133 (S:=S1) (j:=j) hS1
 have hd1:IsDl S1 b (c0 (tAtom pwaB) (tAtom sdaB)) {}:=⟨by rw [hb,c0_row],.inl ⟨rfl,rfl⟩,by have:=g1.1;omega,hb2,(fun ⟨_,_,_,_,e⟩=>by cases e),(fun e=>by cases e),(fun e=>by cases e),fun _=>rfl⟩
 have hcl2:=h1.keep g2.1 g2.2.1 fun x hx _=>(g2.2.2 x hx fun e=>e).1
 have hdl2:=hd1.keep g2.1 g2.2.1 fun x hx _=>(g2.2.2 x hx fun e=>e).1
 have nk:∀y,y < S1.n→¬ownK k L y:=fun y hy=>(g2.2.2 y hy fun e=>e).2
 have ho:∀(i y:Nat),ownC i (.lst 0 true []) y→y=i:=by
  rintro i y (e|⟨_,_,_,_,e⟩)
  ·exact e
  ·cases e
 have new:∀{o:AObj} (y:Nat),y < S2.n→(S2.new o).heap y=S2.heap y:=fun y hy=>if_neg (by omega)
 have ln:S1.n≤S2.n:=g2.2.1
 refine ⟨S1,S2,b,k,L,d1,d2,⟨⟨heap_new,by show S2.ro≤S2.n;have:=g2.1;omega,Nat.lt_succ_self _⟩,hcl2.keep rfl (Nat.le_succ _) (fun y hy _=>new y hy),hdl2.keep rfl (Nat.le_succ _) (fun y hy _=>new y hy),h2.keep rfl (Nat.le_succ _) (fun y hy _=>new y hy),?_,?_,?_,?_,?_,?_⟩,wp0⟩
 ·intro y e h;have:=hcl2.own_lt h;omega
 ·intro y e h;have:=hdl2.own_lt h;omega
 ·intro y e h;have:=h2.own_lt h;omega
 ·intro y e h
  have e1:=ho _ _ e
  have e2:=ho _ _ h
  omega
 ·intro y e;exact nk y (h1.own_lt e)
 ·intro y e;exact nk y (hd1.own_lt e)
end
section
variable {S:AS}
set_option maxHeartbeats 8000000 in
set_option maxRecDepth 100000 in
theorem law27 {n:Int} {l:List Stp} (hS:S.ro≤S.n) (hl:∀p∈l,p.t.bulk≤2500000):Tru (call 27 [.sc (.int .i64 n),lstP l] S):=by
 rw [call_keep a27 (by simp [lstP,lstN]) rfl]
 have e131:=fun S=>@s131 S
 have e134:=fun S=>@s134 S n
 obtain ⟨j,hj⟩:∃j,j=(n % 8).toNat:=⟨_,rfl⟩
 rw [←hj]at e134
 obtain ⟨S1,S2,b,k,L,d1,d2,w⟩:=plays0 hS (j:=j)
 generalize kd0 (setL j)=KK at *
 have hbx:∀d rg,opev (.box .heap) d rg S2 [.agg (sv0.row S.n b k)]=some (.ptr S2.n 0 0,none,S2.new (.rows 14 [sv0.row S.n b k])):=fun d rg=>rfl
 have hbl:pev (.build [.sc (.pointer none),.sc (.pointer none),.sc (.pointer none),.i 0,.s ⟨#[]⟩,.lst 0 true [],.i 0,.s ⟨#[]⟩,.lst 0 true [],.i 0,.s ⟨#[]⟩,.lst 0 true [],.i 0,.i 0] [(0,1),(1,1),(2,1)]) [.ptr S.n 0 0,.ptr b 0 0,.ptr k 0 0]=some (.agg (sv0.row S.n b k)):=by simp;rfl
 generalize sv0.row S.n b k=r0 at *
 generalize S2.new (.rows 14 [r0])=S3 at *
 simp only [f27]
 simp [-pev_build,f27b,e131,d1,e134,d2,hbl,hbx]
 refine loop_gen (α:=Nat) (R:=fun _ r=>Tru r) (fun i e rg S'=>i≤l.length∧i≤30∧e 1=lstP l∧e 6=.ptr S.n 0 0∧e 7=.ptr b 0 0∧e 9=.ptr S2.n 0 0∧e 10=.sc (.int .i64 (i:Nat))∧∃x c mv z L K R,Wd S' S2.n S.n b k x c mv z L K R (10+20 * i)) (fun i=>l.length - i) ?_ 0 _ _ _ ?_
 rotate_left
 ·exact ⟨by omega,by omega,by simp,by simp,by simp,by simp,by simp,_,_,_,_,_,_,_,w⟩
 intro kk hkk i e rg S' ⟨hi,hi30,g1,g6,g7,g9,g10,x,c,mv,z,L,K,R,w⟩ ih
 have ll:=@lstP_len l
 by_cases hc:i < l.length
 ·have hcl:(i:Int) < (l.length:Int):=by omega
  by_cases hc2:i < 30
  ·have hcl2:(i:Int) < 30:=by omega
   have w2:IntKind.i64.wrap ((i:Int)+1)=((i+1:Nat):Int):=w64 (by omega)
   obtain ⟨p,hp⟩:=get_of_lt hc
   have hat:=lstP_at hp
   unfold Stp.v at hat
   obtain ⟨S4,x',c',mv',z',L',K',R',hd,w'⟩:=c135 w (by omega) (kind:=p.kind) (nn:=p.nn) (bad:=p.bad) (tick:=p.tick) (t:=p.t) (hl p (List.mem_of_getElem? hp))
   have hs:=s136 w'.m.cl w'.m.dl w'.p.cs.z3 w'.p.ss (by have:=w'.p.cs.marks;omega)
   simp only [stepV]at hat hd
   simp [f27_l0,g1,g6,g7,g9,g10,ll,hcl,hcl2,hat,hd,hs,w2]
   exact ih (i+1) _ _ _ (by omega) (fun _ h=>h) ⟨by omega,by omega,by simp [g1],by simp [g6],by simp [g7],by simp [g9],by simp,_,_,_,_,_,_,_,w'.mono (by omega)⟩
  ·have hcl2:¬(i:Int) < 30:=by omega
   simp [f27_l0,g1,g10,ll,hcl,hcl2]
   rw [hkk]
   simp
 ·have hcl:¬(i:Int) < (l.length:Int):=by omega
  simp [f27_l0,g1,g10,ll,hcl]
  rw [hkk]
  simp
end
structure CkTy (P:Program) (ck i s ls t:TypeId) (fs:Array Field):Prop where
 hs:P.underlying ck=some (.struct fs)
 hf:fs.toList.map (·.type)=[s,s,ls,t,i]
 hls:P.underlying ls=some (.slice s)
 hc1:P.cellsOf s=1
section
variable {H:Type} {P:Program} {t i s l:TypeId} {fs:Array Field} {B:DataW H→Nat} {BA:List (DataW H)→Nat} {n:Nat} {ts:List TypeId} {ds:List (DataW H)} {avs:List AV}
theorem rb_int (hB:IsBulk B BA) (hu:P.underlying i=some (.int .i64)) (h:RdArgs P (i::ts) ds avs) (hb:BA ds≤n):∃(x:Int) (ds':List (DataW H)) (l:List AV),avs=.sc (.int .i64 x)::l∧(-9223372036854775808≤x∧x≤9223372036854775807)∧RdArgs P ts ds' l∧BA ds'≤n:=by
 obtain ⟨d,ds',as,l,rfl,rfl,h1,h2⟩:=rdA_cons h
 obtain ⟨x,rfl,hx,rfl⟩:=rd_int hu h1
 rw [hB.consA]at hb
 exact ⟨x,ds',l,by rw [argOf_one hu rfl],i64_in hx,h2,by omega⟩
end
structure StpTy (P:Program) (sp sl i t:TypeId) (fs:Array Field):Prop where
 hs:P.underlying sp=some (.struct fs)
 hf:fs.toList.map (·.type)=[i,i,i,i,t]
 hl:P.underlying sl=some (.slice sp)
 hc:P.cellsOf sp=7
section
variable {H:Type} {P:Program} {t i s l sp sl:TypeId} {fs fp:Array Field} {B:DataW H→Nat} {BA:List (DataW H)→Nat} {n:Nat} {ts:List TypeId} {ds:List (DataW H)} {avs:List AV}
theorem stp_of (hB:IsBulk B BA) (hT:TermTy P t i s l fs) (hS:StpTy P sp sl i t fp) {d:DataW H} {as:List AV} (h:Rd P sp d as):∃p:Stp,as=p.v∧p.t.bulk≤B d:=by
 obtain ⟨es,rfl,h⟩:=rd_struct hS.hs h
 have hfc:=hS.hf
 clear hS
 obtain ⟨fl⟩:=fp
 simp only at hfc
 have hlen:fl.length=5:=by have:=congrArg List.length hfc;simpa using this
 obtain ⟨f1,f2,f3,f4,f5,rfl⟩:∃f1 f2 f3 f4 f5,fl=[f1,f2,f3,f4,f5]:=by
  match fl,hlen with
  |[f1,f2,f3,f4,f5],_=>exact ⟨f1,f2,f3,f4,f5,rfl⟩
 simp only [List.map_cons,List.map_nil,List.cons.injEq,and_true]at hfc
 obtain ⟨e1,e2,e3,e4,e5⟩:=hfc
 obtain ⟨d1,r,a1,m1,rfl,rfl,g1,h⟩:=rdF_cons h
 obtain ⟨d2,r,a2,m2,rfl,rfl,g2,h⟩:=rdF_cons h
 obtain ⟨d3,r,a3,m3,rfl,rfl,g3,h⟩:=rdF_cons h
 obtain ⟨d4,r,a4,m4,rfl,rfl,g4,h⟩:=rdF_cons h
 obtain ⟨d5,r,a5,m5,rfl,rfl,g5,h⟩:=rdF_cons h
 obtain ⟨rfl,rfl⟩:=rdF_nil h
 rw [e1]at g1;rw [e2]at g2;rw [e3]at g3;rw [e4]at g4;rw [e5]at g5
 obtain ⟨x1,rfl,_,rfl⟩:=rd_int hT.hi g1
 obtain ⟨x2,rfl,_,rfl⟩:=rd_int hT.hi g2
 obtain ⟨x3,rfl,_,rfl⟩:=rd_int hT.hi g3
 obtain ⟨x4,rfl,_,rfl⟩:=rd_int hT.hi g4
 obtain ⟨x5,rfl,_,_,hbk⟩:=(term_of_rd hT hB (sizeOf d5+1)).1 d5 a5 (by omega) g5
 refine ⟨⟨x1,x2,x3,x4,x5⟩,?_,?_⟩
 ·rw [cells_T x5];rfl
 ·rw [hB.agg,hB.consA,hB.consA,hB.consA,hB.consA,hB.consA];show x5.bulk≤_;omega
theorem stps_of (hB:IsBulk B BA) (hT:TermTy P t i s l fs) (hS:StpTy P sp sl i t fp):∀{es:List (DataW H)} {xs:List (List AV)},RdR P sp es xs→∃l:List Stp,xs=l.map Stp.v∧∀p∈l,p.t.bulk≤BA es
 |_,_,.nil=>⟨[],rfl,fun _ h=>by cases h⟩
 |_,_,.cons h ht=>by
  obtain ⟨p,rfl,hp⟩:=stp_of hB hT hS h
  obtain ⟨l,rfl,hl⟩:=stps_of hB hT hS ht
  refine ⟨p::l,rfl,fun q hq=>?_⟩
  rw [hB.consA]
  rcases List.mem_cons.1 hq with rfl|hq
  ·omega
  ·have:=hl q hq;omega
theorem rb_steps (hB:IsBulk B BA) (hT:TermTy P t i s l fs) (hS:StpTy P sp sl i t fp) (h:RdArgs P (sl::ts) ds avs) (hb:BA ds≤n):∃(x:List Stp) (ds':List (DataW H)) (m:List AV),avs=lstP x::m∧(∀p∈x,p.t.bulk≤n)∧RdArgs P ts ds' m∧BA ds'≤n:=by
 obtain ⟨d,ds',as,m,rfl,rfl,h1,h2⟩:=rdA_cons h
 rw [hB.consA]at hb
 obtain ⟨es,xs,rfl,_,hx,hd⟩:=rd_slice hS.hl h1
 obtain ⟨x,rfl,hy⟩:=stps_of hB hT hS hx
 refine ⟨x,ds',m,by rw [argOf_one hS.hl rfl,hS.hc];rfl,fun p hp=>?_,h2,by omega⟩
 have:=hy p hp
 rcases hd with ⟨rfl,rfl⟩|⟨rest,rfl⟩
 ·rw [hB.nilA]at this;omega
 ·rw [hB.slice]at hb;omega
end
end Abs
