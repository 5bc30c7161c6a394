/- The abstract machine: values, state, operations, the interpreter with fuel. -/
import GoSem.Dispatch
import Derived.Calls
import Derived.Laws.World
import Derived.Laws.NewBlocks
import Derived.Laws.Cells
import Derived.Laws.StructEq
import Derived.Laws.Slices
import Derived.Laws.BytesString
set_option linter.unusedVariables false
set_option linter.unusedSimpArgs false
set_option linter.unusedSectionVars false
namespace Abs
open Go
inductive AV:Type
 |sc (v:Value)
 |junk
 |opq
 |reg (r col:Nat)
 |ptr (id row col:Nat)
 |iptr (cs:List AV)
 |lst (sz:Nat) (full:Bool) (xs:List (List AV))
 |arr (id sz off len:Nat) (lim:Option Nat)
 |agg (cs:List AV)
 |tup (vs:List AV)
 |fn (key:Nat) (first cap:List AV)
 |mp (id:Nat)
 deriving Inhabited
abbrev AV.i (n:Int):AV:=.sc (.int .i64 n)
abbrev AV.s (x:ByteArray):AV:=.sc (.string x)
abbrev AV.b (x:Bool):AV:=.sc (.bool x)
def AV.cells:AV -> List AV
 | .agg cs=>cs
 |v=>[v]
def AV.isCell:AV -> Bool
 | .agg _| .tup _| .junk| .reg _ _=>false
 |_=>true
def zbJ (isAgg:Bool) (cs:List AV):Option AV:=
 if isAgg then some (.agg cs) else match cs with|[v]=>some v|_=>none
mutual
def AV.pure:AV -> Bool
 | .sc _| .junk| .opq=>true
 | .reg _ _| .ptr _ _ _| .arr _ _ _ _ _| .mp _=>false
 | .iptr cs=>jR cs
 | .lst _ _ xs=>qS xs
 | .agg cs=>jR cs
 | .tup cs=>jR cs
 | .fn _ a b=>jR a && jR b
def jR:List AV -> Bool
 |[]=>true
 |a::l=>a.pure && jR l
def qS:List (List AV) -> Bool
 |[]=>true
 |a::l=>jR a && qS l
end
def lstN (s:Nat) (xs:List (List AV)):AV:=.lst (if xs.isEmpty then 0 else s) false xs
mutual
def AV.frz (o:Nat -> Nat -> Nat -> Nat -> Option (List (List AV))):AV -> Option AV
 | .arr id sz off n _=>(o id sz off n).map (lstN sz)
 | .reg _ _=>none
 | .iptr cs=>(jZ o cs).map .iptr
 | .lst s _ xs=>(qe o xs).map (lstN s)
 | .agg cs=>(jZ o cs).map .agg
 | .tup cs=>(jZ o cs).map .tup
 | .fn g a b=>(jZ o a).bind fun a=>(jZ o b).map (.fn g a)
 |v=>some v
def jZ (o:Nat -> Nat -> Nat -> Nat -> Option (List (List AV))):List AV -> Option (List AV)
 |[]=>some []
 |a::l=>(a.frz o).bind fun a=>(jZ o l).map (a::·)
def qe (o:Nat -> Nat -> Nat -> Nat -> Option (List (List AV))):List (List AV) -> Option (List (List AV))
 |[]=>some []
 |a::l=>(jZ o a).bind fun a=>(qe o l).map (a::·)
end
inductive jb:Type
 |rows (sz:Nat) (rs:List (List AV))
 |map (es:List (Value×AV))
structure AS where
 heap:Nat -> Option jb
 n:Nat
 ro:Nat
def AS.set (S:AS) (id:Nat) (o:Option jb):AS:={S with heap:=fun j=>if j=id then o else S.heap j}
def AS.new (S:AS) (o:jb):AS:={S with heap:=fun j=>if j=S.n then some o else S.heap j,n:=S.n+1}
def AS.slice (S:AS) (least:Nat) (id sz off n:Nat):Option (List (List AV)):=
 if least <=id then
  match S.heap id with
  |some (.rows sz' rs)=>if sz'=sz /\ off+n <=rs.length then some ((rs.drop off).take n) else none
  |_=>none
 else none
def zE {α β:Type} (f:α -> Option β):List α -> Option (List β)
 |[]=>some []
 |a::l=>(f a).bind fun b=>(zE f l).map (b::·)
def AS.frzTo (S:AS) (least:Nat):Nat -> AV -> Option AV
 |0,v=>v.frz fun _ _ _ _=>none
 |d+1,v=>v.frz fun id sz off n=>(S.slice least id sz off n).bind fun r=>zE (zE (S.frzTo least d)) r
inductive zdE where
 |reg|heap|imm
 deriving DecidableEq
inductive jM where
 |pure
 |borrow
 |calm
 |keep
 |keepF (cols:List Nat)
 |lone
 deriving DecidableEq
inductive zl where
 |t (n:Nat)
 |k (v:AV)
 |g (n:Nat)
inductive POp where
 |mov
 |pick
 |bin (op:BinOp)
 |un (op:UnOp)
 |toInt (k:IntKind)
 |sstr
 |runeStr
 |bytesStr
 |field (off sz:Nat) (agg:Bool)
 |faddr (off:Nat)
 |iaddr (sz:Nat)
 |iaddrA (sz len:Nat)
 |indexS
 |indexA (sz len:Nat) (agg:Bool)
 |sliceS (lo hi:Bool)
 |sliceL (sz:Nat) (lo hi mx:Bool)
 |eqB (ne:Bool)
 |nilI (ne:Bool)
 |nilP (ne:Bool)
 |nilF (ne:Bool)
 |build (zero:List AV) (places:List (Nat×Nat))
 |buildSl (sz len:Nat) (zero:List AV) (places:List Nat)
 |extract (i:Nat)
 |lenS
 |lenL
 |cap
 |min|max
 |mkfn (key nfirst:Nat)
 |nilchk
 |ibox
inductive AOp where
 |pur (o:POp)
 |ld (loc:Option Nat) (sz:Nat) (agg:Bool)
 |st (loc:Option Nat) (sz:Nat)
 |alloc (k:zdE) (zero:List AV)
 |box (k:zdE)
 |lookup (str:Bool) (zero:AV) (ok:Bool)
 |lenM
 |mkmap
 |mapset (str:Bool)
 |clearM
 |mapdel (str:Bool)
 |append (sz bytes:Nat)
 |mkslice (sz bytes:Nat) (zero:List AV)
 |appendZ (sz bytes:Nat) (zero:List AV)
 |copy (sz:Nat)
 |clearS (sz:Nat) (zero:List AV)
 |call (key:Nat)
 |callv
 |rangeM
 |nextM
 |entryM
 |nilSl
 |tell
 |bad
structure zn where
 dst:Option Nat
 op:AOp
 args:List zl
 guard:Option (Nat×Bool)
inductive ACode where
 |skip
 |ops (l:List zn)
 |opsC (l:List zn) (c:List (Nat×Nat))
 |seq (a b:ACode)
 |cond (c:zl) (a b:ACode)
 |block (id:Nat) (c:ACode)
 |loop (tm rg:List Nat) (c:ACode)
 |exit (id:Nat)
 |ret
 |label (l:Nat)
 |goto (l:Nat)
 |scope (body cur:ACode)
def ke:ACode -> Nat -> Option ACode
 | .seq a b,l=>match ke a l with
   |some rest=>some (.seq rest b)
   |none=>ke b l
 | .label l',l=>if l'==l then some .skip else none
 |_,_=>none
inductive zH where
 |normal|ret|exit (id:Nat)|goto (l:Nat)
 deriving DecidableEq
inductive qN where
 |tmp (t:Nat)
 |cell (t sz:Nat) (agg:Bool)
structure zd where
 ntmps:Nat
 body:ACode
 res:List qN
structure zx where
 funcs:Nat -> Option zd
 mode:Nat -> jM
 ext:Nat -> Option (List AV -> AS -> Option (AV×AS))
 glob:Nat -> Option AV
structure ASt where
 tm:List AV
 rg:Nat -> Option (List AV)
 S:AS
def vV (op:BinOp) (k:IntKind) (a b:Int):Option Value:=
 match op with
 | .add=>some (.int k (k.wrap (a+b)))
 | .sub=>some (.int k (k.wrap (a - b)))
 | .mul=>some (.int k (k.wrap (a * b)))
 | .quo=>if b=0 then none else some (.int k (k.wrap (a.tdiv b)))
 | .rem=>if b=0 then none else some (.int k (a.tmod b))
 | .and=>some (.int k (k.wrap (BitVec.ofInt k.bits a &&& BitVec.ofInt k.bits b).toNat))
 | .or=>some (.int k (k.wrap (BitVec.ofInt k.bits a |||BitVec.ofInt k.bits b).toNat))
 | .xor=>some (.int k (k.wrap (BitVec.ofInt k.bits a ^^^ BitVec.ofInt k.bits b).toNat))
 | .shl=>if b < 0 then none else some (.int k (k.wrap (a * 2 ^ min b.toNat k.bits)))
 | .shr=>if b < 0 then none else some (.int k (a.fdiv (2 ^ min b.toNat k.bits)))
 | .eql=>some (.bool (a==b))
 | .neq=>some (.bool (a !=b))
 | .lss=>some (.bool (a < b))
 | .leq=>some (.bool (a <=b))
 | .gtr=>some (.bool (a > b))
 | .geq=>some (.bool (a >=b))
 |_=>none
abbrev zbM:List UInt8 -> List UInt8 -> Bool:=Go.Op.bytesLess
def kS (op:BinOp) (x y:ByteArray):Option Value:=
 match op with
 | .add=>if ((x.size+y.size:Nat):Int) > IntKind.i64.max then none else some (.string (x++y))
 | .eql=>some (.bool (x.toList==y.toList))
 | .neq=>some (.bool !(x.toList==y.toList))
 | .lss=>some (.bool (zbM x.toList y.toList))
 | .leq=>some (.bool (zbM x.toList y.toList ||x.toList==y.toList))
 | .gtr=>some (.bool !(zbM x.toList y.toList ||x.toList==y.toList))
 | .geq=>some (.bool !zbM x.toList y.toList)
 |_=>none
def AV.isReg:AV -> Bool
 | .reg _ _=>true
 |_=>false
mutual
def AV.arrs:AV -> List Nat
 | .arr id _ _ _ _=>[id]
 | .iptr cs=>qs cs
 | .lst _ _ xs=>ziT xs
 | .agg cs=>qs cs
 | .tup cs=>qs cs
 | .fn _ a b=>qs a++qs b
 |_=>[]
def qs:List AV -> List Nat
 |[]=>[]
 |a::l=>a.arrs++qs l
def ziT:List (List AV) -> List Nat
 |[]=>[]
 |a::l=>qs a++ziT l
end
mutual
def AV.nrm:AV -> AV
 | .iptr cs=>.iptr (yU cs)
 | .lst s _ xs=>lstN s (kq xs)
 | .agg cs=>.agg (yU cs)
 | .tup cs=>.tup (yU cs)
 | .fn k a b=>.fn k (yU a) (yU b)
 |v=>v
def yU:List AV -> List AV
 |[]=>[]
 |a::l=>a.nrm::yU l
def kq:List (List AV) -> List (List AV)
 |[]=>[]
 |a::l=>yU a::kq l
end
def AV.scalar:AV -> Bool
 | .sc _| .opq=>true
 | .tup vs=>vs.all fun| .sc _| .opq=>true|_=>false
 |_=>false
def asInt:AV -> Option Int
 | .sc (.int _ n)=>some n
 |_=>none
def zK (v:AV) (top:Nat):Option Nat:=
 match v with
 | .sc (.int _ n)=>if 0 <=n /\ n <=top then some n.toNat else none
 |_=>none
def qE (mx:Bool):Value -> List AV -> Option Value
 |v,[]=>some v
 | .int k x,.sc (.int _ y)::l=>qE mx (.int k (if mx then (if y > x then y else x) else (if y < x then y else x))) l
 | .string x,.sc (.string y)::l=>qE mx (.string (if mx then (if !zbM x.toList y.toList then x else y) else (if zbM x.toList y.toList ||x.toList==y.toList then x else y))) l
 |_,_=>none
def vm:List (Nat×Nat) -> List AV -> List AV -> Option (List AV)
 |[],[],cs=>some cs
 |(off,sz)::ps,v::vs,cs=>
  if !v.cells.all AV.isCell ||v.cells.length !=sz ||cs.length < off+sz then none
  else vm ps vs (cs.take off++v.cells++cs.drop (off+sz))
 |_,_,_=>none
def zw (sz:Nat):List Nat -> List AV -> List (List AV) -> Option (List (List AV))
 |[],[],rs=>some rs
 |i::is,v::vs,rs=>if !v.cells.all AV.isCell ||v.cells.length !=sz ||rs.length <=i then none else zw sz is vs (rs.set i v.cells)
 |_,_,_=>none
def bytesOf:List (List AV) -> Option (List UInt8)
 |[]=>some []
 |[.sc (.int .u8 n)]::l=>(bytesOf l).map (UInt8.ofNat n.toNat::·)
 |_=>none
def pev (o:POp) (args:List AV):Option AV:=
 match o with
 | .mov=>match args with|[v]=>some v|_=>none
 | .pick=>match args with|[.sc (.bool c),a,b]=>if a.isReg ||b.isReg then none else some (if c then a else b)|_=>none
 | .bin op=>match args with
   |[.sc (.int k a),.sc (.int k' b)]=>if op=.shl \/ op=.shr \/ k=k' then (vV op k a b).map .sc else none
   |[.sc (.string a),.sc (.string b)]=>(kS op a b).map .sc
   |_=>none
 | .eqB ne=>match args with|[.sc (.bool a),.sc (.bool b)]=>some (.b (if ne then a !=b else a==b))|_=>none
 | .nilI ne=>match args with|[.sc .nilIface]=>some (.b (!ne))|[.opq]=>some (.b ne)|_=>none
 | .nilP ne=>match args with|[.sc (.pointer none)]=>some (.b (!ne))|[.ptr _ _ _]=>some (.b ne)|[.iptr _]=>some (.b ne)|_=>none
 | .nilF ne=>match args with|[.sc .nilFunc]=>some (.b (!ne))|[.fn _ _ _]=>some (.b ne)|_=>none
 | .un op=>match op,args with
   | .not,[.sc (.bool b)]=>some (.b !b)
   | .neg,[.sc (.int k n)]=>some (.sc (.int k (k.wrap (0 - n))))
   |_,_=>none
 | .toInt k=>match args with|[.sc (.int _ n)]=>some (.sc (.int k (k.wrap n)))|_=>none
 | .sstr=>match args with|[.sc (.string s)]=>some (.sc (.string s))|_=>none
 | .runeStr=>match args with|[.sc (.int _ n)]=>some (.sc (.string (Utf8.encode n)))|_=>none
 | .bytesStr=>match args with|[.lst _ _ xs]=>(bytesOf xs).map fun l=>.sc (.string ⟨l.toArray⟩)|_=>none
 | .field off sz agg=>match args with|[.agg cs]=>if off+sz <=cs.length then zbJ agg ((cs.drop off).take sz) else none|_=>none
 | .faddr off=>match args with
   |[.iptr cs]=>some (.iptr (cs.drop off))
   |[.ptr id r c]=>some (.ptr id r (c+off))
   |[.reg r c]=>some (.reg r (c+off))
   |_=>none
 | .iaddr sz=>match args with
   |[.lst sz' _ xs,.sc (.int _ n)]=>if 0 <=n /\ sz'=sz then (xs[n.toNat]?).map .iptr else none
   |[.arr id sz' off len _,.sc (.int _ n)]=>if 0 <=n /\ n < len /\ sz'=sz then some (.ptr id (off+n.toNat) 0) else none
   |_=>none
 | .iaddrA sz len=>match args with
   |[.iptr cs,.sc (.int _ n)]=>if 0 <=n /\ n < len then some (.iptr (cs.drop (n.toNat * sz))) else none
   |[.ptr id r c,.sc (.int _ n)]=>if 0 <=n /\ n < len then some (.ptr id r (c+n.toNat * sz)) else none
   |[.reg r c,.sc (.int _ n)]=>if 0 <=n /\ n < len then some (.reg r (c+n.toNat * sz)) else none
   |_=>none
 | .indexS=>match args with|[.sc (.string s),.sc (.int _ n)]=>if 0 <=n then (s.data[n.toNat]?).map fun b=>.sc (.int .u8 b.toNat) else none|_=>none
 | .indexA sz len agg=>match args with
   |[.agg cs,.sc (.int _ n)]=>if 0 <=n /\ n < len /\ n.toNat * sz+sz <=cs.length then zbJ agg ((cs.drop (n.toNat * sz)).take sz) else none
   |_=>none
 | .sliceS lo hi=>match args with
   | .sc (.string s)::rest=>
     match lo,hi,rest with
     |false,false,[]=>some (.sc (.string (s.extract 0 s.size)))
     |true,false,[l]=>(zK l s.size).map fun l=>.sc (.string (s.extract l s.size))
     |false,true,[h]=>(zK h s.size).map fun h=>.sc (.string (s.extract 0 h))
     |true,true,[l,h]=>(zK h s.size).bind fun h=>(zK l h).map fun l=>.sc (.string (s.extract l h))
     |_,_,_=>none
   |_=>none
 | .sliceL z lo hi mx=>match args with
   | .lst sz full xs::rest=>
     if z≠sz /\ xs.isEmpty=false then none else
     match lo,hi,mx,rest with
     |false,false,false,[]=>some (.lst z full xs)
     |true,false,false,[l]=>(zK l xs.length).map fun l=>.lst z full (xs.drop l)
     |false,true,false,[h]=>(zK h xs.length).map fun h=>.lst z (full && h==xs.length) (xs.take h)
     |true,true,false,[l,h]=>(zK h xs.length).bind fun h=>(zK l h).map fun l=>.lst z (full && h==xs.length) ((xs.take h).drop l)
     |true,true,true,[l,h,m]=>(zK m xs.length).bind fun m=>(zK h m).bind fun h=>(zK l h).map fun l=>.lst z (m==h) ((xs.take h).drop l)
     |false,true,true,[h,m]=>(zK m xs.length).bind fun m=>(zK h m).map fun h=>.lst z (m==h) (xs.take h)
     |_,_,_,_=>none
   | .arr id sz off len lim::rest=>
     if z≠sz then none else
     match lo,hi,mx,rest with
     |false,false,false,[]=>some (.arr id sz off len lim)
     |true,false,false,[l]=>(zK l len).map fun l=>.arr id sz (off+l) (len - l) lim
     |false,true,false,[h]=>(zK h len).map fun h=>.arr id sz off h lim
     |true,true,false,[l,h]=>(zK h len).bind fun h=>(zK l h).map fun l=>.arr id sz (off+l) (h - l) lim
     |true,true,true,[l,h,m]=>(zK m len).bind fun m=>(zK h m).bind fun h=>(zK l h).map fun l=>.arr id sz (off+l) (h - l) (some (off+m))
     |false,true,true,[h,m]=>(zK m len).bind fun m=>(zK h m).map fun h=>.arr id sz off h (some (off+m))
     |_,_,_,_=>none
   |_=>none
 | .build zero ps=>(vm ps args zero).map .agg
 | .buildSl sz n zero ps=>if zero.all AV.isCell then (zw sz ps args (List.replicate n zero)).map (.lst sz true) else none
 | .extract i=>match args with|[.tup vs]=>vs[i]?|_=>none
 | .lenS=>match args with|[.sc (.string s)]=>some (.i s.size)|_=>none
 | .lenL=>match args with|[.lst _ _ xs]=>some (.i xs.length)|[.arr _ _ _ n _]=>some (.i n)|_=>none
 | .cap=>match args with|[.lst _ true xs]=>some (.i xs.length)|_=>none
 | .min=>match args with| .sc v::l=>(qE false v l).map .sc|_=>none
 | .max=>match args with| .sc v::l=>(qE true v l).map .sc|_=>none
 | .mkfn key n=>if args.any AV.isReg then none else some (.fn key (args.take n) (args.drop n))
 | .nilchk=>match args with
   |[.iptr cs]=>some (.iptr cs)|[.ptr id r c]=>some (.ptr id r c)|[.reg r c]=>some (.reg r c)|[.opq]=>some .opq|[.fn k a b]=>some (.fn k a b)
   |_=>none
 | .ibox=>match args with|[v]=>if v.cells.all AV.isCell then some (.iptr v.cells) else none|_=>none
def setCells (cs:List AV) (col:Nat) (new:List AV):List AV:=cs.take col++new++cs.drop (col+new.length)
def yM (cs:List AV) (col sz:Nat) (agg:Bool):Option AV:=
 if col+sz <=cs.length then zbJ agg ((cs.drop col).take sz) else none
def vh:Value -> Value -> Option Bool
 | .int k a,.int k' b=>if k=k' then some (a==b) else none
 | .string a,.string b=>some (a==b)
 |_,_=>none
def qm:Value -> Bool
 | .string _=>true
 |_=>false
def wb (zero:AV):Option (Nat×AV) -> AV
 |some r=>r.2
 |none=>zero
def jq (k:Value):List (Value×AV) -> Nat -> Option (Option (Nat×AV))
 |[],_=>some none
 |(x,v)::l,i=>
  match vh k x with
  |some true=>some (some (i,v))
  |some false=>jq k l (i+1)
  |none=>none
def zv (sz:Nat) (S:AS):AV -> Option (List (List AV))
 | .lst z _ xs=>if z=sz ||xs.isEmpty then some xs else none
 | .arr id z off n _=>if z=sz then S.slice 0 id z off n else none
 |_=>none
def qF (rs:List (List AV)) (i:Nat) (new:List (List AV)):List (List AV):=rs.take i++new++rs.drop (i+new.length)
def jd (sz bytes:Nat) (S:AS) (s:AV) (ys:List (List AV)):Option (AV×AS):=
 if ys.isEmpty then
  match s with
  | .lst _ true []=>some (.arr S.n sz 0 0 none,S.new (.rows sz []))
  | .lst _ _ _| .arr _ _ _ _ _=>some (s,S)
  |_=>none
 else
 match s with
 | .lst sz' true xs=>
   if (xs.isEmpty ||sz'==sz) && (xs.length+ys.length) * bytes <=140737488355328 then some (.arr S.n sz 0 (xs.length+ys.length) none,S.new (.rows sz (xs++ys))) else none
 | .arr id sz' off len lim=>
   match S.heap id with
   |some (.rows z rs)=>
    if z≠sz \/ sz'≠sz \/ id < S.ro \/ rs.length < off+len then none else
    match lim with
    |some e=>
     if off+len+ys.length <=e /\ e <=rs.length then some (.arr id sz off (len+ys.length) lim,S.set id (some (.rows sz (qF rs (off+len) ys))))
     else if e < off+len+ys.length /\ (len+ys.length) * bytes <=140737488355328 then some (.arr S.n sz 0 (len+ys.length) none,S.new (.rows sz ((rs.drop off).take len++ys)))
     else none
    |none=>
     if off+len+ys.length <=rs.length then some (.arr id sz off (len+ys.length) none,S.set id (some (.rows sz (qF rs (off+len) ys))))
     else if off=0 /\ (len+ys.length) * bytes <=140737488355328 then
      some (.arr S.n sz 0 (len+ys.length) none,(S.set id none).new (.rows sz (rs.take len++ys)))
     else none
   |_=>none
 |_=>none
def jp (S:AS) (ids:List Nat):AS:={S with heap:=fun j=>if ids.contains j then none else S.heap j}
def za (o:AOp) (dst:Option Nat) (rg:Nat -> Option (List AV)) (S:AS) (args:List AV):Option (AV×Option (Nat×List AV)×AS):=
 match o,args with
 | .pur p,_=>(pev p args).map fun v=>(v,none,S)
 | .ld (some r) sz agg,[.reg r' c]=>if r'=r then (rg r).bind fun cs=>(yM cs c sz agg).map fun v=>(v,none,S) else none
 | .ld none sz agg,[.iptr cs]=>(yM cs 0 sz agg).map fun v=>(v,none,S)
 | .ld none sz agg,[.ptr id row c]=>
   match S.heap id with
   |some (.rows _ rs)=>(rs[row]?).bind fun cs=>(yM cs c sz agg).map fun v=>(v,none,S)
   |_=>none
 | .st (some r) sz,[.reg r' c,v]=>
   if r'=r /\ v.cells.all AV.isCell /\ v.cells.length=sz then (rg r).bind fun cs=>if c+sz <=cs.length then some (.junk,some (r,setCells cs c v.cells),S) else none else none
 | .st none sz,[.ptr id row c,v]=>
   if S.ro <=id /\ v.cells.all AV.isCell /\ v.cells.length=sz then
    match S.heap id with
    |some (.rows z rs)=>(rs[row]?).bind fun cs=>if c+sz <=cs.length then some (.junk,none,S.set id (some (.rows z (rs.set row (setCells cs c v.cells))))) else none
    |_=>none
   else none
 | .alloc .reg zero,[]=>dst.bind fun t=>if (rg t).isNone then some (.reg t 0,some (t,zero),S) else none
 | .alloc .heap zero,[]=>if zero.all AV.isCell /\ 0 < zero.length then some (.ptr S.n 0 0,none,S.new (.rows zero.length [zero])) else none
 | .box .reg,[v]=>if v.cells.all AV.isCell then dst.bind fun t=>if (rg t).isNone then some (.reg t 0,some (t,v.cells),S) else none else none
 | .box .heap,[v]=>if v.cells.all AV.isCell /\ 0 < v.cells.length then some (.ptr S.n 0 0,none,S.new (.rows v.cells.length [v.cells])) else none
 | .lookup str zero ok,[m,.sc k]=>
   if qm k≠str then none else
   let es:=match m with
    | .mp id=>match S.heap id with|some (.map es)=>some es|_=>none
    | .sc (.map none)=>some []
    |_=>none
   es.bind fun es=>(jq k es 0).map fun f=>
    (if ok then .tup [wb zero f,.b f.isSome] else wb zero f,none,S)
 | .lenM,[.mp id]=>match S.heap id with|some (.map es)=>some (.i es.length,none,S)|_=>none
 | .mkmap,[]=>some (.mp S.n,none,S.new (.map []))
 | .mapset str,[.mp id,.sc k,v]=>
   if S.ro <=id /\ v.isReg=false /\ qm k=str then
    match S.heap id with
    |some (.map es)=>(jq k es 0).map fun f=>
     (.junk,none,S.set id (some (.map (match f with|some (i,_)=>es.set i (k,v)|none=>es++[(k,v)]))))
    |_=>none
   else none
 | .clearM,[.mp id]=>
   if S.ro <=id then match S.heap id with|some (.map _)=>some (.tup [],none,S.set id (some (.map [])))|_=>none else none
 | .append sz bytes,[s,x]=>(zv sz S x).bind fun ys=>(jd sz bytes S s ys).map fun r=>(r.1,none,r.2)
 | .mkslice sz bytes zero,[.sc (.int .i64 l),.sc (.int .i64 c)]=>
   if 0 <=l /\ l <=c /\ c * bytes <=140737488355328 /\ 0 < bytes /\ zero.all AV.isCell /\ zero.length=sz /\ 0 < sz then some (.arr S.n sz 0 l.toNat none,none,S.new (.rows sz (List.replicate c.toNat zero))) else none
 | .appendZ sz bytes zero,[.lst _ true [],.sc (.int .i64 n)]=>
   if 0 < n /\ n * bytes <=140737488355328 /\ 0 < bytes /\ zero.all AV.isCell /\ zero.length=sz /\ 0 < sz then some (.arr S.n sz 0 n.toNat none,none,S.new (.rows sz (List.replicate n.toNat zero))) else none
 | .copy sz,[.arr id sz' off len _,x]=>(zv sz S x).bind fun ys=>
   let n:=Nat.min ys.length len
   if n=0 then some (.i 0,none,S) else
   match S.heap id with
   |some (.rows z rs)=>
    if z=sz /\ sz'=sz /\ S.ro <=id /\ off+len <=rs.length then some (.i n,none,S.set id (some (.rows z (qF rs off (ys.take n))))) else none
   |_=>none
 | .clearS sz zero,[.arr id sz' off len _]=>
   if len=0 then some (.tup [],none,S) else
   match S.heap id with
   |some (.rows z rs)=>if z=sz /\ sz'=sz /\ S.ro <=id /\ off+len <=rs.length /\ zero.all AV.isCell /\ zero.length=sz then some (.tup [],none,S.set id (some (.rows z (qF rs off (List.replicate len zero))))) else none
   |_=>none
 | .mapdel str,[.mp id,.sc k]=>
   if S.ro <=id /\ qm k=str then
    match S.heap id with
    |some (.map es)=>(jq k es 0).map fun f=>(.tup [],none,S.set id (some (.map (match f with|some (i,_)=>es.eraseIdx i|none=>es))))
    |_=>none
   else none
 | .tell,[v]=>
   if (qs [v]).all (fun id=>S.ro <=id) then (S.frzTo S.ro 1 v).map fun v'=>(v',none,jp S (qs [v])) else none
 |_,_=>none
def zl.ev (A:zx) (tm:List AV):zl -> Option AV
 | .t n=>some (tm.getD n .junk)
 | .k v=>some v
 | .g n=>A.glob n
def evs (A:zx) (tm:List AV):List zl -> Option (List AV)
 |[]=>some []
 |a::l=>(a.ev A tm).bind fun v=>(evs A tm l).map (v::·)
def zc8 (tm:List AV) (rg:Nat -> Option (List AV)) (S:AS):qN -> Option AV
 | .tmp t=>match tm.getD t .junk with| .reg _ _=>none|v=>some v
 | .cell t sz agg=>
   match tm.getD t .junk with
   | .reg r c=>(rg r).bind fun cs=>yM cs c sz agg
   | .iptr cs=>yM cs 0 sz agg
   | .ptr id row c=>match S.heap id with
     |some (.rows _ rs)=>(rs[row]?).bind fun cs=>yM cs c sz agg
     |_=>none
   |_=>none
def zaE (tm:List AV) (rg:Nat -> Option (List AV)) (S:AS):List qN -> Option (List AV)
 |[]=>some []
 |r::l=>(zc8 tm rg S r).bind fun v=>(zaE tm rg S l).map (v::·)
def zd.start (f:zd) (args:List AV) (S:AS):ASt:=
 {tm:=args++List.replicate (f.ntmps - args.length) .junk,rg:=fun _=>none,S}
def zd.done (f:zd) (σ:ASt):Option (AV×AS):=
 (zaE σ.tm σ.rg σ.S f.res).map fun vs=>((match vs with|[v]=>v|_=>.tup vs),σ.S)
def enter (R:ACode -> ASt -> Option (zH×ASt)) (f:zd) (args:List AV) (S:AS):Option (AV×AS):=
 match R f.body (f.start args S) with
 |some (.normal,σ)|some (.ret,σ)=>f.done σ
 |_=>none
def Frm (cols:List Nat) (S S':AS):Prop:=∀id o,id < S.n -> S.heap id=some o -> match o with
 | .map es=>S'.heap id=some (.map es)
 | .rows z rs=>∃rs':List (List AV),S'.heap id=some (.rows z rs') /\ ∀(r:Nat) (cs:List AV),rs[r]?=some cs -> ∃cs':List AV,rs'[r]?=some cs' /\ cs'.length=cs.length /\ ∀k,k∉cols -> cs'[k]?=cs[k]?
open Classical in
noncomputable def yn (A:zx) (R:ACode -> ASt -> Option (zH×ASt)) (key:Nat) (args:List AV) (S:AS):Option (AV×AS):=
 if args.any AV.isReg then none else
 match A.ext key with
 |some g=>g args S
 |none=>(A.funcs key).bind fun f=>
  match A.mode key with
  | .keep=>enter R f args S
  | .pure=>
    let ids:=qs args
    if ids.all (fun id=>S.ro <=id) then
     (zE (S.frzTo S.ro 1) args).bind fun args'=>
      (enter R f args' {jp S ids with ro:=S.n}).bind fun r=>
       (r.2.frzTo S.n 2 r.1).bind fun v=>if v.pure then some (v,jp S ids) else none
    else none
  | .calm=>
    (enter R f (yU args) {S with ro:=S.n}).bind fun r=>
     (r.2.frzTo S.n 2 r.1).bind fun v=>if v.pure then some (v,S) else none
  | .borrow=>
    (zE (S.frzTo 0 2) args).bind fun args'=>
     (enter R f args' {S with ro:=S.n}).bind fun r=>if r.1.scalar then some (r.1,S) else none
  | .keepF cols=>(enter R f args S).bind fun r=>if Frm cols S r.2 then some r else none
  | .lone=>
    if jR (yU args) then
     (enter R f (yU args) ⟨fun _=>none,0,0⟩).bind fun r=>(r.2.frzTo 0 2 r.1).bind fun v=>if v.pure then some (v,S) else none
    else none
def upd (rg:Nat -> Option (List AV)) (t:Nat) (cs:List AV):Nat -> Option (List AV):=fun r=>if r=t then some cs else rg r
def ASt.put (σ:ASt) (dst:Option Nat) (v:AV):ASt:=
 match dst with
 |some d=>{σ with tm:=σ.tm.set d v}
 |none=>σ
def ASt.regs (σ:ASt):Option (Nat×List AV) -> ASt
 |some (t,cs)=>{σ with rg:=upd σ.rg t cs}
 |none=>σ
def vl (tm:List AV):Option (Nat×Bool) -> Option Bool
 |none=>some true
 |some (t,b)=>match tm.getD t .junk with
  | .sc (.bool c)=>some (c==b)
  | .tup _=>some false
  |_=>none
noncomputable def jh (A:zx) (R:ACode -> ASt -> Option (zH×ASt)) (op:AOp) (dst:Option Nat) (args:List AV) (σ:ASt):Option ASt:=
 match op with
 | .call key=>(yn A R key args σ.S).map fun r=>{σ with S:=r.2}.put dst r.1
 | .callv=>match args with
   | .fn key first cap::rest=>(yn A R key (first++rest++cap) σ.S).map fun r=>{σ with S:=r.2}.put dst r.1
   |_=>none
 |o=>(za o dst σ.rg σ.S args).map fun r=>({σ with S:=r.2.2}.regs r.2.1).put dst r.1
noncomputable def step (A:zx) (R:ACode -> ASt -> Option (zH×ASt)) (i:zn) (σ:ASt):Option ASt:=
 match vl σ.tm i.guard with
 |none=>none
 |some false=>some (σ.put i.dst (.tup []))
 |some true=>(evs A σ.tm i.args).bind fun args=>jh A R i.op i.dst args σ
noncomputable def y7 (A:zx) (R:ACode -> ASt -> Option (zH×ASt)):List zn -> ASt -> Option ASt
 |[],σ=>some σ
 |i::l,σ=>(step A R i σ).bind (y7 A R l)
def wg (tm rg:List Nat) (σ:ASt):Option ASt:=
 let tm':=σ.tm.zipIdx.map fun p=>if tm.contains p.2 then .junk else p.1
 if tm'.any (fun| .reg r _=>rg.contains r|_=>false) then none
 else some {σ with tm:=tm',rg:=fun r=>if rg.contains r then none else σ.rg r}
def zd2:AV -> AV -> Bool
 | .ptr i _ _,.ptr j _ _=>i !=j
 |_,_=>false
def zc4:AV -> Nat -> Bool
 | .ptr _ _ c,k=>c !=k
 | .iptr _,_=>true
 |_,_=>false
def zeO (x:AV) (b:Nat) (y:AV):Bool:=if b < 1000 then zd2 x y else zc4 x (b - 1000)
def zaz (tm:List AV) (c:List (Nat×Nat)):Bool:=c.all fun p=>zeO (tm.getD p.1 .junk) p.2 (tm.getD p.2 .junk)
noncomputable def zt (A:zx):Nat -> ACode -> ASt -> Option (zH×ASt)
 |0,_,_=>none
 |_+1,.skip,σ=>some (.normal,σ)
 |k+1,.ops l,σ=>(y7 A (zt A k) l σ).map fun σ=>(.normal,σ)
 |k+1,.opsC l c,σ=>(y7 A (zt A k) l σ).bind fun σ=>if zaz σ.tm c then some (.normal,σ) else none
 |k+1,.seq a b,σ=>
  match zt A k a σ with
  |some (.normal,σ)=>zt A k b σ
  |r=>r
 |k+1,.cond c a b,σ=>
  match c.ev A σ.tm with
  |some (.sc (.bool t))=>zt A k (if t then a else b) σ
  |_=>none
 |k+1,.block id c,σ=>
  match zt A k c σ with
  |some (.exit j,σ)=>some (if j=id then .normal else .exit j,σ)
  |r=>r
 |k+1,.loop tm rg c,σ=>
  (wg tm rg σ).bind fun σ=>
   match zt A k c σ with
   |some (.normal,σ)=>zt A k (.loop tm rg c) σ
   |r=>r
 |_+1,.exit id,σ=>some (.exit id,σ)
 |_+1,.label _,σ=>some (.normal,σ)
 |_+1,.goto l,σ=>some (.goto l,σ)
 |k+1,.scope b c,σ=>
  match zt A k c σ with
  |some (.goto l,σ)=>match ke b l with
   |some c=>zt A k (.scope b c) σ
   |none=>some (.goto l,σ)
  |r=>r
 |_+1,.ret,σ=>some (.ret,σ)
def qB:Value -> Bool
 | .bool _| .int _ _| .string _| .pointer none| .map none| .nilFunc| .nilIface=>true
 |_=>false
structure Gh where
 ι:Nat -> Option (Nat×Nat×Nat)
 P:Nat -> Nat -> Prop
 K:Nat -> Option Nat
def At (G:Gh) (w:World) (b off:Nat) (vs:List Value):Prop:=
 ∀i v,vs[i]?=some v -> G.P b (off+i) /\ w.cell? ⟨b,off+i,none⟩=some v
mutual
inductive Rep (G:Gh) (w:World):AV -> Value -> Prop
 |sc {v:Value} (h:qB v=true):Rep G w (.sc v) v
 |junk {v:Value}:Rep G w .junk v
 |opq {t:Nat} {v:Value}:Rep G w .opq (.iface t v)
 |ptr {id r c b sz N:Nat} (h:G.ι id=some (b,sz,N)):Rep G w (.ptr id r c) (.pointer (some ⟨b,r * sz+c,none⟩))
 |iptr {cs:List AV} {vs:List Value} {b off:Nat} (h:At G w b off vs) (hr:zp G w cs vs):Rep G w (.iptr cs) (.pointer (some ⟨b,off,none⟩))
 |nil {sz:Nat} {full:Bool} {a:Option Addr} {c:Nat} (h:full=true -> c=0):Rep G w (.lst sz full []) (.slice a 0 c)
 |lst {sz:Nat} {full:Bool} {xs:List (List AV)} {vs:List (List Value)} {b off n c:Nat} (hn:n=xs.length) (hc:xs.length <=c) (hf:full=true -> c=xs.length)
  (h:At G w b off vs.flatten) (hr:zF G w sz xs vs):Rep G w (.lst sz full xs) (.slice (some ⟨b,off,none⟩) n c)
 |arr {id off len b sz N cap:Nat} {lim:Option Nat} {a:Option Addr} (h:G.ι id=some (b,sz,N)) (hl:off+len <=lim.getD N) (hN:lim.getD N <=N)
  (hcap:cap=lim.getD N - off) (ha:cap=0 \/ a=some ⟨b,off * sz,none⟩):Rep G w (.arr id sz off len lim) (.slice a len cap)
 |agg {cs:List AV} {vs:List Value} (h:zp G w cs vs):Rep G w (.agg cs) (.agg vs.toArray)
 |tup {cs:List AV} {vs:List Value} (h:zp G w cs vs):Rep G w (.tup cs) (.tuple vs.toArray)
 |fn {key f:Nat} {a b:List AV} {va vb:List Value} (hk:G.K key=some f) (ha:zp G w a va) (hb:zp G w b vb):Rep G w (.fn key a b) (.func (.func f) va.toArray vb.toArray)
 |mp {id b sz N:Nat} (h:G.ι id=some (b,sz,N)):Rep G w (.mp id) (.map (some b))
inductive zp (G:Gh) (w:World):List AV -> List Value -> Prop
 |nil:zp G w [] []
 |cons {a:AV} {l:List AV} {v:Value} {vs:List Value} (h:Rep G w a v) (t:zp G w l vs):zp G w (a::l) (v::vs)
inductive zF (G:Gh) (w:World):Nat -> List (List AV) -> List (List Value) -> Prop
 |nil {sz:Nat}:zF G w sz [] []
 |cons {sz:Nat} {r:List AV} {rs:List (List AV)} {v:List Value} {vs:List (List Value)} (h:zp G w r v) (hl:r.length=sz) (hc:∀u∈v,u.oneCell'=true) (t:zF G w sz rs vs):zF G w sz (r::rs) (v::vs)
end
structure Le (G:Gh) (w:World) (G':Gh) (w':World):Prop where
 ι:∀id x,G.ι id=some x -> G'.ι id=some x
 P:∀b o,G.P b o -> G'.P b o
 K:G'.K=G.K
 cell:∀b o v,G.P b o -> w.cell? ⟨b,o,none⟩=some v -> w'.cell? ⟨b,o,none⟩=some v
theorem Le.refl (G:Gh) (w:World):Le G w G w:=⟨fun _ _ h=>h,fun _ _ h=>h,rfl,fun _ _ _ _ h=>h⟩
theorem Le.trans {G G' G'':Gh} {w w' w'':World} (h:Le G w G' w') (h':Le G' w' G'' w''):Le G w G'' w'':=
 ⟨fun _ _ e=>h'.ι _ _ (h.ι _ _ e),fun _ _ e=>h'.P _ _ (h.P _ _ e),h'.K.trans h.K,fun _ _ _ p e=>h'.cell _ _ _ (h.P _ _ p) (h.cell _ _ _ p e)⟩
theorem At.mono {G G':Gh} {w w':World} (h:Le G w G' w') {b off:Nat} {vs:List Value} (ha:At G w b off vs):At G' w' b off vs:=
 fun i v e=>⟨h.P _ _ (ha i v e).1,h.cell _ _ _ (ha i v e).1 (ha i v e).2⟩
mutual
theorem Rep.mono {G G':Gh} {w w':World} (h:Le G w G' w') {a:AV} {v:Value}:Rep G w a v -> Rep G' w' a v
 | .sc e=>.sc e
 | .junk=>.junk
 | .opq=>.opq
 | .ptr e=>.ptr (h.ι _ _ e)
 | .iptr e r=>.iptr (e.mono h) (r.mono h)
 | .nil e=>.nil e
 | .lst a b c e r=>.lst a b c (e.mono h) (r.mono h)
 | .arr a b c d e=>.arr (h.ι _ _ a) b c d e
 | .agg r=>.agg (r.mono h)
 | .tup r=>.tup (r.mono h)
 | .fn k a b=>.fn (by rw [h.K];exact k) (a.mono h) (b.mono h)
 | .mp e=>.mp (h.ι _ _ e)
theorem zp.mono {G G':Gh} {w w':World} (h:Le G w G' w') {a:List AV} {v:List Value}:zp G w a v -> zp G' w' a v
 | .nil=>.nil
 | .cons a l=>.cons (a.mono h) (l.mono h)
theorem zF.mono {G G':Gh} {w w':World} (h:Le G w G' w') {sz:Nat} {a:List (List AV)} {v:List (List Value)}:zF G w sz a v -> zF G' w' sz a v
 | .nil=>.nil
 | .cons a e c l=>.cons (a.mono h) e c (l.mono h)
end
theorem Rep.lstN {G:Gh} {w:World} {s:Nat} {f:Bool} {xs:List (List AV)} {v:Value} (h:Rep G w (.lst s f xs) v):Rep G w (Abs.lstN s xs) v:=by
 unfold Abs.lstN;cases h with
 |nil e=>exact .nil (fun h=>by cases h)
 |lst a b c e r=>
  cases xs with
  |nil=>subst a;exact .nil (fun h=>by cases h)
  |cons y ys=>exact .lst a b (fun h=>by cases h) e r
theorem zp.length {G:Gh} {w:World} {a:List AV} {v:List Value}:zp G w a v -> a.length=v.length
 | .nil=>rfl
 | .cons _ l=>by simp [l.length]
theorem zF.length {G:Gh} {w:World} {sz:Nat} {a:List (List AV)} {v:List (List Value)}:zF G w sz a v -> a.length=v.length
 | .nil=>rfl
 | .cons _ _ _ l=>by simp [l.length]
theorem zp.get {G:Gh} {w:World} {a:List AV} {vs:List Value} (h:zp G w a vs) (i:Nat) {x:AV} (hx:a[i]?=some x):∃v,vs[i]?=some v /\ Rep G w x v:=by
 induction i generalizing a vs with
 |zero=>cases h with
  |nil=>simp at hx
  |cons h t=>simp at hx;subst hx;exact ⟨_,by simp,h⟩
 |succ i ih=>cases h with
  |nil=>simp at hx
  |cons h t=>simp at hx;simpa using ih t hx
theorem zF.get {G:Gh} {w:World} {sz:Nat} {a:List (List AV)} {vs:List (List Value)} (h:zF G w sz a vs) (i:Nat) {x:List AV} (hx:a[i]?=some x):
 ∃v,vs[i]?=some v /\ zp G w x v /\ x.length=sz /\ ∀u∈v,u.oneCell'=true:=by
 induction i generalizing a vs with
 |zero=>cases h with
  |nil=>simp at hx
  |cons h e c t=>simp at hx;subst hx;exact ⟨_,by simp,h,e,c⟩
 |succ i ih=>cases h with
  |nil=>simp at hx
  |cons h e c t=>simp at hx;simpa using ih t hx
theorem zp.append {G:Gh} {w:World} {a b:List AV} {va vb:List Value}:zp G w a va -> zp G w b vb -> zp G w (a++b) (va++vb)
 | .nil,h=>h
 | .cons h t,h'=>.cons h (t.append h')
theorem zF.append {G:Gh} {w:World} {sz:Nat} {a b:List (List AV)} {va vb:List (List Value)}:zF G w sz a va -> zF G w sz b vb -> zF G w sz (a++b) (va++vb)
 | .nil,h=>h
 | .cons h e c t,h'=>.cons h e c (t.append h')
theorem zp.drop {G:Gh} {w:World} {a:List AV} {v:List Value} (h:zp G w a v) (n:Nat):zp G w (a.drop n) (v.drop n):=by
 induction n generalizing a v with
 |zero=>simpa using h
 |succ n ih=>cases h with
  |nil=>simpa using .nil
  |cons _ t=>simpa using ih t
theorem zp.take {G:Gh} {w:World} {a:List AV} {v:List Value} (h:zp G w a v) (n:Nat):zp G w (a.take n) (v.take n):=by
 induction n generalizing a v with
 |zero=>simpa using .nil
 |succ n ih=>cases h with
  |nil=>simpa using .nil
  |cons e t=>simpa using .cons e (ih t)
theorem zF.drop {G:Gh} {w:World} {sz:Nat} {a:List (List AV)} {v:List (List Value)} (h:zF G w sz a v) (n:Nat):zF G w sz (a.drop n) (v.drop n):=by
 induction n generalizing a v with
 |zero=>simpa using h
 |succ n ih=>cases h with
  |nil=>simpa using .nil
  |cons _ _ _ t=>simpa using ih t
theorem zF.take {G:Gh} {w:World} {sz:Nat} {a:List (List AV)} {v:List (List Value)} (h:zF G w sz a v) (n:Nat):zF G w sz (a.take n) (v.take n):=by
 induction n generalizing a v with
 |zero=>simpa using .nil
 |succ n ih=>cases h with
  |nil=>simpa using .nil
  |cons e l c t=>simpa using .cons e l c (ih t)
theorem zp.set {G:Gh} {w:World} {a:List AV} {v:List Value} {x:AV} {y:Value} (h:zp G w a v) (hx:Rep G w x y) (n:Nat):zp G w (a.set n x) (v.set n y):=by
 induction n generalizing a v with
 |zero=>cases h with
  |nil=>simpa using .nil
  |cons _ t=>simpa using .cons hx t
 |succ n ih=>cases h with
  |nil=>simpa using .nil
  |cons e t=>simpa using .cons e (ih t)
theorem zF.set {G:Gh} {w:World} {sz:Nat} {a:List (List AV)} {v:List (List Value)} {x:List AV} {y:List Value} (h:zF G w sz a v) (hx:zp G w x y) (hl:x.length=sz) (hc:∀u∈y,u.oneCell'=true) (n:Nat):
 zF G w sz (a.set n x) (v.set n y):=by
 induction n generalizing a v with
 |zero=>cases h with
  |nil=>simpa using .nil
  |cons _ _ _ t=>simpa using .cons hx hl hc t
 |succ n ih=>cases h with
  |nil=>simpa using .nil
  |cons e l c t=>simpa using .cons e l c (ih t)
theorem zF.replicate {G:Gh} {w:World} {sz:Nat} {x:List AV} {y:List Value} (hx:zp G w x y) (hl:x.length=sz) (hc:∀u∈y,u.oneCell'=true):∀n,zF G w sz (List.replicate n x) (List.replicate n y)
 |0=>.nil
 |n+1=>.cons hx hl hc (zF.replicate hx hl hc n)
theorem zF.flat_length {G:Gh} {w:World} {sz:Nat} {a:List (List AV)} {v:List (List Value)}:zF G w sz a v -> v.flatten.length=a.length * sz
 | .nil=>by simp
 | .cons h e _ t=>by simp only [List.flatten_cons,List.length_append,t.flat_length,List.length_cons,<- h.length,e,Nat.add_mul];omega
theorem zF.flat_get {G:Gh} {w:World} {sz:Nat} {a:List (List AV)} {vs:List (List Value)} (h:zF G w sz a vs) (i:Nat) {v:List Value} (hv:vs[i]?=some v):
 v.length=sz /\ ∀j,j < sz -> vs.flatten[i * sz+j]?=v[j]?:=by
 induction i generalizing a vs with
 |zero=>cases h with
  |nil=>simp at hv
  |cons h e c t=>
   simp at hv;subst hv;have hl:=h.length;refine ⟨by omega,fun j hj=>?_⟩;simp only [List.flatten_cons,Nat.zero_mul,Nat.zero_add];rw [List.getElem?_append_left (by omega)]
 |succ i ih=>cases h with
  |nil=>simp at hv
  |cons h e c t=>
   simp at hv;obtain ⟨h1,h2⟩:=ih t hv;have hl:=h.length;refine ⟨h1,fun j hj=>?_⟩;simp only [List.flatten_cons];rw [List.getElem?_append_right (by rw [Nat.add_mul];omega),<- h2 j hj];congr 1;rw [Nat.add_mul];omega
theorem At.drop {G:Gh} {w:World} {b off:Nat} {vs:List Value} (h:At G w b off vs) (n:Nat):At G w b (off+n) (vs.drop n):=by
 intro i v e;rw [List.getElem?_drop]at e;have:=h (n+i) v e;rw [Nat.add_assoc];exact this
def vi (ms:Array MapEntry) (clock:Nat):Prop:=(∀e∈ms.toList,e.born < clock) /\ (ms.toList.map (·.born)).Nodup /\ (ms.toList.map (·.key)).Nodup
theorem vi.nil (c:Nat):vi #[] c:=⟨by simp,by simp,by simp⟩
theorem vi.push {ms:Array MapEntry} {c:Nat} (h:vi ms c) {k v:Value} (hk:k∉ms.toList.map (·.key)):vi (ms.push {key:=k,val:=v,born:=c}) (c+1):=by
 obtain ⟨h1,h2,h3⟩:=h;refine ⟨?_,?_,?_⟩
 ·intro e he;simp only [Array.toList_push,List.mem_append,List.mem_singleton]at he;rcases he with he|rfl
  ·have:=h1 e he;omega
  ·exact Nat.lt_succ_self _
 ·simp only [Array.toList_push,List.map_append,List.map_cons,List.map_nil];rw [List.nodup_append];refine ⟨h2,by simp,?_⟩;intro a ha b hb;simp only [List.mem_singleton]at hb;obtain ⟨e,he,rfl⟩:=List.mem_map.1 ha;have:=h1 e he;omega
 ·simp only [Array.toList_push,List.map_append,List.map_cons,List.map_nil];rw [List.nodup_append];refine ⟨h3,by simp,?_⟩;intro a ha b hb;simp only [List.mem_singleton]at hb;subst hb;rintro rfl;exact hk ha
theorem vi.sub {ms ms':Array MapEntry} {c:Nat} (h:vi ms c) (hs:ms'.toList.Sublist ms.toList):vi ms' c:=
 ⟨fun e he=>h.1 e (hs.subset he),(hs.map _).nodup h.2.1,(hs.map _).nodup h.2.2⟩
theorem vi.same {ms ms':Array MapEntry} {c:Nat} (h:vi ms c) (hb:ms'.toList.map (·.born)=ms.toList.map (·.born)) (hk:ms'.toList.map (·.key)=ms.toList.map (·.key)):vi ms' c:=by
 obtain ⟨h1,h2,h3⟩:=h;refine ⟨?_,by rw [hb];exact h2,by rw [hk];exact h3⟩;intro e he;have:e.born∈ms.toList.map (·.born):=by rw [<- hb];exact List.mem_map_of_mem he
 obtain ⟨e',he',h⟩:=List.mem_map.1 this;rw [<- h];exact h1 e' he'
def vn (G:Gh) (w:World) (x:Nat×Nat×Nat):jb -> Prop
 | .rows sz rs=>x.2.1=sz /\ 0 < sz /\ rs.length <=x.2.2 /\
  (x.2.2=0 \/ ∃c e vs,w.heap[x.1]?=some (.cells c e (0,0)) /\ c.size=x.2.2 * sz /\ zF G w sz rs vs /\ vs.flatten=c.toList.take (rs.length * sz))
 | .map es=>0 < x.2.2 /\ ∃ms clock,w.heap[x.1]?=some (.map ms clock) /\ es.map (·.1)=ms.toList.map (·.key) /\ zp G w (es.map (·.2)) (ms.toList.map (·.val)) /\ (es.all fun e=>qB e.1)=true /\ vi ms clock
structure Sim (G:Gh) (S:AS) (w:World):Prop where
 obj:∀id o,S.heap id=some o -> ∃x,G.ι id=some x /\ vn G w x o
 fresh:∀id,S.n <=id -> S.heap id=none /\ G.ι id=none
 inj:∀id id' o o' x x',S.heap id=some o -> S.heap id'=some o' -> G.ι id=some x -> G.ι id'=some x' -> 0 < x.2.2 -> 0 < x'.2.2 -> x.1=x'.1 -> id=id'
 own:∀id o x off,S.ro <=id -> S.heap id=some o -> G.ι id=some x -> 0 < x.2.2 -> ¬G.P x.1 off
 lt:∀b o,G.P b o -> b < w.heap.size
 ro:S.ro <=S.n
def Wr (G:Gh) (S:AS) (b:Nat):Prop:=∃id o x,S.ro <=id /\ S.heap id=some o /\ G.ι id=some x /\ 0 < x.2.2 /\ x.1=b
structure Io (w w':World):Prop where
 os:w'.os=w.os
 tape:w'.tape=w.tape
 out:w'.output=w.output
theorem Io.refl (w:World):Io w w:=⟨rfl,rfl,rfl⟩
theorem Io.trans {w w' w'':World} (h:Io w w') (h':Io w' w''):Io w w'':=⟨h'.os.trans h.os,h'.tape.trans h.tape,h'.out.trans h.out⟩
structure Ext (D:Nat -> Prop) (G:Gh) (w:World) (G':Gh) (w':World):Prop extends Le G w G' w' where
 size:w.heap.size <=w'.heap.size
 keep:∀b,b < w.heap.size -> ¬D b -> w'.heap[b]?=w.heap[b]?
 new:∀b o,G'.P b o -> G.P b o \/ D b
 stay:∀b o,G.P b o -> w'.heap[b]?=w.heap[b]?
 io:Io w w'
theorem Ext.refl (D:Nat -> Prop) (G:Gh) (w:World):Ext D G w G w:=⟨Le.refl G w,Nat.le_refl _,fun _ _ _=>rfl,fun _ _ h=>.inl h,fun _ _ _=>rfl,Io.refl w⟩
theorem Ext.trans {D:Nat -> Prop} {G G' G'':Gh} {w w' w'':World} (h:Ext D G w G' w') (h':Ext D G' w' G'' w''):Ext D G w G'' w'':=
 ⟨h.toLe.trans h'.toLe,Nat.le_trans h.size h'.size,fun b hb hd=>(h'.keep b (Nat.lt_of_lt_of_le hb h.size) hd).trans (h.keep b hb hd),
  fun b o hp=>(h'.new b o hp).elim (h.new b o) .inr,fun b o hp=>(h'.stay b o (h.P b o hp)).trans (h.stay b o hp),h.io.trans h'.io⟩
theorem Ext.weak {D D':Nat -> Prop} {G G':Gh} {w w':World} (hd:∀b,D b -> D' b) (h:Ext D G w G' w'):Ext D' G w G' w':=
 ⟨h.toLe,h.size,fun b hb hn=>h.keep b hb fun x=>hn (hd b x),fun b o hp=>(h.new b o hp).imp id (hd b),h.stay,h.io⟩
def kV (G:Gh) (w:World) (v:AV) (m:Nat):Prop:=
 Rep G w v (.pointer (some ⟨m,0,none⟩)) /\ ∀x cs,v=.iptr (x::cs) -> ∃c t f,w.heap[m]?=some (.cells c t f) /\ c.size=cs.length+1
theorem kV.le {G G':Gh} {w:World} {v:AV} {m:Nat} (h:kV G w v m) (hle:Le G w G' w):kV G' w v m:=⟨h.1.mono hle,h.2⟩
theorem kV.ext {D:Nat -> Prop} {G G':Gh} {w w':World} {v:AV} {m:Nat} (h:kV G w v m) (hx:Ext D G w G' w'):kV G' w' v m:=by
 refine ⟨h.1.mono hx.toLe,?_⟩;rintro x cs rfl;have hp:G.P m 0:=by
  have h1:=h.1;cases h1 with
  |iptr ha hr=>
   cases hr with
   |cons h t=>exact (ha 0 _ rfl).1
 rw [hx.stay m 0 hp];exact h.2 x cs rfl
def zmm:Value -> Value -> Bool
 | .bool a,.bool b=>a==b
 | .int k a,.int k' b=>k==k' && a==b
 | .string a,.string b=>a.data.toList==b.data.toList
 | .pointer none,.pointer none=>true
 | .map none,.map none=>true
 | .nilFunc,.nilFunc=>true
 | .nilIface,.nilIface=>true
 |_,_=>false
def zdR:AV -> Value -> Bool
 | .sc a,b=>zmm a b
 | .lst _ full [],.slice none 0 c=>!full ||c==0
 |_,_=>false
def vX:List AV -> List Value -> Bool
 |[],[]=>true
 |a::l,b::m=>zdR a b && vX l m
 |_,_=>false
def ze0:AV -> Value -> Bool
 | .agg cs,.agg vs=>vX cs vs.toList
 | .tup cs,.tuple vs=>vX cs vs.toList
 |a,b=>zdR a b
def za1 (K:Nat -> Option Nat):zl -> Operand -> Bool
 | .t n,.tmp m=>n==m
 | .k (.fn key [] []),.func f=>K key==some f
 | .k v,.const c=>ze0 v c
 | .g n,.global m=>K (10000+n)==some m
 |_,_=>false
def zR (K:Nat -> Option Nat):List zl -> List Operand -> Bool
 |[],[]=>true
 |a::l,b::m=>za1 K a b && zR K l m
 |_,_=>false
def yJ (P:Program) (t:TypeId):Option Nat:=(P.info? t).map (·.size)
def ziI (P:Program) (t:TypeId):Option Nat:=(P.info? t).map (·.bytes)
def zah (P:Program) (t:TypeId):Option Bool:=(P.underlying t).map fun| .struct _| .array _ _=>true|_=>false
def zbw (P:Program) (t:TypeId) (cs:List AV):Bool:=
 match (P.info? t).bind (·.zero) with
 |some z=>vX cs z.cells.toList
 |none=>false
def zaW (P:Program) (t:TypeId):Option TypeId:=match P.underlying t with|some (.slice e)=>some e|_=>none
def zjr (P:Program) (t:TypeId) (i:Nat):Option Field:=match P.underlying t with|some (.struct fs)=>fs[i]?|_=>none
def vY (P:Program) (f:Nat):Bool:=match P.funcs[f]? with|some fn=>!(fn.name== "runtime.NumGoroutine") && fn.body.isSome|none=>false
def zan:TypeDesc -> Bool
 | .int _=>true
 |_=>false
def zem (P:Program) (t:TypeId):Option Bool:=
 match P.underlying t with
 |some (.map k _)=>match P.underlying k with
  |some .string=>some true
  |some (.int _)=>some false
  |_=>none
 |_=>none
def zsp (P:Program) (t:TypeId) (ps:List (Nat×Operand)) (places:List (Nat×Nat)):Bool:=
 match P.underlying t with
 |some (.struct fs)=>ps.map (fun p=>(fs[p.1]?).bind fun f=>(yJ P f.type).map fun n=>(f.offset,n))==places.map some &&
  fs.all (fun f=>(yJ P f.type).isSome)
 |some (.array _ e)=>(yJ P e).isSome && ps.map (fun p=>(yJ P e).map fun n=>(p.1 * n,n))==places.map some
 |_=>false
def zf1 (P:Program) (ts:Array TypeId):Bool:=match ts[0]? with|some t=>(P.underlying t matches some (.map _ _))|none=>false
def ztj (P:Program) (ts:Array TypeId):Bool:=match ts[0]? with|some t=>(P.underlying t matches some .string)|none=>false
def zar (P:Program) (ts:Array TypeId):Option TypeId:=(ts[0]?).bind (zaW P)
def zr1 (P:Program) (s:TypeId):Bool:=match P.underlying s with|some (.slice e)=>(P.underlying e matches some (.int .u8))|_=>false
def zfA (P:Program) (e:Option TypeId) (sz:Nat):Bool:=match e with|some e=>yJ P e==some sz|none=>false
def zgu (P:Program) (t:TypeId) (sz len:Nat):Bool:=match P.underlying t with|some (.array n e)=>n==len && yJ P e==some sz|_=>false
def zm0 (P:Program) (t:TypeId) (agg:Bool):Bool:=match P.underlying t with|some (.array _ e)=>zah P e==some agg|_=>false
def za9 (ne:Bool):BinOp:=if ne then .neq else .eql
def zM (P:Program) (K:Nat -> Option Nat) (o:Op) (p:POp) (args:List zl):Bool:=
 match p with
 | .mov=>match o with| .move x| .assign x=>zR K args [x]|_=>false
 | .pick=>match o with| .pick c a b=>zR K args [c,a,b]|_=>false
 | .bin op'=>match o with| .binOp op _ x y _=>op==op' && zR K args [x,y]|_=>false
 | .eqB ne=>match o with| .binOp op t x y _=>op==za9 ne && (P.underlying t matches some .bool) && zR K args [x,y]|_=>false
 | .nilI ne=>match o with| .binOp op t x (.const .nilIface) _=>op==za9 ne && (P.underlying t matches some (.interface _)) && zR K args [x]|_=>false
 | .nilP ne=>match o with| .binOp op t x (.const (.pointer none)) _=>op==za9 ne && (P.underlying t matches some (.pointer _)) && zR K args [x]|_=>false
 | .nilF ne=>match o with| .binOp op t x (.const .nilFunc) _=>op==za9 ne && (P.underlying t matches some (.func _ _ _)) && zR K args [x]|_=>false
 | .un op'=>match o with| .unOp op _ x=>op==op' && zR K args [x]|_=>false
 | .toInt k=>match o with| .convert s d x=>(P.underlying s).isSome && (match P.underlying d with|some (.int k')=>k'==k|_=>false) && zR K args [x]|_=>false
 | .sstr| .runeStr=>match o with| .convert s d x=>(P.underlying s).isSome && (P.underlying d matches some .string) && zR K args [x]|_=>false
 | .bytesStr=>match o with| .convert s d x=>(P.underlying d matches some .string) && zr1 P s && zR K args [x]|_=>false
 | .field off sz agg=>match o with| .field t x f=>(match zjr P t f with|some f=>f.offset==off && yJ P f.type==some sz && zah P f.type==some agg|none=>false) && (agg ||sz==1) && zR K args [x]|_=>false
 | .faddr off=>match o with| .fieldAddr t x f=>(match zjr P t f with|some f=>f.offset==off && (match yJ P f.type with|some n=>n !=0|none=>false)|none=>false) && zR K args [x]|_=>false
 | .iaddr sz=>match o with| .indexAddr t x y=>zfA P (zaW P t) sz && zR K args [x,y]|_=>false
 | .iaddrA sz len=>match o with| .indexAddr t x y=>zgu P t sz len && zR K args [x,y]|_=>false
 | .indexS=>match o with| .index t x y=>(P.underlying t matches some .string) && zR K args [x,y]|_=>false
 | .indexA sz len agg=>match o with| .index t x y=>zgu P t sz len && zm0 P t agg && (agg ||sz==1) && zR K args [x,y]|_=>false
 | .sliceS lo hi=>match o with| .slice t x l h none=>(P.underlying t matches some .string) && l.isSome==lo && h.isSome==hi && zR K args (x::(l.toList++h.toList))|_=>false
 | .sliceL sz lo hi mx=>match o with| .slice t x l h m=>zfA P (zaW P t) sz && l.isSome==lo && h.isSome==hi && m.isSome==mx && zR K args (x::(l.toList++(h.toList++m.toList)))|_=>false
 | .build zero places=>match o with| .build t ps=>zbw P t zero && zsp P t ps.toList places && zR K args (ps.toList.map (·.2))|_=>false
 | .buildSl sz n zero places=>match o with| .buildSlice t n' ps=>n'==n && (n * sz <=16777216) && (match zaW P t with|some e=>yJ P e==some sz && zbw P e zero|none=>false) && decide (0 < sz) && zero.length==sz && ps.toList.map (·.1)==places && zR K args (ps.toList.map (·.2))|_=>false
 | .extract j'=>match o with| .extract x j=>j==j' && zR K args [x]|_=>false
 | .lenS=>match o with| .call {callee:=.builtin .len,args:=xs,argTypes:=ts}=>ztj P ts && zR K args xs.toList|_=>false
 | .lenL=>match o with| .call {callee:=.builtin .len,args:=xs,argTypes:=ts}=>(zar P ts).isSome && zR K args xs.toList|_=>false
 | .cap=>match o with| .call {callee:=.builtin .cap,args:=xs,argTypes:=ts}=>(zar P ts).isSome && zR K args xs.toList|_=>false
 | .min=>match o with| .call {callee:=.builtin .min,args:=xs,..}=>zR K args xs.toList|_=>false
 | .max=>match o with| .call {callee:=.builtin .max,args:=xs,..}=>zR K args xs.toList|_=>false
 | .mkfn key n=>match o with| .makeFunc (.func f) first cap=>K key==some f && first.size==n && zR K args (first.toList++cap.toList)|_=>false
 | .nilchk=>match o with| .nilCheck x=>zR K args [x]|_=>false
 | .ibox=>match o with| .box _ x=>zR K args [x]|_=>false
def yH (P:Program) (K:Nat -> Option Nat) (o:Op) (i:AOp) (args:List zl):Bool:=
 match i with
 | .pur p=>zM P K o p args
 | .box _=>match o with| .box _ x=>zR K args [x]|_=>false
 | .ld _ sz agg=>match o with| .load t x=>yJ P t==some sz && zah P t==some agg && (agg ||sz==1) && zR K args [x]|_=>false
 | .st _ sz=>match o with| .store t x y=>yJ P t==some sz && zR K args [x,y]|_=>false
 | .alloc _ zero=>match o with| .alloc t=>zbw P t zero && zR K args []|_=>false
 | .lookup str zero ok'=>match o with
   | .lookup t x y ok=>ok==ok' && zem P t==some str &&
     (match P.underlying t with|some (.map _ e)=>(match (P.info? e).bind (·.zero) with|some z=>ze0 zero z|none=>false)|_=>false) && zR K args [x,y]
   |_=>false
 | .lenM=>match o with| .call {callee:=.builtin .len,args:=xs,argTypes:=ts}=>zf1 P ts && zR K args xs.toList|_=>false
 | .mkmap=>match o with| .makeMap _ none=>zR K args []|_=>false
 | .mapset str=>match o with| .mapUpdate t m k v| .insert t m k v=>zem P t==some str && zR K args [m,k,v]|_=>false
 | .mapdel str=>match o with
   | .call {callee:=.builtin .delete,args:=xs,argTypes:=ts}=>(match ts[0]? with|some t=>zem P t==some str|none=>false) && zR K args xs.toList
   |_=>false
 | .clearM=>match o with| .call {callee:=.builtin .clear,args:=xs,argTypes:=ts}=>zf1 P ts && zR K args xs.toList|_=>false
 | .clearS sz zero=>match o with
   | .call {callee:=.builtin .clear,args:=xs,argTypes:=ts}=>(match zar P ts with|some e=>yJ P e==some sz && zbw P e zero|none=>false) && zR K args xs.toList
   |_=>false
 | .append sz bytes=>match o with
   | .call {callee:=.builtin .append,args:=xs,argTypes:=ts}=>
     (match zar P ts with|some e=>(match P.info? e with|some i=>i.size==sz && decide (0 < sz) && i.bytes==bytes && decide (0 < bytes) && (match i.zero with|some z=>z.cells.size==sz|none=>false)|none=>false)|none=>false) &&
     (match ts[1]? with|some t=>(match P.underlying t with|some d=>!zan d|none=>false)|none=>false) && zR K args xs.toList
   |_=>false
 | .appendZ sz bytes zero=>match o with
   | .call {callee:=.builtin .append,args:=xs,argTypes:=ts}=>
     (match zar P ts with|some e=>yJ P e==some sz && ziI P e==some bytes && zbw P e zero|none=>false) &&
     (match ts[1]? with|some t=>(match P.underlying t with|some d=>zan d|none=>false)|none=>false) && zR K args xs.toList
   |_=>false
 | .copy sz=>match o with| .call {callee:=.builtin .copy,args:=xs,argTypes:=ts}=>zfA P (zar P ts) sz && decide (0 < sz) && zR K args xs.toList|_=>false
 | .mkslice sz bytes zero=>match o with| .makeSlice t l c=>(match zaW P t with|some e=>yJ P e==some sz && ziI P e==some bytes && zbw P e zero|none=>false) && zR K args [l,c]|_=>false
 | .call key=>match o with| .call {callee:=.value (.func f),args:=xs,..}=>K key==some f && vY P f && zR K args xs.toList|_=>false
 | .callv=>match o with| .call {callee:=.value x,args:=xs,..}=>zR K args (x::xs.toList)|_=>false
 | .rangeM=>match o with| .range t x=>zf1 P #[t] && zR K args [x]|_=>false
 | .nextM=>match o with| .next x false=>zR K args [x]|_=>false
 | .entryM=>match o with| .entry x=>zR K args [x]|_=>false
 | .nilSl=>match o with| .binOp .eql t x (.const (.slice none 0 0)) _=>(zaW P t).isSome && zR K args [x]|_=>false
 | .tell=>match o with| .move x| .assign x=>zR K args [x]|_=>false
 | .bad=>true
def we (P:Program) (K:Nat -> Option Nat) (ops:Array Oper) (o:Oper) (i:zn):Bool:=
 o.dst==i.dst && yH P K o.op i.op i.args &&
  match o.guard,i.guard with
  |none,none=>true
  |some (j,b),some (t,b')=>b==b' && ((ops[j]?).bind (·.dst))==some t
  |_,_=>false
def wi (P:Program) (K:Nat -> Option Nat) (ops:Array Oper):List Oper -> List zn -> Bool
 |[],[]=>true
 |o::l,i::m=>we P K ops o i && wi P K ops l m
 |_,_=>false
structure vf where
 reads:List Nat
 writes:List Nat
 rr:Option Nat:=none
 rw:Option Nat:=none
 hr:Bool:=false
 hw:Bool:=false
def zfs:List zl -> List Nat
 |[]=>[]
 | .t n::l=>n::zfs l
 |_::l=>zfs l
def zd3 (i:zn):List Nat:=zfs i.args++(match i.guard with|some (t,_)=>[t]|none=>[])
def zX (A:Nat -> jM) (ext:Nat -> Bool) (i:zn):vf:=
 let f:vf:={reads:=zd3 i,writes:=i.dst.toList}
 match i.op with
 | .pur _=>f
 | .ld (some r) _ _=>{f with rr:=some r}
 | .ld none _ _=>{f with hr:=true}
 | .st (some r) _=>{f with rr:=some r,rw:=some r}
 | .alloc .reg _| .box .reg=>{f with rr:=i.dst,rw:=i.dst}
 | .lookup _ _ _| .lenM=>{f with hr:=true}
 | .call key=>if ext key=false /\ (A key=.calm \/ A key=.borrow) then {f with hr:=true} else if ext key=false /\ A key=.lone then f else {f with hr:=true,hw:=true}
 |_=>{f with hr:=true,hw:=true}
def k9 (f g:vf):Bool:=
 f.writes.all (fun t=>!g.reads.contains t && !g.writes.contains t) && g.writes.all (fun t=>!f.reads.contains t) &&
 (match f.rw with|some r=>g.rr !=some r && g.rw !=some r|none=>true) &&
 (match g.rw with|some r=>f.rr !=some r|none=>true) &&
 (!f.hw ||(!g.hr && !g.hw)) && (!g.hw ||!f.hr)
def zgW (ops:List Oper):List Nat:=
 ops.foldl (init:=[]) fun acc o=>
  acc++[o.after.foldl (fun s e=>if Region.binds .any e then s |||2 ^ e.on |||acc.getD e.on 0 else s) 0]
def zci (ops:Array Oper) (bs:List Nat) (i j:Nat):Bool:=
 match ops[i]? with
 |some o=>o.after.any fun e=>Region.binds .any e && (e.on==j ||(decide (j < e.on) && (bs.getD e.on 0).testBit j))
 |none=>false
def zpO (ops:Array Oper) (fs:List vf) (bs:List Nat):Bool:=
 (List.range ops.size).all fun i=>(List.range i).all fun j=>
  if (bs.getD i 0).testBit j then zci ops bs i j else match fs[j]?,fs[i]? with|some f,some g=>k9 f g|_,_=>false
def zhL (P:Program) (ops:Array Oper) (fs:List vf):Bool:=
 (P.follows .mixedOrders ||!Region.departs ops) && ops.toList.zipIdx.all (fun (o,i)=>o.after.all fun e=>!Region.binds .any e ||decide (e.on < i)) && zpO ops fs (zgW ops.toList)
def wu (i:zn):Option Nat:=match i.dst,i.op,i.args,i.guard with|none,.st none _,[.t a,_],none=>some a|_,_,_,_=>none
def zky (ops:Array Oper) (l:List zn) (bs:List Nat) (c:List (Nat×Nat)) (j i:Nat):Bool:=
 match (l[j]?).bind wu,(l[i]?).bind wu with
 |some a,some b=>c.contains (a,b) && decide (b < 1000) && (List.range l.length).all fun k=>decide (k <=j) ||(match l[k]? with
  |some z=>z.dst !=some a && (z.dst !=some b ||(decide (k < i) && (bs.getD i 0).testBit k && zci ops bs i k))
  |none=>false)
 |_,_=>false
def zl1 (A:Nat -> jM) (l:List zn) (fs:List vf) (c:List (Nat×Nat)) (j i:Nat):Bool:=
 match l[j]?,l[i]?,fs[j]?,fs[i]? with
 |some y,some x,some f,some g=>
  match y.op,y.args,x.op with
  | .ld none sz _,[.t a],.call key=>match A key with
    | .keepF cols=>f.writes.all (fun t=>!g.reads.contains t && !g.writes.contains t) && g.writes.all (fun t=>!f.reads.contains t) &&
     (cols.isEmpty ||(sz==1 && cols.all fun k=>c.contains (a,1000+k))) &&
     (List.range l.length).all fun k=>decide (k < j) ||(match l[k]? with|some z=>z.dst !=some a|none=>false)
    |_=>false
  |_,_,_=>false
 |_,_,_,_=>false
def zuc (A:Nat -> jM) (ops:Array Oper) (l:List zn) (fs:List vf) (bs:List Nat) (c:List (Nat×Nat)):Bool:=
 (List.range ops.size).all fun i=>(List.range i).all fun j=>
  if (bs.getD i 0).testBit j then zci ops bs i j else (match fs[j]?,fs[i]? with|some f,some g=>k9 f g|_,_=>false) ||(zky ops l bs c j i ||zl1 A l fs c j i)
def zmJ (P:Program) (A:Nat -> jM) (ops:Array Oper) (l:List zn) (fs:List vf) (c:List (Nat×Nat)):Bool:=
 (P.follows .mixedOrders ||!Region.departs ops) && ops.toList.zipIdx.all (fun (o,i)=>o.after.all fun e=>!Region.binds .any e ||decide (e.on < i)) && zuc A ops l fs (zgW ops.toList) c
def zdy:Code -> Bool
 | .seq a b=>zdy a && zdy b
 | .label _=>false
 |_=>true
def yR (P:Program) (K:Nat -> Option Nat) (A:Nat -> jM) (ext:Nat -> Bool):Code -> ACode -> Bool
 | .skip,.skip=>true
 | .region _ ops draw,.ops l=>wi P K ops ops.toList l && (!draw ||zhL P ops (l.map (zX A ext)))
 | .region _ ops draw,.opsC l c=>wi P K ops ops.toList l && draw && zmJ P A ops l (l.map (zX A ext)) c
 | .seq a b,.seq a' b'=>yR P K A ext a a' && yR P K A ext b b'
 | .cond c a b,.cond c' a' b'=>za1 K c' c && yR P K A ext a a' && yR P K A ext b b'
 | .block i c,.block i' c'=>i==i' && yR P K A ext c c'
 | .loop c,.loop _ _ c'=>yR P K A ext c c'
 | .exit i,.exit i'=>i==i'
 | .label i,.label i'=>i==i'
 | .goto i,.goto i'=>i==i'
 | .scope c,.scope b c'=>yR P K A ext c b && yR P K A ext c c'
 | .ret,.ret=>true
 |c,.ops [{dst:=none,op:=.bad,args:=[],guard:=none}]=>zdy c
 |_,_=>false
def kg (P:Program):List ResultVar -> List qN -> Bool
 |[],[]=>true
 | .tmp t::l,.tmp t'::m=>t==t' && kg P l m
 | .cell t ty::l,.cell t' sz agg::m=>t==t' && yJ P ty==some sz && zah P ty==some agg && (agg ||sz==1) && kg P l m
 |_,_=>false
def vF (P:Program) (K:Nat -> Option Nat) (A:Nat -> jM) (ext:Nat -> Bool) (f:Func) (a:zd):Bool:=
 f.ntmps==a.ntmps && kg P f.results.toList a.res && (match f.body with|some c=>yR P K A ext c a.body|none=>false)
def yN (G:Gh) (ρ:Nat -> Option Nat) (rg:Nat -> Option (List AV)) (w:World) (v:AV) (x:Value):Prop:=
 match v with
 | .reg r c=>(rg r).isSome /\ ∃b,ρ r=some b /\ x=.pointer (some ⟨b,c,none⟩)
 |v=>Rep G w v x
theorem yN.rep {G:Gh} {ρ:Nat -> Option Nat} {rg:Nat -> Option (List AV)} {w:World} {v:AV} {x:Value} (hv:v.isReg=false) (h:yN G ρ rg w v x):Rep G w v x:=by
 cases v<;>first|exact h|simp [AV.isReg]at hv
theorem Rep.trep {G:Gh} {ρ:Nat -> Option Nat} {rg:Nat -> Option (List AV)} {w:World} {v:AV} {x:Value} (h:Rep G w v x):yN G ρ rg w v x:=by
 cases v<;>first|exact h|(cases h;done)
theorem yN.mono {G G':Gh} {w w':World} (h:Le G w G' w') {ρ ρ':Nat -> Option Nat} {rg rg':Nat -> Option (List AV)} {v:AV} {x:Value}
 (hr:∀r,(rg r).isSome -> (rg' r).isSome /\ ρ' r=ρ r) (ht:yN G ρ rg w v x):yN G' ρ' rg' w' v x:=by
 cases v<;>first
  |exact Rep.mono h ht
  |(obtain ⟨h1,b,h2,h3⟩:=ht
    exact ⟨(hr _ h1).1,b,by rw [(hr _ h1).2];exact h2,h3⟩)
structure Fr (A:zx) (D:Nat -> Prop) (G:Gh) (ρ:Nat -> Option Nat) (σ:ASt) (a:Act) (w:World):Prop where
 defers:a.defers=[]
 size:a.tmps.size=σ.tm.length
 tmp:∀p v,σ.tm[p]?=some v -> yN G ρ σ.rg w v (a.tmps.getD p undef)
 reg:∀r cs,σ.rg r=some cs -> ∃b c e,ρ r=some b /\ w.heap[b]?=some (.cells c e (0,0)) /\ zp G w cs c.toList /\ D b /\ ∀off,¬G.P b off
 rinj:∀r r' cs cs' b,σ.rg r=some cs -> σ.rg r'=some cs' -> ρ r=some b -> ρ r'=some b -> r=r'
 rhp:∀r cs b id o x,σ.rg r=some cs -> ρ r=some b -> σ.S.heap id=some o -> G.ι id=some x -> 0 < x.2.2 -> x.1≠b
 sim:Sim G σ.S w
 dwr:∀b,Wr G σ.S b -> D b
 dnew:∀b,w.heap.size <=b -> D b
 glob:∀g v,A.glob g=some v -> ∀m,G.K (10000+g)=some m -> kV G w v m
theorem vq {w:World} {o:Obj} {b:Nat} (h:b < w.heap.size):(w.alloc o).heap[b]?=w.heap[b]?:=by
 rw [World.alloc];simp only [Array.getElem?_push,Nat.ne_of_lt h,if_false]
theorem zd1 {w:World} {o:Obj}:(w.alloc o).heap[w.heap.size]?=some o:=by
 rw [World.alloc];simp only [Array.getElem?_push,if_true]
theorem zdk {w:World} {b:Nat} {o:Obj} (h:w.heap[b]?=some o):b < w.heap.size:=by
 rcases Nat.lt_or_ge b w.heap.size with h'|h'
 ·exact h'
 ·simp [Array.getElem?_eq_none h']at h
theorem zaq {w w':World} {b:Nat} (h:w'.heap[b]?=w.heap[b]?) (o:Nat):w'.cell? ⟨b,o,none⟩=w.cell? ⟨b,o,none⟩:=by
 simp only [World.cell?,h]
theorem vn.keep {G G':Gh} {w w':World} (hl:Le G w G' w') {x:Nat×Nat×Nat} {o:jb} (hb:0 < x.2.2 -> w'.heap[x.1]?=w.heap[x.1]?) (h:vn G w x o):vn G' w' x o:=by
 cases o with
 |rows sz rs=>
  obtain ⟨h1,h2,h3,h4⟩:=h;refine ⟨h1,h2,h3,?_⟩;rcases Nat.eq_zero_or_pos x.2.2 with h0|h0
  ·exact .inl h0
  ·rcases h4 with h4|⟨c,e,vs,e1,e2,e3,e4⟩
   ·exact .inl h4
   ·exact .inr ⟨c,e,vs,by rw [hb h0];exact e1,e2,e3.mono hl,e4⟩
 |map es=>
  obtain ⟨h0,ms,cl,e1,e2,e3,e4⟩:=h;exact ⟨h0,ms,cl,by rw [hb h0];exact e1,e2,e3.mono hl,e4⟩
theorem vn.lt {G:Gh} {w:World} {x:Nat×Nat×Nat} {o:jb} (h:vn G w x o) (h0:0 < x.2.2):x.1 < w.heap.size:=by
 cases o with
 |rows sz rs=>
  obtain ⟨_,_,_,h4⟩:=h;rcases h4 with h4|⟨c,e,vs,e1,_⟩
  ·omega
  ·exact zdk e1
 |map es=>
  obtain ⟨_,ms,cl,e1,_⟩:=h;exact zdk e1
theorem Sim.keep {G G':Gh} {S:AS} {w w':World} (h:Sim G S w) (hl:Le G w G' w') (hi:∀id,S.heap id=none -> S.n <=id -> G'.ι id=none)
 (hb:∀id o x,S.heap id=some o -> G.ι id=some x -> 0 < x.2.2 -> w'.heap[x.1]?=w.heap[x.1]?)
 (hp:∀id o x off,S.ro <=id -> S.heap id=some o -> G.ι id=some x -> 0 < x.2.2 -> G'.P x.1 off -> G.P x.1 off)
 (hlt:∀b o,G'.P b o -> b < w'.heap.size):Sim G' S w' where
 obj:=fun id o e=>by
  obtain ⟨x,hx,ho⟩:=h.obj id o e;exact ⟨x,hl.ι _ _ hx,ho.keep hl (hb id o x e hx)⟩
 fresh:=fun id e=>⟨(h.fresh id e).1,hi id (h.fresh id e).1 e⟩
 inj:=fun id id' o o' x x' e e' hx hx' h0 h0' hb'=>by
  obtain ⟨y,hy,_⟩:=h.obj id o e;obtain ⟨y',hy',_⟩:=h.obj id' o' e';have a1:=hl.ι _ _ hy;have a2:=hl.ι _ _ hy';rw [hx]at a1;rw [hx']at a2;cases a1;cases a2;exact h.inj id id' o o' _ _ e e' hy hy' h0 h0' hb'
 own:=fun id o x off hr e hx h0 hP=>by
  obtain ⟨y,hy,_⟩:=h.obj id o e;have a1:=hl.ι _ _ hy;rw [hx]at a1;cases a1;exact h.own id o _ off hr e hy h0 (hp id o _ off hr e hy h0 hP)
 lt:=hlt
 ro:=h.ro
def Gh.shut (G:Gh) (b:Nat):Gh:={G with P:=fun b' o=>G.P b' o \/ b'=b}
theorem zpf (G:Gh) (w:World) (o:Obj) (hlt:∀b o,G.P b o -> b < w.heap.size):Le G w (G.shut w.heap.size) (w.alloc o):=
 ⟨fun _ _ h=>h,fun _ _ h=>.inl h,rfl,fun b o' v hp hc=>by rw [zaq (vq (hlt _ _ hp))];exact hc⟩
theorem zIE {D:Nat -> Prop} {G:Gh} {w:World} {o:Obj} (hlt:∀b o,G.P b o -> b < w.heap.size) (hd:∀b,w.heap.size <=b -> D b):Ext D G w (G.shut w.heap.size) (w.alloc o):=
 {toLe:=zpf G w o hlt,size:=by simp,keep:=fun b hb _=>vq hb,stay:=fun b o hp=>vq (hlt b o hp),new:=fun b o h=>h.imp id fun e=>hd b (by omega),io:=⟨rfl,rfl,rfl⟩}
theorem zBV (G:Gh) (w:World) (vs:List Value) (e:Nat) (fz:Nat×Nat):At (G.shut w.heap.size) (w.alloc (.cells vs.toArray e fz)) w.heap.size 0 vs:=by
 intro i v h;refine ⟨.inr rfl,?_⟩;simp only [World.cell?,zd1];simpa using h
theorem zF8 {G:Gh} {S:AS} {w:World} {o:Obj} (h:Sim G S w):Sim (G.shut w.heap.size) S (w.alloc o):=by
 refine h.keep (zpf G w o h.lt) (fun id _ hn=>(h.fresh id hn).2) ?_ ?_ ?_
 ·intro id o' x e hx h0;obtain ⟨y,hy,ho⟩:=h.obj id o' e;rw [hx]at hy;cases hy;exact vq (ho.lt h0)
 ·intro id o' x off _ e hx h0 hp;obtain ⟨y,hy,ho⟩:=h.obj id o' e;rw [hx]at hy;cases hy;have:=ho.lt h0;exact hp.resolve_right (by omega)
 ·intro b o' hp;rcases hp with hp|hp
  ·have:=h.lt _ _ hp;simp;omega
  ·subst hp;simp
theorem Fr.keep {A:zx} {D:Nat -> Prop} {G G':Gh} {ρ:Nat -> Option Nat} {σ:ASt} {S':AS} {a:Act} {w w':World} (h:Fr A D G ρ σ a w) (hx:Ext D G w G' w') (hs:Sim G' S' w')
 (hreg:∀r cs b,σ.rg r=some cs -> ρ r=some b -> w'.heap[b]?=w.heap[b]? /\ (∀off,G'.P b off -> G.P b off) /\ ∀id o x,S'.heap id=some o -> G'.ι id=some x -> 0 < x.2.2 -> x.1≠b)
 (hd:∀b,Wr G' S' b -> D b):Fr A D G' ρ {σ with S:=S'} a w' where
 defers:=h.defers
 size:=h.size
 tmp:=fun p v e=>(h.tmp p v e).mono hx.toLe fun r hr=>⟨hr,rfl⟩
 reg:=fun r cs e=>by
  obtain ⟨b,c,el,h1,h2,h3,h4,h5⟩:=h.reg r cs e;obtain ⟨k1,k2,_⟩:=hreg r cs b e h1;exact ⟨b,c,el,h1,by rw [k1];exact h2,h3.mono hx.toLe,h4,fun off hp=>h5 off (k2 off hp)⟩
 rinj:=h.rinj
 rhp:=fun r cs b id o x e hb ho hx' h0=>(hreg r cs b e hb).2.2 id o x ho hx' h0
 sim:=hs
 dwr:=hd
 dnew:=fun b hb=>h.dnew b (Nat.le_trans hx.size hb)
 glob:=fun g v e m k=>(h.glob g v e m (by rw [<- hx.toLe.K];exact k)).ext hx
theorem Fr.reg_lt {A:zx} {D:Nat -> Prop} {G:Gh} {ρ:Nat -> Option Nat} {σ:ASt} {a:Act} {w:World} (h:Fr A D G ρ σ a w) {r:Nat} {cs:List AV} {b:Nat} (e:σ.rg r=some cs) (hb:ρ r=some b):b < w.heap.size:=by
 obtain ⟨b',c,el,h1,h2,_⟩:=h.reg r cs e;rw [hb]at h1;cases h1;exact zdk h2
theorem Fr.shut {A:zx} {D:Nat -> Prop} {G:Gh} {ρ:Nat -> Option Nat} {σ:ASt} {a:Act} {w:World} (h:Fr A D G ρ σ a w) (o:Obj):
 Fr A D (G.shut w.heap.size) ρ σ a (w.alloc o) /\ Ext D G w (G.shut w.heap.size) (w.alloc o):=by
 have hx:Ext D G w (G.shut w.heap.size) (w.alloc o):=zIE h.sim.lt h.dnew;refine ⟨h.keep hx (zF8 h.sim) ?_ h.dwr,hx⟩;intro r cs b e hb;have hlt:=h.reg_lt e hb;refine ⟨vq hlt,fun off hp=>hp.resolve_right (by omega),fun id o x ho hx' h0=>h.rhp r cs b id o x e hb ho hx' h0⟩
def Gh.made (G:Gh) (id:Nat) (x:Nat×Nat×Nat):Gh:={G with ι:=fun j=>if j=id then some x else G.ι j}
theorem zfz {G:Gh} {w:World} {o:Obj} {id:Nat} {x:Nat×Nat×Nat} (hi:G.ι id=none) (hlt:∀b o,G.P b o -> b < w.heap.size):Le G w (G.made id x) (w.alloc o):=
 ⟨fun j y h=>by simp only [Gh.made];rw [if_neg (by rintro rfl;rw [hi]at h;cases h)];exact h,fun _ _ h=>h,rfl,
  fun b o' v hp hc=>by rw [zaq (vq (hlt _ _ hp))];exact hc⟩
theorem zuH {D:Nat -> Prop} {G:Gh} {w:World} {o:Obj} {id:Nat} {x:Nat×Nat×Nat} (hi:G.ι id=none) (hlt:∀b o,G.P b o -> b < w.heap.size):Ext D G w (G.made id x) (w.alloc o):=
 {toLe:=zfz hi hlt,size:=by simp,keep:=fun b hb _=>vq hb,stay:=fun b o hp=>vq (hlt b o hp),new:=fun b o h=>.inl h,io:=⟨rfl,rfl,rfl⟩}
theorem zyL {G:Gh} {S:AS} {w:World} {o:Obj} {sz N:Nat} {ao:jb} (h:Sim G S w) (ho:vn (G.made S.n (w.heap.size,sz,N)) (w.alloc o) (w.heap.size,sz,N) ao):
 Sim (G.made S.n (w.heap.size,sz,N)) (S.new ao) (w.alloc o):=by
 have hi:=(h.fresh S.n (Nat.le_refl _)).2;have hle:Le G w (G.made S.n (w.heap.size,sz,N)) (w.alloc o):=zfz hi h.lt;have old:∀id o' x,S.heap id=some o' -> (G.made S.n (w.heap.size,sz,N)).ι id=some x -> G.ι id=some x /\ id≠S.n:=by
  intro id o' x e hx;have hne:id≠S.n:=by rintro rfl;rw [(h.fresh _ (Nat.le_refl _)).1]at e;cases e
  simp only [Gh.made,if_neg hne]at hx;exact ⟨hx,hne⟩
 have oldlt:∀id o' x,S.heap id=some o' -> G.ι id=some x -> 0 < x.2.2 -> x.1 < w.heap.size:=by
  intro id o' x e hx h0;obtain ⟨y,hy,hr⟩:=h.obj id o' e;rw [hx]at hy;cases hy;exact hr.lt h0
 refine ⟨?_,?_,?_,?_,?_,?_⟩
 ·intro id o' e;simp only [AS.new]at e;split at e
  ·rename_i heq;subst heq;cases e;exact ⟨_,by simp [Gh.made],ho⟩
  ·obtain ⟨x,hx,hr⟩:=h.obj id o' e;exact ⟨x,hle.ι _ _ hx,hr.keep hle fun h0=>vq (hr.lt h0)⟩
 ·intro id e;simp only [AS.new]at e ⊢;have hne:id≠S.n:=by omega
  simp only [Gh.made,if_neg hne];exact h.fresh id (by omega)
 ·intro id id' o1 o2 x x' e e' hx hx' h0 h0' hb;simp only [AS.new]at e e';split at e
  ·rename_i heq;subst heq;split at e'
   ·rename_i heq';exact heq'.symm
   ·rename_i hne';simp only [Gh.made,if_pos rfl]at hx;cases hx;obtain ⟨k,_⟩:=old id' _ _ e' hx';have:=oldlt id' _ _ e' k h0';simp only at hb;omega
  ·split at e'
   ·rename_i heq';subst heq';simp only [Gh.made,if_pos rfl]at hx';cases hx';obtain ⟨k,_⟩:=old id _ _ e hx;have:=oldlt id _ _ e k h0;simp only at hb;omega
   ·exact h.inj id id' o1 o2 x x' e e' (old id _ _ e hx).1 (old id' _ _ e' hx').1 h0 h0' hb
 ·intro id o' x off hr e hx h0 hp;simp only [AS.new]at e hr;split at e
  ·rename_i heq;subst heq;simp only [Gh.made,if_pos rfl]at hx;cases hx;have:=h.lt _ _ hp;simp only at this;omega
  ·exact h.own id o' x off hr e (old id _ _ e hx).1 h0 hp
 ·intro b o' hp;have:=h.lt b o' hp;simp;omega
 ·simp only [AS.new];have:=h.ro;omega
theorem zAc {G:Gh} {S:AS} {w:World} {sz N:Nat} {ao:jb} (h:Sim G S w) {b:Nat} (hb:Wr (G.made S.n (w.heap.size,sz,N)) (S.new ao) b):Wr G S b \/ b=w.heap.size:=by
 obtain ⟨id,o,x,hr,e,hx,h0,hb⟩:=hb;simp only [AS.new]at e hr;split at e
 ·rename_i heq;subst heq;simp only [Gh.made,if_pos rfl]at hx;cases hx;exact .inr hb.symm
 ·rename_i hne;simp only [Gh.made,if_neg hne]at hx;exact .inl ⟨id,o,x,hr,e,hx,h0,hb⟩
theorem Fr.made {A:zx} {D:Nat -> Prop} {G:Gh} {ρ:Nat -> Option Nat} {σ:ASt} {a:Act} {w:World} (h:Fr A D G ρ σ a w) (o:Obj) {sz N:Nat} {ao:jb}
 (ho:vn (G.made σ.S.n (w.heap.size,sz,N)) (w.alloc o) (w.heap.size,sz,N) ao):
 Fr A D (G.made σ.S.n (w.heap.size,sz,N)) ρ {σ with S:=σ.S.new ao} a (w.alloc o) /\ Ext D G w (G.made σ.S.n (w.heap.size,sz,N)) (w.alloc o):=by
 have hi:=(h.sim.fresh σ.S.n (Nat.le_refl _)).2;have hx:Ext D G w (G.made σ.S.n (w.heap.size,sz,N)) (w.alloc o):=zuH hi h.sim.lt;refine ⟨h.keep hx (zyL h.sim ho) ?_ ?_,hx⟩
 ·intro r cs b e hb;have hlt:=h.reg_lt e hb;refine ⟨vq hlt,fun _ hp=>hp,fun id o' x e' hx' h0=>?_⟩;simp only [AS.new]at e';split at e'
  ·rename_i heq;subst heq;simp only [Gh.made,if_pos rfl]at hx';cases hx';simp only;omega
  ·rename_i hne;simp only [Gh.made,if_neg hne]at hx';exact h.rhp r cs b id o' x e hb e' hx' h0
 ·intro b hb;rcases zAc h.sim hb with hb|hb
  ·exact h.dwr b hb
  ·exact h.dnew b (by omega)
theorem Fr.newReg {A:zx} {D:Nat -> Prop} {G:Gh} {ρ:Nat -> Option Nat} {σ:ASt} {a:Act} {w:World} (h:Fr A D G ρ σ a w) {cs:List AV} {vs:List Value} (hc:zp G w cs vs) (e t:Nat) (ht:σ.rg t=none):
 Fr A D G (fun r=>if r=t then some w.heap.size else ρ r) {σ with rg:=upd σ.rg t cs} a (w.alloc (.cells vs.toArray e (0,0))) /\ Ext D G w G (w.alloc (.cells vs.toArray e (0,0))) /\
  yN G (fun r=>if r=t then some w.heap.size else ρ r) (upd σ.rg t cs) (w.alloc (.cells vs.toArray e (0,0))) (.reg t 0) (.pointer (some ⟨w.heap.size,0,none⟩)):=by
 have hle:Le G w G (w.alloc (.cells vs.toArray e (0,0))):=⟨fun _ _ h=>h,fun _ _ h=>h,rfl,fun b o v hp hc=>by rw [zaq (vq (h.sim.lt _ _ hp))];exact hc⟩;have hx:Ext D G w G (w.alloc (.cells vs.toArray e (0,0))):={toLe:=hle,size:=by simp,keep:=fun b hb _=>vq hb,stay:=fun b o hp=>vq (h.sim.lt b o hp),new:=fun b o h=>.inl h,io:=⟨rfl,rfl,rfl⟩};refine ⟨⟨h.defers,h.size,?_,?_,?_,?_,?_,h.dwr,fun b hb=>h.dnew b (Nat.le_trans hx.size hb),fun g v e m k=>(h.glob g v e m (by rw [<- hle.K];exact k)).ext hx⟩,hx,?_⟩
 ·intro p v e';refine (h.tmp p v e').mono hle fun r hr=>?_;have hne:r≠t:=by rintro rfl;rw [ht]at hr;cases hr
  refine ⟨?_,if_neg hne⟩;simp only [upd,if_neg hne];exact hr
 ·intro r cs' e';simp only [upd]at e';split at e'
  ·rename_i heq;subst heq;cases e';refine ⟨w.heap.size,vs.toArray,e,by simp,zd1,by simpa using hc.mono hle,h.dnew _ (Nat.le_refl _),fun off hp=>?_⟩;have:=h.sim.lt _ _ hp;omega
  ·rename_i hne;obtain ⟨b,c,el,h1,h2,h3,h4,h5⟩:=h.reg r cs' e';exact ⟨b,c,el,by simp [hne,h1],by rw [vq (zdk h2)];exact h2,h3.mono hle,h4,h5⟩
 ·intro r r' c1 c2 b e1 e2 h1 h2;simp only [upd]at e1 e2;split at e1
  ·rename_i heq;subst heq;split at e2
   ·rename_i heq;exact heq.symm
   ·rename_i hne;simp only [if_pos rfl,if_neg hne]at h1 h2;cases h1;have:=h.reg_lt e2 h2;omega
  ·rename_i hne;split at e2
   ·rename_i heq;subst heq;simp only [if_neg hne,if_pos rfl]at h1 h2;cases h2;have:=h.reg_lt e1 h1;omega
   ·rename_i hne2;simp only [if_neg hne,if_neg hne2]at h1 h2;exact h.rinj r r' c1 c2 b e1 e2 h1 h2
 ·intro r c1 b id o x e1 hb ho hx' h0;simp only [upd]at e1;split at e1
  ·rename_i heq;subst heq;simp only [if_pos rfl]at hb;cases hb;obtain ⟨y,hy,hr⟩:=h.sim.obj id o ho;have hx':G.ι id=some x:=hx';rw [hx']at hy;cases hy;have:=hr.lt h0;omega
  ·rename_i hne;simp only [if_neg hne]at hb;exact h.rhp r c1 b id o x e1 hb ho hx' h0
 ·refine h.sim.keep hle (fun id _ hn=>(h.sim.fresh id hn).2) ?_ (fun _ _ _ _ _ _ _ _ hp=>hp) fun b o hp=>by have:=h.sim.lt _ _ hp;simp;omega
  intro id o x e' hx' h0;obtain ⟨y,hy,hr⟩:=h.sim.obj id o e';rw [hx']at hy;cases hy;exact vq (hr.lt h0)
 ·exact ⟨by simp [upd],w.heap.size,by simp,rfl⟩
theorem Sim.less {G:Gh} {S:AS} {w:World} (h:Sim G S w) {hp:Nat -> Option jb} (hh:∀id o,hp id=some o -> S.heap id=some o):Sim G {S with heap:=hp} w where
 obj:=fun id o e=>h.obj id o (hh id o e)
 fresh:=fun id e=>⟨by
  cases hn:hp id with
  |none=>exact hn
  |some o=>exact absurd (hh id o hn) (by rw [(h.fresh id e).1];simp),(h.fresh id e).2⟩
 inj:=fun id id' o o' x x' e e'=>h.inj id id' o o' x x' (hh _ _ e) (hh _ _ e')
 own:=fun id o x off hr e=>h.own id o x off hr (hh _ _ e)
 lt:=h.lt
 ro:=h.ro
theorem Wr.less {G:Gh} {S:AS} {hp:Nat -> Option jb} (hh:∀id o,hp id=some o -> S.heap id=some o) {b:Nat} (h:Wr G {S with heap:=hp} b):Wr G S b:=by
 obtain ⟨id,o,x,h1,h2,h3⟩:=h;exact ⟨id,o,x,h1,hh _ _ h2,h3⟩
theorem Fr.less {A:zx} {D:Nat -> Prop} {G:Gh} {ρ:Nat -> Option Nat} {σ:ASt} {a:Act} {w:World} (h:Fr A D G ρ σ a w) {hp:Nat -> Option jb} (hh:∀id o,hp id=some o -> σ.S.heap id=some o):
 Fr A D G ρ {σ with S:={σ.S with heap:=hp}} a w where
 defers:=h.defers
 size:=h.size
 tmp:=h.tmp
 reg:=h.reg
 rinj:=h.rinj
 rhp:=fun r cs b id o x e hb ho=>h.rhp r cs b id o x e hb (hh _ _ ho)
 sim:=h.sim.less hh
 dwr:=fun b hb=>h.dwr b (hb.less hh)
 dnew:=h.dnew
 glob:=h.glob
structure zfm (D:Nat -> Prop) (G:Gh) (ρ:Nat -> Option Nat) (σ:ASt) (b:Nat):Prop where
 d:D b
 p:∀off,¬G.P b off
 obj:∀id o x,σ.S.heap id=some o -> G.ι id=some x -> 0 < x.2.2 -> x.1≠b
 reg:∀r cs,σ.rg r=some cs -> ρ r≠some b
theorem Fr.free_kill {A:zx} {D:Nat -> Prop} {G:Gh} {ρ:Nat -> Option Nat} {σ:ASt} {a:Act} {w:World} (h:Fr A D G ρ σ a w) {id:Nat} {o:jb} {x:Nat×Nat×Nat}
 (hr:σ.S.ro <=id) (ho:σ.S.heap id=some o) (hx:G.ι id=some x) (h0:0 < x.2.2):zfm D G ρ {σ with S:=σ.S.set id none} x.1 where
 d:=h.dwr _ ⟨id,o,x,hr,ho,hx,h0,rfl⟩
 p:=fun off=>h.sim.own id o x off hr ho hx h0
 obj:=fun id' o' x' e hx' h0' hb=>by
  simp only [AS.set]at e;split at e
  ·cases e
  ·rename_i hne;exact hne (h.sim.inj id' id o' o x' x e ho hx' hx h0' h0 hb)
 reg:=fun r cs e hb=>h.rhp r cs _ id o x e hb ho hx h0 rfl
theorem zBf {G:Gh} {w w':World} {b:Nat} (hp:∀off,¬G.P b off) (hw:∀b',b'≠b -> w'.heap[b']?=w.heap[b']?):Le G w G w':=
 ⟨fun _ _ h=>h,fun _ _ h=>h,rfl,fun b' o v hP hc=>by
  have hne:b'≠b:=by rintro rfl;exact hp o hP
  rw [zaq (hw b' hne)];exact hc⟩
theorem zoA {D:Nat -> Prop} {G:Gh} {w w':World} {b:Nat} (hp:∀off,¬G.P b off) (hd:D b) (hs:w.heap.size <=w'.heap.size) (hw:∀b',b'≠b -> w'.heap[b']?=w.heap[b']?) (hio:Io w w'):Ext D G w G w':=
 {toLe:=zBf hp hw,size:=hs,keep:=fun b' _ hn=>hw b' (by rintro rfl;exact hn hd),stay:=fun b' o hP=>hw b' (by rintro rfl;exact hp o hP),new:=fun _ _ h=>.inl h,io:=hio}
theorem Fr.write {A:zx} {D:Nat -> Prop} {G:Gh} {ρ:Nat -> Option Nat} {σ:ASt} {a:Act} {w w':World} (h:Fr A D G ρ σ a w) {b:Nat} (hf:zfm D G ρ σ b)
 (hs:w.heap.size <=w'.heap.size) (hw:∀b',b'≠b -> w'.heap[b']?=w.heap[b']?) (hio:Io w w'):Fr A D G ρ σ a w' /\ Ext D G w G w':=by
 have hx:Ext D G w G w':=zoA hf.p hf.d hs hw hio;have hsim:Sim G σ.S w':=by
  refine h.sim.keep hx.toLe (fun id _ hn=>(h.sim.fresh id hn).2) ?_ (fun _ _ _ _ _ _ _ _ hp=>hp) fun b o hp=>Nat.lt_of_lt_of_le (h.sim.lt b o hp) hs;intro id o x e hx' h0;exact hw _ (hf.obj id o x e hx' h0)
 refine ⟨h.keep hx hsim ?_ h.dwr,hx⟩;intro r cs b' e hb;refine ⟨hw _ (by rintro rfl;exact hf.reg r cs e hb),fun _ hp=>hp,fun id o x ho hx' h0=>h.rhp r cs b' id o x e hb ho hx' h0⟩
theorem Fr.same {A:zx} {D:Nat -> Prop} {G:Gh} {ρ:Nat -> Option Nat} {σ:ASt} {a:Act} {w w':World} (h:Fr A D G ρ σ a w) (hw:w'.heap=w.heap) (hio:Io w w':=by exact ⟨rfl,rfl,rfl⟩):Fr A D G ρ σ a w' /\ Ext D G w G w':=by
 have hle:Le G w G w':=⟨fun _ _ h=>h,fun _ _ h=>h,rfl,fun b' o v hP hc=>by rw [zaq (w:=w) (w':=w') (by rw [hw])];exact hc⟩;have hx:Ext D G w G w':={toLe:=hle,size:=by rw [hw];exact Nat.le_refl _,keep:=fun b' _ _=>by rw [hw],stay:=fun b' _ _=>by rw [hw],new:=fun _ _ h=>.inl h,io:=hio};have hsim:Sim G σ.S w':=by
  refine h.sim.keep hle (fun id _ hn=>(h.sim.fresh id hn).2) (fun _ _ _ _ _ _=>by rw [hw]) (fun _ _ _ _ _ _ _ _ hp=>hp) fun b o hp=>by rw [hw];exact h.sim.lt b o hp
 exact ⟨h.keep hx hsim (fun r cs b' e hb=>⟨by rw [hw],fun _ hp=>hp,fun id o x ho hx' h0=>h.rhp r cs b' id o x e hb ho hx' h0⟩) h.dwr,hx⟩
theorem Fr.take {A:zx} {D:Nat -> Prop} {G:Gh} {ρ:Nat -> Option Nat} {σ:ASt} {a:Act} {w:World} (h:Fr A D G ρ σ a w) {id:Nat} {x:Nat×Nat×Nat} (hx:G.ι id=some x) (hn:σ.S.heap id=none) (hlt:id < σ.S.n)
 (hf:0 < x.2.2 -> zfm D G ρ σ x.1) {o:jb} (ho:vn G w x o):Fr A D G ρ {σ with S:=σ.S.set id (some o)} a w:=by
 have hcase:∀{id':Nat} {o':jb},(σ.S.set id (some o)).heap id'=some o' -> (id'=id /\ o'=o) \/ (id'≠id /\ σ.S.heap id'=some o'):=by
  intro id' o' e;simp only [AS.set]at e;split at e
  ·rename_i heq;cases e;exact .inl ⟨heq,rfl⟩
  ·rename_i hne;exact .inr ⟨hne,e⟩
 refine ⟨h.defers,h.size,h.tmp,h.reg,h.rinj,?_,⟨?_,?_,?_,?_,h.sim.lt,h.sim.ro⟩,?_,h.dnew,h.glob⟩
 ·intro r cs b id' o' x' e hb e' hx' h0;rcases hcase e' with ⟨rfl,rfl⟩|⟨_,e'⟩
  ·rw [hx]at hx';cases hx';intro hb';subst hb';exact (hf h0).reg r cs e hb
  ·exact h.rhp r cs b id' o' x' e hb e' hx' h0
 ·intro id' o' e';rcases hcase e' with ⟨rfl,rfl⟩|⟨_,e'⟩
  ·exact ⟨x,hx,ho⟩
  ·exact h.sim.obj id' o' e'
 ·intro id' e';have e':σ.S.n <=id':=e';refine ⟨?_,(h.sim.fresh id' e').2⟩;simp only [AS.set];rw [if_neg (by omega)];exact (h.sim.fresh id' e').1
 ·intro i j o1 o2 x1 x2 e1 e2 h1 h2 p1 p2 hb;rcases hcase e1 with ⟨q1,r1⟩|⟨n1,f1⟩<;>rcases hcase e2 with ⟨q2,r2⟩|⟨n2,f2⟩
  ·rw [q1,q2]
  ·rw [q1,hx]at h1;cases h1;exact absurd hb.symm ((hf p1).obj j o2 x2 f2 h2 p2)
  ·rw [q2,hx]at h2;cases h2;exact absurd hb ((hf p2).obj i o1 x1 f1 h1 p1)
  ·exact h.sim.inj i j o1 o2 x1 x2 f1 f2 h1 h2 p1 p2 hb
 ·intro id' o' x' off hr e' hx' h0;rcases hcase e' with ⟨rfl,rfl⟩|⟨_,e'⟩
  ·rw [hx]at hx';cases hx';exact (hf h0).p off
  ·exact h.sim.own id' o' x' off hr e' hx' h0
 ·rintro b ⟨id',o',x',hr,e',hx',h0,hb⟩;rcases hcase e' with ⟨rfl,rfl⟩|⟨_,e'⟩
  ·rw [hx]at hx';cases hx';rw [<- hb];exact (hf h0).d
  ·exact h.dwr b ⟨id',o',x',hr,e',hx',h0,hb⟩
theorem Fr.adopt {A:zx} {D:Nat -> Prop} {G:Gh} {ρ:Nat -> Option Nat} {σ:ASt} {a:Act} {w:World} (h:Fr A D G ρ σ a w) {x:Nat×Nat×Nat} (hf:0 < x.2.2 -> zfm D G ρ σ x.1) {o:jb}
 (ho:vn (G.made σ.S.n x) w x o):Fr A D (G.made σ.S.n x) ρ {σ with S:=σ.S.new o} a w /\ Ext D G w (G.made σ.S.n x) w:=by
 have hi:=(h.sim.fresh σ.S.n (Nat.le_refl _)).2;have hle:Le G w (G.made σ.S.n x) w:=⟨fun j y h=>by simp only [Gh.made];rw [if_neg (by rintro rfl;rw [hi]at h;cases h)];exact h,fun _ _ h=>h,rfl,fun _ _ _ _ hc=>hc⟩;have hx:Ext D G w (G.made σ.S.n x) w:={toLe:=hle,size:=Nat.le_refl _,keep:=fun _ _ _=>rfl,stay:=fun _ _ _=>rfl,new:=fun _ _ h=>.inl h,io:=Io.refl w};have hcase:∀{id':Nat} {o':jb} {x':Nat×Nat×Nat},(σ.S.new o).heap id'=some o' -> (G.made σ.S.n x).ι id'=some x' -> (id'=σ.S.n /\ o'=o /\ x'=x) \/ (id'≠σ.S.n /\ σ.S.heap id'=some o' /\ G.ι id'=some x'):=by
  intro id' o' x' e e';simp only [AS.new,Gh.made]at e e';by_cases heq:id'=σ.S.n
  ·rw [if_pos heq]at e e';cases e;cases e';exact .inl ⟨heq,rfl,rfl⟩
  ·rw [if_neg heq]at e e';exact .inr ⟨heq,e,e'⟩
 refine ⟨⟨h.defers,h.size,fun p v e=>(h.tmp p v e).mono hle fun r hr=>⟨hr,rfl⟩,?_,h.rinj,?_,⟨?_,?_,?_,?_,h.sim.lt,?_⟩,?_,h.dnew,fun g v e m k=>(h.glob g v e m (by rw [<- hle.K];exact k)).ext hx⟩,hx⟩
 ·intro r cs e;obtain ⟨b,c,el,h1,h2,h3,h4,h5⟩:=h.reg r cs e;exact ⟨b,c,el,h1,h2,h3.mono hle,h4,h5⟩
 ·intro r cs b id' o' x' e hb e' hx' h0;rcases hcase e' hx' with ⟨rfl,rfl,rfl⟩|⟨_,e',hx'⟩
  ·intro hb';subst hb';exact (hf h0).reg r cs e hb
  ·exact h.rhp r cs b id' o' x' e hb e' hx' h0
 ·intro id' o' e';simp only [AS.new]at e';split at e'
  ·rename_i heq;cases e';exact ⟨x,by simp [Gh.made,heq],ho⟩
  ·obtain ⟨y,hy,hr⟩:=h.sim.obj id' o' e';exact ⟨y,hle.ι _ _ hy,hr.keep hle fun _=>rfl⟩
 ·intro id' e';simp only [AS.new]at e' ⊢;have hne:id'≠σ.S.n:=by omega
  simp only [Gh.made,if_neg hne];exact h.sim.fresh id' (by omega)
 ·intro i j o1 o2 x1 x2 e1 e2 h1 h2 p1 p2 hb;rcases hcase e1 h1 with ⟨q1,r1,s1⟩|⟨n1,f1,g1⟩<;>rcases hcase e2 h2 with ⟨q2,r2,s2⟩|⟨n2,f2,g2⟩
  ·rw [q1,q2]
  ·rw [s1]at hb p1;exact absurd hb.symm ((hf p1).obj j o2 x2 f2 g2 p2)
  ·rw [s2]at hb p2;exact absurd hb ((hf p2).obj i o1 x1 f1 g1 p1)
  ·exact h.sim.inj i j o1 o2 x1 x2 f1 f2 g1 g2 p1 p2 hb
 ·intro id' o' x' off hr e' hx' h0;rcases hcase e' hx' with ⟨rfl,rfl,rfl⟩|⟨_,e',hx'⟩
  ·exact (hf h0).p off
  ·exact h.sim.own id' o' x' off hr e' hx' h0
 ·have:=h.sim.ro;simp only [AS.new];omega
 ·rintro b ⟨id',o',x',hr,e',hx',h0,hb⟩;rcases hcase e' hx' with ⟨rfl,rfl,rfl⟩|⟨_,e',hx'⟩
  ·rw [<- hb];exact (hf h0).d
  ·exact h.dwr b ⟨id',o',x',hr,e',hx',h0,hb⟩
theorem Fr.writeReg {A:zx} {D:Nat -> Prop} {G:Gh} {ρ:Nat -> Option Nat} {σ:ASt} {a:Act} {w w':World} (h:Fr A D G ρ σ a w) {r b:Nat} {cs cs':List AV} (hr:σ.rg r=some cs) (hb:ρ r=some b)
 {c':Array Value} {e:Nat} (hs:w.heap.size <=w'.heap.size) (hw:∀b',b'≠b -> w'.heap[b']?=w.heap[b']?) (hc:w'.heap[b]?=some (.cells c' e (0,0))) (hrep:zp G w cs' c'.toList) (hio:Io w w'):
 Fr A D G ρ {σ with rg:=upd σ.rg r cs'} a w' /\ Ext D G w G w':=by
 obtain ⟨b0,c0,e0,h1,h2,h3,h4,h5⟩:=h.reg r cs hr;rw [hb]at h1;cases h1;have hx:Ext D G w G w':=zoA h5 h4 hs hw hio;have hsome:∀r',(σ.rg r').isSome -> (upd σ.rg r cs' r').isSome:=by
  intro r' hr';simp only [upd];split<;>simp_all
 refine ⟨⟨h.defers,h.size,fun p v e'=>(h.tmp p v e').mono hx.toLe fun r' hr'=>⟨hsome r' hr',rfl⟩,?_,?_,?_,?_,h.dwr,fun b hb'=>h.dnew b (Nat.le_trans hx.size hb'),fun g v e m k=>(h.glob g v e m (by rw [<- hx.toLe.K];exact k)).ext hx⟩,hx⟩
 ·intro r' cs1 e1;simp only [upd]at e1;split at e1
  ·rename_i heq;subst heq;cases e1;exact ⟨b,c',e,hb,hc,hrep.mono hx.toLe,h4,h5⟩
  ·rename_i hne;obtain ⟨b1,c1,e1',k1,k2,k3,k4,k5⟩:=h.reg r' cs1 e1;refine ⟨b1,c1,e1',k1,?_,k3.mono hx.toLe,k4,k5⟩;rw [hw b1 (by rintro rfl;exact hne (h.rinj r' r _ _ _ e1 hr k1 hb))];exact k2
 ·intro r1 r2 c1 c2 b' e1 e2 k1 k2;have:∀{r' cs1},upd σ.rg r cs' r'=some cs1 -> ∃cs2,σ.rg r'=some cs2:=by
   intro r' cs1 e;simp only [upd]at e;split at e
   ·rename_i heq;subst heq;exact ⟨cs,hr⟩
   ·exact ⟨cs1,e⟩
  obtain ⟨d1,e1⟩:=this e1;obtain ⟨d2,e2⟩:=this e2;exact h.rinj r1 r2 d1 d2 b' e1 e2 k1 k2
 ·intro r' cs1 b' id o x e1 hb' ho hx' h0;simp only [upd]at e1;split at e1
  ·rename_i heq;subst heq;exact h.rhp r' cs b' id o x hr hb' ho hx' h0
  ·exact h.rhp r' cs1 b' id o x e1 hb' ho hx' h0
 ·refine h.sim.keep hx.toLe (fun id _ hn=>(h.sim.fresh id hn).2) ?_ (fun _ _ _ _ _ _ _ _ hp=>hp) fun b o hp=>Nat.lt_of_lt_of_le (h.sim.lt b o hp) hs;intro id o x e' hx' h0;exact hw _ (h.rhp r cs b id o x hr hb e' hx' h0)
theorem Fr.put {A:zx} {D:Nat -> Prop} {G:Gh} {ρ:Nat -> Option Nat} {σ:ASt} {a:Act} {w:World} (h:Fr A D G ρ σ a w) (dst:Option Nat) {v:AV} {x:Value} (hv:yN G ρ σ.rg w v x):
 Fr A D G ρ (σ.put dst v) (a.put dst x) w:=by
 cases dst with
 |none=>exact h
 |some d=>
  refine ⟨h.defers,by simp [Act.put,ASt.put,h.size],?_,h.reg,h.rinj,h.rhp,h.sim,h.dwr,h.dnew,h.glob⟩;intro p y e;simp only [ASt.put]at e;simp only [Act.put];rw [List.getElem?_set]at e;rw [Array.getD_eq_getD_getElem?,Array.getElem?_setIfInBounds];by_cases hp:d=p
  ·subst hp;rw [if_pos rfl]at e;have hlt:d < σ.tm.length:=by
    by_cases hlt:d < σ.tm.length
    ·exact hlt
    ·simp [hlt]at e
   rw [if_pos hlt]at e;cases e;rw [if_pos rfl,if_pos (by rw [h.size];exact hlt)];exact hv
  ·rw [if_neg hp]at e;rw [if_neg hp,<- Array.getD_eq_getD_getElem?];exact h.tmp p y e
section
variable (ρ:Operand -> Value) (o:Oper)
theorem zo3 {x:Operand} (h:o.op=.move x):execOp ρ o=Pure.pure (.value (ρ x)):=by unfold execOp;rw [h]
theorem zoP {x:Operand} (h:o.op=.assign x):execOp ρ o=Pure.pure (.value (ρ x)):=by unfold execOp;rw [h]
theorem zvX {c a b:Operand} (h:o.op=.pick c a b):execOp ρ o=(do Pure.pure (.value (if <- Go.asBool (ρ c) then ρ a else ρ b))):=by unfold execOp;rw [h]
theorem zGc {e:TypeId} (h:o.op=.alloc e):execOp ρ o=(do Pure.pure (.value (<- Instr.alloc e true (.tuple #[])))):=by unfold execOp;rw [h]
theorem zou {e:TypeId} {x:Operand} (h:o.op=.box e x):execOp ρ o=(do Pure.pure (.value (<- Instr.box e (ρ x)))):=by unfold execOp;rw [h]
theorem ztc {t:TypeId} {ps:Array (Nat×Operand)} (h:o.op=.build t ps):execOp ρ o=(do Pure.pure (.value (<- Instr.build t (ps.map fun (i,x)=>(i,ρ x))))):=by unfold execOp;rw [h]
theorem zCv {t:TypeId} {n:Nat} {ps:Array (Nat×Operand)} (h:o.op=.buildSlice t n ps):execOp ρ o=(do Pure.pure (.value (<- Instr.buildSlice t n (ps.map fun (i,x)=>(i,ρ x))))):=by unfold execOp;rw [h]
theorem zGP {t:TypeId} {x:Operand} (h:o.op=.load t x):execOp ρ o=(do Pure.pure (.value (<- Instr.loadAt t (ρ x)))):=by unfold execOp;rw [h]
theorem zoi {t:TypeId} {x y:Operand} (h:o.op=.store t x y):execOp ρ o=(do Instr.storeAt t (ρ x) (ρ y);Pure.pure .skip):=by unfold execOp;rw [h]
theorem zkI {x:Operand} {a:Addr} (h:o.op=.nilCheck x) (hx:ρ x=.pointer (some a)):execOp ρ o=Pure.pure (.value (.pointer (some a))):=by unfold execOp;rw [h];simp only [hx]
theorem zDj {x:Operand} {t:TypeId} {v:Value} (h:o.op=.nilCheck x) (hx:ρ x=.iface t v):execOp ρ o=Pure.pure (.value (.iface t v)):=by unfold execOp;rw [h];simp only [hx]
theorem zDO {x:Operand} {f:FuncId} {a b:Array Value} (h:o.op=.nilCheck x) (hx:ρ x=.func (.func f) a b):execOp ρ o=Pure.pure (.value (.func (.func f) a b)):=by unfold execOp;rw [h];simp only [hx]
theorem zg4 {op:BinOp} {t t':TypeId} {x y:Operand} (h:o.op=.binOp op t x y t'):execOp ρ o=(do Pure.pure (.value (<- (do eqGuard op t x y (ρ x) (ρ y);binOp op t (ρ x) (ρ y))))):=by unfold execOp;rw [h]
theorem zuu {op:UnOp} {t:TypeId} {x:Operand} (h:o.op=.unOp op t x):execOp ρ o=(do Pure.pure (.value (<- Op.unary op (ρ x)))):=by unfold execOp;rw [h]
theorem zg7 {s d:TypeId} {x:Operand} (h:o.op=.convert s d x):execOp ρ o=(do Pure.pure (.value (<- convert s d (ρ x)))):=by unfold execOp;rw [h]
theorem zvp {f:Fn} {a b:Array Operand} (h:o.op=.makeFunc f a b):execOp ρ o=(do Pure.pure (.value (<- Instr.makeFunc f (a.map ρ) (b.map ρ)))):=by unfold execOp;rw [h]
theorem zCe {t:TypeId} {r:Option Operand} (h:o.op=.makeMap t r):execOp ρ o=(do Pure.pure (.value (<- Instr.makeMap t (r.map ρ)))):=by unfold execOp;rw [h]
theorem zyj {t:TypeId} {l c:Operand} (h:o.op=.makeSlice t l c):execOp ρ o=(do Pure.pure (.value (<- Instr.makeSlice t (ρ l) (ρ c)))):=by unfold execOp;rw [h]
theorem znf {t:TypeId} {x:Operand} {l hi m:Option Operand} (h:o.op=.slice t x l hi m):execOp ρ o=(do Pure.pure (.value (<- Instr.sliceAt t (ρ x) (l.map ρ) (hi.map ρ) (m.map ρ)))):=by unfold execOp;rw [h]
theorem zyl {t:TypeId} {x:Operand} {f:Nat} (h:o.op=.fieldAddr t x f):execOp ρ o=(do Pure.pure (.value (<- Instr.fieldAt t (ρ x) f))):=by unfold execOp;rw [h]
theorem zyz {t:TypeId} {x:Operand} {f:Nat} (h:o.op=.field t x f):execOp ρ o=(do Pure.pure (.value (<- Instr.field t (ρ x) f))):=by unfold execOp;rw [h]
theorem zku {t:TypeId} {x y:Operand} (h:o.op=.indexAddr t x y):execOp ρ o=(do Pure.pure (.value (<- Instr.indexAt t (ρ x) (ρ y)))):=by unfold execOp;rw [h]
theorem zsw {t:TypeId} {x y:Operand} (h:o.op=.index t x y):execOp ρ o=(do Pure.pure (.value (<- Instr.index t (ρ x) (ρ y)))):=by unfold execOp;rw [h]
theorem zvW {t:TypeId} {x y:Operand} {ok:Bool} (h:o.op=.lookup t x y ok):execOp ρ o=(do Pure.pure (.value (<- Instr.lookup t (ρ x) (ρ y) ok))):=by unfold execOp;rw [h]
theorem zIA {t:TypeId} {m k x:Operand} (h:o.op=.mapUpdate t m k x):execOp ρ o=(do Instr.mapUpdate t (ρ m) (ρ k) (ρ x);Pure.pure .skip):=by unfold execOp;rw [h]
theorem zyW {t:TypeId} {m k x:Operand} (h:o.op=.insert t m k x):execOp ρ o=(do Instr.mapUpdate t (ρ m) (ρ k) (ρ x);Pure.pure .skip):=by unfold execOp;rw [h]
theorem zFc {x:Operand} {i:Nat} (h:o.op=.extract x i):execOp ρ o=(do Pure.pure (.value (<- Instr.extract (ρ x) i))):=by unfold execOp;rw [h]
theorem zpj {c:Call} (h:o.op=.call c):execOp ρ o=(do let d <- resolve ρ c o.type;invoke d.target d.args):=by unfold execOp;rw [h]
end
section
variable {P:Program} {w:World}
theorem und {t:TypeId} {d:TypeDesc} (h:P.underlying t=some d):(underlying t).run P w=.ok d w:=by
 simp only [underlying,Sem.run_bind,run_program,Result.andThen_ok,h,Sem.run_pure]
theorem inf {t:TypeId} {i:TypeInfo} (h:P.info? t=some i):(typeInfo t).run P w=.ok i w:=by
 simp only [typeInfo,Sem.run_bind,run_program,Result.andThen_ok,h,Sem.run_pure]
theorem siz {t:TypeId} {n:Nat} (h:yJ P t=some n):(Go.sizeOf t).run P w=.ok n w:=by
 unfold yJ at h;cases hi:P.info? t with
 |none=>rw [hi]at h;cases h
 |some i=>rw [hi]at h;simp at h;subst h;simp only [Go.sizeOf,Sem.run_bind,inf hi,Result.andThen_ok,Sem.run_pure]
theorem agr {t:TypeId} {b:Bool} (h:zah P t=some b):(isAgg t).run P w=.ok b w:=by
 unfold zah at h;cases hi:P.underlying t with
 |none=>rw [hi]at h;cases h
 |some d=>
  rw [hi]at h;simp only [Option.map_some,Option.some.injEq]at h;subst h;simp only [isAgg,Sem.run_bind,und hi,Result.andThen_ok];cases d<;>rfl
theorem zer {t:TypeId} {i:TypeInfo} {z:Value} (h:P.info? t=some i) (hz:i.zero=some z):(zeroValue t).run P w=.ok z w:=by
 simp only [zeroValue,Sem.run_bind,inf h,Result.andThen_ok,hz,Sem.run_pure]
end
theorem znD {a b:Value} (h:zmm a b=true):a=b /\ qB b=true:=by
 unfold zmm at h;split at h
 ·simp at h;subst h;exact ⟨rfl,rfl⟩
 ·simp at h;obtain ⟨rfl,rfl⟩:=h;exact ⟨rfl,rfl⟩
 ·rename_i x y;simp at h;have:x=y:=by cases x;cases y;congr
  subst this;exact ⟨rfl,rfl⟩
 ·exact ⟨rfl,rfl⟩
 ·exact ⟨rfl,rfl⟩
 ·exact ⟨rfl,rfl⟩
 ·exact ⟨rfl,rfl⟩
 ·cases h
theorem znw {G:Gh} {w:World} {a:AV} {b:Value} (h:zdR a b=true):Rep G w a b:=by
 unfold zdR at h;split at h
 ·obtain ⟨rfl,hs⟩:=znD h;exact .sc hs
 ·simp at h;exact .nil (by intro hf;rcases h with h|h<;>simp_all)
 ·cases h
theorem zFA {a:AV} {b:Value} (h:zdR a b=true):b.oneCell'=true:=by
 unfold zdR at h;split at h
 ·obtain ⟨rfl,hs⟩:=znD h;revert hs;unfold qB;split<;>simp [Value.oneCell']
 ·rfl
 ·cases h
theorem zaT {G:Gh} {w:World}:∀{a:List AV} {b:List Value},vX a b=true -> zp G w a b
 |[],[],_=>.nil
 |[],_::_,h=>by simp [vX]at h
 |_::_,[],h=>by simp [vX]at h
 |a::l,b::m,h=>by
  simp [vX]at h;exact .cons (znw h.1) (zaT h.2)
theorem zdd:∀{a:List AV} {b:List Value},vX a b=true -> ∀u∈b,u.oneCell'=true
 |[],[],_,u,hu=>by simp at hu
 |[],_::_,h,_,_=>by simp [vX]at h
 |_::_,[],h,_,_=>by simp [vX]at h
 |a::l,b::m,h,u,hu=>by
  simp [vX]at h;rcases List.mem_cons.1 hu with rfl|hu
  ·exact zFA h.1
  ·exact zdd h.2 u hu
theorem zrB {G:Gh} {w:World} {a:AV} {b:Value} (h:ze0 a b=true):Rep G w a b:=by
 unfold ze0 at h;split at h
 ·rename_i cs vs;have:=Rep.agg (G:=G) (w:=w) (zaT (G:=G) (w:=w) h);simpa using this
 ·rename_i cs vs;have:=Rep.tup (G:=G) (w:=w) (zaT (G:=G) (w:=w) h);simpa using this
 ·exact znw h
section
variable {A:zx} {D:Nat -> Prop} {G:Gh} {ρ:Nat -> Option Nat} {σ:ASt} {a:Act} {w:World} {P:Program}
theorem zhj (hF:Fr A D G ρ σ a w) {x:zl} {y:Operand} (hok:za1 G.K x y=true) {v:AV} (hv:x.ev A σ.tm=some v):yN G ρ σ.rg w v (a.eval y):=by
 unfold za1 at hok;split at hok
 ·rename_i n m;simp at hok;subst hok;simp only [zl.ev]at hv;cases hv;by_cases hn:n < σ.tm.length
  ·rw [List.getD_eq_getElem?_getD,List.getElem?_eq_getElem hn];exact hF.tmp n _ (List.getElem?_eq_getElem hn)
  ·rw [List.getD_eq_getElem?_getD,List.getElem?_eq_none (by omega)];exact Rep.trep .junk
 ·rename_i key f;simp only [zl.ev]at hv;cases hv;exact Rep.trep (Rep.fn (by simpa using hok) .nil .nil)
 ·simp only [zl.ev]at hv;cases hv;exact (zrB hok).trep
 ·rename_i n m;simp only [za1,beq_iff_eq]at hok;simp only [zl.ev]at hv;exact (hF.glob n v hv m hok).1.trep
 ·cases hok
inductive TL (G:Gh) (ρ:Nat -> Option Nat) (rg:Nat -> Option (List AV)) (w:World):List AV -> List Value -> Prop
 |nil:TL G ρ rg w [] []
 |cons {v:AV} {vs:List AV} {x:Value} {xs:List Value} (h:yN G ρ rg w v x) (t:TL G ρ rg w vs xs):TL G ρ rg w (v::vs) (x::xs)
theorem yu (hF:Fr A D G ρ σ a w):∀{xs:List zl} {ys:List Operand},zR G.K xs ys=true -> ∀{vs:List AV},evs A σ.tm xs=some vs -> TL G ρ σ.rg w vs (ys.map a.eval)
 |[],[],_,vs,h=>by simp [evs]at h;subst h;exact .nil
 |[],_::_,h,_,_=>by simp [zR]at h
 |_::_,[],h,_,_=>by simp [zR]at h
 |x::xs,y::ys,h,vs,e=>by
  simp [zR]at h;simp only [evs]at e;cases hx:x.ev A σ.tm with
  |none=>rw [hx]at e;simp at e
  |some v=>
   rw [hx]at e;cases hl:evs A σ.tm xs with
   |none=>rw [hl]at e;simp at e
   |some l=>
    rw [hl]at e;simp at e;subst e;exact .cons (zhj hF h.1 hx) (yu hF h.2 hl)
theorem TL.rep {rg:Nat -> Option (List AV)}:∀{vs:List AV} {xs:List Value},TL G ρ rg w vs xs -> vs.any AV.isReg=false -> zp G w vs xs
 |_,_,.nil,_=>.nil
 |_,_,.cons h t,hn=>by
  simp at hn;exact .cons (h.rep (by simpa using hn.1)) (t.rep (by simpa using hn.2))
def yo (P:Program) (A:zx) (D:Nat -> Prop) (G:Gh) (ρ:Nat -> Option Nat) (σ:ASt) (a:Act) (w:World) (e:Sem Next) (v:AV):Prop:=
 ∃x w' G',e.run P w=.ok (.value x) w' /\ Fr A D G' ρ σ a w' /\ Ext D G w G' w' /\ yN G' ρ σ.rg w' v x
theorem yo.same (hF:Fr A D G ρ σ a w) {e:Sem Next} {v:AV} {x:Value} (he:e.run P w=.ok (.value x) w) (hv:yN G ρ σ.rg w v x):yo P A D G ρ σ a w e v:=
 ⟨x,w,G,he,hF,Ext.refl _ _ _,hv⟩
theorem yo.new (hF:Fr A D G ρ σ a w) {e:Sem Next} {v:AV} {x:Value} {vs:List Value} {t:Nat} (he:e.run P w=.ok (.value x) (w.alloc (.cells vs.toArray t)))
 (hv:At (G.shut w.heap.size) (w.alloc (.cells vs.toArray t)) w.heap.size 0 vs -> Le G w (G.shut w.heap.size) (w.alloc (.cells vs.toArray t)) -> Rep (G.shut w.heap.size) (w.alloc (.cells vs.toArray t)) v x):yo P A D G ρ σ a w e v:=by
 obtain ⟨h1,h2⟩:=hF.shut (.cells vs.toArray t);exact ⟨x,_,_,he,h1,h2,(hv (zBV G w vs t (0,0)) h2.toLe).trep⟩
theorem zFB (hF:Fr A D G ρ σ a w) {o:Oper} {xs:List zl} (hok:zM P G.K o.op .mov xs=true) {vs:List AV} (hev:evs A σ.tm xs=some vs) {v:AV} (hp:pev .mov vs=some v):
 yo P A D G ρ σ a w (execOp a.eval o) v:=by
 simp only [zM]at hok;split at hok
 ·rename_i x ho;obtain _|⟨h,t⟩:=yu hF hok hev;cases t;simp [pev]at hp;subst hp;exact .same hF (by rw [zo3 _ _ ho];rfl) h
 ·rename_i x ho;obtain _|⟨h,t⟩:=yu hF hok hev;cases t;simp [pev]at hp;subst hp;exact .same hF (by rw [zoP _ _ ho];rfl) h
 ·cases hok
end
section
variable {A:zx} {D:Nat -> Prop} {G:Gh} {ρ:Nat -> Option Nat} {σ:ASt} {a:Act} {w:World} {P:Program} {rg:Nat -> Option (List AV)}
theorem TL.one {vs:List AV} {x:Value} (h:TL G ρ rg w vs [x]):∃v,vs=[v] /\ yN G ρ rg w v x:=by
 obtain _|⟨h,t⟩:=h;cases t;exact ⟨_,rfl,h⟩
theorem TL.two {vs:List AV} {x y:Value} (h:TL G ρ rg w vs [x,y]):∃v u,vs=[v,u] /\ yN G ρ rg w v x /\ yN G ρ rg w u y:=by
 obtain _|⟨h,t⟩:=h;obtain ⟨u,rfl,h'⟩:=t.one;exact ⟨_,_,rfl,h,h'⟩
theorem TL.three {vs:List AV} {x y z:Value} (h:TL G ρ rg w vs [x,y,z]):∃v u t,vs=[v,u,t] /\ yN G ρ rg w v x /\ yN G ρ rg w u y /\ yN G ρ rg w t z:=by
 obtain _|⟨h,t⟩:=h;obtain ⟨u,s,rfl,h',h''⟩:=t.two;exact ⟨_,_,_,rfl,h,h',h''⟩
theorem yN.sc {v x:Value} (h:yN G ρ rg w (.sc v) x):x=v:=by
 have h:Rep G w (.sc v) x:=h;cases h;rfl
theorem zHH {op:BinOp} {t:TypeId} {x y:Operand} {k k':IntKind} {m n:Int}:(eqGuard op t x y (.int k m) (.int k' n)).run P w=.ok () w:=by
 unfold eqGuard;cases op<;>rfl
theorem zCT {op:BinOp} {t:TypeId} {x y:Operand} {m n:ByteArray}:(eqGuard op t x y (.string m) (.string n)).run P w=.ok () w:=by
 unfold eqGuard;cases op<;>rfl
theorem zAp {op:BinOp} {t:TypeId} {x y:Operand} {m n:Bool}:(eqGuard op t x y (.bool m) (.bool n)).run P w=.ok () w:=by
 unfold eqGuard;cases op<;>rfl
theorem zDe {op:BinOp} {t:TypeId} {x y:Operand} {m n:Option Addr}:(eqGuard op t x y (.pointer m) (.pointer n)).run P w=.ok () w:=by
 unfold eqGuard;cases op<;>rfl
theorem zoM {op:BinOp} {t:TypeId} {x:Operand} {v:Value} (hv:v=.nilIface \/ ∃u y,v=.iface u y):(eqGuard op t x (.const .nilIface) v .nilIface).run P w=.ok () w:=by
 unfold eqGuard;rcases hv with rfl|⟨u,y,rfl⟩<;>cases op<;>simp
theorem zqg {op:BinOp} {t:TypeId} {x y:Operand} {v:Value} (hv:v=.nilFunc \/ ∃f l m,v=.func f l m):(eqGuard op t x y v .nilFunc).run P w=.ok () w:=by
 unfold eqGuard;rcases hv with rfl|⟨f,l,m,rfl⟩<;>cases op<;>rfl
theorem zxK {op:BinOp} {t:TypeId} {k k':IntKind} {m n:Int} {v:Value} (hk:op=.shl \/ op=.shr \/ k=k') (h:vV op k m n=some v):
 (binOp op t (.int k m) (.int k' n)).run P w=.ok v w:=by
 unfold vV at h;unfold binOp;cases op<;>simp only [reduceCtorEq,false_or,or_false,or_self]at hk<;>try subst hk
 case shl=>
  by_cases hn:n < 0
  ·simp [hn]at h
  ·simp only [hn,if_false,Option.some.injEq]at h;simp only [Op.shift,hn,if_false,h,Sem.run_pure]
 case shr=>
  by_cases hn:n < 0
  ·simp [hn]at h
  ·simp only [hn,if_false,Option.some.injEq]at h;simp only [Op.shift,hn,if_false,h,Sem.run_pure]
 case quo=>simp only [Op.intDiv];split at h<;>simp_all
 case rem=>simp only [Op.intDiv];split at h<;>simp_all
 case andNot=>simp at h
 all_goals
  simp only [Option.some.injEq]at h;subst h;simp [Op.intArith,Op.intBits,Op.intCmp]
theorem zAl {op:BinOp} {t:TypeId} {m n:ByteArray} {v:Value} (h:kS op m n=some v):(binOp op t (.string m) (.string n)).run P w=.ok v w:=by
 unfold kS at h;unfold binOp;cases op<;>simp only [Op.stringOp]<;>simp only [reduceCtorEq]at h
 case add=>split at h<;>simp_all
 all_goals
  simp only [Option.some.injEq]at h;subst h;rfl
theorem zvw {op:BinOp} {k:IntKind} {m n:Int} {v:Value} (h:vV op k m n=some v):qB v=true:=by
 unfold vV at h;cases op<;>simp only [reduceCtorEq]at h<;>(try split at h)<;>simp_all [qB]<;>(subst h;rfl)
theorem zAZ {op:BinOp} {m n:ByteArray} {v:Value} (h:kS op m n=some v):qB v=true:=by
 unfold kS at h;cases op<;>simp only [reduceCtorEq]at h<;>(try split at h)<;>simp_all [qB]<;>(subst h;rfl)
theorem zEW (hF:Fr A D G ρ σ a w) {o:Oper} {xs:List zl} (hok:zM P G.K o.op .pick xs=true) {vs:List AV} (hev:evs A σ.tm xs=some vs) {v:AV} (hp:pev .pick vs=some v):
 yo P A D G ρ σ a w (execOp a.eval o) v:=by
 simp only [zM]at hok;split at hok
 ·rename_i c x y ho;obtain ⟨v1,v2,v3,rfl,h1,h2,h3⟩:=(yu hF hok hev).three;unfold pev at hp;dsimp only at hp;split at hp
  ·rename_i c' v2 v3 heq;simp only [List.cons.injEq,and_true]at heq;obtain ⟨rfl,rfl,rfl⟩:=heq;split at hp
   ·cases hp
   ·rename_i hr;cases hp;have e1:=h1.sc;refine .same hF (x:=if c' then a.eval x else a.eval y) (by rw [zvX _ _ ho,e1];simp only [Go.asBool,Sem.run_bind,Sem.run_pure,Result.andThen_ok]) ?_;split<;>assumption
  ·cases hp
 ·cases hok
theorem zyG (hF:Fr A D G ρ σ a w) {o:Oper} {op:BinOp} {xs:List zl} (hok:zM P G.K o.op (.bin op) xs=true) {vs:List AV} (hev:evs A σ.tm xs=some vs) {v:AV} (hp:pev (.bin op) vs=some v):
 yo P A D G ρ σ a w (execOp a.eval o) v:=by
 simp only [zM]at hok;split at hok
 ·rename_i op' t x y t' ho;simp only [Bool.and_eq_true,beq_iff_eq]at hok;obtain ⟨rfl,hok⟩:=hok;obtain ⟨v1,v2,rfl,h1,h2⟩:=(yu hF hok hev).two;unfold pev at hp;dsimp only at hp;split at hp
  ·rename_i k m k' n heq;simp only [List.cons.injEq,and_true]at heq;obtain ⟨rfl,rfl⟩:=heq;split at hp
   ·rename_i hk;cases hb:vV op' k m n with
    |none=>rw [hb]at hp;cases hp
    |some u=>
     rw [hb]at hp;cases hp;refine .same hF (x:=u) ?_ (Rep.sc (zvw hb)).trep;rw [zg4 _ _ ho,h1.sc,h2.sc];simp only [Sem.run_bind,zHH,Result.andThen_ok,zxK hk hb,Sem.run_pure]
   ·cases hp
  ·rename_i m n heq;simp only [List.cons.injEq,and_true]at heq;obtain ⟨rfl,rfl⟩:=heq;cases hb:kS op' m n with
   |none=>rw [hb]at hp;cases hp
   |some u=>
    rw [hb]at hp;cases hp;refine .same hF (x:=u) ?_ (Rep.sc (zAZ hb)).trep;rw [zg4 _ _ ho,h1.sc,h2.sc];simp only [Sem.run_bind,zCT,Result.andThen_ok,zAl hb,Sem.run_pure]
  ·cases hp
 ·cases hok
theorem zAf (d:Nat) {t:TypeId} {m n:Bool} (h:P.underlying t=some .bool):(Op.equalIn (d+1) t (.bool m) (.bool n)).run P w=.ok (m==n) w:=by
 simp only [Op.equalIn,Sem.run_bind,und h,Result.andThen_ok,Sem.run_pure]
theorem ztU (d:Nat) {t:TypeId} {ms:Array (String×TypeId)} {v:Value} {b:Bool} (h:P.underlying t=some (.interface ms)) (hv:(v=.nilIface /\ b=true) \/ (∃u y,v=.iface u y) /\ b=false):(Op.equalIn (d+1) t v .nilIface).run P w=.ok b w:=by
 rcases hv with ⟨rfl,rfl⟩|⟨⟨u,y,rfl⟩,rfl⟩<;>simp only [Op.equalIn,Sem.run_bind,und h,Result.andThen_ok,Sem.run_pure]
theorem zEJ (d:Nat) {t e:TypeId} {x:Option Addr} (h:P.underlying t=some (.pointer e)):(Op.equalIn (d+1) t (.pointer x) (.pointer none)).run P w=.ok x.isNone w:=by
 cases x<;>simp only [Op.equalIn,Sem.run_bind,und h,Result.andThen_ok,Sem.run_pure,Option.isNone]
theorem zti (d:Nat) {t:TypeId} {ps rs:Array TypeId} {vr:Bool} {v:Value} {b:Bool} (h:P.underlying t=some (.func ps rs vr)) (hv:(v=.nilFunc /\ b=true) \/ (∃f l m,v=.func f l m) /\ b=false):(Op.equalIn (d+1) t v .nilFunc).run P w=.ok b w:=by
 rcases hv with ⟨rfl,rfl⟩|⟨⟨f,l,m,rfl⟩,rfl⟩<;>simp only [Op.equalIn,Sem.run_bind,und h,Result.andThen_ok,Sem.run_pure]
theorem Rep.opq_inv {x:Value} (h:Rep G w .opq x):∃u y,x=.iface u y:=by cases h;exact ⟨_,_,rfl⟩
theorem Rep.ptr_inv {id r c:Nat} {x:Value} (h:Rep G w (.ptr id r c) x):∃b sz N,G.ι id=some (b,sz,N) /\ x=.pointer (some ⟨b,r * sz+c,none⟩):=by cases h with|ptr h=>exact ⟨_,_,_,h,rfl⟩
theorem Rep.iptr_inv {cs:List AV} {x:Value} (h:Rep G w (.iptr cs) x):∃b off vs,x=.pointer (some ⟨b,off,none⟩) /\ At G w b off vs /\ zp G w cs vs:=by cases h with|iptr h hr=>exact ⟨_,_,_,rfl,h,hr⟩
theorem Rep.fn_inv {k:Nat} {l m:List AV} {x:Value} (h:Rep G w (.fn k l m) x):∃f lv mv,x=.func (.func f) lv.toArray mv.toArray /\ G.K k=some f /\ zp G w l lv /\ zp G w m mv:=by cases h with|fn hk ha hb=>exact ⟨_,_,_,rfl,hk,ha,hb⟩
theorem Rep.agg_inv {cs:List AV} {x:Value} (h:Rep G w (.agg cs) x):∃vs,x=.agg vs.toArray /\ zp G w cs vs:=by cases h with|agg h=>exact ⟨_,rfl,h⟩
theorem Rep.tup_inv {cs:List AV} {x:Value} (h:Rep G w (.tup cs) x):∃vs,x=.tuple vs.toArray /\ zp G w cs vs:=by cases h with|tup h=>exact ⟨_,rfl,h⟩
theorem Rep.mp_inv {id:Nat} {x:Value} (h:Rep G w (.mp id) x):∃b sz N,G.ι id=some (b,sz,N) /\ x=.map (some b):=by cases h with|mp h=>exact ⟨_,_,_,h,rfl⟩
theorem Rep.arr_inv {id sz off len:Nat} {lim:Option Nat} {x:Value} (h:Rep G w (.arr id sz off len lim) x):
 ∃b N a,G.ι id=some (b,sz,N) /\ off+len <=lim.getD N /\ lim.getD N <=N /\ (lim.getD N - off=0 \/ a=some ⟨b,off * sz,none⟩) /\ x=.slice a len (lim.getD N - off):=by
 cases h with|arr h hl hN hcap ha=>subst hcap;exact ⟨_,_,_,h,hl,hN,ha,rfl⟩
theorem Rep.lst_inv {sz:Nat} {full:Bool} {xs:List (List AV)} {x:Value} (h:Rep G w (.lst sz full xs) x):
 ∃a c,x=.slice a xs.length c /\ xs.length <=c /\ (full=true -> c=xs.length) /\ (xs=[] \/ ∃b off vs,a=some ⟨b,off,none⟩ /\ At G w b off vs.flatten /\ zF G w sz xs vs):=by
 cases h with
 |nil h=>exact ⟨_,_,rfl,Nat.zero_le _,h,.inl rfl⟩
 |lst hn hc hf h hr=>subst hn;exact ⟨_,_,rfl,hc,hf,.inr ⟨_,_,_,rfl,h,hr⟩⟩
theorem zd4 (hF:Fr A D G ρ σ a w) {o:Oper} {ne:Bool} {t t':TypeId} {x y:Operand} (ho:o.op=.binOp (za9 ne) t x y t') {b:Bool}
 (hg:(eqGuard (za9 ne) t x y (a.eval x) (a.eval y)).run P w=.ok () w) (hb:∀op,op=.eql \/ op=.neq -> binOp op t (a.eval x) (a.eval y)=match op with| .eql=>(do Pure.pure (.bool (<- Op.equal t (a.eval x) (a.eval y))))|_=>(do Pure.pure (.bool (!(<- Op.equal t (a.eval x) (a.eval y))))))
 (he:(Op.equal t (a.eval x) (a.eval y)).run P w=.ok b w):yo P A D G ρ σ a w (execOp a.eval o) (.b (if ne then !b else b)):=by
 refine .same hF (x:=.bool (if ne then !b else b)) ?_ (Rep.sc rfl).trep;rw [zg4 _ _ ho];simp only [Sem.run_bind,hg,Result.andThen_ok];cases ne
 ·rw [show za9 false=.eql from rfl,hb _ (.inl rfl)];simp only [Sem.run_bind,he,Result.andThen_ok,Sem.run_pure];rfl
 ·rw [show za9 true=.neq from rfl,hb _ (.inr rfl)];simp only [Sem.run_bind,he,Result.andThen_ok,Sem.run_pure];rfl
theorem zxF (hF:Fr A D G ρ σ a w) {o:Oper} {ne:Bool} {xs:List zl} (hok:zM P G.K o.op (.eqB ne) xs=true) {vs:List AV} (hev:evs A σ.tm xs=some vs) {v:AV} (hp:pev (.eqB ne) vs=some v):
 yo P A D G ρ σ a w (execOp a.eval o) v:=by
 simp only [zM]at hok;split at hok
 ·rename_i op' t x y t' ho;simp only [Bool.and_eq_true,beq_iff_eq]at hok;obtain ⟨⟨rfl,ht⟩,hok⟩:=hok;obtain ⟨v1,v2,rfl,h1,h2⟩:=(yu hF hok hev).two;have hu:P.underlying t=some .bool:=by split at ht<;>simp_all
  unfold pev at hp;dsimp only at hp;split at hp
  ·rename_i m n heq;simp only [List.cons.injEq,and_true]at heq;obtain ⟨rfl,rfl⟩:=heq;cases hp;have e1:=h1.sc;have e2:=h2.sc;have:=zd4 (P:=P) hF ho (b:=m==n) (by rw [e1,e2];exact zAp) (by rw [e1,e2];rintro op (rfl|rfl)<;>rfl) (by rw [e1,e2];exact zAf 9999 hu);have hne:(if ne then m !=n else m==n)=(if ne then !(m==n) else m==n):=by cases ne<;>rfl
   rw [hne];exact this
  ·cases hp
 ·cases hok
theorem zuL (hF:Fr A D G ρ σ a w) {o:Oper} {ne:Bool} {xs:List zl} (hok:zM P G.K o.op (.nilI ne) xs=true) {vs:List AV} (hev:evs A σ.tm xs=some vs) {v:AV} (hp:pev (.nilI ne) vs=some v):
 yo P A D G ρ σ a w (execOp a.eval o) v:=by
 simp only [zM]at hok;split at hok
 ·rename_i op' t x t' ho;simp only [Bool.and_eq_true,beq_iff_eq]at hok;obtain ⟨⟨rfl,ht⟩,hok⟩:=hok;obtain ⟨v1,rfl,h1⟩:=(yu hF hok hev).one;obtain ⟨ms,hu⟩:∃ms,P.underlying t=some (.interface ms):=by split at ht<;>simp_all
  unfold pev at hp;dsimp only at hp;split at hp
  ·rename_i heq;simp only [List.cons.injEq,and_true]at heq;subst heq;cases hp;have e1:=h1.sc;have:=zd4 (P:=P) hF ho (b:=true) (by rw [e1];exact zoM (.inl rfl)) (by rw [e1];rintro op (rfl|rfl)<;>rfl) (by rw [e1];exact ztU 9999 hu (.inl ⟨rfl,rfl⟩));cases ne<;>exact this
  ·rename_i heq;simp only [List.cons.injEq,and_true]at heq;subst heq;cases hp;have h1:Rep G w .opq (a.eval x):=h1;obtain ⟨u,y,e1⟩:=h1.opq_inv;have:=zd4 (P:=P) hF ho (b:=false) (by rw [e1];exact zoM (.inr ⟨u,y,rfl⟩)) (by rw [e1];rintro op (rfl|rfl)<;>rfl) (by rw [e1];exact ztU 9999 hu (.inr ⟨⟨u,y,rfl⟩,rfl⟩));cases ne<;>exact this
  ·cases hp
 ·cases hok
theorem zAE (hF:Fr A D G ρ σ a w) {o:Oper} {ne:Bool} {xs:List zl} (hok:zM P G.K o.op (.nilP ne) xs=true) {vs:List AV} (hev:evs A σ.tm xs=some vs) {v:AV} (hp:pev (.nilP ne) vs=some v):
 yo P A D G ρ σ a w (execOp a.eval o) v:=by
 simp only [zM]at hok;split at hok
 ·rename_i op' t x t' ho;simp only [Bool.and_eq_true,beq_iff_eq]at hok;obtain ⟨⟨rfl,ht⟩,hok⟩:=hok;obtain ⟨v1,rfl,h1⟩:=(yu hF hok hev).one;obtain ⟨e,hu⟩:∃e,P.underlying t=some (.pointer e):=by split at ht<;>simp_all
  have key:∀{b:Bool} {z:Option Addr},a.eval x=.pointer z -> z.isNone=b -> yo P A D G ρ σ a w (execOp a.eval o) (.b (if ne then !b else b)):=by
   intro b z e1 hz;exact zd4 (P:=P) hF ho (b:=b) (by rw [e1];exact zDe) (by rw [e1];rintro op (rfl|rfl)<;>rfl) (by rw [e1,<- hz];exact zEJ 9999 hu)
  unfold pev at hp;dsimp only at hp;split at hp
  ·rename_i heq;simp only [List.cons.injEq,and_true]at heq;subst heq;cases hp;have:=key (b:=true) h1.sc rfl;cases ne<;>exact this
  ·rename_i heq;simp only [List.cons.injEq,and_true]at heq;subst heq;cases hp;have h1:Rep G w _ (a.eval x):=h1;obtain ⟨_,_,_,_,e1⟩:=h1.ptr_inv;have:=key (b:=false) e1 rfl;cases ne<;>exact this
  ·rename_i heq;simp only [List.cons.injEq,and_true]at heq;subst heq;cases hp;have h1:Rep G w _ (a.eval x):=h1;obtain ⟨_,_,_,e1,_⟩:=h1.iptr_inv;have:=key (b:=false) e1 rfl;cases ne<;>exact this
  ·cases hp
 ·cases hok
theorem zxH (hF:Fr A D G ρ σ a w) {o:Oper} {ne:Bool} {xs:List zl} (hok:zM P G.K o.op (.nilF ne) xs=true) {vs:List AV} (hev:evs A σ.tm xs=some vs) {v:AV} (hp:pev (.nilF ne) vs=some v):
 yo P A D G ρ σ a w (execOp a.eval o) v:=by
 simp only [zM]at hok;split at hok
 ·rename_i op' t x t' ho;simp only [Bool.and_eq_true,beq_iff_eq]at hok;obtain ⟨⟨rfl,ht⟩,hok⟩:=hok;obtain ⟨v1,rfl,h1⟩:=(yu hF hok hev).one;obtain ⟨ps,rs,vr,hu⟩:∃ps rs vr,P.underlying t=some (.func ps rs vr):=by split at ht<;>simp_all
  unfold pev at hp;dsimp only at hp;split at hp
  ·rename_i heq;simp only [List.cons.injEq,and_true]at heq;subst heq;cases hp;have e1:=h1.sc;have:=zd4 (P:=P) hF ho (b:=true) (by rw [e1];exact zqg (.inl rfl)) (by rw [e1];rintro op (rfl|rfl)<;>rfl) (by rw [e1];exact zti 9999 hu (.inl ⟨rfl,rfl⟩));cases ne<;>exact this
  ·rename_i heq;simp only [List.cons.injEq,and_true]at heq;subst heq;cases hp;have h1:Rep G w _ (a.eval x):=h1;obtain ⟨f',l',m',e1,_⟩:=h1.fn_inv;obtain ⟨f,l,m,e1⟩:∃f l m,a.eval x=.func f l m:=⟨_,_,_,e1⟩;have:=zd4 (P:=P) hF ho (b:=false) (by rw [e1];exact zqg (.inr ⟨f,l,m,rfl⟩)) (by rw [e1];rintro op (rfl|rfl)<;>rfl) (by rw [e1];exact zti 9999 hu (.inr ⟨⟨f,l,m,rfl⟩,rfl⟩));cases ne<;>exact this
  ·cases hp
 ·cases hok
theorem zCC (hF:Fr A D G ρ σ a w) {o:Oper} {op:UnOp} {xs:List zl} (hok:zM P G.K o.op (.un op) xs=true) {vs:List AV} (hev:evs A σ.tm xs=some vs) {v:AV} (hp:pev (.un op) vs=some v):
 yo P A D G ρ σ a w (execOp a.eval o) v:=by
 simp only [zM]at hok;split at hok
 ·rename_i op' t x ho;simp only [Bool.and_eq_true,beq_iff_eq]at hok;obtain ⟨rfl,hok⟩:=hok;obtain ⟨v1,rfl,h1⟩:=(yu hF hok hev).one;unfold pev at hp;dsimp only at hp;split at hp
  ·rename_i b heq;simp only [List.cons.injEq,and_true]at heq;subst heq;cases hp;exact .same hF (x:=.bool !b) (by rw [zuu _ _ ho,h1.sc];rfl) (Rep.sc rfl).trep
  ·rename_i k n heq;simp only [List.cons.injEq,and_true]at heq;subst heq;cases hp;exact .same hF (x:=.int k (k.wrap (0 - n))) (by rw [zuu _ _ ho,h1.sc];rfl) (Rep.sc rfl).trep
  ·cases hp
 ·cases hok
theorem zFM (hF:Fr A D G ρ σ a w) {o:Oper} {k:IntKind} {xs:List zl} (hok:zM P G.K o.op (.toInt k) xs=true) {vs:List AV} (hev:evs A σ.tm xs=some vs) {v:AV} (hp:pev (.toInt k) vs=some v):
 yo P A D G ρ σ a w (execOp a.eval o) v:=by
 simp only [zM]at hok;split at hok
 ·rename_i s d x ho;simp only [Bool.and_eq_true]at hok;obtain ⟨⟨hs,hd⟩,hok⟩:=hok;obtain ⟨v1,rfl,h1⟩:=(yu hF hok hev).one;obtain ⟨ds,hs⟩:=Option.isSome_iff_exists.1 hs;have hd:P.underlying d=some (.int k):=by split at hd<;>simp_all
  unfold pev at hp;dsimp only at hp;split at hp
  ·rename_i k' n heq;simp only [List.cons.injEq,and_true]at heq;subst heq;cases hp;refine .same hF (x:=.int k (k.wrap n)) ?_ (Rep.sc rfl).trep;rw [zg7 _ _ ho,h1.sc];simp only [convert,Sem.run_bind,und hs,und hd,Result.andThen_ok,Conv.intToInt,Sem.run_pure]
  ·cases hp
 ·cases hok
theorem zBc (hF:Fr A D G ρ σ a w) {o:Oper} {xs:List zl} (hok:zM P G.K o.op .sstr xs=true) {vs:List AV} (hev:evs A σ.tm xs=some vs) {v:AV} (hp:pev .sstr vs=some v):
 yo P A D G ρ σ a w (execOp a.eval o) v:=by
 simp only [zM]at hok;split at hok
 ·rename_i s d x ho;simp only [Bool.and_eq_true]at hok;obtain ⟨⟨hs,hd⟩,hok⟩:=hok;obtain ⟨v1,rfl,h1⟩:=(yu hF hok hev).one;obtain ⟨ds,hs⟩:=Option.isSome_iff_exists.1 hs;have hd:P.underlying d=some .string:=by split at hd<;>simp_all
  unfold pev at hp;dsimp only at hp;split at hp
  ·rename_i n heq;simp only [List.cons.injEq,and_true]at heq;subst heq;cases hp;refine .same hF (x:=.string n) ?_ (Rep.sc rfl).trep;rw [zg7 _ _ ho,h1.sc];simp only [convert,Sem.run_bind,und hs,und hd,Result.andThen_ok,Sem.run_pure]
  ·cases hp
 ·cases hok
theorem zIZ (hF:Fr A D G ρ σ a w) {o:Oper} {xs:List zl} (hok:zM P G.K o.op .runeStr xs=true) {vs:List AV} (hev:evs A σ.tm xs=some vs) {v:AV} (hp:pev .runeStr vs=some v):
 yo P A D G ρ σ a w (execOp a.eval o) v:=by
 simp only [zM]at hok;split at hok
 ·rename_i s d x ho;simp only [Bool.and_eq_true]at hok;obtain ⟨⟨hs,hd⟩,hok⟩:=hok;obtain ⟨v1,rfl,h1⟩:=(yu hF hok hev).one;obtain ⟨ds,hs⟩:=Option.isSome_iff_exists.1 hs;have hd:P.underlying d=some .string:=by split at hd<;>simp_all
  unfold pev at hp;dsimp only at hp;split at hp
  ·rename_i k n heq;simp only [List.cons.injEq,and_true]at heq;subst heq;cases hp;refine .same hF (x:=.string (Utf8.encode n)) ?_ (Rep.sc rfl).trep;rw [zg7 _ _ ho,h1.sc];simp only [convert,Sem.run_bind,und hs,und hd,Result.andThen_ok,Sem.run_pure,Conv.intToString]
  ·cases hp
 ·cases hok
end
section
variable {A:zx} {D:Nat -> Prop} {G:Gh} {ρ:Nat -> Option Nat} {σ:ASt} {a:Act} {w:World} {P:Program} {rg:Nat -> Option (List AV)}
theorem zam (b off n:Nat):(⟨b,off,none⟩:Addr).add n=⟨b,off+n,none⟩:=by
 unfold Addr.add;split<;>simp_all
theorem At.row {b off sz:Nat} {rs:List (List AV)} {vs:List (List Value)} (h:At G w b off vs.flatten) (hr:zF G w sz rs vs) {i:Nat} {v:List Value} (hv:vs[i]?=some v):At G w b (off+i * sz) v:=by
 obtain ⟨hl,hg⟩:=hr.flat_get i hv;intro j u hj;have hlt:j < sz:=by
  rw [<- hl];rcases Nat.lt_or_ge j v.length with h'|h'
  ·exact h'
  ·rw [List.getElem?_eq_none h']at hj;cases hj
 have:=h (i * sz+j) u (by rw [hg j hlt];exact hj);rw [Nat.add_assoc];exact this
theorem At.append {b off:Nat} {l m:List Value} (h:At G w b off l) (h':At G w b (off+l.length) m):At G w b off (l++m):=by
 intro i v e;by_cases hi:i < l.length
 ·rw [List.getElem?_append_left hi]at e;exact h i v e
 ·rw [List.getElem?_append_right (by omega)]at e;have:=h' (i - l.length) v e;rw [show off+l.length+(i - l.length)=off+i by omega]at this;exact this
theorem At.nil {b off:Nat}:At G w b off []:=by intro i v e;simp at e
theorem At.of_rows {b sz:Nat}:∀{rs:List (List AV)} {vs:List (List Value)} {off:Nat},zF G w sz rs vs -> (∀i v,vs[i]?=some v -> At G w b (off+i * sz) v) -> At G w b off vs.flatten
 |_,_,_,.nil,_=>At.nil
 |_,_,off,.cons (v:=v) (vs:=vs) h e _ t,ha=>by
  rw [List.flatten_cons];refine At.append (by simpa using ha 0 v (by simp)) (At.of_rows t fun i u hu=>?_);have:=ha (i+1) u (by simpa using hu);rw [<- h.length,e];rw [show off+sz+i * sz=off+(i+1) * sz by rw [Nat.add_mul];omega];exact this
theorem At.sub {b off sz:Nat} {rs:List (List AV)} {vs:List (List Value)} (h:At G w b off vs.flatten) (hr:zF G w sz rs vs) (l n:Nat):At G w b (off+l * sz) ((vs.take n).drop l).flatten:=by
 refine At.of_rows ((hr.take n).drop l) fun i v hv=>?_;rw [List.getElem?_drop,List.getElem?_take]at hv;split at hv
 ·have:=h.row hr hv;rw [show off+l * sz+i * sz=off+(l+i) * sz by rw [Nat.add_mul];omega];exact this
 ·cases hv
theorem ziB {cs:List AV} {vs:List Value} {off sz:Nat} {agg:Bool} {v:AV} (h:zp G w cs vs) (hle:off+sz <=cs.length) (hs:(agg ||sz==1)=true) (hv:zbJ agg ((cs.drop off).take sz)=some v):
 Rep G w v (if agg then .agg ((vs.drop off).take sz).toArray else vs.getD off undef):=by
 have hsub:=(h.drop off).take sz;unfold zbJ at hv;cases agg with
 |true=>simp only [if_true]at hv ⊢;cases hv;exact .agg hsub
 |false=>
  simp at hs;subst hs;simp only [Bool.false_eq_true,if_false]at hv ⊢;split at hv
  ·rename_i u heq;cases hv;rw [heq]at hsub;cases hm:(vs.drop off).take 1 with
   |nil=>rw [hm]at hsub;cases hsub
   |cons y ys=>
    rw [hm]at hsub;cases hsub with
    |cons hh ht=>
     have:vs[off]?=some y:=by
      have:=congrArg (fun l=>l[0]?) hm;simp [List.getElem?_take,List.getElem?_drop]at this;exact this
     rw [List.getD_eq_getElem?_getD,this];exact hh
  ·cases hv
theorem ztN {t off sz:Nat} {agg:Bool} {vs:List Value} (hsz:yJ P t=some sz) (hag:zah P t=some agg) (hle:off+sz <=vs.length) (hs:(agg ||sz==1)=true):
 (part t vs.toArray off).run P w=.ok (if agg then .agg ((vs.drop off).take sz).toArray else vs.getD off undef) w:=by
 cases agg with
 |true=>
  simp only [part,Sem.run_bind,agr hag,Result.andThen_ok,if_true,siz hsz,Sem.run_pure];congr 2;simp only [List.extract_toArray,List.extract_eq_drop_take',Nat.add_sub_cancel_left,List.drop_take]
 |false=>
  simp at hs;subst hs;simp only [part,Sem.run_bind,agr hag,Result.andThen_ok,Bool.false_eq_true,if_false];have:vs.toArray[off]?=some vs[off]:=by simp [show off < vs.length by omega]
  rw [this];simp only [Sem.run_pure,List.getD_eq_getElem?_getD,List.getElem?_eq_getElem (show off < vs.length by omega),Option.getD_some]
theorem zIp (hF:Fr A D G ρ σ a w) {o:Oper} {off sz:Nat} {agg:Bool} {xs:List zl} (hok:zM P G.K o.op (.field off sz agg) xs=true) {vs:List AV} (hev:evs A σ.tm xs=some vs) {v:AV} (hp:pev (.field off sz agg) vs=some v):
 yo P A D G ρ σ a w (execOp a.eval o) v:=by
 simp only [zM]at hok;split at hok
 ·rename_i t x f ho;simp only [Bool.and_eq_true]at hok;obtain ⟨⟨ht,hs⟩,hok⟩:=hok;obtain ⟨v1,rfl,h1⟩:=(yu hF hok hev).one;unfold zjr at ht;split at ht
  ·rename_i fd hfd;split at hfd
   ·rename_i fs hu;simp only [Bool.and_eq_true,beq_iff_eq]at ht;obtain ⟨⟨rfl,hsz⟩,hag⟩:=ht;unfold pev at hp;dsimp only at hp;split at hp
    ·rename_i cs heq;simp only [List.cons.injEq,and_true]at heq;subst heq;split at hp
     ·rename_i hle;obtain ⟨us,e1,hr⟩:=Rep.agg_inv (x:=a.eval x) h1;have hlen:=hr.length;refine .same hF ?_ (ziB hr hle hs hp).trep;rw [zyz _ _ ho,e1];simp only [Instr.field,Sem.run_bind,und hu,Result.andThen_ok,hfd,Go.asAgg,Sem.run_pure,ztN hsz hag (show fd.offset+sz <=us.length by omega) hs]
     ·cases hp
    ·cases hp
   ·cases hfd
  ·cases ht
 ·cases hok
theorem zxz (hF:Fr A D G ρ σ a w) {o:Oper} {off:Nat} {xs:List zl} (hok:zM P G.K o.op (.faddr off) xs=true) {vs:List AV} (hev:evs A σ.tm xs=some vs) {v:AV} (hp:pev (.faddr off) vs=some v):
 yo P A D G ρ σ a w (execOp a.eval o) v:=by
 simp only [zM]at hok;split at hok
 ·rename_i t x f ho;simp only [Bool.and_eq_true]at hok;obtain ⟨ht,hok⟩:=hok;obtain ⟨v1,rfl,h1⟩:=(yu hF hok hev).one;unfold zjr at ht;split at ht
  ·rename_i fd hfd;split at hfd
   ·rename_i fs hu;simp only [Bool.and_eq_true,beq_iff_eq]at ht;obtain ⟨rfl,hsz⟩:=ht;cases hn:yJ P fd.type with
    |none=>rw [hn]at hsz;cases hsz
    |some n=>
     rw [hn]at hsz;have hn0:n≠0:=by simpa using hsz
     have run:∀b o',a.eval x=.pointer (some ⟨b,o',none⟩) -> (execOp a.eval o).run P w=.ok (.value (.pointer (some ⟨b,o'+fd.offset,none⟩))) w:=by
      intro b o' e1;rw [zyl _ _ ho,e1];simp only [Instr.fieldAt,Sem.run_bind,und hu,Result.andThen_ok,hfd,Instr.sureAddr,Sem.run_pure,fieldPlace,siz hn,if_neg hn0,zam]
     unfold pev at hp;dsimp only at hp;split at hp
     ·rename_i cs heq;simp only [List.cons.injEq,and_true]at heq;subst heq;cases hp;obtain ⟨b,o',us,e1,hat,hr⟩:=Rep.iptr_inv (x:=a.eval x) h1;exact .same hF (run b o' e1) (Rep.iptr (hat.drop _) (hr.drop _)).trep
     ·rename_i id r c heq;simp only [List.cons.injEq,and_true]at heq;subst heq;cases hp;obtain ⟨b,sz,N,hi,e1⟩:=Rep.ptr_inv (x:=a.eval x) h1;refine .same hF (run _ _ e1) ?_;rw [Nat.add_assoc];exact (Rep.ptr hi).trep
     ·rename_i r c heq;simp only [List.cons.injEq,and_true]at heq;subst heq;cases hp;obtain ⟨hs,b,hb,e1⟩:=h1;exact .same hF (run _ _ e1) ⟨hs,b,hb,rfl⟩
     ·cases hp
   ·cases hfd
  ·cases ht
 ·cases hok
theorem zmD {e:Option TypeId} {sz:Nat} (h:zfA P e sz=true):∃t,e=some t /\ yJ P t=some sz:=by
 unfold zfA at h;split at h
 ·exact ⟨_,rfl,by simpa using h⟩
 ·cases h
theorem zeq {t e:TypeId} (h:zaW P t=some e):P.underlying t=some (.slice e):=by
 unfold zaW at h;split at h
 ·cases h;assumption
 ·cases h
theorem zsR {t:TypeId} {sz len:Nat} (h:zgu P t sz len=true):∃e,P.underlying t=some (.array len e) /\ yJ P e=some sz:=by
 unfold zgu at h;split at h
 ·simp at h;obtain ⟨rfl,h⟩:=h;exact ⟨_,by assumption,h⟩
 ·cases h
theorem zs5 {t e:TypeId} {sz len cap b off:Nat} {k:IntKind} {n:Int} (ht:P.underlying t=some (.slice e)) (hs:yJ P e=some sz) (h0:0 <=n) (h1:n < len):
 (Instr.indexAt t (.slice (some ⟨b,off,none⟩) len cap) (.int k n)).run P w=.ok (.pointer (some ⟨b,off+n.toNat * sz,none⟩)) w:=by
 simp only [Instr.indexAt,Go.asIntOf,Sem.run_bind,Sem.run_pure,Result.andThen_ok,und ht,if_pos (And.intro h0 h1),siz hs,zam]
theorem zB8 {t e:TypeId} {sz len b off:Nat} {k:IntKind} {n:Int} (ht:P.underlying t=some (.array len e)) (hs:yJ P e=some sz) (h0:0 <=n) (h1:n < len):
 (Instr.indexAt t (.pointer (some ⟨b,off,none⟩)) (.int k n)).run P w=.ok (.pointer (some ⟨b,off+n.toNat * sz,none⟩)) w:=by
 simp only [Instr.indexAt,Go.asIntOf,Sem.run_bind,Sem.run_pure,Result.andThen_ok,und ht,Instr.sureAddr,if_pos (And.intro h0 h1),siz hs,zam]
theorem zwW (hF:Fr A D G ρ σ a w) {o:Oper} {sz:Nat} {xs:List zl} (hok:zM P G.K o.op (.iaddr sz) xs=true) {vs:List AV} (hev:evs A σ.tm xs=some vs) {v:AV} (hp:pev (.iaddr sz) vs=some v):
 yo P A D G ρ σ a w (execOp a.eval o) v:=by
 simp only [zM]at hok;split at hok
 ·rename_i t x y ho;simp only [Bool.and_eq_true]at hok;obtain ⟨ht,hok⟩:=hok;obtain ⟨e,he,hs⟩:=zmD ht;have hu:=zeq he;obtain ⟨v1,v2,rfl,h1,h2⟩:=(yu hF hok hev).two;unfold pev at hp;dsimp only at hp;split at hp
  ·rename_i sz' full rows k n heq;simp only [List.cons.injEq,and_true]at heq;obtain ⟨rfl,rfl⟩:=heq;split at hp
   ·rename_i hc;obtain ⟨h0,rfl⟩:=hc;cases hr:rows[n.toNat]? with
    |none=>rw [hr]at hp;cases hp
    |some row=>
     rw [hr]at hp;cases hp;obtain ⟨ad,c,e1,hc,hf,hx⟩:=Rep.lst_inv (x:=a.eval x) h1;have hlt:n.toNat < rows.length:=by
      rcases Nat.lt_or_ge n.toNat rows.length with h|h
      ·exact h
      ·rw [List.getElem?_eq_none h]at hr;cases hr
     rcases hx with rfl|⟨b,off,us,rfl,hat,hrr⟩
     ·simp at hlt
     ·obtain ⟨u,hu',hru,_,_⟩:=hrr.get n.toNat hr;refine .same hF (x:=.pointer (some ⟨b,off+n.toNat * sz',none⟩)) ?_ (Rep.iptr (hat.row hrr hu') hru).trep;rw [zku _ _ ho,e1,h2.sc];simp only [Sem.run_bind,zs5 (len:=rows.length) hu hs h0 (by omega),Result.andThen_ok,Sem.run_pure]
   ·cases hp
  ·rename_i id sz' off len lim k n heq;simp only [List.cons.injEq,and_true]at heq;obtain ⟨rfl,rfl⟩:=heq;split at hp
   ·rename_i hc;obtain ⟨h0,hlt,rfl⟩:=hc;cases hp;obtain ⟨b,N,ad,hi,hl,hN,ha,e1⟩:=Rep.arr_inv (x:=a.eval x) h1;rcases ha with ha|rfl
    ·omega
    ·have hr:Rep G w (.ptr id (off+n.toNat) 0) (.pointer (some ⟨b,off * sz'+n.toNat * sz',none⟩)):=by
      have:=Rep.ptr (G:=G) (w:=w) (r:=off+n.toNat) (c:=0) hi;rw [Nat.add_zero,Nat.add_mul]at this;exact this
     refine .same hF ?_ hr.trep;rw [zku _ _ ho,e1,h2.sc];simp only [Sem.run_bind,zs5 hu hs h0 hlt,Result.andThen_ok,Sem.run_pure]
   ·cases hp
  ·cases hp
 ·cases hok
theorem zD6 (hF:Fr A D G ρ σ a w) {o:Oper} {sz len:Nat} {xs:List zl} (hok:zM P G.K o.op (.iaddrA sz len) xs=true) {vs:List AV} (hev:evs A σ.tm xs=some vs) {v:AV} (hp:pev (.iaddrA sz len) vs=some v):
 yo P A D G ρ σ a w (execOp a.eval o) v:=by
 simp only [zM]at hok;split at hok
 ·rename_i t x y ho;simp only [Bool.and_eq_true]at hok;obtain ⟨ht,hok⟩:=hok;obtain ⟨e,hu,hs⟩:=zsR ht;obtain ⟨v1,v2,rfl,h1,h2⟩:=(yu hF hok hev).two;have run:∀b off k n,a.eval x=.pointer (some ⟨b,off,none⟩) -> a.eval y=.int k n -> 0 <=n -> n < len -> (execOp a.eval o).run P w=.ok (.value (.pointer (some ⟨b,off+n.toNat * sz,none⟩))) w:=by
   intro b off k n e1 e2 h0 h1;rw [zku _ _ ho,e1,e2];simp only [Sem.run_bind,zB8 hu hs h0 h1,Result.andThen_ok,Sem.run_pure]
  unfold pev at hp;dsimp only at hp;split at hp
  ·rename_i cs k n heq;simp only [List.cons.injEq,and_true]at heq;obtain ⟨rfl,rfl⟩:=heq;split at hp
   ·rename_i hc;cases hp;obtain ⟨b,off,us,e1,hat,hr⟩:=Rep.iptr_inv (x:=a.eval x) h1;exact .same hF (run b off k n e1 h2.sc hc.1 hc.2) (Rep.iptr (hat.drop _) (hr.drop _)).trep
   ·cases hp
  ·rename_i id r c k n heq;simp only [List.cons.injEq,and_true]at heq;obtain ⟨rfl,rfl⟩:=heq;split at hp
   ·rename_i hc;cases hp;obtain ⟨b,sz',N,hi,e1⟩:=Rep.ptr_inv (x:=a.eval x) h1;refine .same hF (run _ _ k n e1 h2.sc hc.1 hc.2) ?_;rw [Nat.add_assoc];exact (Rep.ptr hi).trep
   ·cases hp
  ·rename_i r c k n heq;simp only [List.cons.injEq,and_true]at heq;obtain ⟨rfl,rfl⟩:=heq;split at hp
   ·rename_i hc;cases hp;obtain ⟨hs',b,hb,e1⟩:=h1;exact .same hF (run _ _ k n e1 h2.sc hc.1 hc.2) ⟨hs',b,hb,rfl⟩
   ·cases hp
  ·cases hp
 ·cases hok
theorem zhK {d:Option TypeDesc} (h:(d matches some .string)=true):d=some .string:=by split at h<;>simp_all
theorem zIJ (hF:Fr A D G ρ σ a w) {o:Oper} {xs:List zl} (hok:zM P G.K o.op .indexS xs=true) {vs:List AV} (hev:evs A σ.tm xs=some vs) {v:AV} (hp:pev .indexS vs=some v):
 yo P A D G ρ σ a w (execOp a.eval o) v:=by
 simp only [zM]at hok;split at hok
 ·rename_i t x y ho;simp only [Bool.and_eq_true]at hok;obtain ⟨ht,hok⟩:=hok;have hu:=zhK ht;obtain ⟨v1,v2,rfl,h1,h2⟩:=(yu hF hok hev).two;unfold pev at hp;dsimp only at hp;split at hp
  ·rename_i s k n heq;simp only [List.cons.injEq,and_true]at heq;obtain ⟨rfl,rfl⟩:=heq;split at hp
   ·rename_i h0;cases hb:s.data[n.toNat]? with
    |none=>rw [hb]at hp;cases hp
    |some b=>
     rw [hb]at hp;cases hp;have hb':s[n.toNat]?=some b:=by
      rw [<- hb];by_cases hlt:n.toNat < s.size
      ·have:n.toNat < s.data.size:=hlt;rw [getElem?_pos s n.toNat hlt,getElem?_pos s.data n.toNat this];rfl
      ·have:¬n.toNat < s.data.size:=hlt;rw [getElem?_neg s n.toNat hlt,getElem?_neg s.data n.toNat this]
     refine .same hF (x:=.int .u8 b.toNat) ?_ (Rep.sc rfl).trep;rw [zsw _ _ ho,h1.sc,h2.sc];simp only [Instr.index,Go.asIntOf,Sem.run_bind,Sem.run_pure,Result.andThen_ok,und hu,if_pos h0,hb']
   ·cases hp
  ·cases hp
 ·cases hok
theorem zAF (hF:Fr A D G ρ σ a w) {o:Oper} {sz len:Nat} {agg:Bool} {xs:List zl} (hok:zM P G.K o.op (.indexA sz len agg) xs=true) {vs:List AV} (hev:evs A σ.tm xs=some vs) {v:AV} (hp:pev (.indexA sz len agg) vs=some v):
 yo P A D G ρ σ a w (execOp a.eval o) v:=by
 simp only [zM]at hok;split at hok
 ·rename_i t x y ho;simp only [Bool.and_eq_true]at hok;obtain ⟨⟨⟨ht,hg⟩,hs1⟩,hok⟩:=hok;obtain ⟨e,hu,hs⟩:=zsR ht;have hag:zah P e=some agg:=by unfold zm0 at hg;rw [hu]at hg;simpa using hg
  obtain ⟨v1,v2,rfl,h1,h2⟩:=(yu hF hok hev).two;unfold pev at hp;dsimp only at hp;split at hp
  ·rename_i cs k n heq;simp only [List.cons.injEq,and_true]at heq;obtain ⟨rfl,rfl⟩:=heq;split at hp
   ·rename_i hc;obtain ⟨us,e1,hr⟩:=Rep.agg_inv (x:=a.eval x) h1;have hlen:=hr.length;refine .same hF ?_ (ziB hr hc.2.2 hs1 hp).trep;rw [zsw _ _ ho,e1,h2.sc];simp only [Instr.index,Go.asIntOf,Sem.run_bind,Sem.run_pure,Result.andThen_ok,und hu,if_pos (And.intro hc.1 hc.2.1),siz hs,ztN hs hag (show n.toNat * sz+sz <=us.length by omega) hs1]
   ·cases hp
  ·cases hp
 ·cases hok
theorem zxS {v:AV} {top n:Nat} (h:zK v top=some n):∃k i,v=.sc (.int k i) /\ 0 <=i /\ i <=top /\ i.toNat=n:=by
 unfold zK at h;split at h
 ·split at h
  ·rename_i hc;cases h;exact ⟨_,_,rfl,hc.1,hc.2,rfl⟩
  ·cases h
 ·cases h
theorem zyd {x:Value} {k:IntKind} {i:Int} {y n:Nat} {code:BoundsCode} (hx:x=.int k i) (h0:0 <=i) (h1:i <=y) (hn:i.toNat=n):(Instr.sliceBound x y code).run P w=.ok n w:=by
 subst hx;simp only [Instr.sliceBound,Go.asIntOf,Sem.run_bind,Sem.run_pure,Result.andThen_ok,if_pos (And.intro h0 h1),hn]
end
section
variable {A:zx} {D:Nat -> Prop} {G:Gh} {ρ:Nat -> Option Nat} {σ:ASt} {a:Act} {w:World} {P:Program} {rg:Nat -> Option (List AV)}
theorem zwr (hF:Fr A D G ρ σ a w) {o:Oper} {xs:List zl} (hok:zM P G.K o.op .bytesStr xs=true) {vs:List AV} (hev:evs A σ.tm xs=some vs) {v:AV} (hp:pev .bytesStr vs=some v):
 yo P A D G ρ σ a w (execOp a.eval o) v:=by
 simp only [zM]at hok;split at hok
 ·rename_i s d x ho;simp only [Bool.and_eq_true]at hok;obtain ⟨⟨hd,hs⟩,hok⟩:=hok;have hd:=zhK hd;obtain ⟨e,hs,he⟩:∃e,P.underlying s=some (.slice e) /\ P.underlying e=some (.int .u8):=by
   unfold zr1 at hs;split at hs
   ·rename_i e hu;refine ⟨e,hu,?_⟩;split at hs<;>simp_all
   ·cases hs
  obtain ⟨v1,rfl,h1⟩:=(yu hF hok hev).one;unfold pev at hp;dsimp only at hp;split at hp
  ·rename_i sz full rows heq;simp only [List.cons.injEq,and_true]at heq;subst heq;cases hb:bytesOf rows with
   |none=>rw [hb]at hp;cases hp
   |some l=>
    rw [hb]at hp;cases hp;obtain ⟨ad,c,e1,hc,hf,hx⟩:=Rep.lst_inv (x:=a.eval x) h1;refine .same hF (x:=.string ⟨l.toArray⟩) ?_ (Rep.sc rfl).trep;rw [zg7 _ _ ho,e1];simp only [Sem.run_bind,run_convert_bytes_string w s d e _ _ _ hs he hd];rcases hx with rfl|⟨b,off,us,rfl,hat,hrr⟩
    ·simp [bytesOf]at hb;subst hb;cases ad with
     |none=>rfl
     |some ad=>rfl
    ·
     have key:∀{rows:List (List AV)} {us:List (List Value)} {l:List UInt8},zF G w sz rows us -> bytesOf rows=some l -> ∃ns:List Int,us.flatten=ns.map (Value.int .u8) /\ ns.length=rows.length /\ l=ns.map fun n=>UInt8.ofNat n.toNat:=by
      intro rows
      induction rows with
      |nil=>intro us l hr hb;cases hr;simp [bytesOf]at hb;subst hb;exact ⟨[],rfl,rfl,rfl⟩
      |cons r rows ih=>
       intro us l hr hb;cases hr with
       |cons h hl hc t=>
        unfold bytesOf at hb;split at hb
        ·rename_i heq;cases heq
        ·rename_i n rows' heq;obtain ⟨rfl,rfl⟩:=List.cons.inj heq;cases hb':bytesOf rows with
         |none=>rw [hb']at hb;cases hb
         |some l'=>
          rw [hb']at hb;cases hb;obtain ⟨ns,e1,e2,e3⟩:=ih t hb';cases h with
          |cons h0 h1=>
           cases h1;cases h0;exact ⟨n::ns,by simp [e1],by simp [e2],by simp [e3]⟩
        ·cases hb
     obtain ⟨ns,k1,k2,k3⟩:=key hrr hb;have hld:=run_loadCells_list (P:=P) (w:=w) (⟨b,off,none⟩:Addr) us.flatten (by
      intro j u hu;rw [zam];exact (hat j u hu).2)
     have hlen:us.flatten.length=rows.length:=by rw [k1,List.length_map,k2]
     rw [hlen,k1]at hld;rw [run_bytesToString (P:=P) (w:=w) (⟨b,off,none⟩:Addr) rows.length c ns hld];simp only [Result.andThen_ok,Sem.run_pure];subst k3;have:∀(ns:List Int) (s:ByteArray),ns.foldl (fun r n=>r.push (UInt8.ofNat n.toNat)) s=⟨s.data++(ns.map fun n=>UInt8.ofNat n.toNat).toArray⟩:=by
      intro ns
      induction ns with
      |nil=>intro s;cases s;simp
      |cons n ns ih=>intro s;rw [List.foldl_cons,ih];cases s;simp [ByteArray.push]
     rw [this];simp [ByteArray.empty,ByteArray.emptyWithCapacity];rfl
  ·cases hp
 ·cases hok
theorem TL.more {vs:List AV} {x:Value} {xs:List Value} (h:TL G ρ rg w vs (x::xs)):∃v us,vs=v::us /\ yN G ρ rg w v x /\ TL G ρ rg w us xs:=by
 obtain _|⟨h,t⟩:=h;exact ⟨_,_,rfl,h,t⟩
theorem y4 {v:AV} {x:Value} {top y n:Nat} {code:BoundsCode} (hb:zK v top=some n) (hx:yN G ρ rg w v x) (hy:top <=y):(Instr.sliceBound x y code).run P w=.ok n w /\ n <=top:=by
 obtain ⟨k,i,rfl,h0,h1,h2⟩:=zxS hb;exact ⟨zyd hx.sc h0 (by omega) h2,by omega⟩
structure Bds (P:Program) (w:World) (isS:Bool) (len cap:Nat) (lo hi mx:Option Value) (l h m:Nat):Prop where
 run:(Instr.sliceBounds isS len cap lo hi mx).run P w=.ok (l,h,m) w
 lh:l <=h
 hm:h <=m
theorem zjS {isS:Bool} {len cap:Nat} (hc:len <=cap):Bds P w isS len cap none none none 0 len cap:=
 ⟨by simp only [Instr.sliceBounds,Sem.run_bind,Sem.run_pure,Result.andThen_ok],Nat.zero_le _,hc⟩
theorem zjY {isS:Bool} {len cap l:Nat} {v:AV} {x:Value} (hc:len <=cap) (hb:zK v len=some l) (hx:yN G ρ rg w v x):Bds P w isS len cap (some x) none none l len cap:=
 ⟨by simp only [Instr.sliceBounds,Sem.run_bind,Sem.run_pure,Result.andThen_ok,(y4 (P:=P) hb hx (Nat.le_refl _)).1],(y4 (P:=P) (code:=.index) hb hx (Nat.le_refl _)).2,hc⟩
theorem zkL {isS:Bool} {len cap h:Nat} {v:AV} {x:Value} (hc:len <=cap) (hb:zK v len=some h) (hx:yN G ρ rg w v x):Bds P w isS len cap none (some x) none 0 h cap:=by
 have h2:=(y4 (P:=P) (code:=.index) hb hx hc).2;exact ⟨by simp only [Instr.sliceBounds,Sem.run_bind,Sem.run_pure,Result.andThen_ok,(y4 (P:=P) hb hx hc).1],Nat.zero_le _,by omega⟩
theorem zlU {isS:Bool} {len cap l h:Nat} {v u:AV} {x y:Value} (hc:len <=cap) (hb:zK v len=some h) (hx:yN G ρ rg w v x) (hb':zK u h=some l) (hy:yN G ρ rg w u y):Bds P w isS len cap (some y) (some x) none l h cap:=by
 have h2:=(y4 (P:=P) (code:=.index) hb hx hc).2;exact ⟨by simp only [Instr.sliceBounds,Sem.run_bind,Sem.run_pure,Result.andThen_ok,(y4 (P:=P) hb hx hc).1,(y4 (P:=P) hb' hy (Nat.le_refl _)).1],(y4 (P:=P) (code:=.index) hb' hy (Nat.le_refl _)).2,by omega⟩
theorem zrl {isS:Bool} {len cap h m:Nat} {v u:AV} {x y:Value} (hc:len <=cap) (hb:zK v len=some m) (hx:yN G ρ rg w v x) (hb':zK u m=some h) (hy:yN G ρ rg w u y):Bds P w isS len cap none (some y) (some x) 0 h m:=
 ⟨by simp only [Instr.sliceBounds,Sem.run_bind,Sem.run_pure,Result.andThen_ok,(y4 (P:=P) hb hx hc).1,(y4 (P:=P) hb' hy (Nat.le_refl _)).1],Nat.zero_le _,(y4 (P:=P) (code:=.index) hb' hy (Nat.le_refl _)).2⟩
theorem zrj {isS:Bool} {len cap l h m:Nat} {v u t:AV} {x y z:Value} (hc:len <=cap) (hb:zK v len=some m) (hx:yN G ρ rg w v x) (hb':zK u m=some h) (hy:yN G ρ rg w u y) (hb'':zK t h=some l) (hz:yN G ρ rg w t z):
 Bds P w isS len cap (some z) (some y) (some x) l h m:=
 ⟨by simp only [Instr.sliceBounds,Sem.run_bind,Sem.run_pure,Result.andThen_ok,(y4 (P:=P) hb hx hc).1,(y4 (P:=P) hb' hy (Nat.le_refl _)).1,(y4 (P:=P) hb'' hz (Nat.le_refl _)).1],(y4 (P:=P) (code:=.index) hb'' hz (Nat.le_refl _)).2,(y4 (P:=P) (code:=.index) hb' hy (Nat.le_refl _)).2⟩
theorem zIx {t e:TypeId} {sz len cap l h m:Nat} {ad:Option Addr} {lo hi mx:Option Value} (ht:P.underlying t=some (.slice e)) (hs:yJ P e=some sz) (hb:Bds P w true len cap lo hi mx l h m):
 (Instr.sliceAt t (.slice ad len cap) lo hi mx).run P w=.ok (.slice (if m=l then ad else ad.map (·.add (l * sz))) (h - l) (m - l)) w:=by
 simp only [Instr.sliceAt,Instr.slice,Sem.run_bind,und ht,Result.andThen_ok,hb.run,siz hs,Sem.run_pure]
theorem zcV {sz:Nat} {full full':Bool} {xs:List (List AV)} {ad:Option Addr} {c l h m:Nat} (hr:Rep G w (.lst sz full xs) (.slice ad xs.length c)) (hlh:l <=h) (hhm:h <=m) (hx:h <=xs.length) (hf:full'=true -> m=h):
 Rep G w (.lst sz full' ((xs.take h).drop l)) (.slice (if m=l then ad else ad.map (·.add (l * sz))) (h - l) (m - l)):=by
 obtain ⟨ad',c',e1,hc,hfull,hcase⟩:=hr.lst_inv;cases e1;have hlen:((xs.take h).drop l).length=h - l:=by simp;omega
 by_cases h0:h=l
 ·subst h0;have:(xs.take h).drop h=[]:=by simp
  rw [this,Nat.sub_self];exact .nil fun hf'=>by rw [hf hf',Nat.sub_self]
 ·rcases hcase with rfl|⟨b,off,vs,rfl,hat,hrr⟩
  ·simp at hx;omega
  ·rw [if_neg (by omega)];simp only [Option.map_some,zam];exact .lst hlen.symm (by omega) (fun hf'=>by rw [hlen,hf hf']) (hat.sub hrr l h) ((hrr.take h).drop l)
theorem zd6 {id sz off len l h m:Nat} {lim lim':Option Nat} {ad:Option Addr} {cap:Nat} (hr:Rep G w (.arr id sz off len lim) (.slice ad len cap)) (hlh:l <=h) (hhm:h <=m) (hx:h <=len)
 (hm:(m=cap /\ lim'=lim) \/ (m <=len /\ lim'=some (off+m))):
 Rep G w (.arr id sz (off+l) (h - l) lim') (.slice (if m=l then ad else ad.map (·.add (l * sz))) (h - l) (m - l)):=by
 obtain ⟨b,N,ad',hi,hl,hN,ha,e1⟩:=hr.arr_inv;cases e1;have haddr:m - l=0 \/ (if m=l then ad else ad.map (·.add (l * sz)))=some ⟨b,(off+l) * sz,none⟩:=by
  by_cases hml:m=l
  ·left;omega
  ·right;rw [if_neg hml];rcases ha with ha|rfl
   ·rcases hm with ⟨rfl,_⟩|⟨hm,_⟩<;>omega
   ·simp only [Option.map_some,zam,Nat.add_mul]
 rcases hm with ⟨rfl,rfl⟩|⟨hm,rfl⟩
 ·exact .arr hi (by omega) hN (by omega) haddr
 ·exact .arr hi (by simp only [Option.getD_some];omega) (by simp only [Option.getD_some];omega) (by simp only [Option.getD_some];omega) haddr
theorem ze3 {x:Option Operand} {b:Bool} (h:(x.isSome==b)=true):x.isSome=b:=by simpa using h
theorem zx6 (hF:Fr A D G ρ σ a w) {o:Oper} {z:Nat} {lo hi mx:Bool} {xs:List zl} (hok:zM P G.K o.op (.sliceL z lo hi mx) xs=true) {vs:List AV} (hev:evs A σ.tm xs=some vs) {v:AV} (hp:pev (.sliceL z lo hi mx) vs=some v):
 yo P A D G ρ σ a w (execOp a.eval o) v:=by
 simp only [zM]at hok;split at hok
 ·rename_i t x ol oh om ho;simp only [Bool.and_eq_true]at hok;obtain ⟨⟨⟨⟨hz,el⟩,eh⟩,em⟩,hok⟩:=hok;obtain ⟨e,he,hs⟩:=zmD hz;have hu:=zeq he;have el:=ze3 el;have eh:=ze3 eh;have em:=ze3 em;obtain ⟨v1,us,rfl,h1,ht⟩:=(yu hF hok hev).more;have fin:∀{ad len cap l h m u},a.eval x=.slice ad len cap -> Bds P w true len cap (ol.map a.eval) (oh.map a.eval) (om.map a.eval) l h m ->
   Rep G w u (.slice (if m=l then ad else ad.map (·.add (l * z))) (h - l) (m - l)) -> yo P A D G ρ σ a w (execOp a.eval o) u:=by
   intro ad len cap l h m u e1 hb hr;refine .same hF ?_ hr.trep;rw [znf _ _ ho,e1];simp only [Sem.run_bind,zIx hu hs hb,Result.andThen_ok,Sem.run_pure]
  unfold pev at hp;dsimp only at hp;split at hp
  ·rename_i sz full rows rest heq;obtain ⟨rfl,rfl⟩:=List.cons.inj heq;split at hp
   ·cases hp
   ·rename_i hzz;have h1:Rep G w (.lst z full rows) (a.eval x):=by
     have h1:Rep G w (.lst sz full rows) (a.eval x):=h1;by_cases hzs:z=sz
     ·rw [hzs];exact h1
     ·have:rows=[]:=by
       cases rows with
       |nil=>rfl
       |cons _ _=>exact absurd ⟨hzs,rfl⟩ hzz
      subst this;generalize a.eval x=q at h1;cases h1 with
      |nil e=>exact .nil e
      |lst hn hc hf _ _=>subst hn;exact .nil hf
    obtain ⟨ad,c,e1,hc,hf,hx⟩:=Rep.lst_inv (x:=a.eval x) h1;rw [e1]at h1;cases ol with
    |none=>
     cases oh with
     |none=>
      cases om with
      |none=>
       simp only [Option.isSome_none]at el eh em;subst el;subst eh;subst em;cases ht;cases hp;refine fin e1 (zjS hc) ?_;by_cases h0:c=0
       ·rw [if_pos h0];simpa using h1
       ·rw [if_neg h0];have:=zcV (full':=full) (l:=0) (h:=rows.length) (m:=c) h1 (Nat.zero_le _) hc (Nat.le_refl _) hf;rw [if_neg h0]at this;simpa using this
      |some om=>simp only [Option.isSome_none,Option.isSome_some]at el eh em;subst el;subst eh;subst em;(try dsimp only at hp);first|(cases hp;done)|(split at hp<;>cases hp)
     |some oh=>
      cases om with
      |none=>
       simp only [Option.isSome_none,Option.isSome_some]at el eh em;subst el;subst eh;subst em;obtain ⟨u,rfl,hu1⟩:=TL.one ht;dsimp only at hp;cases hb:zK u rows.length with
       |none=>rw [hb]at hp;cases hp
       |some h=>
        rw [hb]at hp;cases hp;have hle:=(y4 (P:=P) (code:=.index) hb hu1 (Nat.le_refl _)).2;refine fin e1 (zkL hc hb hu1) ?_;have:=zcV (full':=full && h==rows.length) (l:=0) (h:=h) (m:=c) h1 (Nat.zero_le _) (by omega) hle (by simp;intro hf' hh;rw [hf hf',hh]);simpa using this
      |some om=>
       simp only [Option.isSome_none,Option.isSome_some]at el eh em;subst el;subst eh;subst em;obtain ⟨u,u',rfl,hu1,hu2⟩:=TL.two ht;dsimp only at hp;cases hb:zK u' rows.length with
       |none=>rw [hb]at hp;cases hp
       |some m=>
        rw [hb]at hp;dsimp only [Option.bind_some]at hp;cases hb':zK u m with
        |none=>rw [hb']at hp;cases hp
        |some h=>
         rw [hb']at hp;cases hp;have hle:=(y4 (P:=P) (code:=.index) hb hu2 (Nat.le_refl _)).2;have hle':=(y4 (P:=P) (code:=.index) hb' hu1 (Nat.le_refl _)).2;refine fin e1 (zrl hc hb hu2 hb' hu1) ?_;have:=zcV (full':=m==h) (l:=0) (h:=h) (m:=m) h1 (Nat.zero_le _) hle' (by omega) (by simp);simpa using this
    |some ol=>
     cases oh with
     |none=>
      cases om with
      |none=>
       simp only [Option.isSome_none,Option.isSome_some]at el eh em;subst el;subst eh;subst em;obtain ⟨u,rfl,hu1⟩:=TL.one ht;dsimp only at hp;cases hb:zK u rows.length with
       |none=>rw [hb]at hp;cases hp
       |some l=>
        rw [hb]at hp;cases hp;have hle:=(y4 (P:=P) (code:=.index) hb hu1 (Nat.le_refl _)).2;refine fin e1 (zjY hc hb hu1) ?_;have:=zcV (full':=full) (l:=l) (h:=rows.length) (m:=c) h1 hle hc (Nat.le_refl _) hf;simpa using this
      |some om=>simp only [Option.isSome_none,Option.isSome_some]at el eh em;subst el;subst eh;subst em;(try dsimp only at hp);first|(cases hp;done)|(split at hp<;>cases hp)
     |some oh=>
      cases om with
      |none=>
       simp only [Option.isSome_none,Option.isSome_some]at el eh em;subst el;subst eh;subst em;obtain ⟨u,u',rfl,hu1,hu2⟩:=TL.two ht;dsimp only at hp;cases hb:zK u' rows.length with
       |none=>rw [hb]at hp;cases hp
       |some h=>
        rw [hb]at hp;dsimp only [Option.bind_some]at hp;cases hb':zK u h with
        |none=>rw [hb']at hp;cases hp
        |some l=>
         rw [hb']at hp;cases hp;have hle:=(y4 (P:=P) (code:=.index) hb hu2 (Nat.le_refl _)).2;have hle':=(y4 (P:=P) (code:=.index) hb' hu1 (Nat.le_refl _)).2;refine fin e1 (zlU hc hb hu2 hb' hu1) ?_;exact zcV (full':=full && h==rows.length) h1 hle' (by omega) hle (by simp;intro hf' hh;rw [hf hf',hh])
      |some om=>
       simp only [Option.isSome_some]at el eh em;subst el;subst eh;subst em;obtain ⟨u,u',u'',rfl,hu1,hu2,hu3⟩:=TL.three ht;dsimp only at hp;cases hb:zK u'' rows.length with
       |none=>rw [hb]at hp;cases hp
       |some m=>
        rw [hb]at hp;dsimp only [Option.bind_some]at hp;cases hb':zK u' m with
        |none=>rw [hb']at hp;cases hp
        |some h=>
         rw [hb']at hp;dsimp only [Option.bind_some]at hp;cases hb'':zK u h with
         |none=>rw [hb'']at hp;cases hp
         |some l=>
          rw [hb'']at hp;cases hp;have hle:=(y4 (P:=P) (code:=.index) hb hu3 (Nat.le_refl _)).2;have hle':=(y4 (P:=P) (code:=.index) hb' hu2 (Nat.le_refl _)).2;have hle'':=(y4 (P:=P) (code:=.index) hb'' hu1 (Nat.le_refl _)).2;refine fin e1 (zrj hc hb hu3 hb' hu2 hb'' hu1) ?_;exact zcV (full':=m==h) h1 hle'' hle' (by omega) (by simp)
  ·rename_i id sz off len lim rest heq;obtain ⟨rfl,rfl⟩:=List.cons.inj heq;split at hp
   ·cases hp
   ·rename_i hzz;have hzz:z=sz:=by simpa using hzz
    subst hzz;obtain ⟨b,N,ad,hi',hl',hN,ha,e1⟩:=Rep.arr_inv (x:=a.eval x) h1;have hc:len <=lim.getD N - off:=by omega
    have h1:Rep G w _ (a.eval x):=h1;rw [e1]at h1;cases ol with
    |none=>
     cases oh with
     |none=>
      cases om with
      |none=>
       simp only [Option.isSome_none]at el eh em;subst el;subst eh;subst em;cases ht;cases hp;refine fin e1 (zjS hc) ?_;have:=zd6 (l:=0) (h:=len) (m:=lim.getD N - off) (lim':=lim) h1 (Nat.zero_le _) hc (Nat.le_refl _) (.inl ⟨rfl,rfl⟩);simpa using this
      |some om=>simp only [Option.isSome_none,Option.isSome_some]at el eh em;subst el;subst eh;subst em;(try dsimp only at hp);first|(cases hp;done)|(split at hp<;>cases hp)
     |some oh=>
      cases om with
      |none=>
       simp only [Option.isSome_none,Option.isSome_some]at el eh em;subst el;subst eh;subst em;obtain ⟨u,rfl,hu1⟩:=TL.one ht;dsimp only at hp;cases hb:zK u len with
       |none=>rw [hb]at hp;cases hp
       |some h=>
        rw [hb]at hp;cases hp;have hle:=(y4 (P:=P) (code:=.index) hb hu1 (Nat.le_refl _)).2;refine fin e1 (zkL hc hb hu1) ?_;have:=zd6 (l:=0) (h:=h) (m:=lim.getD N - off) (lim':=lim) h1 (Nat.zero_le _) (by omega) hle (.inl ⟨rfl,rfl⟩);simpa using this
      |some om=>
       simp only [Option.isSome_none,Option.isSome_some]at el eh em;subst el;subst eh;subst em;obtain ⟨u,u',rfl,hu1,hu2⟩:=TL.two ht;dsimp only at hp;cases hb:zK u' len with
       |none=>rw [hb]at hp;cases hp
       |some m=>
        rw [hb]at hp;dsimp only [Option.bind_some]at hp;cases hb':zK u m with
        |none=>rw [hb']at hp;cases hp
        |some h=>
         rw [hb']at hp;cases hp;have hle:=(y4 (P:=P) (code:=.index) hb hu2 (Nat.le_refl _)).2;have hle':=(y4 (P:=P) (code:=.index) hb' hu1 (Nat.le_refl _)).2;refine fin e1 (zrl hc hb hu2 hb' hu1) ?_;have:=zd6 (l:=0) (h:=h) (m:=m) (lim':=some (off+m)) h1 (Nat.zero_le _) hle' (by omega) (.inr ⟨hle,rfl⟩);simpa using this
    |some ol=>
     cases oh with
     |none=>
      cases om with
      |none=>
       simp only [Option.isSome_none,Option.isSome_some]at el eh em;subst el;subst eh;subst em;obtain ⟨u,rfl,hu1⟩:=TL.one ht;dsimp only at hp;cases hb:zK u len with
       |none=>rw [hb]at hp;cases hp
       |some l=>
        rw [hb]at hp;cases hp;have hle:=(y4 (P:=P) (code:=.index) hb hu1 (Nat.le_refl _)).2;exact fin e1 (zjY hc hb hu1) (zd6 (lim':=lim) h1 hle hc (Nat.le_refl _) (.inl ⟨rfl,rfl⟩))
      |some om=>simp only [Option.isSome_none,Option.isSome_some]at el eh em;subst el;subst eh;subst em;(try dsimp only at hp);first|(cases hp;done)|(split at hp<;>cases hp)
     |some oh=>
      cases om with
      |none=>
       simp only [Option.isSome_none,Option.isSome_some]at el eh em;subst el;subst eh;subst em;obtain ⟨u,u',rfl,hu1,hu2⟩:=TL.two ht;dsimp only at hp;cases hb:zK u' len with
       |none=>rw [hb]at hp;cases hp
       |some h=>
        rw [hb]at hp;dsimp only [Option.bind_some]at hp;cases hb':zK u h with
        |none=>rw [hb']at hp;cases hp
        |some l=>
         rw [hb']at hp;cases hp;have hle:=(y4 (P:=P) (code:=.index) hb hu2 (Nat.le_refl _)).2;have hle':=(y4 (P:=P) (code:=.index) hb' hu1 (Nat.le_refl _)).2;exact fin e1 (zlU hc hb hu2 hb' hu1) (zd6 (lim':=lim) h1 hle' (by omega) hle (.inl ⟨rfl,rfl⟩))
      |some om=>
       simp only [Option.isSome_some]at el eh em;subst el;subst eh;subst em;obtain ⟨u,u',u'',rfl,hu1,hu2,hu3⟩:=TL.three ht;dsimp only at hp;cases hb:zK u'' len with
       |none=>rw [hb]at hp;cases hp
       |some m=>
        rw [hb]at hp;dsimp only [Option.bind_some]at hp;cases hb':zK u' m with
        |none=>rw [hb']at hp;cases hp
        |some h=>
         rw [hb']at hp;dsimp only [Option.bind_some]at hp;cases hb'':zK u h with
         |none=>rw [hb'']at hp;cases hp
         |some l=>
          rw [hb'']at hp;cases hp;have hle:=(y4 (P:=P) (code:=.index) hb hu3 (Nat.le_refl _)).2;have hle':=(y4 (P:=P) (code:=.index) hb' hu2 (Nat.le_refl _)).2;have hle'':=(y4 (P:=P) (code:=.index) hb'' hu1 (Nat.le_refl _)).2;exact fin e1 (zrj hc hb hu3 hb' hu2 hb'' hu1) (zd6 (lim':=some (off+m)) h1 hle'' hle' (by omega) (.inr ⟨hle,rfl⟩))
  ·cases hp
 ·cases hok
theorem zB2 {t:TypeId} {s:ByteArray} {l h m:Nat} {lo hi:Option Value} (ht:P.underlying t=some .string) (hb:Bds P w false s.size s.size lo hi none l h m):
 (Instr.sliceAt t (.string s) lo hi none).run P w=.ok (.string (s.extract l h)) w:=by
 simp only [Instr.sliceAt,Instr.slice,Sem.run_bind,und ht,Result.andThen_ok,Option.isSome_none,Bool.false_eq_true,if_false,hb.run,Sem.run_pure]
theorem zEt (hF:Fr A D G ρ σ a w) {o:Oper} {lo hi:Bool} {xs:List zl} (hok:zM P G.K o.op (.sliceS lo hi) xs=true) {vs:List AV} (hev:evs A σ.tm xs=some vs) {v:AV} (hp:pev (.sliceS lo hi) vs=some v):
 yo P A D G ρ σ a w (execOp a.eval o) v:=by
 simp only [zM]at hok;split at hok
 ·rename_i t x ol oh ho;simp only [Bool.and_eq_true]at hok;obtain ⟨⟨⟨hz,el⟩,eh⟩,hok⟩:=hok;have hu:=zhK hz;have el:=ze3 el;have eh:=ze3 eh;obtain ⟨v1,us,rfl,h1,ht⟩:=(yu hF hok hev).more;unfold pev at hp;dsimp only at hp;split at hp
  ·rename_i s rest heq;obtain ⟨rfl,rfl⟩:=List.cons.inj heq;have e1:=h1.sc;have fin:∀{l h m},Bds P w false s.size s.size (ol.map a.eval) (oh.map a.eval) none l h m -> yo P A D G ρ σ a w (execOp a.eval o) (.sc (.string (s.extract l h))):=by
    intro l h m hb;refine .same hF ?_ (Rep.sc rfl).trep;rw [znf _ _ ho,e1];simp only [Option.map_none,Sem.run_bind,zB2 hu hb,Result.andThen_ok,Sem.run_pure]
   cases ol with
   |none=>
    cases oh with
    |none=>
     simp only [Option.isSome_none]at el eh;subst el;subst eh;cases ht;cases hp;exact fin (zjS (Nat.le_refl _))
    |some oh=>
     simp only [Option.isSome_none,Option.isSome_some]at el eh;subst el;subst eh;obtain ⟨u,rfl,hu1⟩:=TL.one ht;dsimp only at hp;cases hb:zK u s.size with
     |none=>rw [hb]at hp;cases hp
     |some h=>
      rw [hb]at hp;cases hp;exact fin (zkL (Nat.le_refl _) hb hu1)
   |some ol=>
    cases oh with
    |none=>
     simp only [Option.isSome_none,Option.isSome_some]at el eh;subst el;subst eh;obtain ⟨u,rfl,hu1⟩:=TL.one ht;dsimp only at hp;cases hb:zK u s.size with
     |none=>rw [hb]at hp;cases hp
     |some l=>
      rw [hb]at hp;cases hp;exact fin (zjY (Nat.le_refl _) hb hu1)
    |some oh=>
     simp only [Option.isSome_some]at el eh;subst el;subst eh;obtain ⟨u,u',rfl,hu1,hu2⟩:=TL.two ht;dsimp only at hp;cases hb:zK u' s.size with
     |none=>rw [hb]at hp;cases hp
     |some h=>
      rw [hb]at hp;dsimp only [Option.bind_some]at hp;cases hb':zK u h with
      |none=>rw [hb']at hp;cases hp
      |some l=>
       rw [hb']at hp;cases hp;exact fin (zlU (Nat.le_refl _) hb hu2 hb' hu1)
  ·cases hp
 ·cases hok
end
section
variable {A:zx} {D:Nat -> Prop} {G:Gh} {ρ:Nat -> Option Nat} {σ:ASt} {a:Act} {w:World} {P:Program} {rg:Nat -> Option (List AV)}
theorem Rep.oneCell {v:AV} {x:Value} (h:Rep G w v x) (hc:v.isCell=true):x.oneCell'=true:=by
 cases h<;>first|rfl|(simp [AV.isCell]at hc;done)|skip
 rename_i hs;revert hs;unfold qB;split<;>simp [Value.oneCell']
theorem zp.oneCell {vs:List AV} {xs:List Value} (h:zp G w vs xs) (hc:vs.all AV.isCell=true):∀u∈xs,u.oneCell'=true:=by
 induction vs generalizing xs with
 |nil=>cases h;intro u hu;simp at hu
 |cons v vs ih=>
  cases h with
  |cons h t=>
   simp at hc;intro u hu;rcases List.mem_cons.1 hu with rfl|hu
   ·exact h.oneCell hc.1
   ·exact ih t (by simpa using hc.2) u hu
theorem Rep.cells {v:AV} {x:Value} (h:Rep G w v x) (hc:v.cells.all AV.isCell=true):zp G w v.cells x.cells.toList:=by
 cases h with
 |agg h=>simpa [AV.cells,Value.cells] using h
 |junk=>simp [AV.cells,AV.isCell]at hc
 |tup h=>simp [AV.cells,AV.isCell]at hc
 |sc hs=>
  have:x.cells=#[x]:=by revert hs;unfold qB;split<;>simp [Value.cells]
  rw [this];exact .cons (.sc hs) .nil
 |opq=>exact .cons .opq .nil
 |ptr h=>exact .cons (.ptr h) .nil
 |iptr h hr=>exact .cons (.iptr h hr) .nil
 |nil h=>exact .cons (.nil h) .nil
 |lst hn hc' hf h hr=>exact .cons (.lst hn hc' hf h hr) .nil
 |arr h hl hN hcap ha=>exact .cons (.arr h hl hN hcap ha) .nil
 |fn hk ha hb=>exact .cons (.fn hk ha hb) .nil
 |mp h=>exact .cons (.mp h) .nil
theorem zbP {v:AV} (h:v.cells.all AV.isCell=true):v.isReg=false:=by cases v<;>simp_all [AV.isReg,AV.cells,AV.isCell]
theorem zFh (l:List Value):∀(k off:Nat) (cs:Array Value),off+k+l.length <=cs.size ->
 ((l.zipIdx k).foldl (fun cs p=>cs.setIfInBounds (off+p.2) p.1) cs).toList=cs.toList.take (off+k)++l++cs.toList.drop (off+k+l.length):=by
 induction l with
 |nil=>intro k off cs h;simp
 |cons v l ih=>
  intro k off cs h;rw [List.zipIdx_cons,List.foldl_cons,ih (k+1) off _ (by simp at h ⊢;omega)];simp only [Array.toList_setIfInBounds,List.length_cons]at h ⊢;have hlt':off+k < cs.size:=by omega
  have hlt:off+k < cs.toList.length:=by simpa using hlt'
  rw [List.take_set,List.drop_set_of_lt (by omega)];have e1:(cs.toList.take (off+(k+1))).set (off+k) v=cs.toList.take (off+k)++[v]:=by
   rw [show off+(k+1)=off+k+1 by omega,List.take_succ_eq_append_getElem hlt,List.set_append_right _ _ (by simp;omega)];simp [Nat.min_eq_left (Nat.le_of_lt hlt')]
  have e2:cs.toList.drop (off+(k+1)+l.length)=cs.toList.drop (off+k+(l.length+1)):=by congr 1;omega
  rw [e1,e2];simp only [List.append_assoc,List.cons_append,List.nil_append]
theorem zsA {place:Nat -> Option (Nat×Nat)} {cells:Array Value} {i off sz:Nat} {v:Value} {rest:List (Nat×Value)} (hp:place i=some (off,sz)) (hv:v.cells.size=sz) (hle:off+sz <=cells.size):
 Instr.fill place cells ((i,v)::rest)=Instr.fill place (cells.toList.take off++v.cells.toList++cells.toList.drop (off+sz)).toArray rest:=by
 rw [Instr.fill,hp];simp only [];rw [if_neg (show ¬((decide (v.cells.size≠sz) ||decide (off+v.cells.size > cells.size))=true) by simp;omega)];congr 1;have:=zFh v.cells.toList 0 off cells (by simp;omega);apply Array.toList_inj.1;rw [<- Array.foldl_toList,Array.toList_zipIdx,this];simp [hv]
theorem zmU {place:Nat -> Option (Nat×Nat)}:∀{ids:List Nat} {places:List (Nat×Nat)} {vs:List AV} {xs:List Value} {cs out:List AV} {us:List Value},
 ids.map place=places.map some -> TL G ρ rg w vs xs -> zp G w cs us -> vm places vs cs=some out ->
 ∃outv,Instr.fill place us.toArray (ids.zip xs)=some outv /\ zp G w out outv.toList
 |[],[],vs,xs,cs,out,us,_,ht,hc,hf=>by
  cases vs with
  |nil=>simp [vm]at hf;subst hf;exact ⟨us.toArray,by simp [Instr.fill],by simpa using hc⟩
  |cons _ _=>simp [vm]at hf
 |[],_::_,_,_,_,_,_,h,_,_,_=>by simp at h
 |_::_,[],_,_,_,_,_,h,_,_,_=>by simp at h
 |i::ids,(off,sz)::places,vs,xs,cs,out,us,hm,ht,hc,hf=>by
  cases ht with
  |nil=>simp [vm]at hf
  |cons h t=>
   rename_i v vs x xs;rw [vm]at hf;split at hf
   ·cases hf
   ·rename_i hn;simp only [Bool.or_eq_true,Bool.not_eq_eq_eq_not,Bool.not_true,bne_iff_ne,ne_eq,decide_eq_true_eq,not_or,Bool.not_eq_false,Decidable.not_not,Nat.not_lt]at hn;obtain ⟨⟨h1,h2⟩,h3⟩:=hn;have hrep:=(h.rep (zbP h1)).cells h1;have hl:=hrep.length;have hlc:=hc.length;simp only [List.map_cons,List.cons.injEq]at hm;have hstep:=zsA (cells:=us.toArray) (rest:=ids.zip xs) hm.1 (show x.cells.size=sz by rw [<- h2,hl,Array.length_toList]) (by simp;omega);rw [List.zip_cons_cons,hstep];have hc':zp G w (cs.take off++v.cells++cs.drop (off+sz)) (us.take off++x.cells.toList++us.drop (off+sz)):=((hc.take off).append hrep).append (hc.drop _);exact zmU hm.2 t hc' hf
theorem zdL {t:TypeId} {cs:List AV} (h:zbw P t cs=true):∃i z,P.info? t=some i /\ i.zero=some z /\ vX cs z.cells.toList=true:=by
 unfold zbw at h;split at h
 ·rename_i z hz;cases hi:P.info? t with
  |none=>rw [hi]at hz;cases hz
  |some i=>rw [hi]at hz;exact ⟨i,z,rfl,hz,h⟩
 ·cases h
theorem zqw {P:Program} {w:World}:∀(fs:List Field),(fs.all (fun (f:Field)=>(yJ P f.type).isSome))=true ->
 ∃ps:List (Nat×Nat),(fs.mapM fun (f:Field)=>(do Pure.pure (f.offset,<- Go.sizeOf f.type):Sem (Nat×Nat))).run P w=.ok ps w /\ ∀i:Nat,ps[i]?=(fs[i]?).bind fun (f:Field)=>(yJ P f.type).map fun n=>(f.offset,n)
 |[],_=>⟨[],by simp,by simp⟩
 |f::fs,h=>by
  simp only [List.all_cons,Bool.and_eq_true]at h;obtain ⟨n,hn⟩:=Option.isSome_iff_exists.1 h.1;obtain ⟨ps,hr,hp⟩:=zqw (P:=P) (w:=w) fs h.2;refine ⟨(f.offset,n)::ps,?_,?_⟩
  ·rw [List.mapM_cons];simp only [Sem.run_bind,siz hn,Result.andThen_ok,Sem.run_pure,hr]
  ·intro i;cases i with
   |zero=>simp [hn]
   |succ i=>simp [hp i]
theorem zx0 (hF:Fr A D G ρ σ a w) {o:Oper} {zero:List AV} {places:List (Nat×Nat)} {xs:List zl} (hok:zM P G.K o.op (.build zero places) xs=true) {vs:List AV} (hev:evs A σ.tm xs=some vs) {v:AV}
 (hp:pev (.build zero places) vs=some v):yo P A D G ρ σ a w (execOp a.eval o) v:=by
 simp only [zM]at hok;split at hok
 ·rename_i t ps ho;simp only [Bool.and_eq_true]at hok;obtain ⟨⟨hz,hpl⟩,hok⟩:=hok;obtain ⟨i,z,hi,hz,hcst⟩:=zdL hz;have ht:=yu hF hok hev;unfold pev at hp;dsimp only at hp;cases hf:vm places vs zero with
  |none=>rw [hf]at hp;cases hp
  |some out=>
   rw [hf]at hp;cases hp;have hc:zp G w zero z.cells.toList:=zaT hcst;have eps:(ps.map fun p=>(p.1,a.eval p.2)).toList=(ps.toList.map (·.1)).zip ((ps.toList.map (·.2)).map a.eval):=by
    simp only [Array.toList_map,List.map_map];rw [List.zip_map',];rfl
   have epm:(ps.map fun (i,x)=>(i,a.eval x))=ps.map fun p=>(p.1,a.eval p.2):=rfl;unfold zsp at hpl;split at hpl
   ·rename_i fs hu;simp only [Bool.and_eq_true,beq_iff_eq]at hpl;obtain ⟨hpl,hall⟩:=hpl;obtain ⟨pl,hrun,hpl'⟩:=zqw (P:=P) (w:=w) fs.toList (by simpa using hall);obtain ⟨outv,hfill,hrep⟩:=zmU (place:=fun i=>pl.toArray[i]?) (ids:=ps.toList.map (·.1)) (by
     rw [<- hpl,List.map_map];apply List.map_congr_left;intro p _;simp [hpl']) ht hc hf
    refine .same hF (x:=.agg outv) ?_ (by have:=Rep.agg hrep;simpa using this.trep);rw [ztc _ _ ho];simp only [Instr.build,Sem.run_bind,zer hi hz,Result.andThen_ok,und hu];have hm:(fs.mapM fun (f:Field)=>(do Pure.pure (f.offset,<- Go.sizeOf f.type):Sem (Nat×Nat))).run P w=.ok pl.toArray w:=by
     rw [<- Array.toArray_toList (xs:=fs),List.mapM_toArray];simp only [Sem.run_map,hrun,Result.andThen_ok]
    rw [hm];simp only [Result.andThen_ok,epm,eps];simp only [Array.toArray_toList]at hfill;rw [hfill];simp only [Sem.run_pure,Result.andThen_ok]
   ·rename_i n e hu;simp only [Bool.and_eq_true,beq_iff_eq]at hpl;obtain ⟨hsm,hpl⟩:=hpl;cases hse:yJ P e with
    |none=>rw [hse]at hsm;cases hsm
    |some m=>
     obtain ⟨outv,hfill,hrep⟩:=zmU (place:=fun i=>some (i * m,m)) (ids:=ps.toList.map (·.1)) (by
      rw [<- hpl,List.map_map,hse];rfl) ht hc hf
     refine .same hF (x:=.agg outv) ?_ (by have:=Rep.agg hrep;simpa using this.trep);rw [ztc _ _ ho];simp only [Instr.build,Sem.run_bind,zer hi hz,Result.andThen_ok,und hu,siz hse,epm,eps];simp only [Array.toArray_toList]at hfill;rw [hfill];simp only [Sem.run_pure,Result.andThen_ok]
   ·cases hpl
 ·cases hok
end
section
variable {A:zx} {D:Nat -> Prop} {G:Gh} {ρ:Nat -> Option Nat} {σ:ASt} {a:Act} {w:World} {P:Program} {rg:Nat -> Option (List AV)}
theorem zF.flatten_set {sz:Nat} {rs:List (List AV)} {vs:List (List Value)} (h:zF G w sz rs vs) (i:Nat) (r:List Value) (hi:i < rs.length):
 (vs.set i r).flatten=vs.flatten.take (i * sz)++r++vs.flatten.drop (i * sz+sz):=by
 induction i generalizing rs vs with
 |zero=>
  cases h with
  |nil=>simp at hi
  |cons h e c t=>
   have:=h.length;simp [<- this,e,List.drop_append]
 |succ i ih=>
  cases h with
  |nil=>simp at hi
  |cons h e c t=>
   rename_i r0 rs v vs;have hl:=h.length;simp only [List.set_cons_succ,List.flatten_cons,ih t (by simpa using hi)];rw [show (i+1) * sz=v.length+i * sz by rw [<- hl,e,Nat.add_mul];omega];rw [show v.length+i * sz+sz=v.length+(i * sz+sz) by omega];rw [List.take_append,List.drop_append,List.take_of_length_le (by omega:v.length <=v.length+i * sz),List.drop_eq_nil_of_le (by omega:v.length <=v.length+(i * sz+sz))];simp [List.append_assoc]
theorem ztR {sz:Nat}:∀{ids:List Nat} {vs:List AV} {xs:List Value} {rs out:List (List AV)} {us:List (List Value)},
 TL G ρ rg w vs xs -> zF G w sz rs us -> zw sz ids vs rs=some out ->
 ∃outv,Instr.fill (fun i=>some (i * sz,sz)) us.flatten.toArray (ids.zip xs)=some outv.flatten.toArray /\ zF G w sz out outv /\ out.length=rs.length
 |[],vs,xs,rs,out,us,ht,hc,hf=>by
  cases vs with
  |nil=>simp [zw]at hf;subst hf;exact ⟨us,by simp [Instr.fill],hc,rfl⟩
  |cons _ _=>simp [zw]at hf
 |i::ids,vs,xs,rs,out,us,ht,hc,hf=>by
  cases ht with
  |nil=>simp [zw]at hf
  |cons h t=>
   rename_i v vs x xs;rw [zw]at hf;split at hf
   ·cases hf
   ·rename_i hn;simp only [Bool.or_eq_true,Bool.not_eq_eq_eq_not,Bool.not_true,bne_iff_ne,ne_eq,decide_eq_true_eq,not_or,Bool.not_eq_false,Decidable.not_not,Nat.not_le]at hn;obtain ⟨⟨h1,h2⟩,h3⟩:=hn;have hrep:=(h.rep (zbP h1)).cells h1;have hl:=hrep.length;have hfl:=hc.flat_length;have hle:i * sz+sz <=rs.length * sz:=by
     have:=Nat.mul_le_mul_right sz (show i+1 <=rs.length by omega);rw [Nat.add_mul]at this;omega
    have hstep:=zsA (place:=fun i=>some (i * sz,sz)) (cells:=us.flatten.toArray) (i:=i) (off:=i * sz) (sz:=sz) (rest:=ids.zip xs) rfl (show x.cells.size=sz by rw [<- h2,hl,Array.length_toList]) (by simp only [List.size_toArray];omega);rw [List.zip_cons_cons,hstep];have e1:=hc.flatten_set i x.cells.toList h3;rw [<- e1];have hc':zF G w sz (rs.set i v.cells) (us.set i x.cells.toList):=hc.set hrep h2 (hrep.oneCell h1) i;obtain ⟨outv,k1,k2,k3⟩:=ztR t hc' hf;exact ⟨outv,k1,k2,by simpa using k3⟩
theorem zh4 {sz n:Nat} {z:Array Value} (hz:z.size=sz) (h0:0 < sz):((Array.range (n * sz)).map (fun i=>z[i % z.size]!))=(List.replicate n z.toList).flatten.toArray:=by
 apply Array.toList_inj.1;simp only [Array.toList_map,Array.toList_range];apply List.ext_getElem?;intro i;have hlen:(List.replicate n z.toList).flatten.length=n * sz:=by simp [hz]
 by_cases hi:i < n * sz
 ·rw [List.getElem?_map,List.getElem?_range hi];have hd:i / sz < n:=Nat.div_lt_of_lt_mul (by rw [Nat.mul_comm];exact hi);have hm:i % sz < sz:=Nat.mod_lt _ h0;have hrow:(List.replicate n z.toList)[i / sz]?=some z.toList:=by simp [hd]
  have key:∀n:Nat,∀q r:Nat,q < n -> r < sz -> (List.replicate n z.toList).flatten[q * sz+r]?=z.toList[r]?:=by
   intro n
   induction n with
   |zero=>intro q r hq;omega
   |succ n ih=>
    intro q r hq hr;rw [List.replicate_succ,List.flatten_cons];cases q with
    |zero=>rw [Nat.zero_mul,Nat.zero_add,List.getElem?_append_left (by simpa [hz] using hr)]
    |succ q=>
     rw [List.getElem?_append_right (by simp [hz,Nat.add_mul];omega)];rw [<- ih q r (by omega) hr];congr 1;simp [hz,Nat.add_mul];omega
  have:=key n (i / sz) (i % sz) hd hm;rw [show i / sz * sz+i % sz=i by rw [Nat.mul_comm];exact Nat.div_add_mod i sz]at this;rw [List.toList_toArray,this];simp only [Option.map_some,hz];rw [getElem!_pos z (i % sz) (by omega)];simp
 ·rw [List.getElem?_eq_none (by simp;omega),List.getElem?_eq_none (by rw [List.toList_toArray,hlen];omega)]
theorem zBI (hF:Fr A D G ρ σ a w) {o:Oper} {sz n:Nat} {zero:List AV} {places:List Nat} {xs:List zl} (hok:zM P G.K o.op (.buildSl sz n zero places) xs=true) {vs:List AV} (hev:evs A σ.tm xs=some vs) {v:AV}
 (hp:pev (.buildSl sz n zero places) vs=some v):yo P A D G ρ σ a w (execOp a.eval o) v:=by
 simp only [zM]at hok;split at hok
 ·rename_i t n' ps ho;simp only [Bool.and_eq_true,beq_iff_eq,decide_eq_true_eq]at hok;obtain ⟨⟨⟨⟨⟨⟨rfl,h24⟩,he⟩,h0⟩,hzl⟩,hpl⟩,hok⟩:=hok;split at he
  ·rename_i e hel;simp only [Bool.and_eq_true,beq_iff_eq]at he;obtain ⟨hs,hz⟩:=he;have hu:=zeq hel;obtain ⟨i,z,hi,hz,hcst⟩:=zdL hz;have ht:=yu hF hok hev;have hc:zp G w zero z.cells.toList:=zaT hcst;have hcl:=hc.length;have hzs:z.cells.size=sz:=by rw [<- hzl,hcl,Array.length_toList]
   unfold pev at hp;dsimp only at hp;split at hp
   ·cases hf:zw sz places vs (List.replicate n' zero) with
    |none=>rw [hf]at hp;cases hp
    |some out=>
     rw [hf]at hp;cases hp;have hrr:zF G w sz (List.replicate n' zero) (List.replicate n' z.cells.toList):=zF.replicate hc hzl (zdd hcst) n';obtain ⟨outv,k1,k2,k3⟩:=ztR ht hrr hf;have hol:out.length=n':=by simpa using k3
     have eps:(ps.map fun p=>(p.1,a.eval p.2)).toList=places.zip ((ps.toList.map (·.2)).map a.eval):=by
      rw [<- hpl];simp only [Array.toList_map,List.map_map];rw [List.zip_map',];rfl
     have epm:(ps.map fun (i,x)=>(i,a.eval x))=ps.map fun p=>(p.1,a.eval p.2):=rfl;refine .new hF (x:=.slice (some ⟨w.heap.size,0,none⟩) n' n') (vs:=outv.flatten) (t:=e) ?_ ?_
     ·rw [zCv _ _ ho];simp only [Instr.buildSlice,Sem.run_bind,und hu,Result.andThen_ok,siz hs]
      rw [if_neg (show ¬(n' * sz > 2 ^ 24) by have:(2:Nat) ^ 24=16777216:=by decide
                                              omega)]
      by_cases hn:n' * sz=0
      ·have hn0:n'=0:=by
        rcases Nat.mul_eq_zero.1 hn with h|h
        ·exact h
        ·omega
       subst hn0;simp only [hn,if_true,Sem.run_bind,Sem.run_pure,Result.andThen_ok,epm,eps];have:((Array.range 0).map fun x=>(#[]:Array Value)[x % (#[]:Array Value).size]!)=(List.replicate 0 z.cells.toList).flatten.toArray:=by simp
       rw [this,k1];simp only [Sem.run_bind,newRow,run_newObj,Result.andThen_ok,Sem.run_pure];rfl
      ·simp only [hn,if_false,Sem.run_bind,zer hi hz,Result.andThen_ok,Sem.run_pure,epm,eps];rw [zh4 hzs h0,k1];simp only [Sem.run_bind,newRow,run_newObj,Result.andThen_ok,Sem.run_pure];rfl
     ·intro hat hle;cases out with
      |nil=>simp at hol;subst hol;exact .nil fun _=>rfl
      |cons r out=>exact .lst hol.symm (by omega) (fun _=>hol.symm) hat (k2.mono hle)
   ·cases hp
  ·cases he
 ·cases hok
theorem zwP (hF:Fr A D G ρ σ a w) {o:Oper} {j:Nat} {xs:List zl} (hok:zM P G.K o.op (.extract j) xs=true) {vs:List AV} (hev:evs A σ.tm xs=some vs) {v:AV} (hp:pev (.extract j) vs=some v):
 yo P A D G ρ σ a w (execOp a.eval o) v:=by
 simp only [zM]at hok;split at hok
 ·rename_i x j' ho;simp only [Bool.and_eq_true,beq_iff_eq]at hok;obtain ⟨rfl,hok⟩:=hok;obtain ⟨v1,rfl,h1⟩:=(yu hF hok hev).one;unfold pev at hp;dsimp only at hp;split at hp
  ·rename_i us heq;simp only [List.cons.injEq,and_true]at heq;subst heq;obtain ⟨xs',e1,hr⟩:=Rep.tup_inv (x:=a.eval x) h1;obtain ⟨y,hy,hrep⟩:=hr.get j' hp;refine .same hF (x:=y) ?_ hrep.trep;rw [zFc _ _ ho,e1];have:xs'.toArray[j']?=some y:=by simpa using hy
   simp only [Instr.extract,this,Sem.run_bind,Sem.run_pure,Result.andThen_ok]
  ·cases hp
 ·cases hok
theorem vz {ρ:Operand -> Value} {o:Oper} {b:Builtin} {xs:Array Operand} {ts:Array TypeId} (h:o.op=.call {callee:=.builtin b,args:=xs,argTypes:=ts}):
 execOp ρ o=builtin b ts o.type (xs.map fun| .const _=>true|_=>false) (xs.map ρ):=by
 rw [zpj _ _ h];rfl
theorem zct {xs:Array Operand} {x:Value} (h:xs.toList.map a.eval=[x]):xs.map a.eval=#[x]:=by
 apply Array.toList_inj.1;simpa using h
theorem zlC {xs:Array Operand} {x y:Value} (h:xs.toList.map a.eval=[x,y]):xs.map a.eval=#[x,y]:=by
 apply Array.toList_inj.1;simpa using h
theorem TL.one_of {v:AV} {xs:List Value} (h:TL G ρ rg w [v] xs):∃x,xs=[x] /\ yN G ρ rg w v x:=by
 obtain _|⟨h,t⟩:=h;cases t;exact ⟨_,rfl,h⟩
theorem TL.two_of {v u:AV} {xs:List Value} (h:TL G ρ rg w [v,u] xs):∃x y,xs=[x,y] /\ yN G ρ rg w v x /\ yN G ρ rg w u y:=by
 obtain _|⟨h,t⟩:=h;obtain ⟨y,rfl,h'⟩:=t.one_of;exact ⟨_,_,rfl,h,h'⟩
theorem zw1 (hF:Fr A D G ρ σ a w) {o:Oper} {xs:List zl} (hok:zM P G.K o.op .lenS xs=true) {vs:List AV} (hev:evs A σ.tm xs=some vs) {v:AV} (hp:pev .lenS vs=some v):
 yo P A D G ρ σ a w (execOp a.eval o) v:=by
 simp only [zM]at hok;split at hok
 ·rename_i as ts ho;simp only [Bool.and_eq_true]at hok;obtain ⟨ht,hok⟩:=hok;have hts:=yu hF hok hev;unfold ztj at ht;split at ht
  ·rename_i t ht0;have hu:=zhK ht;unfold pev at hp;dsimp only at hp;split at hp
   ·rename_i s;cases hp;obtain ⟨x,hx,h1⟩:=hts.one_of;have e1:=h1.sc;refine .same hF (x:=goInt s.size) ?_ (Rep.sc rfl).trep;rw [vz ho,zct hx,e1];simp only [builtin,Builtin.len_,ht0,List.getElem?_toArray,List.getElem?_cons_zero,Sem.run_bind,und hu,Result.andThen_ok,Sem.run_pure]
   ·cases hp
  ·cases ht
 ·cases hok
theorem zdo {ts:Array TypeId} {e:TypeId} (h:zar P ts=some e):∃t,ts[0]?=some t /\ P.underlying t=some (.slice e):=by
 unfold zar at h;cases ht:ts[0]? with
 |none=>rw [ht]at h;cases h
 |some t=>rw [ht]at h;exact ⟨t,rfl,zeq h⟩
theorem zyV (hF:Fr A D G ρ σ a w) {o:Oper} {xs:List zl} (hok:zM P G.K o.op .lenL xs=true) {vs:List AV} (hev:evs A σ.tm xs=some vs) {v:AV} (hp:pev .lenL vs=some v):
 yo P A D G ρ σ a w (execOp a.eval o) v:=by
 simp only [zM]at hok;split at hok
 ·rename_i as ts ho;simp only [Bool.and_eq_true]at hok;obtain ⟨ht,hok⟩:=hok;have hts:=yu hF hok hev;obtain ⟨e,he⟩:=Option.isSome_iff_exists.1 ht;obtain ⟨t,ht0,hu⟩:=zdo he;have fin:∀{ad n c},as.map a.eval=#[.slice ad n c] -> yo P A D G ρ σ a w (execOp a.eval o) (.i n):=by
   intro ad n c hx;refine .same hF (x:=goInt n) ?_ (Rep.sc rfl).trep;rw [vz ho,hx];simp only [builtin,Builtin.len_,ht0,List.getElem?_toArray,List.getElem?_cons_zero,Sem.run_bind,und hu,Result.andThen_ok,Sem.run_pure]
  unfold pev at hp;dsimp only at hp;split at hp
  ·cases hp;obtain ⟨x,hx,h1⟩:=hts.one_of;obtain ⟨ad,c,e1,_⟩:=Rep.lst_inv (x:=x) h1;exact fin (by rw [zct hx,e1])
  ·cases hp;obtain ⟨x,hx,h1⟩:=hts.one_of;obtain ⟨b,N,ad,_,_,_,_,e1⟩:=Rep.arr_inv (x:=x) h1;exact fin (by rw [zct hx,e1])
  ·cases hp
 ·cases hok
theorem zFU (hF:Fr A D G ρ σ a w) {o:Oper} {xs:List zl} (hok:zM P G.K o.op .cap xs=true) {vs:List AV} (hev:evs A σ.tm xs=some vs) {v:AV} (hp:pev .cap vs=some v):
 yo P A D G ρ σ a w (execOp a.eval o) v:=by
 simp only [zM]at hok;split at hok
 ·rename_i as ts ho;simp only [Bool.and_eq_true]at hok;obtain ⟨ht,hok⟩:=hok;have hts:=yu hF hok hev;obtain ⟨e,he⟩:=Option.isSome_iff_exists.1 ht;obtain ⟨t,ht0,hu⟩:=zdo he;unfold pev at hp;dsimp only at hp;split at hp
  ·cases hp;obtain ⟨x,hx,h1⟩:=hts.one_of;obtain ⟨ad,c,e1,hc,hf,_⟩:=Rep.lst_inv (x:=x) h1;refine .same hF (x:=goInt c) ?_ (by rw [hf rfl];exact (Rep.sc rfl).trep);rw [vz ho,zct hx,e1];simp only [builtin,Builtin.cap_,ht0,List.getElem?_toArray,List.getElem?_cons_zero,Sem.run_bind,und hu,Result.andThen_ok,Sem.run_pure]
  ·cases hp
 ·cases hok
theorem zk8:∀{l:List AV} {ys:List Value} {v r:Value},TL G ρ rg w l ys -> qE false v l=some r -> (ys.foldlM Builtin.min2 v).run P w=.ok r w
 |[],ys,v,r,h,hf=>by cases h;cases v<;>(simp [qE]at hf;subst hf;rfl)
 |u::l,ys,v,r,h,hf=>by
  cases h with
  |cons h t=>
   unfold qE at hf;split at hf
   ·rename_i heq;cases heq
   ·rename_i k x k' y l' heq;obtain ⟨rfl,rfl⟩:=List.cons.inj heq;rw [List.foldlM_cons,h.sc];simp only [Builtin.min2,Sem.run_bind,Sem.run_pure,Result.andThen_ok];exact zk8 t hf
   ·rename_i x y l' heq;obtain ⟨rfl,rfl⟩:=List.cons.inj heq;rw [List.foldlM_cons,h.sc];simp only [Builtin.min2,Op.stringOp,Go.asBool,Sem.run_bind,Sem.run_pure,Result.andThen_ok];exact zk8 t hf
   ·cases hf
theorem zkc:∀{l:List AV} {ys:List Value} {v r:Value},TL G ρ rg w l ys -> qE true v l=some r -> (ys.foldlM Builtin.max2 v).run P w=.ok r w
 |[],ys,v,r,h,hf=>by cases h;cases v<;>(simp [qE]at hf;subst hf;rfl)
 |u::l,ys,v,r,h,hf=>by
  cases h with
  |cons h t=>
   unfold qE at hf;split at hf
   ·rename_i heq;cases heq
   ·rename_i k x k' y l' heq;obtain ⟨rfl,rfl⟩:=List.cons.inj heq;rw [List.foldlM_cons,h.sc];simp only [Builtin.max2,Sem.run_bind,Sem.run_pure,Result.andThen_ok];exact zkc t hf
   ·rename_i x y l' heq;obtain ⟨rfl,rfl⟩:=List.cons.inj heq;rw [List.foldlM_cons,h.sc];simp only [Builtin.max2,Op.stringOp,Go.asBool,Sem.run_bind,Sem.run_pure,Result.andThen_ok];exact zkc t hf
   ·cases hf
theorem zhk {mx:Bool}:∀{l:List AV} {v r:Value},qE mx v l=some r -> qB v=true -> qB r=true
 |[],v,r,hf,hs=>by cases v<;>(simp [qE]at hf;subst hf;exact hs)
 |u::l,v,r,hf,hs=>by
  unfold qE at hf;split at hf
  ·rename_i heq;cases heq
  ·rename_i heq;obtain ⟨rfl,rfl⟩:=List.cons.inj heq;exact zhk hf rfl
  ·rename_i heq;obtain ⟨rfl,rfl⟩:=List.cons.inj heq;exact zhk hf rfl
  ·cases hf
theorem zFm (hF:Fr A D G ρ σ a w) {o:Oper} {xs:List zl} (hok:zM P G.K o.op .min xs=true) {vs:List AV} (hev:evs A σ.tm xs=some vs) {v:AV} (hp:pev .min vs=some v):
 yo P A D G ρ σ a w (execOp a.eval o) v:=by
 simp only [zM]at hok;split at hok
 ·rename_i as ts ho;have hts:=yu hF hok hev;unfold pev at hp;dsimp only at hp;split at hp
  ·rename_i u l;cases hf:qE false u l with
   |none=>rw [hf]at hp;cases hp
   |some r=>
    rw [hf]at hp;cases hp;generalize hys:as.toList.map a.eval=ys at hts;cases hts with
    |cons h t=>
     rename_i y ys';have hs:qB u=true:=by have h':Rep G w (.sc u) _:=h;cases h';assumption
     refine .same hF (x:=r) ?_ (Rep.sc (zhk hf hs)).trep;rw [vz ho];have:(as.map a.eval).toList=u::ys':=by rw [Array.toList_map,hys,h.sc]
     simp only [builtin,Builtin.min_,this,Sem.run_bind,zk8 t hf,Result.andThen_ok,Sem.run_pure]
  ·cases hp
 ·cases hok
theorem zu2 (hF:Fr A D G ρ σ a w) {o:Oper} {xs:List zl} (hok:zM P G.K o.op .max xs=true) {vs:List AV} (hev:evs A σ.tm xs=some vs) {v:AV} (hp:pev .max vs=some v):
 yo P A D G ρ σ a w (execOp a.eval o) v:=by
 simp only [zM]at hok;split at hok
 ·rename_i as ts ho;have hts:=yu hF hok hev;unfold pev at hp;dsimp only at hp;split at hp
  ·rename_i u l;cases hf:qE true u l with
   |none=>rw [hf]at hp;cases hp
   |some r=>
    rw [hf]at hp;cases hp;generalize hys:as.toList.map a.eval=ys at hts;cases hts with
    |cons h t=>
     rename_i y ys';have hs:qB u=true:=by have h':Rep G w (.sc u) _:=h;cases h';assumption
     refine .same hF (x:=r) ?_ (Rep.sc (zhk hf hs)).trep;rw [vz ho];have:(as.map a.eval).toList=u::ys':=by rw [Array.toList_map,hys,h.sc]
     simp only [builtin,Builtin.max_,this,Sem.run_bind,zkc t hf,Result.andThen_ok,Sem.run_pure]
  ·cases hp
 ·cases hok
theorem zIB (hF:Fr A D G ρ σ a w) {o:Oper} {key n:Nat} {xs:List zl} (hok:zM P G.K o.op (.mkfn key n) xs=true) {vs:List AV} (hev:evs A σ.tm xs=some vs) {v:AV} (hp:pev (.mkfn key n) vs=some v):
 yo P A D G ρ σ a w (execOp a.eval o) v:=by
 simp only [zM]at hok;split at hok
 ·rename_i f first cap ho
  simp only [Bool.and_eq_true,beq_iff_eq]at hok;obtain ⟨⟨hk,rfl⟩,hok⟩:=hok;have hts:=yu hF hok hev;unfold pev at hp;dsimp only at hp;split at hp
  ·cases hp
  ·rename_i hr;cases hp;have hrep:=hts.rep (by simpa using hr);rw [List.map_append]at hrep;have h1:=hrep.take first.size
   have h2:=hrep.drop first.size
   have e1:((first.toList.map a.eval)++(cap.toList.map a.eval)).take first.size=first.toList.map a.eval:=by rw [List.take_append_of_le_length (by simp),List.take_of_length_le (by simp)]
   have e2:((first.toList.map a.eval)++(cap.toList.map a.eval)).drop first.size=cap.toList.map a.eval:=by rw [List.drop_append_of_le_length (by simp),List.drop_eq_nil_of_le (by simp)];rfl
   rw [e1]at h1;rw [e2]at h2;refine .same hF (x:=.func (.func f) (first.map a.eval) (cap.map a.eval)) ?_ ?_
   ·rw [zvp _ _ ho];rfl
   ·have:=(Rep.fn hk h1 h2).trep (ρ:=ρ) (rg:=σ.rg);have k1:(first.toList.map a.eval).toArray=first.map a.eval:=by apply Array.toList_inj.1;simp
    have k2:(cap.toList.map a.eval).toArray=cap.map a.eval:=by apply Array.toList_inj.1;simp
    rw [k1,k2]at this;exact this
 ·cases hok
theorem zDx (hF:Fr A D G ρ σ a w) {o:Oper} {xs:List zl} (hok:zM P G.K o.op .nilchk xs=true) {vs:List AV} (hev:evs A σ.tm xs=some vs) {v:AV} (hp:pev .nilchk vs=some v):
 yo P A D G ρ σ a w (execOp a.eval o) v:=by
 simp only [zM]at hok;split at hok
 ·rename_i x ho;obtain ⟨v1,rfl,h1⟩:=(yu hF hok hev).one;unfold pev at hp;dsimp only at hp;split at hp
  ·rename_i heq;simp only [List.cons.injEq,and_true]at heq;subst heq;cases hp;obtain ⟨b,off,us,e1,_⟩:=Rep.iptr_inv (x:=a.eval x) h1;exact .same hF (by rw [zkI _ _ ho e1];rfl) (by rw [<- e1];exact h1)
  ·rename_i heq;simp only [List.cons.injEq,and_true]at heq;subst heq;cases hp;obtain ⟨b,sz,N,hi,e1⟩:=Rep.ptr_inv (x:=a.eval x) h1;exact .same hF (by rw [zkI _ _ ho e1];rfl) (by rw [<- e1];exact h1)
  ·rename_i heq;simp only [List.cons.injEq,and_true]at heq;subst heq;cases hp;have h1':=h1;obtain ⟨hs,b,hb,e1⟩:=h1';exact .same hF (by rw [zkI _ _ ho e1];rfl) (by rw [<- e1];exact h1)
  ·rename_i heq;simp only [List.cons.injEq,and_true]at heq;subst heq;cases hp;obtain ⟨u,y,e1⟩:=Rep.opq_inv (x:=a.eval x) h1;exact .same hF (by rw [zDj _ _ ho e1];rfl) (by rw [<- e1];exact h1)
  ·rename_i heq;simp only [List.cons.injEq,and_true]at heq;subst heq;cases hp;obtain ⟨f,lv,mv,e1,_⟩:=Rep.fn_inv (x:=a.eval x) h1;exact .same hF (by rw [zDO _ _ ho e1];rfl) (by rw [<- e1];exact h1)
  ·cases hp
 ·cases hok
theorem zvJ (hF:Fr A D G ρ σ a w) {o:Oper} {xs:List zl} (hok:zM P G.K o.op .ibox xs=true) {vs:List AV} (hev:evs A σ.tm xs=some vs) {v:AV} (hp:pev .ibox vs=some v):
 yo P A D G ρ σ a w (execOp a.eval o) v:=by
 simp only [zM]at hok;split at hok
 ·rename_i t x ho;obtain ⟨v1,rfl,h1⟩:=(yu hF hok hev).one;unfold pev at hp;dsimp only at hp;split at hp
  ·rename_i hc;cases hp;have hrep:=(h1.rep (zbP hc)).cells hc;refine .new hF (x:=.pointer (some ⟨w.heap.size,0,none⟩)) (vs:=(a.eval x).cells.toList) (t:=t) ?_ fun hat hle=>.iptr hat (hrep.mono hle);rw [zou _ _ ho];simp only [Instr.box,newVar,newRow,Sem.run_bind,run_newObj,Result.andThen_ok,Sem.run_pure];rfl
  ·cases hp
 ·cases hok
theorem zA0 (hF:Fr A D G ρ σ a w) {o:Oper} {p:POp} {xs:List zl} (hok:zM P G.K o.op p xs=true) {vs:List AV} (hev:evs A σ.tm xs=some vs) {v:AV} (hp:pev p vs=some v):
 yo P A D G ρ σ a w (execOp a.eval o) v:=by
 cases p with
 |mov=>exact zFB hF hok hev hp
 |pick=>exact zEW hF hok hev hp
 |bin _=>exact zyG hF hok hev hp
 |eqB _=>exact zxF hF hok hev hp
 |nilI _=>exact zuL hF hok hev hp
 |nilP _=>exact zAE hF hok hev hp
 |nilF _=>exact zxH hF hok hev hp
 |un _=>exact zCC hF hok hev hp
 |toInt _=>exact zFM hF hok hev hp
 |sstr=>exact zBc hF hok hev hp
 |runeStr=>exact zIZ hF hok hev hp
 |bytesStr=>exact zwr hF hok hev hp
 |field _ _ _=>exact zIp hF hok hev hp
 |faddr _=>exact zxz hF hok hev hp
 |iaddr _=>exact zwW hF hok hev hp
 |iaddrA _ _=>exact zD6 hF hok hev hp
 |indexS=>exact zIJ hF hok hev hp
 |indexA _ _ _=>exact zAF hF hok hev hp
 |sliceS _ _=>exact zEt hF hok hev hp
 |sliceL _ _ _ _=>exact zx6 hF hok hev hp
 |build _ _=>exact zx0 hF hok hev hp
 |buildSl _ _ _ _=>exact zBI hF hok hev hp
 |extract _=>exact zwP hF hok hev hp
 |lenS=>exact zw1 hF hok hev hp
 |lenL=>exact zyV hF hok hev hp
 |cap=>exact zFU hF hok hev hp
 |min=>exact zFm hF hok hev hp
 |max=>exact zu2 hF hok hev hp
 |mkfn _ _=>exact zIB hF hok hev hp
 |nilchk=>exact zDx hF hok hev hp
 |ibox=>exact zvJ hF hok hev hp
end
end Abs
