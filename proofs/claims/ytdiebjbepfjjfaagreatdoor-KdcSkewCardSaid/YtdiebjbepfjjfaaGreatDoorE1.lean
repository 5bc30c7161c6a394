/- The abstract machine: values, state, operations, the interpreter with fuel. -/
import GoSem.Dispatch
import Derived.Calls
import Derived.Laws.World
import Derived.Laws.NewBlocks
import Derived.Laws.Cells
import Derived.Laws.StructEq
import Derived.Laws.Slices
import Derived.Laws.BytesString
set_option linter.unusedVariables false
set_option linter.unusedSimpArgs false
set_option linter.unusedSectionVars false
namespace Abs
open Go
abbrev xaa:=@Option.bind_eq_some_iff
abbrev xab:=@Bool.and_eq_true
abbrev xac:=@Result.andThen_ok
abbrev xad:=@Nat.le_refl
abbrev xae:=@Option.bind_some
abbrev xaf:=@Option.map_eq_some_iff
abbrev xag:=@Sem.run_bind
abbrev xah:=@Sem.run_pure
abbrev xai:=@ByteArray.size_append
abbrev xaj:=@List.mem_of_getElem?
abbrev xak:=@List.cons.injEq
abbrev xal:=@List.getElem?_eq_some_iff
abbrev xam:=@Option.map_some
abbrev xan:=@Nat.lt_of_lt_of_le
abbrev xao:=@List.map_cons
abbrev xap:=@List.getElem?_eq_none
abbrev xaq:=@List.getElem?_take
abbrev xar:=@List.getD_eq_getElem?_getD
abbrev xas:=@List.getElem?_cons_zero
abbrev xat:=@List.getElem?_map
abbrev xau:=@Bool.false_eq_true
abbrev xav:=@List.take_add_one
abbrev xaw:=@List.getElem?_set
abbrev xax:=@List.take_length
abbrev xay:=@Nat.lt_succ_self
abbrev xaz:=@List.mem_cons
abbrev xaA:=@List.mem_singleton
abbrev xaB:=@List.drop_eq_nil_of_le
abbrev xaC:=@List.length_append
abbrev xaD:=@Nat.le_trans
abbrev xaE:=@List.mem_append
abbrev xaF:=@List.getElem?_append_right
abbrev xaG:=@List.getElem?_append_left
abbrev xaH:=@List.length_map
abbrev xaI:=@List.length_cons
inductive AV:Type
 |sc (v:Value)
 |junk
 |opq
 |reg (r col:Nat)
 |ptr (id row col:Nat)
 |iptr (cs:List AV)
 |lst (sz:Nat) (full:Bool) (xs:List (List AV))
 |arr (id sz off len:Nat) (lim:Option Nat)
 |agg (cs:List AV)
 |tup (vs:List AV)
 |fn (key:Nat) (first cap:List AV)
 |mp (id:Nat)
 deriving Inhabited
abbrev AV.i(n:Int):AV:=.sc (.int .i64 n)
abbrev AV.s(x:ByteArray):AV:=.sc (.string x)
abbrev AV.b(x:Bool):AV:=.sc (.bool x)
def AV.cells:AV->List AV
 | .agg cs=>cs
 |v=>[v]
def AV.isCell:AV->Bool
 | .agg _| .tup _| .junk| .reg _ _=>false
 |_=>true
def zaU(isAgg:Bool)(cs:List AV):Option AV:=
 if isAgg then some (.agg cs)else match cs with|[v]=>some v|_=>none
mutual
def AV.pure:AV->Bool
 | .sc _| .junk| .opq=>true
 | .reg _ _| .ptr _ _ _| .arr _ _ _ _ _| .mp _=>false
 | .iptr cs=>jR cs
 | .lst _ _ xs=>qo xs
 | .agg cs=>jR cs
 | .tup cs=>jR cs
 | .fn _ a b=>jR a&&jR b
def jR:List AV->Bool
 |[]=>true
 |a::l=>a.pure&&jR l
def qo:List (List AV)->Bool
 |[]=>true
 |a::l=>jR a&&qo l
end
def lstN(s:Nat)(xs:List (List AV)):AV:=.lst (if xs.isEmpty then 0 else s) false xs
mutual
def AV.frz(o:Nat->Nat->Nat->Nat->Option (List (List AV))):AV->Option AV
 | .arr id sz off n _=>(o id sz off n).map (lstN sz)
 | .reg _ _=>none
 | .iptr cs=>(qz o cs).map .iptr
 | .lst s _ xs=>(qA o xs).map (lstN s)
 | .agg cs=>(qz o cs).map .agg
 | .tup cs=>(qz o cs).map .tup
 | .fn g a b=>(qz o a).bind fun a=>(qz o b).map (.fn g a)
 |v=>some v
def qz(o:Nat->Nat->Nat->Nat->Option (List (List AV))):List AV->Option (List AV)
 |[]=>some []
 |a::l=>(a.frz o).bind fun a=>(qz o l).map (a::·)
def qA(o:Nat->Nat->Nat->Nat->Option (List (List AV))):List (List AV)->Option (List (List AV))
 |[]=>some []
 |a::l=>(qz o a).bind fun a=>(qA o l).map (a::·)
end
inductive yX:Type
 |rows (sz:Nat) (rs:List (List AV))
 |map (es:List (Value×AV))
structure AS where
 heap:Nat->Option yX
 n:Nat
 ro:Nat
def AS.set(S:AS)(id:Nat)(o:Option yX):AS:={S with heap:=fun j=>if j=id then o else S.heap j}
def AS.new(S:AS)(o:yX):AS:={S with heap:=fun j=>if j=S.n then some o else S.heap j,n:=S.n+1}
def AS.slice(S:AS)(least:Nat)(id sz off n:Nat):Option (List (List AV)):=
 if least<=id then
  match S.heap id with
  |some (.rows sz' rs)=>if sz'=sz/\off+n<=rs.length then some ((rs.drop off).take n)else none
  |_=>none
 else none
def zI{α β:Type}(f:α->Option β):List α->Option (List β)
 |[]=>some []
 |a::l=>(f a).bind fun b=>(zI f l).map (b::·)
def AS.frzTo(S:AS)(least:Nat):Nat->AV->Option AV
 |0,v=>v.frz fun _ _ _ _=>none
 |d+1,v=>v.frz fun id sz off n=>(S.slice least id sz off n).bind fun r=>zI (zI (S.frzTo least d)) r
inductive zcL where
 |reg|heap|imm
 deriving DecidableEq
inductive jD where
 |pure
 |borrow
 |calm
 |keep
 |keepF (cols:List Nat)
 |lone
 deriving DecidableEq
inductive zo where
 |t (n:Nat)
 |k (v:AV)
 |g (n:Nat)
inductive POp where
 |mov
 |pick
 |bin (op:BinOp)
 |un (op:UnOp)
 |toInt (k:IntKind)
 |sstr
 |runeStr
 |bytesStr
 |field (off sz:Nat) (agg:Bool)
 |faddr (off:Nat)
 |iaddr (sz:Nat)
 |iaddrA (sz len:Nat)
 |indexS
 |indexA (sz len:Nat) (agg:Bool)
 |sliceS (lo hi:Bool)
 |sliceL (sz:Nat) (lo hi mx:Bool)
 |eqB (ne:Bool)
 |nilI (ne:Bool)
 |nilP (ne:Bool)
 |nilF (ne:Bool)
 |build (zero:List AV) (places:List (Nat×Nat))
 |buildSl (sz len:Nat) (zero:List AV) (places:List Nat)
 |extract (i:Nat)
 |lenS
 |lenL
 |cap
 |min|max
 |mkfn (key nfirst:Nat)
 |nilchk
 |ibox
inductive AOp where
 |pur (o:POp)
 |ld (loc:Option Nat) (sz:Nat) (agg:Bool)
 |st (loc:Option Nat) (sz:Nat)
 |alloc (k:zcL) (zero:List AV)
 |box (k:zcL)
 |lookup (str:Bool) (zero:AV) (ok:Bool)
 |lenM
 |mkmap
 |mapset (str:Bool)
 |clearM
 |mapdel (str:Bool)
 |append (sz bytes:Nat)
 |mkslice (sz bytes:Nat) (zero:List AV)
 |appendZ (sz bytes:Nat) (zero:List AV)
 |copy (sz:Nat)
 |clearS (sz:Nat) (zero:List AV)
 |call (key:Nat)
 |callv
 |rangeM
 |nextM
 |entryM
 |nilSl
 |tell
 |bad
structure zu where
 dst:Option Nat
 op:AOp
 args:List zo
 guard:Option (Nat×Bool)
inductive ACode where
 |skip
 |ops (l:List zu)
 |opsC (l:List zu) (c:List (Nat×Nat))
 |seq (a b:ACode)
 |cond (c:zo) (a b:ACode)
 |block (id:Nat) (c:ACode)
 |loop (tm rg:List Nat) (c:ACode)
 |exit (id:Nat)
 |ret
 |label (l:Nat)
 |goto (l:Nat)
 |scope (body cur:ACode)
def vn:ACode->Nat->Option ACode
 | .seq a b,l=>match vn a l with
   |some rest=>some (.seq rest b)
   |none=>vn b l
 | .label l',l=>if l'==l then some .skip else none
 |_,_=>none
inductive zL where
 |normal|ret|exit (id:Nat)|goto (l:Nat)
 deriving DecidableEq
inductive vi where
 |tmp (t:Nat)
 |cell (t sz:Nat) (agg:Bool)
structure za where
 ntmps:Nat
 body:ACode
 res:List vi
structure zA where
 funcs:Nat->Option za
 mode:Nat->jD
 ext:Nat->Option (List AV->AS->Option (AV×AS))
 glob:Nat->Option AV
structure ASt where
 tm:List AV
 rg:Nat->Option (List AV)
 S:AS
def vL(op:BinOp)(k:IntKind)(a b:Int):Option Value:=
 match op with
 | .add=>some (.int k (k.wrap (a+b)))
 | .sub=>some (.int k (k.wrap (a-b)))
 | .mul=>some (.int k (k.wrap (a*b)))
 | .quo=>if b=0 then none else some (.int k (k.wrap (a.tdiv b)))
 | .rem=>if b=0 then none else some (.int k (a.tmod b))
 | .and=>some (.int k (k.wrap (BitVec.ofInt k.bits a&&&BitVec.ofInt k.bits b).toNat))
 | .or=>some (.int k (k.wrap (BitVec.ofInt k.bits a|||BitVec.ofInt k.bits b).toNat))
 | .xor=>some (.int k (k.wrap (BitVec.ofInt k.bits a ^^^ BitVec.ofInt k.bits b).toNat))
 | .shl=>if b<0 then none else some (.int k (k.wrap (a*2^min b.toNat k.bits)))
 | .shr=>if b<0 then none else some (.int k (a.fdiv (2^min b.toNat k.bits)))
 | .eql=>some (.bool (a==b))
 | .neq=>some (.bool (a !=b))
 | .lss=>some (.bool (a<b))
 | .leq=>some (.bool (a<=b))
 | .gtr=>some (.bool (a > b))
 | .geq=>some (.bool (a >=b))
 |_=>none
abbrev zbX:List UInt8->List UInt8->Bool:=Go.Op.bytesLess
def wm(op:BinOp)(x y:ByteArray):Option Value:=
 match op with
 | .add=>if((x.size+y.size:Nat):Int) > IntKind.i64.max then none else some (.string (x++y))
 | .eql=>some (.bool (x.toList==y.toList))
 | .neq=>some (.bool !(x.toList==y.toList))
 | .lss=>some (.bool (zbX x.toList y.toList))
 | .leq=>some (.bool (zbX x.toList y.toList||x.toList==y.toList))
 | .gtr=>some (.bool !(zbX x.toList y.toList||x.toList==y.toList))
 | .geq=>some (.bool !zbX x.toList y.toList)
 |_=>none
def AV.isReg:AV->Bool
 | .reg _ _=>true
 |_=>false
mutual
def AV.arrs:AV->List Nat
 | .arr id _ _ _ _=>[id]
 | .iptr cs=>qJ cs
 | .lst _ _ xs=>zgi xs
 | .agg cs=>qJ cs
 | .tup cs=>qJ cs
 | .fn _ a b=>qJ a++qJ b
 |_=>[]
def qJ:List AV->List Nat
 |[]=>[]
 |a::l=>a.arrs++qJ l
def zgi:List (List AV)->List Nat
 |[]=>[]
 |a::l=>qJ a++zgi l
end
mutual
def AV.nrm:AV->AV
 | .iptr cs=>.iptr (yL cs)
 | .lst s _ xs=>lstN s (vz xs)
 | .agg cs=>.agg (yL cs)
 | .tup cs=>.tup (yL cs)
 | .fn k a b=>.fn k (yL a) (yL b)
 |v=>v
def yL:List AV->List AV
 |[]=>[]
 |a::l=>a.nrm::yL l
def vz:List (List AV)->List (List AV)
 |[]=>[]
 |a::l=>yL a::vz l
end
def AV.scalar:AV->Bool
 | .sc _| .opq=>true
 | .tup vs=>vs.all fun| .sc _| .opq=>true|_=>false
 |_=>false
def asInt:AV->Option Int
 | .sc (.int _ n)=>some n
 |_=>none
def zM(v:AV)(b:Nat):Option Nat:=
 match v with
 | .sc (.int _ n)=>if 0<=n/\n<=b then some n.toNat else none
 |_=>none
def ve(mx:Bool):Value->List AV->Option Value
 |v,[]=>some v
 | .int k x,.sc (.int _ y)::l=>ve mx (.int k (if mx then(if y > x then y else x)else(if y<x then y else x))) l
 | .string x,.sc (.string y)::l=>ve mx (.string (if mx then(if !zbX x.toList y.toList then x else y)else(if zbX x.toList y.toList||x.toList==y.toList then x else y))) l
 |_,_=>none
def vc:List (Nat×Nat)->List AV->List AV->Option (List AV)
 |[],[],cs=>some cs
 |(off,sz)::ps,v::vs,cs=>
  if !v.cells.all AV.isCell||v.cells.length !=sz||cs.length<off+sz then none
  else vc ps vs (cs.take off++v.cells++cs.drop (off+sz))
 |_,_,_=>none
def zj(sz:Nat):List Nat->List AV->List (List AV)->Option (List (List AV))
 |[],[],rs=>some rs
 |i::is,v::vs,rs=>if !v.cells.all AV.isCell||v.cells.length !=sz||rs.length<=i then none else zj sz is vs (rs.set i v.cells)
 |_,_,_=>none
def bytesOf:List (List AV)->Option (List UInt8)
 |[]=>some []
 |[.sc (.int .u8 n)]::l=>(bytesOf l).map (UInt8.ofNat n.toNat::·)
 |_=>none
def pev(o:POp)(args:List AV):Option AV:=
 match o with
 | .mov=>match args with|[v]=>some v|_=>none
 | .pick=>match args with|[.sc (.bool c),a,b]=>if a.isReg||b.isReg then none else some (if c then a else b)|_=>none
 | .bin op=>match args with
   |[.sc (.int k a),.sc (.int k' b)]=>if op=.shl\/op=.shr\/k=k' then(vL op k a b).map .sc else none
   |[.sc (.string a),.sc (.string b)]=>(wm op a b).map .sc
   |_=>none
 | .eqB ne=>match args with|[.sc (.bool a),.sc (.bool b)]=>some (.b (if ne then a !=b else a==b))|_=>none
 | .nilI ne=>match args with|[.sc .nilIface]=>some (.b (!ne))|[.opq]=>some (.b ne)|_=>none
 | .nilP ne=>match args with|[.sc (.pointer none)]=>some (.b (!ne))|[.ptr _ _ _]=>some (.b ne)|[.iptr _]=>some (.b ne)|_=>none
 | .nilF ne=>match args with|[.sc .nilFunc]=>some (.b (!ne))|[.fn _ _ _]=>some (.b ne)|_=>none
 | .un op=>match op,args with
   | .not,[.sc (.bool b)]=>some (.b !b)
   | .neg,[.sc (.int k n)]=>some (.sc (.int k (k.wrap (0-n))))
   |_,_=>none
 | .toInt k=>match args with|[.sc (.int _ n)]=>some (.sc (.int k (k.wrap n)))|_=>none
 | .sstr=>match args with|[.sc (.string s)]=>some (.sc (.string s))|_=>none
 | .runeStr=>match args with|[.sc (.int _ n)]=>some (.sc (.string (Utf8.encode n)))|_=>none
 | .bytesStr=>match args with|[.lst _ _ xs]=>(bytesOf xs).map fun l=>.sc (.string ⟨l.toArray⟩)|_=>none
 | .field off sz agg=>match args with|[.agg cs]=>if off+sz<=cs.length then zaU agg ((cs.drop off).take sz)else none|_=>none
 | .faddr off=>match args with
   |[.iptr cs]=>some (.iptr (cs.drop off))
   |[.ptr id r c]=>some (.ptr id r (c+off))
   |[.reg r c]=>some (.reg r (c+off))
   |_=>none
 | .iaddr sz=>match args with
   |[.lst sz' _ xs,.sc (.int _ n)]=>if 0<=n/\sz'=sz then(xs[n.toNat]?).map .iptr else none
   |[.arr id sz' off len _,.sc (.int _ n)]=>if 0<=n/\n<len/\sz'=sz then some (.ptr id (off+n.toNat) 0)else none
   |_=>none
 | .iaddrA sz len=>match args with
   |[.iptr cs,.sc (.int _ n)]=>if 0<=n/\n<len then some (.iptr (cs.drop (n.toNat*sz)))else none
   |[.ptr id r c,.sc (.int _ n)]=>if 0<=n/\n<len then some (.ptr id r (c+n.toNat*sz))else none
   |[.reg r c,.sc (.int _ n)]=>if 0<=n/\n<len then some (.reg r (c+n.toNat*sz))else none
   |_=>none
 | .indexS=>match args with|[.sc (.string s),.sc (.int _ n)]=>if 0<=n then(s.data[n.toNat]?).map fun b=>.sc (.int .u8 b.toNat)else none|_=>none
 | .indexA sz len agg=>match args with
   |[.agg cs,.sc (.int _ n)]=>if 0<=n/\n<len/\n.toNat*sz+sz<=cs.length then zaU agg ((cs.drop (n.toNat*sz)).take sz)else none
   |_=>none
 | .sliceS lo hi=>match args with
   | .sc (.string s)::rest=>
     match lo,hi,rest with
     |false,false,[]=>some (.sc (.string (s.extract 0 s.size)))
     |true,false,[l]=>(zM l s.size).map fun l=>.sc (.string (s.extract l s.size))
     |false,true,[h]=>(zM h s.size).map fun h=>.sc (.string (s.extract 0 h))
     |true,true,[l,h]=>(zM h s.size).bind fun h=>(zM l h).map fun l=>.sc (.string (s.extract l h))
     |_,_,_=>none
   |_=>none
 | .sliceL z lo hi mx=>match args with
   | .lst sz full xs::rest=>
     if z≠sz/\xs.isEmpty=false then none else
     match lo,hi,mx,rest with
     |false,false,false,[]=>some (.lst z full xs)
     |true,false,false,[l]=>(zM l xs.length).map fun l=>.lst z full (xs.drop l)
     |false,true,false,[h]=>(zM h xs.length).map fun h=>.lst z (full&&h==xs.length) (xs.take h)
     |true,true,false,[l,h]=>(zM h xs.length).bind fun h=>(zM l h).map fun l=>.lst z (full&&h==xs.length) ((xs.take h).drop l)
     |true,true,true,[l,h,m]=>(zM m xs.length).bind fun m=>(zM h m).bind fun h=>(zM l h).map fun l=>.lst z (m==h) ((xs.take h).drop l)
     |false,true,true,[h,m]=>(zM m xs.length).bind fun m=>(zM h m).map fun h=>.lst z (m==h) (xs.take h)
     |_,_,_,_=>none
   | .arr id sz off len lim::rest=>
     if z≠sz then none else
     match lo,hi,mx,rest with
     |false,false,false,[]=>some (.arr id sz off len lim)
     |true,false,false,[l]=>(zM l len).map fun l=>.arr id sz (off+l) (len-l) lim
     |false,true,false,[h]=>(zM h len).map fun h=>.arr id sz off h lim
     |true,true,false,[l,h]=>(zM h len).bind fun h=>(zM l h).map fun l=>.arr id sz (off+l) (h-l) lim
     |true,true,true,[l,h,m]=>(zM m len).bind fun m=>(zM h m).bind fun h=>(zM l h).map fun l=>.arr id sz (off+l) (h-l) (some (off+m))
     |false,true,true,[h,m]=>(zM m len).bind fun m=>(zM h m).map fun h=>.arr id sz off h (some (off+m))
     |_,_,_,_=>none
   |_=>none
 | .build zero ps=>(vc ps args zero).map .agg
 | .buildSl sz n zero ps=>if zero.all AV.isCell then(zj sz ps args (List.replicate n zero)).map (.lst sz true)else none
 | .extract i=>match args with|[.tup vs]=>vs[i]?|_=>none
 | .lenS=>match args with|[.sc (.string s)]=>some (.i s.size)|_=>none
 | .lenL=>match args with|[.lst _ _ xs]=>some (.i xs.length)|[.arr _ _ _ n _]=>some (.i n)|_=>none
 | .cap=>match args with|[.lst _ true xs]=>some (.i xs.length)|_=>none
 | .min=>match args with| .sc v::l=>(ve false v l).map .sc|_=>none
 | .max=>match args with| .sc v::l=>(ve true v l).map .sc|_=>none
 | .mkfn key n=>if args.any AV.isReg then none else some (.fn key (args.take n) (args.drop n))
 | .nilchk=>match args with
   |[.iptr cs]=>some (.iptr cs)|[.ptr id r c]=>some (.ptr id r c)|[.reg r c]=>some (.reg r c)|[.opq]=>some .opq|[.fn k a b]=>some (.fn k a b)
   |_=>none
 | .ibox=>match args with|[v]=>if v.cells.all AV.isCell then some (.iptr v.cells)else none|_=>none
def setCells(cs:List AV)(col:Nat)(new:List AV):List AV:=cs.take col++new++cs.drop (col+new.length)
def yW(cs:List AV)(col sz:Nat)(agg:Bool):Option AV:=
 if col+sz<=cs.length then zaU agg ((cs.drop col).take sz)else none
def qO:Value->Value->Option Bool
 | .int k a,.int k' b=>if k=k' then some (a==b)else none
 | .string a,.string b=>some (a==b)
 |_,_=>none
def qM:Value->Bool
 | .string _=>true
 |_=>false
def zbB(zero:AV):Option (Nat×AV)->AV
 |some r=>r.2
 |none=>zero
def qy(k:Value):List (Value×AV)->Nat->Option (Option (Nat×AV))
 |[],_=>some none
 |(x,v)::l,i=>
  match qO k x with
  |some true=>some (some (i,v))
  |some false=>qy k l (i+1)
  |none=>none
def zD(sz:Nat)(S:AS):AV->Option (List (List AV))
 | .lst z _ xs=>if z=sz||xs.isEmpty then some xs else none
 | .arr id z off n _=>if z=sz then S.slice 0 id z off n else none
 |_=>none
def qF(rs:List (List AV))(i:Nat)(new:List (List AV)):List (List AV):=rs.take i++new++rs.drop (i+new.length)
def jq(sz bytes:Nat)(S:AS)(s:AV)(ys:List (List AV)):Option (AV×AS):=
 if ys.isEmpty then
  match s with
  | .lst _ true []=>some (.arr S.n sz 0 0 none,S.new (.rows sz []))
  | .lst _ _ _| .arr _ _ _ _ _=>some (s,S)
  |_=>none
 else
 match s with
 | .lst sz' true xs=>
   if(xs.isEmpty||sz'==sz)&&(xs.length+ys.length)*bytes<=140737488355328 then some (.arr S.n sz 0 (xs.length+ys.length) none,S.new (.rows sz (xs++ys)))else none
 | .arr id sz' off len lim=>
   match S.heap id with
   |some (.rows z rs)=>
    if z≠sz\/sz'≠sz\/id<S.ro\/rs.length<off+len then none else
    match lim with
    |some e=>
     if off+len+ys.length<=e/\e<=rs.length then some (.arr id sz off (len+ys.length) lim,S.set id (some (.rows sz (qF rs (off+len) ys))))
     else if e<off+len+ys.length/\(len+ys.length)*bytes<=140737488355328 then some (.arr S.n sz 0 (len+ys.length) none,S.new (.rows sz ((rs.drop off).take len++ys)))
     else none
    |none=>
     if off+len+ys.length<=rs.length then some (.arr id sz off (len+ys.length) none,S.set id (some (.rows sz (qF rs (off+len) ys))))
     else if off=0/\(len+ys.length)*bytes<=140737488355328 then
      some (.arr S.n sz 0 (len+ys.length) none,(S.set id none).new (.rows sz (rs.take len++ys)))
     else none
   |_=>none
 |_=>none
def jr(S:AS)(ids:List Nat):AS:={S with heap:=fun j=>if ids.contains j then none else S.heap j}
def ze(o:AOp)(dst:Option Nat)(rg:Nat->Option (List AV))(S:AS)(args:List AV):Option (AV×Option (Nat×List AV)×AS):=
 match o,args with
 | .pur p,_=>(pev p args).map fun v=>(v,none,S)
 | .ld (some r) sz agg,[.reg r' c]=>if r'=r then(rg r).bind fun cs=>(yW cs c sz agg).map fun v=>(v,none,S)else none
 | .ld none sz agg,[.iptr cs]=>(yW cs 0 sz agg).map fun v=>(v,none,S)
 | .ld none sz agg,[.ptr id row c]=>
   match S.heap id with
   |some (.rows _ rs)=>(rs[row]?).bind fun cs=>(yW cs c sz agg).map fun v=>(v,none,S)
   |_=>none
 | .st (some r) sz,[.reg r' c,v]=>
   if r'=r/\v.cells.all AV.isCell/\v.cells.length=sz then(rg r).bind fun cs=>if c+sz<=cs.length then some (.junk,some (r,setCells cs c v.cells),S)else none else none
 | .st none sz,[.ptr id row c,v]=>
   if S.ro<=id/\v.cells.all AV.isCell/\v.cells.length=sz then
    match S.heap id with
    |some (.rows z rs)=>(rs[row]?).bind fun cs=>if c+sz<=cs.length then some (.junk,none,S.set id (some (.rows z (rs.set row (setCells cs c v.cells)))))else none
    |_=>none
   else none
 | .alloc .reg zero,[]=>dst.bind fun t=>if(rg t).isNone then some (.reg t 0,some (t,zero),S)else none
 | .alloc .heap zero,[]=>if zero.all AV.isCell/\0<zero.length then some (.ptr S.n 0 0,none,S.new (.rows zero.length [zero]))else none
 | .box .reg,[v]=>if v.cells.all AV.isCell then dst.bind fun t=>if(rg t).isNone then some (.reg t 0,some (t,v.cells),S)else none else none
 | .box .heap,[v]=>if v.cells.all AV.isCell/\0<v.cells.length then some (.ptr S.n 0 0,none,S.new (.rows v.cells.length [v.cells]))else none
 | .lookup str zero ok,[m,.sc k]=>
   if qM k≠str then none else
   let es:=match m with
    | .mp id=>match S.heap id with|some (.map es)=>some es|_=>none
    | .sc (.map none)=>some []
    |_=>none
   es.bind fun es=>(qy k es 0).map fun f=>
    (if ok then .tup [zbB zero f,.b f.isSome]else zbB zero f,none,S)
 | .lenM,[.mp id]=>match S.heap id with|some (.map es)=>some (.i es.length,none,S)|_=>none
 | .mkmap,[]=>some (.mp S.n,none,S.new (.map []))
 | .mapset str,[.mp id,.sc k,v]=>
   if S.ro<=id/\v.isReg=false/\qM k=str then
    match S.heap id with
    |some (.map es)=>(qy k es 0).map fun f=>
     (.junk,none,S.set id (some (.map (match f with|some (i,_)=>es.set i (k,v)|none=>es++[(k,v)]))))
    |_=>none
   else none
 | .clearM,[.mp id]=>
   if S.ro<=id then match S.heap id with|some (.map _)=>some (.tup [],none,S.set id (some (.map [])))|_=>none else none
 | .append sz bytes,[s,x]=>(zD sz S x).bind fun ys=>(jq sz bytes S s ys).map fun r=>(r.1,none,r.2)
 | .mkslice sz bytes zero,[.sc (.int .i64 l),.sc (.int .i64 c)]=>
   if 0<=l/\l<=c/\c*bytes<=140737488355328/\0<bytes/\zero.all AV.isCell/\zero.length=sz/\0<sz then some (.arr S.n sz 0 l.toNat none,none,S.new (.rows sz (List.replicate c.toNat zero)))else none
 | .appendZ sz bytes zero,[.lst _ true [],.sc (.int .i64 n)]=>
   if 0<n/\n*bytes<=140737488355328/\0<bytes/\zero.all AV.isCell/\zero.length=sz/\0<sz then some (.arr S.n sz 0 n.toNat none,none,S.new (.rows sz (List.replicate n.toNat zero)))else none
 | .copy sz,[.arr id sz' off len _,x]=>(zD sz S x).bind fun ys=>
   let n:=Nat.min ys.length len
   if n=0 then some (.i 0,none,S)else
   match S.heap id with
   |some (.rows z rs)=>
    if z=sz/\sz'=sz/\S.ro<=id/\off+len<=rs.length then some (.i n,none,S.set id (some (.rows z (qF rs off (ys.take n)))))else none
   |_=>none
 | .clearS sz zero,[.arr id sz' off len _]=>
   if len=0 then some (.tup [],none,S)else
   match S.heap id with
   |some (.rows z rs)=>if z=sz/\sz'=sz/\S.ro<=id/\off+len<=rs.length/\zero.all AV.isCell/\zero.length=sz then some (.tup [],none,S.set id (some (.rows z (qF rs off (List.replicate len zero)))))else none
   |_=>none
 | .mapdel str,[.mp id,.sc k]=>
   if S.ro<=id/\qM k=str then
    match S.heap id with
    |some (.map es)=>(qy k es 0).map fun f=>(.tup [],none,S.set id (some (.map (match f with|some (i,_)=>es.eraseIdx i|none=>es))))
    |_=>none
   else none
 | .tell,[v]=>
   if(qJ [v]).all (fun id=>S.ro<=id)then(S.frzTo S.ro 1 v).map fun d=>(d,none,jr S (qJ [v]))else none
 |_,_=>none
def zo.ev(A:zA)(tm:List AV):zo->Option AV
 | .t n=>some (tm.getD n .junk)
 | .k v=>some v
 | .g n=>A.glob n
def evs(A:zA)(tm:List AV):List zo->Option (List AV)
 |[]=>some []
 |a::l=>(a.ev A tm).bind fun v=>(evs A tm l).map (v::·)
def zd6(tm:List AV)(rg:Nat->Option (List AV))(S:AS):vi->Option AV
 | .tmp t=>match tm.getD t .junk with| .reg _ _=>none|v=>some v
 | .cell t sz agg=>
   match tm.getD t .junk with
   | .reg r c=>(rg r).bind fun cs=>yW cs c sz agg
   | .iptr cs=>yW cs 0 sz agg
   | .ptr id row c=>match S.heap id with
     |some (.rows _ rs)=>(rs[row]?).bind fun cs=>yW cs c sz agg
     |_=>none
   |_=>none
def za0(tm:List AV)(rg:Nat->Option (List AV))(S:AS):List vi->Option (List AV)
 |[]=>some []
 |r::l=>(zd6 tm rg S r).bind fun v=>(za0 tm rg S l).map (v::·)
def za.start(f:za)(args:List AV)(S:AS):ASt:=
 {tm:=args++List.replicate (f.ntmps-args.length) .junk,rg:=fun _=>none,S}
def za.done(f:za)(σ:ASt):Option (AV×AS):=
 (za0 σ.tm σ.rg σ.S f.res).map fun vs=>((match vs with|[v]=>v|_=>.tup vs),σ.S)
def enter(R:ACode->ASt->Option (zL×ASt))(f:za)(args:List AV)(S:AS):Option (AV×AS):=
 match R f.body (f.start args S)with
 |some (.normal,σ)|some (.ret,σ)=>f.done σ
 |_=>none
def Frm(cols:List Nat)(S S':AS):Prop:=∀id o,id<S.n->S.heap id=some o->match o with
 | .map es=>S'.heap id=some (.map es)
 | .rows z rs=>∃b:List (List AV),S'.heap id=some (.rows z b)/\∀(r:Nat) (cs:List AV),rs[r]?=some cs->∃cs':List AV,b[r]?=some cs'/\cs'.length=cs.length/\∀k,k∉cols->cs'[k]?=cs[k]?
open Classical in
noncomputable def yq(A:zA)(R:ACode->ASt->Option (zL×ASt))(key:Nat)(args:List AV)(S:AS):Option (AV×AS):=
 if args.any AV.isReg then none else
 match A.ext key with
 |some g=>g args S
 |none=>(A.funcs key).bind fun f=>
  match A.mode key with
  | .keep=>enter R f args S
  | .pure=>
    let ids:=qJ args
    if ids.all (fun id=>S.ro<=id)then
     (zI (S.frzTo S.ro 1) args).bind fun args'=>
      (enter R f args' {jr S ids with ro:=S.n}).bind fun r=>
       (r.2.frzTo S.n 2 r.1).bind fun v=>if v.pure then some (v,jr S ids)else none
    else none
  | .calm=>
    (enter R f (yL args) {S with ro:=S.n}).bind fun r=>
     (r.2.frzTo S.n 2 r.1).bind fun v=>if v.pure then some (v,S)else none
  | .borrow=>
    (zI (S.frzTo 0 2) args).bind fun args'=>
     (enter R f args' {S with ro:=S.n}).bind fun r=>if r.1.scalar then some (r.1,S)else none
  | .keepF cols=>(enter R f args S).bind fun r=>if Frm cols S r.2 then some r else none
  | .lone=>
    if jR (yL args)then
     (enter R f (yL args) ⟨fun _=>none,0,0⟩).bind fun r=>(r.2.frzTo 0 2 r.1).bind fun v=>if v.pure then some (v,S)else none
    else none
def upd(rg:Nat->Option (List AV))(t:Nat)(cs:List AV):Nat->Option (List AV):=fun r=>if r=t then some cs else rg r
def ASt.put(σ:ASt)(dst:Option Nat)(v:AV):ASt:=
 match dst with
 |some d=>{σ with tm:=σ.tm.set d v}
 |none=>σ
def ASt.regs(σ:ASt):Option (Nat×List AV)->ASt
 |some (t,cs)=>{σ with rg:=upd σ.rg t cs}
 |none=>σ
def qB(tm:List AV):Option (Nat×Bool)->Option Bool
 |none=>some true
 |some (t,b)=>match tm.getD t .junk with
  | .sc (.bool c)=>some (c==b)
  | .tup _=>some false
  |_=>none
noncomputable def y5(A:zA)(R:ACode->ASt->Option (zL×ASt))(op:AOp)(dst:Option Nat)(args:List AV)(σ:ASt):Option ASt:=
 match op with
 | .call key=>(yq A R key args σ.S).map fun r=>{σ with S:=r.2}.put dst r.1
 | .callv=>match args with
   | .fn key first cap::rest=>(yq A R key (first++rest++cap) σ.S).map fun r=>{σ with S:=r.2}.put dst r.1
   |_=>none
 |o=>(ze o dst σ.rg σ.S args).map fun r=>({σ with S:=r.2.2}.regs r.2.1).put dst r.1
noncomputable def step(A:zA)(R:ACode->ASt->Option (zL×ASt))(i:zu)(σ:ASt):Option ASt:=
 match qB σ.tm i.guard with
 |none=>none
 |some false=>some (σ.put i.dst (.tup []))
 |some true=>(evs A σ.tm i.args).bind fun args=>y5 A R i.op i.dst args σ
noncomputable def yK(A:zA)(R:ACode->ASt->Option (zL×ASt)):List zu->ASt->Option ASt
 |[],σ=>some σ
 |i::l,σ=>(step A R i σ).bind (yK A R l)
def wF(tm rg:List Nat)(σ:ASt):Option ASt:=
 let tm':=σ.tm.zipIdx.map fun p=>if tm.contains p.2 then .junk else p.1
 if tm'.any (fun| .reg r _=>rg.contains r|_=>false)then none
 else some {σ with tm:=tm',rg:=fun r=>if rg.contains r then none else σ.rg r}
def zcQ:AV->AV->Bool
 | .ptr i _ _,.ptr j _ _=>i !=j
 |_,_=>false
def zc0:AV->Nat->Bool
 | .ptr _ _ c,k=>c !=k
 | .iptr _,_=>true
 |_,_=>false
def zew(x:AV)(b:Nat)(y:AV):Bool:=if b<1000 then zcQ x y else zc0 x (b-1000)
def zat(tm:List AV)(c:List (Nat×Nat)):Bool:=c.all fun p=>zew (tm.getD p.1 .junk) p.2 (tm.getD p.2 .junk)
noncomputable def zy(A:zA):Nat->ACode->ASt->Option (zL×ASt)
 |0,_,_=>none
 |_+1,.skip,σ=>some (.normal,σ)
 |k+1,.ops l,σ=>(yK A (zy A k) l σ).map fun σ=>(.normal,σ)
 |k+1,.opsC l c,σ=>(yK A (zy A k) l σ).bind fun σ=>if zat σ.tm c then some (.normal,σ)else none
 |k+1,.seq a b,σ=>
  match zy A k a σ with
  |some (.normal,σ)=>zy A k b σ
  |r=>r
 |k+1,.cond c a b,σ=>
  match c.ev A σ.tm with
  |some (.sc (.bool t))=>zy A k (if t then a else b) σ
  |_=>none
 |k+1,.block id c,σ=>
  match zy A k c σ with
  |some (.exit j,σ)=>some (if j=id then .normal else .exit j,σ)
  |r=>r
 |k+1,.loop tm rg c,σ=>
  (wF tm rg σ).bind fun σ=>
   match zy A k c σ with
   |some (.normal,σ)=>zy A k (.loop tm rg c) σ
   |r=>r
 |_+1,.exit id,σ=>some (.exit id,σ)
 |_+1,.label _,σ=>some (.normal,σ)
 |_+1,.goto l,σ=>some (.goto l,σ)
 |k+1,.scope b c,σ=>
  match zy A k c σ with
  |some (.goto l,σ)=>match vn b l with
   |some c=>zy A k (.scope b c) σ
   |none=>some (.goto l,σ)
  |r=>r
 |_+1,.ret,σ=>some (.ret,σ)
def jw:Value->Bool
 | .bool _| .int _ _| .string _| .pointer none| .map none| .nilFunc| .nilIface=>true
 |_=>false
structure Gh where
 ι:Nat->Option (Nat×Nat×Nat)
 P:Nat->Nat->Prop
 K:Nat->Option Nat
def At(G:Gh)(w:World)(b off:Nat)(vs:List Value):Prop:=
 ∀i v,vs[i]?=some v->G.P b (off+i)/\w.cell? ⟨b,off+i,none⟩=some v
mutual
inductive Rep(G:Gh)(w:World):AV->Value->Prop
 |sc{v:Value}(h:jw v=true):Rep G w (.sc v) v
 |junk{v:Value}:Rep G w .junk v
 |opq{t:Nat}{v:Value}:Rep G w .opq (.iface t v)
 |ptr{id r c b sz N:Nat}(h:G.ι id=some (b,sz,N)):Rep G w (.ptr id r c) (.pointer (some ⟨b,r*sz+c,none⟩))
 |iptr{cs:List AV}{vs:List Value}{b off:Nat}(h:At G w b off vs)(hr:zx G w cs vs):Rep G w (.iptr cs) (.pointer (some ⟨b,off,none⟩))
 |nil{sz:Nat}{full:Bool}{a:Option Addr}{c:Nat}(h:full=true->c=0):Rep G w (.lst sz full []) (.slice a 0 c)
 |lst {sz:Nat} {full:Bool} {xs:List (List AV)} {vs:List (List Value)} {b off n c:Nat} (hn:n=xs.length) (hc:xs.length<=c) (hf:full=true->c=xs.length)
  (h:At G w b off vs.flatten) (hr:zK G w sz xs vs):Rep G w (.lst sz full xs) (.slice (some ⟨b,off,none⟩) n c)
 |arr {id off len b sz N cap:Nat} {lim:Option Nat} {a:Option Addr} (h:G.ι id=some (b,sz,N)) (hl:off+len<=lim.getD N) (hN:lim.getD N<=N)
  (hcap:cap=lim.getD N-off) (ha:cap=0\/a=some ⟨b,off*sz,none⟩):Rep G w (.arr id sz off len lim) (.slice a len cap)
 |agg{cs:List AV}{vs:List Value}(h:zx G w cs vs):Rep G w (.agg cs) (.agg vs.toArray)
 |tup{cs:List AV}{vs:List Value}(h:zx G w cs vs):Rep G w (.tup cs) (.tuple vs.toArray)
 |fn{key f:Nat}{a b:List AV}{va vb:List Value}(hk:G.K key=some f)(ha:zx G w a va)(hb:zx G w b vb):Rep G w (.fn key a b) (.func (.func f) va.toArray vb.toArray)
 |mp{id b sz N:Nat}(h:G.ι id=some (b,sz,N)):Rep G w (.mp id) (.map (some b))
inductive zx(G:Gh)(w:World):List AV->List Value->Prop
 |nil:zx G w [] []
 |cons{a:AV}{l:List AV}{v:Value}{vs:List Value}(h:Rep G w a v)(t:zx G w l vs):zx G w (a::l) (v::vs)
inductive zK(G:Gh)(w:World):Nat->List (List AV)->List (List Value)->Prop
 |nil{sz:Nat}:zK G w sz [] []
 |cons{sz:Nat}{r:List AV}{rs:List (List AV)}{v:List Value}{vs:List (List Value)}(h:zx G w r v)(hl:r.length=sz)(hc:∀u∈v,u.oneCell'=true)(t:zK G w sz rs vs):zK G w sz (r::rs) (v::vs)
end
structure Le(G:Gh)(w:World)(G':Gh)(w':World):Prop where
 ι:∀id x,G.ι id=some x->G'.ι id=some x
 P:∀b o,G.P b o->G'.P b o
 K:G'.K=G.K
 cell:∀b o v,G.P b o->w.cell? ⟨b,o,none⟩=some v->w'.cell? ⟨b,o,none⟩=some v
theorem Le.refl(G:Gh)(w:World):Le G w G w:=⟨fun _ _ h=>h,fun _ _ h=>h,rfl,fun _ _ _ _ h=>h⟩
theorem Le.trans{G G' b:Gh}{w w' c:World}(h:Le G w G' w')(d:Le G' w' b c):Le G w b c:=
 ⟨fun _ _ e=>d.ι _ _ (h.ι _ _ e),fun _ _ e=>d.P _ _ (h.P _ _ e),d.K.trans h.K,fun _ _ _ p e=>d.cell _ _ _ (h.P _ _ p) (h.cell _ _ _ p e)⟩
theorem At.mono{G G':Gh}{w w':World}(h:Le G w G' w'){b off:Nat}{vs:List Value}(c:At G w b off vs):At G' w' b off vs:=
 fun i v e=>⟨h.P _ _ (c i v e).1,h.cell _ _ _ (c i v e).1 (c i v e).2⟩
mutual
theorem Rep.mono{G G':Gh}{w w':World}(h:Le G w G' w'){a:AV}{v:Value}:Rep G w a v->Rep G' w' a v
 | .sc e=>.sc e
 | .junk=>.junk
 | .opq=>.opq
 | .ptr e=>.ptr (h.ι _ _ e)
 | .iptr e r=>.iptr (e.mono h) (r.mono h)
 | .nil e=>.nil e
 | .lst a b c e r=>.lst a b c (e.mono h) (r.mono h)
 | .arr a b c d e=>.arr (h.ι _ _ a) b c d e
 | .agg r=>.agg (r.mono h)
 | .tup r=>.tup (r.mono h)
 | .fn k a b=>.fn (by rw[h.K];exact k) (a.mono h) (b.mono h)
 | .mp e=>.mp (h.ι _ _ e)
theorem zx.mono{G G':Gh}{w w':World}(h:Le G w G' w'){a:List AV}{v:List Value}:zx G w a v->zx G' w' a v
 | .nil=>.nil
 | .cons a l=>.cons (a.mono h) (l.mono h)
theorem zK.mono{G G':Gh}{w w':World}(h:Le G w G' w'){sz:Nat}{a:List (List AV)}{v:List (List Value)}:zK G w sz a v->zK G' w' sz a v
 | .nil=>.nil
 | .cons a e c l=>.cons (a.mono h) e c (l.mono h)
end
theorem Rep.lstN{G:Gh}{w:World}{s:Nat}{f:Bool}{xs:List (List AV)}{v:Value}(h:Rep G w (.lst s f xs) v):Rep G w (Abs.lstN s xs) v:=by
 unfold Abs.lstN;cases h with
 |nil e=>exact .nil (fun h=>by cases h)
 |lst a b c e r=>
  cases xs with
  |nil=>subst a;exact .nil (fun h=>by cases h)
  |cons y ys=>exact .lst a b (fun h=>by cases h) e r
theorem zx.length{G:Gh}{w:World}{a:List AV}{v:List Value}:zx G w a v->a.length=v.length
 | .nil=>rfl
 | .cons _ l=>by simp[l.length]
theorem zK.length{G:Gh}{w:World}{sz:Nat}{a:List (List AV)}{v:List (List Value)}:zK G w sz a v->a.length=v.length
 | .nil=>rfl
 | .cons _ _ _ l=>by simp[l.length]
theorem zx.get{G:Gh}{w:World}{a:List AV}{vs:List Value}(h:zx G w a vs)(i:Nat){x:AV}(b:a[i]?=some x):∃v,vs[i]?=some v/\Rep G w x v:=by
 induction i generalizing a vs with
 |zero=>cases h with
  |nil=>simp at b
  |cons h t=>simp at b;subst b;exact⟨_,by simp,h⟩
 |succ i ih=>cases h with
  |nil=>simp at b
  |cons h t=>simp at b;simpa using ih t b
theorem zK.get{G:Gh}{w:World}{sz:Nat}{a:List (List AV)}{vs:List (List Value)}(h:zK G w sz a vs)(i:Nat){x:List AV}(b:a[i]?=some x):
 ∃v,vs[i]?=some v/\zx G w x v/\x.length=sz/\∀u∈v,u.oneCell'=true:=by
 induction i generalizing a vs with
 |zero=>cases h with
  |nil=>simp at b
  |cons h e c t=>simp at b;subst b;exact⟨_,by simp,h,e,c⟩
 |succ i ih=>cases h with
  |nil=>simp at b
  |cons h e c t=>simp at b;simpa using ih t b
theorem zx.append{G:Gh}{w:World}{a b:List AV}{c d:List Value}:zx G w a c->zx G w b d->zx G w (a++b) (c++d)
 | .nil,h=>h
 | .cons h t,h'=>.cons h (t.append h')
theorem zK.append{G:Gh}{w:World}{sz:Nat}{a b:List (List AV)}{d f:List (List Value)}:zK G w sz a d->zK G w sz b f->zK G w sz (a++b) (d++f)
 | .nil,h=>h
 | .cons h e c t,h'=>.cons h e c (t.append h')
theorem zx.drop{G:Gh}{w:World}{a:List AV}{v:List Value}(h:zx G w a v)(n:Nat):zx G w (a.drop n) (v.drop n):=by
 induction n generalizing a v with
 |zero=>simpa using h
 |succ n ih=>cases h with
  |nil=>simpa using .nil
  |cons _ t=>simpa using ih t
theorem zx.take{G:Gh}{w:World}{a:List AV}{v:List Value}(h:zx G w a v)(n:Nat):zx G w (a.take n) (v.take n):=by
 induction n generalizing a v with
 |zero=>simpa using .nil
 |succ n ih=>cases h with
  |nil=>simpa using .nil
  |cons e t=>simpa using .cons e (ih t)
theorem zK.drop{G:Gh}{w:World}{sz:Nat}{a:List (List AV)}{v:List (List Value)}(h:zK G w sz a v)(n:Nat):zK G w sz (a.drop n) (v.drop n):=by
 induction n generalizing a v with
 |zero=>simpa using h
 |succ n ih=>cases h with
  |nil=>simpa using .nil
  |cons _ _ _ t=>simpa using ih t
theorem zK.take{G:Gh}{w:World}{sz:Nat}{a:List (List AV)}{v:List (List Value)}(h:zK G w sz a v)(n:Nat):zK G w sz (a.take n) (v.take n):=by
 induction n generalizing a v with
 |zero=>simpa using .nil
 |succ n ih=>cases h with
  |nil=>simpa using .nil
  |cons e l c t=>simpa using .cons e l c (ih t)
theorem zx.set{G:Gh}{w:World}{a:List AV}{v:List Value}{x:AV}{y:Value}(h:zx G w a v)(b:Rep G w x y)(n:Nat):zx G w (a.set n x) (v.set n y):=by
 induction n generalizing a v with
 |zero=>cases h with
  |nil=>simpa using .nil
  |cons _ t=>simpa using .cons b t
 |succ n ih=>cases h with
  |nil=>simpa using .nil
  |cons e t=>simpa using .cons e (ih t)
theorem zK.set{G:Gh}{w:World}{sz:Nat}{a:List (List AV)}{v:List (List Value)}{x:List AV}{y:List Value}(h:zK G w sz a v)(b:zx G w x y)(d:x.length=sz)(f:∀u∈y,u.oneCell'=true)(n:Nat):
 zK G w sz (a.set n x) (v.set n y):=by
 induction n generalizing a v with
 |zero=>cases h with
  |nil=>simpa using .nil
  |cons _ _ _ t=>simpa using .cons b d f t
 |succ n ih=>cases h with
  |nil=>simpa using .nil
  |cons e l c t=>simpa using .cons e l c (ih t)
theorem zK.replicate{G:Gh}{w:World}{sz:Nat}{x:List AV}{y:List Value}(b:zx G w x y)(c:x.length=sz)(d:∀u∈y,u.oneCell'=true):∀n,zK G w sz (List.replicate n x) (List.replicate n y)
 |0=>.nil
 |n+1=>.cons b c d (zK.replicate b c d n)
theorem zK.flat_length{G:Gh}{w:World}{sz:Nat}{a:List (List AV)}{v:List (List Value)}:zK G w sz a v->v.flatten.length=a.length*sz
 | .nil=>by simp
 | .cons h e _ t=>by simp only[List.flatten_cons,xaC,t.flat_length,xaI,<-h.length,e,Nat.add_mul];omega
theorem zK.flat_get{G:Gh}{w:World}{sz:Nat}{a:List (List AV)}{vs:List (List Value)}(h:zK G w sz a vs)(i:Nat){v:List Value}(b:vs[i]?=some v):
 v.length=sz/\∀j,j<sz->vs.flatten[i*sz+j]?=v[j]?:=by
 induction i generalizing a vs with
 |zero=>cases h with
  |nil=>simp at b
  |cons h e c t=>
   simp at b;subst b;have f:=h.length;refine⟨by omega,fun j d=>?_⟩;simp only[List.flatten_cons,Nat.zero_mul,Nat.zero_add];rw[xaG (by omega)]
 |succ i ih=>cases h with
  |nil=>simp at b
  |cons h e c t=>
   simp at b;obtain⟨g,k⟩:=ih t b;have f:=h.length;refine⟨g,fun j d=>?_⟩;simp only[List.flatten_cons];rw[xaF (by rw[Nat.add_mul];omega),<-k j d];congr 1;rw[Nat.add_mul];omega
theorem At.drop{G:Gh}{w:World}{b off:Nat}{vs:List Value}(h:At G w b off vs)(n:Nat):At G w b (off+n) (vs.drop n):=by
 intro i v e;rw[List.getElem?_drop]at e;have:=h (n+i) v e;rw[Nat.add_assoc];exact this
def qV(ms:Array MapEntry)(b:Nat):Prop:=(∀e∈ms.toList,e.born<b)/\(ms.toList.map (·.born)).Nodup/\(ms.toList.map (·.key)).Nodup
theorem qV.nil(c:Nat):qV #[] c:=⟨by simp,by simp,by simp⟩
theorem qV.push{ms:Array MapEntry}{c:Nat}(h:qV ms c){k v:Value}(j:k∉ms.toList.map (·.key)):qV (ms.push {key:=k,val:=v,born:=c}) (c+1):=by
 obtain⟨i,l,m⟩:=h;refine⟨?_,?_,?_⟩
 ·intro e d;simp only[Array.toList_push,xaE,xaA]at d;rcases d with d|rfl
  ·have:=i e d;omega
  ·exact xay _
 ·simp only[Array.toList_push,List.map_append,xao,List.map_nil];rw[List.nodup_append];refine⟨l,by simp,?_⟩;intro a g b f;simp only[xaA]at f;obtain⟨e,d,rfl⟩:=List.mem_map.1 g;have:=i e d;omega
 ·simp only[Array.toList_push,List.map_append,xao,List.map_nil];rw[List.nodup_append];refine⟨m,by simp,?_⟩;intro a g b f;simp only[xaA]at f;subst f;rintro rfl;exact j g
theorem qV.sub{ms ms':Array MapEntry}{c:Nat}(h:qV ms c)(b:ms'.toList.Sublist ms.toList):qV ms' c:=
 ⟨fun e d=>h.1 e (b.subset d),(b.map _).nodup h.2.1,(b.map _).nodup h.2.2⟩
theorem qV.same{ms ms':Array MapEntry}{c:Nat}(h:qV ms c)(d:ms'.toList.map (·.born)=ms.toList.map (·.born))(f:ms'.toList.map (·.key)=ms.toList.map (·.key)):qV ms' c:=by
 obtain⟨g,i,j⟩:=h;refine⟨?_,by rw[d];exact i,by rw[f];exact j⟩;intro e k;have:e.born∈ms.toList.map (·.born):=by rw[<-d];exact List.mem_map_of_mem k
 obtain⟨l,b,h⟩:=List.mem_map.1 this;rw[<-h];exact g l b
def vl(G:Gh)(w:World)(x:Nat×Nat×Nat):yX->Prop
 | .rows sz rs=>x.2.1=sz/\0<sz/\rs.length<=x.2.2/\
  (x.2.2=0\/∃c e vs,w.heap[x.1]?=some (.cells c e (0,0))/\c.size=x.2.2*sz/\zK G w sz rs vs/\vs.flatten=c.toList.take (rs.length*sz))
 | .map es=>0<x.2.2/\∃ms b,w.heap[x.1]?=some (.map ms b)/\es.map (·.1)=ms.toList.map (·.key)/\zx G w (es.map (·.2)) (ms.toList.map (·.val))/\(es.all fun e=>jw e.1)=true/\qV ms b
structure Sim(G:Gh)(S:AS)(w:World):Prop where
 obj:∀id o,S.heap id=some o->∃x,G.ι id=some x/\vl G w x o
 fresh:∀id,S.n<=id->S.heap id=none/\G.ι id=none
 inj:∀id id' o o' x x',S.heap id=some o->S.heap id'=some o'->G.ι id=some x->G.ι id'=some x'->0<x.2.2->0<x'.2.2->x.1=x'.1->id=id'
 own:∀id o x off,S.ro<=id->S.heap id=some o->G.ι id=some x->0<x.2.2->¬G.P x.1 off
 lt:∀b o,G.P b o->b<w.heap.size
 ro:S.ro<=S.n
def Wr(G:Gh)(S:AS)(b:Nat):Prop:=∃id o x,S.ro<=id/\S.heap id=some o/\G.ι id=some x/\0<x.2.2/\x.1=b
structure Io(w w':World):Prop where
 os:w'.os=w.os
 tape:w'.tape=w.tape
 out:w'.output=w.output
theorem Io.refl(w:World):Io w w:=⟨rfl,rfl,rfl⟩
theorem Io.trans{w w' b:World}(h:Io w w')(c:Io w' b):Io w b:=⟨c.os.trans h.os,c.tape.trans h.tape,c.out.trans h.out⟩
structure Ext(D:Nat->Prop)(G:Gh)(w:World)(G':Gh)(w':World):Prop extends Le G w G' w' where
 size:w.heap.size<=w'.heap.size
 keep:∀b,b<w.heap.size->¬D b->w'.heap[b]?=w.heap[b]?
 new:∀b o,G'.P b o->G.P b o\/D b
 stay:∀b o,G.P b o->w'.heap[b]?=w.heap[b]?
 io:Io w w'
theorem Ext.refl(D:Nat->Prop)(G:Gh)(w:World):Ext D G w G w:=⟨Le.refl G w,xad _,fun _ _ _=>rfl,fun _ _ h=>.inl h,fun _ _ _=>rfl,Io.refl w⟩
theorem Ext.trans{D:Nat->Prop}{G G' d:Gh}{w w' e:World}(h:Ext D G w G' w')(c:Ext D G' w' d e):Ext D G w d e:=
 ⟨h.toLe.trans c.toLe,xaD h.size c.size,fun b f g=>(c.keep b (xan f h.size) g).trans (h.keep b f g),
  fun b o hp=>(c.new b o hp).elim (h.new b o) .inr,fun b o hp=>(c.stay b o (h.P b o hp)).trans (h.stay b o hp),h.io.trans c.io⟩
theorem Ext.weak{D c:Nat->Prop}{G G':Gh}{w w':World}(d:∀b,D b->c b)(h:Ext D G w G' w'):Ext c G w G' w':=
 ⟨h.toLe,h.size,fun b e f=>h.keep b e fun x=>f (d b x),fun b o hp=>(h.new b o hp).imp id (d b),h.stay,h.io⟩
def kM(G:Gh)(w:World)(v:AV)(m:Nat):Prop:=
 Rep G w v (.pointer (some ⟨m,0,none⟩))/\∀x cs,v=.iptr (x::cs)->∃c t f,w.heap[m]?=some (.cells c t f)/\c.size=cs.length+1
theorem kM.le{G G':Gh}{w:World}{v:AV}{m:Nat}(h:kM G w v m)(b:Le G w G' w):kM G' w v m:=⟨h.1.mono b,h.2⟩
theorem kM.ext{D:Nat->Prop}{G G':Gh}{w w':World}{v:AV}{m:Nat}(h:kM G w v m)(b:Ext D G w G' w'):kM G' w' v m:=by
 refine⟨h.1.mono b.toLe,?_⟩;rintro x cs rfl;have hp:G.P m 0:=by
  have c:=h.1;cases c with
  |iptr ha hr=>
   cases hr with
   |cons h t=>exact(ha 0 _ rfl).1
 rw[b.stay m 0 hp];exact h.2 x cs rfl
def zm6:Value->Value->Bool
 | .bool a,.bool b=>a==b
 | .int k a,.int k' b=>k==k'&&a==b
 | .string a,.string b=>a.data.toList==b.data.toList
 | .pointer none,.pointer none=>true
 | .map none,.map none=>true
 | .nilFunc,.nilFunc=>true
 | .nilIface,.nilIface=>true
 |_,_=>false
def zdA:AV->Value->Bool
 | .sc a,b=>zm6 a b
 | .lst _ full [],.slice none 0 c=>!full||c==0
 |_,_=>false
def kD:List AV->List Value->Bool
 |[],[]=>true
 |a::l,b::m=>zdA a b&&kD l m
 |_,_=>false
def zfr:AV->Value->Bool
 | .agg cs,.agg vs=>kD cs vs.toList
 | .tup cs,.tuple vs=>kD cs vs.toList
 |a,b=>zdA a b
def kf(K:Nat->Option Nat):zo->Operand->Bool
 | .t n,.tmp m=>n==m
 | .k (.fn key [] []),.func f=>K key==some f
 | .k v,.const c=>zfr v c
 | .g n,.global m=>K (10000+n)==some m
 |_,_=>false
def zO(K:Nat->Option Nat):List zo->List Operand->Bool
 |[],[]=>true
 |a::l,b::m=>kf K a b&&zO K l m
 |_,_=>false
def yS(P:Program)(t:TypeId):Option Nat:=(P.info? t).map (·.size)
def zgq(P:Program)(t:TypeId):Option Nat:=(P.info? t).map (·.bytes)
def zap(P:Program)(t:TypeId):Option Bool:=(P.underlying t).map fun| .struct _| .array _ _=>true|_=>false
def zbx(P:Program)(t:TypeId)(cs:List AV):Bool:=
 match(P.info? t).bind (·.zero)with
 |some z=>kD cs z.cells.toList
 |none=>false
def za5(P:Program)(t:TypeId):Option TypeId:=match P.underlying t with|some (.slice e)=>some e|_=>none
def ziJ(P:Program)(t:TypeId)(i:Nat):Option Field:=match P.underlying t with|some (.struct fs)=>fs[i]?|_=>none
def ky(P:Program)(f:Nat):Bool:=match P.funcs[f]? with|some fn=>!(fn.name== "runtime.NumGoroutine")&&fn.body.isSome|none=>false
def zaN:TypeDesc->Bool
 | .int _=>true
 |_=>false
def zdF(P:Program)(t:TypeId):Option Bool:=
 match P.underlying t with
 |some (.map k _)=>match P.underlying k with
  |some .string=>some true
  |some (.int _)=>some false
  |_=>none
 |_=>none
def ztc(P:Program)(t:TypeId)(ps:List (Nat×Operand))(b:List (Nat×Nat)):Bool:=
 match P.underlying t with
 |some (.struct fs)=>ps.map (fun p=>(fs[p.1]?).bind fun f=>(yS P f.type).map fun n=>(f.offset,n))==b.map some&&
  fs.all (fun f=>(yS P f.type).isSome)
 |some (.array _ e)=>(yS P e).isSome&&ps.map (fun p=>(yS P e).map fun n=>(p.1*n,n))==b.map some
 |_=>false
def zdB(P:Program)(ts:Array TypeId):Bool:=match ts[0]? with|some t=>(P.underlying t matches some (.map _ _))|none=>false
def zrS(P:Program)(ts:Array TypeId):Bool:=match ts[0]? with|some t=>(P.underlying t matches some .string)|none=>false
def zax(P:Program)(ts:Array TypeId):Option TypeId:=(ts[0]?).bind (za5 P)
def zrV(P:Program)(s:TypeId):Bool:=match P.underlying s with|some (.slice e)=>(P.underlying e matches some (.int .u8))|_=>false
def zfo(P:Program)(e:Option TypeId)(sz:Nat):Bool:=match e with|some e=>yS P e==some sz|none=>false
def zgh(P:Program)(t:TypeId)(sz len:Nat):Bool:=match P.underlying t with|some (.array n e)=>n==len&&yS P e==some sz|_=>false
def znX(P:Program)(t:TypeId)(agg:Bool):Bool:=match P.underlying t with|some (.array _ e)=>zap P e==some agg|_=>false
def zbj(ne:Bool):BinOp:=if ne then .neq else .eql
def zR(P:Program)(K:Nat->Option Nat)(o:Op)(p:POp)(args:List zo):Bool:=
 match p with
 | .mov=>match o with| .move x| .assign x=>zO K args [x]|_=>false
 | .pick=>match o with| .pick c a b=>zO K args [c,a,b]|_=>false
 | .bin i=>match o with| .binOp op _ x y _=>op==i&&zO K args [x,y]|_=>false
 | .eqB ne=>match o with| .binOp op t x y _=>op==zbj ne&&(P.underlying t matches some .bool)&&zO K args [x,y]|_=>false
 | .nilI ne=>match o with| .binOp op t x (.const .nilIface) _=>op==zbj ne&&(P.underlying t matches some (.interface _))&&zO K args [x]|_=>false
 | .nilP ne=>match o with| .binOp op t x (.const (.pointer none)) _=>op==zbj ne&&(P.underlying t matches some (.pointer _))&&zO K args [x]|_=>false
 | .nilF ne=>match o with| .binOp op t x (.const .nilFunc) _=>op==zbj ne&&(P.underlying t matches some (.func _ _ _))&&zO K args [x]|_=>false
 | .un i=>match o with| .unOp op _ x=>op==i&&zO K args [x]|_=>false
 | .toInt k=>match o with| .convert s d x=>(P.underlying s).isSome&&(match P.underlying d with|some (.int r)=>r==k|_=>false)&&zO K args [x]|_=>false
 | .sstr| .runeStr=>match o with| .convert s d x=>(P.underlying s).isSome&&(P.underlying d matches some .string)&&zO K args [x]|_=>false
 | .bytesStr=>match o with| .convert s d x=>(P.underlying d matches some .string)&&zrV P s&&zO K args [x]|_=>false
 | .field off sz agg=>match o with| .field t x f=>(match ziJ P t f with|some f=>f.offset==off&&yS P f.type==some sz&&zap P f.type==some agg|none=>false)&&(agg||sz==1)&&zO K args [x]|_=>false
 | .faddr off=>match o with| .fieldAddr t x f=>(match ziJ P t f with|some f=>f.offset==off&&(match yS P f.type with|some n=>n !=0|none=>false)|none=>false)&&zO K args [x]|_=>false
 | .iaddr sz=>match o with| .indexAddr t x y=>zfo P (za5 P t) sz&&zO K args [x,y]|_=>false
 | .iaddrA sz len=>match o with| .indexAddr t x y=>zgh P t sz len&&zO K args [x,y]|_=>false
 | .indexS=>match o with| .index t x y=>(P.underlying t matches some .string)&&zO K args [x,y]|_=>false
 | .indexA sz len agg=>match o with| .index t x y=>zgh P t sz len&&znX P t agg&&(agg||sz==1)&&zO K args [x,y]|_=>false
 | .sliceS lo q=>match o with| .slice t x l h none=>(P.underlying t matches some .string)&&l.isSome==lo&&h.isSome==q&&zO K args (x::(l.toList++h.toList))|_=>false
 | .sliceL sz lo q mx=>match o with| .slice t x l h m=>zfo P (za5 P t) sz&&l.isSome==lo&&h.isSome==q&&m.isSome==mx&&zO K args (x::(l.toList++(h.toList++m.toList)))|_=>false
 | .build zero g=>match o with| .build t ps=>zbx P t zero&&ztc P t ps.toList g&&zO K args (ps.toList.map (·.2))|_=>false
 | .buildSl sz n zero g=>match o with| .buildSlice t u ps=>u==n&&(n*sz<=16777216)&&(match za5 P t with|some e=>yS P e==some sz&&zbx P e zero|none=>false)&&decide (0<sz)&&zero.length==sz&&ps.toList.map (·.1)==g&&zO K args (ps.toList.map (·.2))|_=>false
 | .extract v=>match o with| .extract x j=>j==v&&zO K args [x]|_=>false
 | .lenS=>match o with| .call {callee:=.builtin .len,args:=xs,argTypes:=ts}=>zrS P ts&&zO K args xs.toList|_=>false
 | .lenL=>match o with| .call {callee:=.builtin .len,args:=xs,argTypes:=ts}=>(zax P ts).isSome&&zO K args xs.toList|_=>false
 | .cap=>match o with| .call {callee:=.builtin .cap,args:=xs,argTypes:=ts}=>(zax P ts).isSome&&zO K args xs.toList|_=>false
 | .min=>match o with| .call {callee:=.builtin .min,args:=xs,..}=>zO K args xs.toList|_=>false
 | .max=>match o with| .call {callee:=.builtin .max,args:=xs,..}=>zO K args xs.toList|_=>false
 | .mkfn key n=>match o with| .makeFunc (.func f) first cap=>K key==some f&&first.size==n&&zO K args (first.toList++cap.toList)|_=>false
 | .nilchk=>match o with| .nilCheck x=>zO K args [x]|_=>false
 | .ibox=>match o with| .box _ x=>zO K args [x]|_=>false
def yw(P:Program)(K:Nat->Option Nat)(o:Op)(i:AOp)(args:List zo):Bool:=
 match i with
 | .pur p=>zR P K o p args
 | .box _=>match o with| .box _ x=>zO K args [x]|_=>false
 | .ld _ sz agg=>match o with| .load t x=>yS P t==some sz&&zap P t==some agg&&(agg||sz==1)&&zO K args [x]|_=>false
 | .st _ sz=>match o with| .store t x y=>yS P t==some sz&&zO K args [x,y]|_=>false
 | .alloc _ zero=>match o with| .alloc t=>zbx P t zero&&zO K args []|_=>false
 | .lookup str zero ok'=>match o with
   | .lookup t x y ok=>ok==ok'&&zdF P t==some str&&
     (match P.underlying t with|some (.map _ e)=>(match(P.info? e).bind (·.zero)with|some z=>zfr zero z|none=>false)|_=>false)&&zO K args [x,y]
   |_=>false
 | .lenM=>match o with| .call {callee:=.builtin .len,args:=xs,argTypes:=ts}=>zdB P ts&&zO K args xs.toList|_=>false
 | .mkmap=>match o with| .makeMap _ none=>zO K args []|_=>false
 | .mapset str=>match o with| .mapUpdate t m k v| .insert t m k v=>zdF P t==some str&&zO K args [m,k,v]|_=>false
 | .mapdel str=>match o with
   | .call {callee:=.builtin .delete,args:=xs,argTypes:=ts}=>(match ts[0]? with|some t=>zdF P t==some str|none=>false)&&zO K args xs.toList
   |_=>false
 | .clearM=>match o with| .call {callee:=.builtin .clear,args:=xs,argTypes:=ts}=>zdB P ts&&zO K args xs.toList|_=>false
 | .clearS sz zero=>match o with
   | .call {callee:=.builtin .clear,args:=xs,argTypes:=ts}=>(match zax P ts with|some e=>yS P e==some sz&&zbx P e zero|none=>false)&&zO K args xs.toList
   |_=>false
 | .append sz bytes=>match o with
   | .call {callee:=.builtin .append,args:=xs,argTypes:=ts}=>
     (match zax P ts with|some e=>(match P.info? e with|some i=>i.size==sz&&decide (0<sz)&&i.bytes==bytes&&decide (0<bytes)&&(match i.zero with|some z=>z.cells.size==sz|none=>false)|none=>false)|none=>false)&&
     (match ts[1]? with|some t=>(match P.underlying t with|some d=>!zaN d|none=>false)|none=>false)&&zO K args xs.toList
   |_=>false
 | .appendZ sz bytes zero=>match o with
   | .call {callee:=.builtin .append,args:=xs,argTypes:=ts}=>
     (match zax P ts with|some e=>yS P e==some sz&&zgq P e==some bytes&&zbx P e zero|none=>false)&&
     (match ts[1]? with|some t=>(match P.underlying t with|some d=>zaN d|none=>false)|none=>false)&&zO K args xs.toList
   |_=>false
 | .copy sz=>match o with| .call {callee:=.builtin .copy,args:=xs,argTypes:=ts}=>zfo P (zax P ts) sz&&decide (0<sz)&&zO K args xs.toList|_=>false
 | .mkslice sz bytes zero=>match o with| .makeSlice t l c=>(match za5 P t with|some e=>yS P e==some sz&&zgq P e==some bytes&&zbx P e zero|none=>false)&&zO K args [l,c]|_=>false
 | .call key=>match o with| .call {callee:=.value (.func f),args:=xs,..}=>K key==some f&&ky P f&&zO K args xs.toList|_=>false
 | .callv=>match o with| .call {callee:=.value x,args:=xs,..}=>zO K args (x::xs.toList)|_=>false
 | .rangeM=>match o with| .range t x=>zdB P #[t]&&zO K args [x]|_=>false
 | .nextM=>match o with| .next x false=>zO K args [x]|_=>false
 | .entryM=>match o with| .entry x=>zO K args [x]|_=>false
 | .nilSl=>match o with| .binOp .eql t x (.const (.slice none 0 0)) _=>(za5 P t).isSome&&zO K args [x]|_=>false
 | .tell=>match o with| .move x| .assign x=>zO K args [x]|_=>false
 | .bad=>true
def vO(P:Program)(K:Nat->Option Nat)(ops:Array Oper)(o:Oper)(i:zu):Bool:=
 o.dst==i.dst&&yw P K o.op i.op i.args&&
  match o.guard,i.guard with
  |none,none=>true
  |some (j,b),some (t,b')=>b==b'&&((ops[j]?).bind (·.dst))==some t
  |_,_=>false
def wg(P:Program)(K:Nat->Option Nat)(ops:Array Oper):List Oper->List zu->Bool
 |[],[]=>true
 |o::l,i::m=>vO P K ops o i&&wg P K ops l m
 |_,_=>false
structure vj where
 reads:List Nat
 writes:List Nat
 rr:Option Nat:=none
 rw:Option Nat:=none
 hr:Bool:=false
 hw:Bool:=false
def zf2:List zo->List Nat
 |[]=>[]
 | .t n::l=>n::zf2 l
 |_::l=>zf2 l
def zdZ(i:zu):List Nat:=zf2 i.args++(match i.guard with|some (t,_)=>[t]|none=>[])
def yh(A:Nat->jD)(ext:Nat->Bool)(i:zu):vj:=
 let f:vj:={reads:=zdZ i,writes:=i.dst.toList}
 match i.op with
 | .pur _=>f
 | .ld (some r) _ _=>{f with rr:=some r}
 | .ld none _ _=>{f with hr:=true}
 | .st (some r) _=>{f with rr:=some r,rw:=some r}
 | .alloc .reg _| .box .reg=>{f with rr:=i.dst,rw:=i.dst}
 | .lookup _ _ _| .lenM=>{f with hr:=true}
 | .call key=>if ext key=false/\(A key=.calm\/A key=.borrow)then {f with hr:=true} else if ext key=false/\A key=.lone then f else {f with hr:=true,hw:=true}
 |_=>{f with hr:=true,hw:=true}
def wt(f g:vj):Bool:=
 f.writes.all (fun t=>!g.reads.contains t&&!g.writes.contains t)&&g.writes.all (fun t=>!f.reads.contains t)&&
 (match f.rw with|some r=>g.rr !=some r&&g.rw !=some r|none=>true)&&
 (match g.rw with|some r=>f.rr !=some r|none=>true)&&
 (!f.hw||(!g.hr&&!g.hw))&&(!g.hw||!f.hr)
def zgp(ops:List Oper):List Nat:=
 ops.foldl (init:=[]) fun b o=>
  b++[o.after.foldl (fun s e=>if Region.binds .any e then s|||2^e.on|||b.getD e.on 0 else s) 0]
def zcE(ops:Array Oper)(bs:List Nat)(i j:Nat):Bool:=
 match ops[i]? with
 |some o=>o.after.any fun e=>Region.binds .any e&&(e.on==j||(decide (j<e.on)&&(bs.getD e.on 0).testBit j))
 |none=>false
def zsP(ops:Array Oper)(fs:List vj)(bs:List Nat):Bool:=
 (List.range ops.size).all fun i=>(List.range i).all fun j=>
  if(bs.getD i 0).testBit j then zcE ops bs i j else match fs[j]?,fs[i]? with|some f,some g=>wt f g|_,_=>false
def zjm(P:Program)(ops:Array Oper)(fs:List vj):Bool:=
 (P.follows .mixedOrders||!Region.departs ops)&&ops.toList.zipIdx.all (fun(o,i)=>o.after.all fun e=>!Region.binds .any e||decide (e.on<i))&&zsP ops fs (zgp ops.toList)
def wN(i:zu):Option Nat:=match i.dst,i.op,i.args,i.guard with|none,.st none _,[.t a,_],none=>some a|_,_,_,_=>none
def zmg(ops:Array Oper)(l:List zu)(bs:List Nat)(c:List (Nat×Nat))(j i:Nat):Bool:=
 match(l[j]?).bind wN,(l[i]?).bind wN with
 |some a,some b=>c.contains (a,b)&&decide (b<1000)&&(List.range l.length).all fun k=>decide (k<=j)||(match l[k]? with
  |some z=>z.dst !=some a&&(z.dst !=some b||(decide (k<i)&&(bs.getD i 0).testBit k&&zcE ops bs i k))
  |none=>false)
 |_,_=>false
def zmf(A:Nat->jD)(l:List zu)(fs:List vj)(c:List (Nat×Nat))(j i:Nat):Bool:=
 match l[j]?,l[i]?,fs[j]?,fs[i]? with
 |some y,some x,some f,some g=>
  match y.op,y.args,x.op with
  | .ld none sz _,[.t a],.call key=>match A key with
    | .keepF cols=>f.writes.all (fun t=>!g.reads.contains t&&!g.writes.contains t)&&g.writes.all (fun t=>!f.reads.contains t)&&
     (cols.isEmpty||(sz==1&&cols.all fun k=>c.contains (a,1000+k)))&&
     (List.range l.length).all fun k=>decide (k<j)||(match l[k]? with|some z=>z.dst !=some a|none=>false)
    |_=>false
  |_,_,_=>false
 |_,_,_,_=>false
def zsQ(A:Nat->jD)(ops:Array Oper)(l:List zu)(fs:List vj)(bs:List Nat)(c:List (Nat×Nat)):Bool:=
 (List.range ops.size).all fun i=>(List.range i).all fun j=>
  if(bs.getD i 0).testBit j then zcE ops bs i j else(match fs[j]?,fs[i]? with|some f,some g=>wt f g|_,_=>false)||(zmg ops l bs c j i||zmf A l fs c j i)
def zme(P:Program)(A:Nat->jD)(ops:Array Oper)(l:List zu)(fs:List vj)(c:List (Nat×Nat)):Bool:=
 (P.follows .mixedOrders||!Region.departs ops)&&ops.toList.zipIdx.all (fun(o,i)=>o.after.all fun e=>!Region.binds .any e||decide (e.on<i))&&zsQ A ops l fs (zgp ops.toList) c
def zdL:Code->Bool
 | .seq a b=>zdL a&&zdL b
 | .label _=>false
 |_=>true
def zZ(P:Program)(K:Nat->Option Nat)(A:Nat->jD)(ext:Nat->Bool):Code->ACode->Bool
 | .skip,.skip=>true
 | .region _ ops draw,.ops l=>wg P K ops ops.toList l&&(!draw||zjm P ops (l.map (yh A ext)))
 | .region _ ops draw,.opsC l c=>wg P K ops ops.toList l&&draw&&zme P A ops l (l.map (yh A ext)) c
 | .seq a b,.seq a' b'=>zZ P K A ext a a'&&zZ P K A ext b b'
 | .cond c a b,.cond c' a' b'=>kf K c' c&&zZ P K A ext a a'&&zZ P K A ext b b'
 | .block i c,.block i' c'=>i==i'&&zZ P K A ext c c'
 | .loop c,.loop _ _ c'=>zZ P K A ext c c'
 | .exit i,.exit i'=>i==i'
 | .label i,.label i'=>i==i'
 | .goto i,.goto i'=>i==i'
 | .scope c,.scope b c'=>zZ P K A ext c b&&zZ P K A ext c c'
 | .ret,.ret=>true
 |c,.ops [{dst:=none,op:=.bad,args:=[],guard:=none}]=>zdL c
 |_,_=>false
def kF(P:Program):List ResultVar->List vi->Bool
 |[],[]=>true
 | .tmp t::l,.tmp t'::m=>t==t'&&kF P l m
 | .cell t ty::l,.cell t' sz agg::m=>t==t'&&yS P ty==some sz&&zap P ty==some agg&&(agg||sz==1)&&kF P l m
 |_,_=>false
def vg(P:Program)(K:Nat->Option Nat)(A:Nat->jD)(ext:Nat->Bool)(f:Func)(a:za):Bool:=
 f.ntmps==a.ntmps&&kF P f.results.toList a.res&&(match f.body with|some c=>zZ P K A ext c a.body|none=>false)
def yP(G:Gh)(ρ:Nat->Option Nat)(rg:Nat->Option (List AV))(w:World)(v:AV)(x:Value):Prop:=
 match v with
 | .reg r c=>(rg r).isSome/\∃b,ρ r=some b/\x=.pointer (some ⟨b,c,none⟩)
 |v=>Rep G w v x
theorem yP.rep{G:Gh}{ρ:Nat->Option Nat}{rg:Nat->Option (List AV)}{w:World}{v:AV}{x:Value}(b:v.isReg=false)(h:yP G ρ rg w v x):Rep G w v x:=by
 cases v<;>first|exact h|simp[AV.isReg]at b
theorem Rep.trep{G:Gh}{ρ:Nat->Option Nat}{rg:Nat->Option (List AV)}{w:World}{v:AV}{x:Value}(h:Rep G w v x):yP G ρ rg w v x:=by
 cases v<;>first|exact h|(cases h;done)
theorem yP.mono{G G':Gh}{w w':World}(h:Le G w G' w'){ρ ρ':Nat->Option Nat}{rg c:Nat->Option (List AV)}{v:AV}{x:Value}
 (d:∀r,(rg r).isSome->(c r).isSome/\ρ' r=ρ r) (e:yP G ρ rg w v x):yP G' ρ' c w' v x:=by
 cases v<;>first
  |exact Rep.mono h e
  |(obtain⟨f,b,g,i⟩:=e
    exact⟨(d _ f).1,b,by rw[(d _ f).2];exact g,i⟩)
structure Fr(A:zA)(D:Nat->Prop)(G:Gh)(ρ:Nat->Option Nat)(σ:ASt)(a:Act)(w:World):Prop where
 defers:a.defers=[]
 size:a.tmps.size=σ.tm.length
 tmp:∀p v,σ.tm[p]?=some v->yP G ρ σ.rg w v (a.tmps.getD p undef)
 reg:∀r cs,σ.rg r=some cs->∃b c e,ρ r=some b/\w.heap[b]?=some (.cells c e (0,0))/\zx G w cs c.toList/\D b/\∀off,¬G.P b off
 rinj:∀r r' cs cs' b,σ.rg r=some cs->σ.rg r'=some cs'->ρ r=some b->ρ r'=some b->r=r'
 rhp:∀r cs b id o x,σ.rg r=some cs->ρ r=some b->σ.S.heap id=some o->G.ι id=some x->0<x.2.2->x.1≠b
 sim:Sim G σ.S w
 dwr:∀b,Wr G σ.S b->D b
 dnew:∀b,w.heap.size<=b->D b
 glob:∀g v,A.glob g=some v->∀m,G.K (10000+g)=some m->kM G w v m
theorem vy{w:World}{o:Obj}{b:Nat}(h:b<w.heap.size):(w.alloc o).heap[b]?=w.heap[b]?:=by
 rw[World.alloc];simp only[Array.getElem?_push,Nat.ne_of_lt h,if_false]
theorem zcu{w:World}{o:Obj}:(w.alloc o).heap[w.heap.size]?=some o:=by
 rw[World.alloc];simp only[Array.getElem?_push,if_true]
theorem j0{w:World}{b:Nat}{o:Obj}(h:w.heap[b]?=some o):b<w.heap.size:=by
 rcases Nat.lt_or_ge b w.heap.size with c|c
 ·exact c
 ·simp[Array.getElem?_eq_none c]at h
theorem zas{w w':World}{b:Nat}(h:w'.heap[b]?=w.heap[b]?)(o:Nat):w'.cell? ⟨b,o,none⟩=w.cell? ⟨b,o,none⟩:=by
 simp only[World.cell?,h]
theorem vl.keep{G G':Gh}{w w':World}(k:Le G w G' w'){x:Nat×Nat×Nat}{o:yX}(l:0<x.2.2->w'.heap[x.1]?=w.heap[x.1]?)(h:vl G w x o):vl G' w' x o:=by
 cases o with
 |rows sz rs=>
  obtain⟨m,n,p,d⟩:=h;refine⟨m,n,p,?_⟩;rcases Nat.eq_zero_or_pos x.2.2 with b|b
  ·exact .inl b
  ·rcases d with d|⟨c,e,vs,f,g,i,j⟩
   ·exact .inl d
   ·exact .inr ⟨c,e,vs,by rw[l b];exact f,g,i.mono k,j⟩
 |map es=>
  obtain⟨b,ms,q,f,g,i,j⟩:=h;exact⟨b,ms,q,by rw[l b];exact f,g,i.mono k,j⟩
theorem vl.lt{G:Gh}{w:World}{x:Nat×Nat×Nat}{o:yX}(h:vl G w x o)(f:0<x.2.2):x.1<w.heap.size:=by
 cases o with
 |rows sz rs=>
  obtain⟨_,_,_,d⟩:=h;rcases d with d|⟨c,e,vs,b,_⟩
  ·omega
  ·exact j0 b
 |map es=>
  obtain⟨_,ms,g,b,_⟩:=h;exact j0 b
theorem Sim.keep{G G':Gh}{S:AS}{w w':World}(h:Sim G S w)(hl:Le G w G' w')(hi:∀id,S.heap id=none->S.n<=id->G'.ι id=none)
 (hb:∀id o x,S.heap id=some o->G.ι id=some x->0<x.2.2->w'.heap[x.1]?=w.heap[x.1]?)
 (hp:∀id o x off,S.ro<=id->S.heap id=some o->G.ι id=some x->0<x.2.2->G'.P x.1 off->G.P x.1 off)
 (hlt:∀b o,G'.P b o->b<w'.heap.size):Sim G' S w' where
 obj:=fun id o e=>by
  obtain⟨x,hx,ho⟩:=h.obj id o e;exact⟨x,hl.ι _ _ hx,ho.keep hl (hb id o x e hx)⟩
 fresh:=fun id e=>⟨(h.fresh id e).1,hi id (h.fresh id e).1 e⟩
 inj:=fun id id' o o' x x' e e' hx hx' h0 h0' hb'=>by
  obtain⟨y,hy,_⟩:=h.obj id o e;obtain⟨y',hy',_⟩:=h.obj id' o' e';have a1:=hl.ι _ _ hy;have a2:=hl.ι _ _ hy';rw[hx]at a1;rw[hx']at a2;cases a1;cases a2;exact h.inj id id' o o' _ _ e e' hy hy' h0 h0' hb'
 own:=fun id o x off hr e hx h0 hP=>by
  obtain⟨y,hy,_⟩:=h.obj id o e;have a1:=hl.ι _ _ hy;rw[hx]at a1;cases a1;exact h.own id o _ off hr e hy h0 (hp id o _ off hr e hy h0 hP)
 lt:=hlt
 ro:=h.ro
def Gh.shut(G:Gh)(b:Nat):Gh:={G with P:=fun b' o=>G.P b' o\/b'=b}
theorem zr9(G:Gh)(w:World)(o:Obj)(c:∀b o,G.P b o->b<w.heap.size):Le G w (G.shut w.heap.size) (w.alloc o):=
 ⟨fun _ _ h=>h,fun _ _ h=>.inl h,rfl,fun b o' v hp d=>by rw[zas (vy (c _ _ hp))];exact d⟩
theorem zAw{D:Nat->Prop}{G:Gh}{w:World}{o:Obj}(c:∀b o,G.P b o->b<w.heap.size)(d:∀b,w.heap.size<=b->D b):Ext D G w (G.shut w.heap.size) (w.alloc o):=
 {toLe:=zr9 G w o c,size:=by simp,keep:=fun b f _=>vy f,stay:=fun b o hp=>vy (c b o hp),new:=fun b o h=>h.imp id fun e=>d b (by omega),io:=⟨rfl,rfl,rfl⟩}
theorem zyQ(G:Gh)(w:World)(vs:List Value)(e:Nat)(fz:Nat×Nat):At (G.shut w.heap.size) (w.alloc (.cells vs.toArray e fz)) w.heap.size 0 vs:=by
 intro i v h;refine⟨.inr rfl,?_⟩;simp only[World.cell?,zcu];simpa using h
theorem zJU{G:Gh}{S:AS}{w:World}{o:Obj}(h:Sim G S w):Sim (G.shut w.heap.size) S (w.alloc o):=by
 refine h.keep (zr9 G w o h.lt) (fun id _ i=>(h.fresh id i).2) ?_ ?_ ?_
 ·intro id o' x e d f;obtain⟨y,c,g⟩:=h.obj id o' e;rw[d]at c;cases c;exact vy (g.lt f)
 ·intro id o' x off _ e d f hp;obtain⟨y,c,g⟩:=h.obj id o' e;rw[d]at c;cases c;have:=g.lt f;exact hp.resolve_right (by omega)
 ·intro b o' hp;rcases hp with hp|hp
  ·have:=h.lt _ _ hp;simp;omega
  ·subst hp;simp
theorem Fr.keep{A:zA}{D:Nat->Prop}{G G':Gh}{ρ:Nat->Option Nat}{σ:ASt}{S':AS}{a:Act}{w w':World}(h:Fr A D G ρ σ a w)(hx:Ext D G w G' w')(hs:Sim G' S' w')
 (hreg:∀r cs b,σ.rg r=some cs->ρ r=some b->w'.heap[b]?=w.heap[b]?/\(∀off,G'.P b off->G.P b off)/\∀id o x,S'.heap id=some o->G'.ι id=some x->0<x.2.2->x.1≠b)
 (hd:∀b,Wr G' S' b->D b):Fr A D G' ρ {σ with S:=S'} a w' where
 defers:=h.defers
 size:=h.size
 tmp:=fun p v e=>(h.tmp p v e).mono hx.toLe fun r hr=>⟨hr,rfl⟩
 reg:=fun r cs e=>by
  obtain⟨b,c,el,h1,h2,h3,h4,h5⟩:=h.reg r cs e;obtain⟨k1,k2,_⟩:=hreg r cs b e h1;exact⟨b,c,el,h1,by rw[k1];exact h2,h3.mono hx.toLe,h4,fun off hp=>h5 off (k2 off hp)⟩
 rinj:=h.rinj
 rhp:=fun r cs b id o x e hb ho hx' h0=>(hreg r cs b e hb).2.2 id o x ho hx' h0
 sim:=hs
 dwr:=hd
 dnew:=fun b hb=>h.dnew b (xaD hx.size hb)
 glob:=fun g v e m k=>(h.glob g v e m (by rw[<-hx.toLe.K];exact k)).ext hx
theorem Fr.reg_lt{A:zA}{D:Nat->Prop}{G:Gh}{ρ:Nat->Option Nat}{σ:ASt}{a:Act}{w:World}(h:Fr A D G ρ σ a w){r:Nat}{cs:List AV}{b:Nat}(e:σ.rg r=some cs)(f:ρ r=some b):b<w.heap.size:=by
 obtain⟨b',c,i,d,g,_⟩:=h.reg r cs e;rw[f]at d;cases d;exact j0 g
theorem Fr.shut{A:zA}{D:Nat->Prop}{G:Gh}{ρ:Nat->Option Nat}{σ:ASt}{a:Act}{w:World}(h:Fr A D G ρ σ a w)(o:Obj):
 Fr A D (G.shut w.heap.size) ρ σ a (w.alloc o)/\Ext D G w (G.shut w.heap.size) (w.alloc o):=by
 have f:Ext D G w (G.shut w.heap.size) (w.alloc o):=zAw h.sim.lt h.dnew;refine⟨h.keep f (zJU h.sim) ?_ h.dwr,f⟩;intro r cs b e g;have c:=h.reg_lt e g;refine⟨vy c,fun off hp=>hp.resolve_right (by omega),fun id o x i d j=>h.rhp r cs b id o x e g i d j⟩
def Gh.made(G:Gh)(id:Nat)(x:Nat×Nat×Nat):Gh:={G with ι:=fun j=>if j=id then some x else G.ι j}
theorem zfv{G:Gh}{w:World}{o:Obj}{id:Nat}{x:Nat×Nat×Nat}(d:G.ι id=none)(c:∀b o,G.P b o->b<w.heap.size):Le G w (G.made id x) (w.alloc o):=
 ⟨fun j y h=>by simp only[Gh.made];rw[if_neg (by rintro rfl;rw[d]at h;cases h)];exact h,fun _ _ h=>h,rfl,
  fun b o' v hp e=>by rw[zas (vy (c _ _ hp))];exact e⟩
theorem zAx{D:Nat->Prop}{G:Gh}{w:World}{o:Obj}{id:Nat}{x:Nat×Nat×Nat}(d:G.ι id=none)(c:∀b o,G.P b o->b<w.heap.size):Ext D G w (G.made id x) (w.alloc o):=
 {toLe:=zfv d c,size:=by simp,keep:=fun b e _=>vy e,stay:=fun b o hp=>vy (c b o hp),new:=fun b o h=>.inl h,io:=⟨rfl,rfl,rfl⟩}
theorem zJT{G:Gh}{S:AS}{w:World}{o:Obj}{sz N:Nat}{ao:yX}(h:Sim G S w)(z:vl (G.made S.n (w.heap.size,sz,N)) (w.alloc o) (w.heap.size,sz,N) ao):
 Sim (G.made S.n (w.heap.size,sz,N)) (S.new ao) (w.alloc o):=by
 have B:=(h.fresh S.n (xad _)).2;have r:Le G w (G.made S.n (w.heap.size,sz,N)) (w.alloc o):=zfv B h.lt;have old:∀id o' x,S.heap id=some o'->(G.made S.n (w.heap.size,sz,N)).ι id=some x->G.ι id=some x/\id≠S.n:=by
  intro id o' x e c;have i:id≠S.n:=by rintro rfl;rw[(h.fresh _ (xad _)).1]at e;cases e
  simp only[Gh.made,if_neg i]at c;exact⟨c,i⟩
 have d:∀id o' x,S.heap id=some o'->G.ι id=some x->0<x.2.2->x.1<w.heap.size:=by
  intro id o' x e c m;obtain⟨y,u,p⟩:=h.obj id o' e;rw[c]at u;cases u;exact p.lt m
 refine⟨?_,?_,?_,?_,?_,?_⟩
 ·intro id o' e;simp only[AS.new]at e;split at e
  ·rename_i f;subst f;cases e;exact⟨_,by simp[Gh.made],z⟩
  ·obtain⟨x,c,p⟩:=h.obj id o' e;exact⟨x,r.ι _ _ c,p.keep r fun m=>vy (p.lt m)⟩
 ·intro id e;simp only[AS.new]at e ⊢;have i:id≠S.n:=by omega
  simp only[Gh.made,if_neg i];exact h.fresh id (by omega)
 ·intro id j C E x F e q c l m s t;simp only[AS.new]at e q;split at e
  ·rename_i f;subst f;split at q
   ·rename_i g;exact g.symm
   ·rename_i v;simp only[Gh.made,if_pos rfl]at c;cases c;obtain⟨k,_⟩:=old j _ _ q l;have:=d j _ _ q k s;simp only at t;omega
  ·split at q
   ·rename_i g;subst g;simp only[Gh.made,if_pos rfl]at l;cases l;obtain⟨k,_⟩:=old id _ _ e c;have:=d id _ _ e k m;simp only at t;omega
   ·exact h.inj id j C E x F e q (old id _ _ e c).1 (old j _ _ q l).1 m s t
 ·intro id o' x off p e c m hp;simp only[AS.new]at e p;split at e
  ·rename_i f;subst f;simp only[Gh.made,if_pos rfl]at c;cases c;have:=h.lt _ _ hp;simp only at this;omega
  ·exact h.own id o' x off p e (old id _ _ e c).1 m hp
 ·intro b o' hp;have:=h.lt b o' hp;simp;omega
 ·simp only[AS.new];have:=h.ro;omega
theorem zKv{G:Gh}{S:AS}{w:World}{sz N:Nat}{ao:yX}(h:Sim G S w){b:Nat}(c:Wr (G.made S.n (w.heap.size,sz,N)) (S.new ao) b):Wr G S b\/b=w.heap.size:=by
 obtain⟨id,o,x,i,e,d,j,c⟩:=c;simp only[AS.new]at e i;split at e
 ·rename_i f;subst f;simp only[Gh.made,if_pos rfl]at d;cases d;exact .inr c.symm
 ·rename_i g;simp only[Gh.made,if_neg g]at d;exact .inl ⟨id,o,x,i,e,d,j,c⟩
theorem Fr.made{A:zA}{D:Nat->Prop}{G:Gh}{ρ:Nat->Option Nat}{σ:ASt}{a:Act}{w:World}(h:Fr A D G ρ σ a w)(o:Obj){sz N:Nat}{ao:yX}
 (l:vl (G.made σ.S.n (w.heap.size,sz,N)) (w.alloc o) (w.heap.size,sz,N) ao):
 Fr A D (G.made σ.S.n (w.heap.size,sz,N)) ρ {σ with S:=σ.S.new ao} a (w.alloc o)/\Ext D G w (G.made σ.S.n (w.heap.size,sz,N)) (w.alloc o):=by
 have m:=(h.sim.fresh σ.S.n (xad _)).2;have k:Ext D G w (G.made σ.S.n (w.heap.size,sz,N)) (w.alloc o):=zAx m h.sim.lt;refine⟨h.keep k (zJT h.sim l) ?_ ?_,k⟩
 ·intro r cs b e d;have f:=h.reg_lt e d;refine⟨vy f,fun _ hp=>hp,fun id o' x g c p=>?_⟩;simp only[AS.new]at g;split at g
  ·rename_i i;subst i;simp only[Gh.made,if_pos rfl]at c;cases c;simp only;omega
  ·rename_i j;simp only[Gh.made,if_neg j]at c;exact h.rhp r cs b id o' x e d g c p
 ·intro b d;rcases zKv h.sim d with d|d
  ·exact h.dwr b d
  ·exact h.dnew b (by omega)
theorem Fr.newReg{A:zA}{D:Nat->Prop}{G:Gh}{ρ:Nat->Option Nat}{σ:ASt}{a:Act}{w:World}(h:Fr A D G ρ σ a w){cs:List AV}{vs:List Value}(H:zx G w cs vs)(e t:Nat)(M:σ.rg t=none):
 Fr A D G (fun r=>if r=t then some w.heap.size else ρ r) {σ with rg:=upd σ.rg t cs} a (w.alloc (.cells vs.toArray e (0,0)))/\Ext D G w G (w.alloc (.cells vs.toArray e (0,0)))/\
  yP G (fun r=>if r=t then some w.heap.size else ρ r) (upd σ.rg t cs) (w.alloc (.cells vs.toArray e (0,0))) (.reg t 0) (.pointer (some ⟨w.heap.size,0,none⟩)):=by
 have i:Le G w G (w.alloc (.cells vs.toArray e (0,0))):=⟨fun _ _ h=>h,fun _ _ h=>h,rfl,fun b o v hp H=>by rw[zas (vy (h.sim.lt _ _ hp))];exact H⟩;have I:Ext D G w G (w.alloc (.cells vs.toArray e (0,0))):={toLe:=i,size:=by simp,keep:=fun b n _=>vy n,stay:=fun b o hp=>vy (h.sim.lt b o hp),new:=fun b o h=>.inl h,io:=⟨rfl,rfl,rfl⟩};refine⟨⟨h.defers,h.size,?_,?_,?_,?_,?_,h.dwr,fun b n=>h.dnew b (xaD I.size n),fun g v e m k=>(h.glob g v e m (by rw[<-i.K];exact k)).ext I⟩,I,?_⟩
 ·intro p v q;refine(h.tmp p v q).mono i fun r z=>?_;have d:r≠t:=by rintro rfl;rw[M]at z;cases z
  refine⟨?_,if_neg d⟩;simp only[upd,if_neg d];exact z
 ·intro r cs' q;simp only[upd]at q;split at q
  ·rename_i f;subst f;cases q;refine⟨w.heap.size,vs.toArray,e,by simp,zcu,by simpa using H.mono i,h.dnew _ (xad _),fun off hp=>?_⟩;have:=h.sim.lt _ _ hp;omega
  ·rename_i d;obtain⟨b,c,N,s,l,O,Q,R⟩:=h.reg r cs' q;exact⟨b,c,N,by simp[d,s],by rw[vy (j0 l)];exact l,O.mono i,Q,R⟩
 ·intro r S J T b u B s l;simp only[upd]at u B;split at u
  ·rename_i f;subst f;split at B
   ·rename_i f;exact f.symm
   ·rename_i d;simp only[if_pos rfl,if_neg d]at s l;cases s;have:=h.reg_lt B l;omega
  ·rename_i d;split at B
   ·rename_i f;subst f;simp only[if_neg d,if_pos rfl]at s l;cases l;have:=h.reg_lt u s;omega
   ·rename_i C;simp only[if_neg d,if_neg C]at s l;exact h.rinj r S J T b u B s l
 ·intro r J b id o x u n L j F;simp only[upd]at u;split at u
  ·rename_i f;subst f;simp only[if_pos rfl]at n;cases n;obtain⟨y,E,z⟩:=h.sim.obj id o L;have j:G.ι id=some x:=j;rw[j]at E;cases E;have:=z.lt F;omega
  ·rename_i d;simp only[if_neg d]at n;exact h.rhp r J b id o x u n L j F
 ·refine h.sim.keep i (fun id _ U=>(h.sim.fresh id U).2) ?_ (fun _ _ _ _ _ _ _ _ hp=>hp) fun b o hp=>by have:=h.sim.lt _ _ hp;simp;omega
  intro id o x q j F;obtain⟨y,E,z⟩:=h.sim.obj id o q;rw[j]at E;cases E;exact vy (z.lt F)
 ·exact⟨by simp[upd],w.heap.size,by simp,rfl⟩
theorem Sim.less{G:Gh}{S:AS}{w:World}(h:Sim G S w){hp:Nat->Option yX}(hh:∀id o,hp id=some o->S.heap id=some o):Sim G {S with heap:=hp} w where
 obj:=fun id o e=>h.obj id o (hh id o e)
 fresh:=fun id e=>⟨by
  cases hn:hp id with
  |none=>exact hn
  |some o=>exact absurd (hh id o hn) (by rw[(h.fresh id e).1];simp),(h.fresh id e).2⟩
 inj:=fun id id' o o' x x' e e'=>h.inj id id' o o' x x' (hh _ _ e) (hh _ _ e')
 own:=fun id o x off hr e=>h.own id o x off hr (hh _ _ e)
 lt:=h.lt
 ro:=h.ro
theorem Wr.less{G:Gh}{S:AS}{hp:Nat->Option yX}(c:∀id o,hp id=some o->S.heap id=some o){b:Nat}(h:Wr G {S with heap:=hp} b):Wr G S b:=by
 obtain⟨id,o,x,d,e,f⟩:=h;exact⟨id,o,x,d,c _ _ e,f⟩
theorem Fr.less{A:zA}{D:Nat->Prop}{G:Gh}{ρ:Nat->Option Nat}{σ:ASt}{a:Act}{w:World}(h:Fr A D G ρ σ a w){hp:Nat->Option yX}(hh:∀id o,hp id=some o->σ.S.heap id=some o):
 Fr A D G ρ {σ with S:={σ.S with heap:=hp}} a w where
 defers:=h.defers
 size:=h.size
 tmp:=h.tmp
 reg:=h.reg
 rinj:=h.rinj
 rhp:=fun r cs b id o x e hb ho=>h.rhp r cs b id o x e hb (hh _ _ ho)
 sim:=h.sim.less hh
 dwr:=fun b hb=>h.dwr b (hb.less hh)
 dnew:=h.dnew
 glob:=h.glob
structure j7(D:Nat->Prop)(G:Gh)(ρ:Nat->Option Nat)(σ:ASt)(b:Nat):Prop where
 d:D b
 p:∀off,¬G.P b off
 obj:∀id o x,σ.S.heap id=some o->G.ι id=some x->0<x.2.2->x.1≠b
 reg:∀r cs,σ.rg r=some cs->ρ r≠some b
theorem Fr.free_kill{A:zA}{D:Nat->Prop}{G:Gh}{ρ:Nat->Option Nat}{σ:ASt}{a:Act}{w:World}(h:Fr A D G ρ σ a w){id:Nat}{o:yX}{x:Nat×Nat×Nat}
 (hr:σ.S.ro<=id) (ho:σ.S.heap id=some o) (hx:G.ι id=some x) (h0:0<x.2.2):j7 D G ρ {σ with S:=σ.S.set id none} x.1 where
 d:=h.dwr _ ⟨id,o,x,hr,ho,hx,h0,rfl⟩
 p:=fun off=>h.sim.own id o x off hr ho hx h0
 obj:=fun id' o' x' e hx' h0' hb=>by
  simp only[AS.set]at e;split at e
  ·cases e
  ·rename_i hne;exact hne (h.sim.inj id' id o' o x' x e ho hx' hx h0' h0 hb)
 reg:=fun r cs e hb=>h.rhp r cs _ id o x e hb ho hx h0 rfl
theorem zBV{G:Gh}{w w':World}{b:Nat}(hp:∀off,¬G.P b off)(d:∀b',b'≠b->w'.heap[b']?=w.heap[b']?):Le G w G w':=
 ⟨fun _ _ h=>h,fun _ _ h=>h,rfl,fun b' o v e f=>by
  have c:b'≠b:=by rintro rfl;exact hp o e
  rw[zas (d b' c)];exact f⟩
theorem zpa{D:Nat->Prop}{G:Gh}{w w':World}{b:Nat}(hp:∀off,¬G.P b off)(e:D b)(f:w.heap.size<=w'.heap.size)(c:∀b',b'≠b->w'.heap[b']?=w.heap[b']?)(d:Io w w'):Ext D G w G w':=
 {toLe:=zBV hp c,size:=f,keep:=fun b' _ g=>c b' (by rintro rfl;exact g e),stay:=fun b' o i=>c b' (by rintro rfl;exact hp o i),new:=fun _ _ h=>.inl h,io:=d}
theorem Fr.write{A:zA}{D:Nat->Prop}{G:Gh}{ρ:Nat->Option Nat}{σ:ASt}{a:Act}{w w':World}(h:Fr A D G ρ σ a w){b:Nat}(g:j7 D G ρ σ b)
 (m:w.heap.size<=w'.heap.size) (i:∀b',b'≠b->w'.heap[b']?=w.heap[b']?) (j:Io w w'):Fr A D G ρ σ a w'/\Ext D G w G w':=by
 have k:Ext D G w G w':=zpa g.p g.d m i j;have f:Sim G σ.S w':=by
  refine h.sim.keep k.toLe (fun id _ q=>(h.sim.fresh id q).2) ?_ (fun _ _ _ _ _ _ _ _ hp=>hp) fun b o hp=>xan (h.sim.lt b o hp) m;intro id o x e c l;exact i _ (g.obj id o x e c l)
 refine⟨h.keep k f ?_ h.dwr,k⟩;intro r cs b' e n;refine⟨i _ (by rintro rfl;exact g.reg r cs e n),fun _ hp=>hp,fun id o x s c l=>h.rhp r cs b' id o x e n s c l⟩
theorem Fr.same{A:zA}{D:Nat->Prop}{G:Gh}{ρ:Nat->Option Nat}{σ:ASt}{a:Act}{w w':World}(h:Fr A D G ρ σ a w)(c:w'.heap=w.heap)(g:Io w w':=by exact⟨rfl,rfl,rfl⟩):Fr A D G ρ σ a w'/\Ext D G w G w':=by
 have d:Le G w G w':=⟨fun _ _ h=>h,fun _ _ h=>h,rfl,fun b' o v q k=>by rw[zas (w:=w) (w':=w') (by rw[c])];exact k⟩;have j:Ext D G w G w':={toLe:=d,size:=by rw[c];exact xad _,keep:=fun b' _ _=>by rw[c],stay:=fun b' _ _=>by rw[c],new:=fun _ _ h=>.inl h,io:=g};have f:Sim G σ.S w':=by
  refine h.sim.keep d (fun id _ l=>(h.sim.fresh id l).2) (fun _ _ _ _ _ _=>by rw[c]) (fun _ _ _ _ _ _ _ _ hp=>hp) fun b o hp=>by rw[c];exact h.sim.lt b o hp
 exact⟨h.keep j f (fun r cs b' e m=>⟨by rw[c],fun _ hp=>hp,fun id o x n i p=>h.rhp r cs b' id o x e m n i p⟩) h.dwr,j⟩
theorem Fr.take{A:zA}{D:Nat->Prop}{G:Gh}{ρ:Nat->Option Nat}{σ:ASt}{a:Act}{w:World}(h:Fr A D G ρ σ a w){id:Nat}{x:Nat×Nat×Nat}(q:G.ι id=some x)(V:σ.S.heap id=none)(Q:id<σ.S.n)
 (s:0<x.2.2->j7 D G ρ σ x.1) {o:yX} (R:vl G w x o):Fr A D G ρ {σ with S:=σ.S.set id (some o)} a w:=by
 have f:∀{c:Nat} {o':yX},(σ.S.set id (some o)).heap c=some o'->(c=id/\o'=o)\/(c≠id/\σ.S.heap c=some o'):=by
  intro c o' e;simp only[AS.set]at e;split at e
  ·rename_i y;cases e;exact .inl ⟨y,rfl⟩
  ·rename_i z;exact .inr ⟨z,e⟩
 refine⟨h.defers,h.size,h.tmp,h.reg,h.rinj,?_,⟨?_,?_,?_,?_,h.sim.lt,h.sim.ro⟩,?_,h.dnew,h.glob⟩
 ·intro r cs b c o' t e l k g m;rcases f k with⟨rfl,rfl⟩|⟨_,k⟩
  ·rw[q]at g;cases g;intro B;subst B;exact(s m).reg r cs e l
  ·exact h.rhp r cs b c o' t e l k g m
 ·intro c o' k;rcases f k with⟨rfl,rfl⟩|⟨_,k⟩
  ·exact⟨x,q,R⟩
  ·exact h.sim.obj c o' k
 ·intro c k;have k:σ.S.n<=c:=k;refine⟨?_,(h.sim.fresh c k).2⟩;simp only[AS.set];rw[if_neg (by omega)];exact(h.sim.fresh c k).1
 ·intro i j H I J K T U u v C E l;rcases f T with⟨L,W⟩|⟨X,M⟩<;>rcases f U with⟨N,Y⟩|⟨Z,O⟩
  ·rw[L,N]
  ·rw[L,q]at u;cases u;exact absurd l.symm ((s C).obj j I K O v E)
  ·rw[N,q]at v;cases v;exact absurd l ((s E).obj i H J M u C)
  ·exact h.sim.inj i j H I J K M O u v C E l
 ·intro c o' t off F k g m;rcases f k with⟨rfl,rfl⟩|⟨_,k⟩
  ·rw[q]at g;cases g;exact(s m).p off
  ·exact h.sim.own c o' t off F k g m
 ·rintro b ⟨c,o',t,F,k,g,m,l⟩;rcases f k with⟨rfl,rfl⟩|⟨_,k⟩
  ·rw[q]at g;cases g;rw[<-l];exact(s m).d
  ·exact h.dwr b ⟨c,o',t,F,k,g,m,l⟩
theorem Fr.adopt{A:zA}{D:Nat->Prop}{G:Gh}{ρ:Nat->Option Nat}{σ:ASt}{a:Act}{w:World}(h:Fr A D G ρ σ a w){x:Nat×Nat×Nat}(F:0<x.2.2->j7 D G ρ σ x.1){o:yX}
 (Z:vl (G.made σ.S.n x) w x o):Fr A D (G.made σ.S.n x) ρ {σ with S:=σ.S.new o} a w/\Ext D G w (G.made σ.S.n x) w:=by
 have hi:=(h.sim.fresh σ.S.n (xad _)).2;have t:Le G w (G.made σ.S.n x) w:=⟨fun j y h=>by simp only[Gh.made];rw[if_neg (by rintro rfl;rw[hi]at h;cases h)];exact h,fun _ _ h=>h,rfl,fun _ _ _ _ hc=>hc⟩;have O:Ext D G w (G.made σ.S.n x) w:={toLe:=t,size:=xad _,keep:=fun _ _ _=>rfl,stay:=fun _ _ _=>rfl,new:=fun _ _ h=>.inl h,io:=Io.refl w};have q:∀{f:Nat} {o':yX} {B:Nat×Nat×Nat},(σ.S.new o).heap f=some o'->(G.made σ.S.n x).ι f=some B->(f=σ.S.n/\o'=o/\B=x)\/(f≠σ.S.n/\σ.S.heap f=some o'/\G.ι f=some B):=by
  intro f o' B e l;simp only[AS.new,Gh.made]at e l;by_cases u:f=σ.S.n
  ·rw[if_pos u]at e l;cases e;cases l;exact .inl ⟨u,rfl,rfl⟩
  ·rw[if_neg u]at e l;exact .inr ⟨u,e,l⟩
 refine⟨⟨h.defers,h.size,fun p v e=>(h.tmp p v e).mono t fun r E=>⟨E,rfl⟩,?_,h.rinj,?_,⟨?_,?_,?_,?_,h.sim.lt,?_⟩,?_,h.dnew,fun g v e m k=>(h.glob g v e m (by rw[<-t.K];exact k)).ext O⟩,O⟩
 ·intro r cs e;obtain⟨b,c,el,J,L,h3,h4,h5⟩:=h.reg r cs e;exact⟨b,c,el,J,L,h3.mono t,h4,h5⟩
 ·intro r cs b f o' B e z l s C;rcases q l s with⟨rfl,rfl,rfl⟩|⟨_,l,s⟩
  ·intro M;subst M;exact(F C).reg r cs e z
  ·exact h.rhp r cs b f o' B e z l s C
 ·intro f o' l;simp only[AS.new]at l;split at l
  ·rename_i u;cases l;exact⟨x,by simp[Gh.made,u],Z⟩
  ·obtain⟨y,hy,E⟩:=h.sim.obj f o' l;exact⟨y,t.ι _ _ hy,E.keep t fun _=>rfl⟩
 ·intro f l;simp only[AS.new]at l ⊢;have N:f≠σ.S.n:=by omega
  simp only[Gh.made,if_neg N];exact h.sim.fresh f (by omega)
 ·intro i j Q R T U e1 e2 J L H I z;rcases q e1 J with⟨q1,r1,s1⟩|⟨n1,V,W⟩<;>rcases q e2 L with⟨q2,r2,s2⟩|⟨n2,X,Y⟩
  ·rw[q1,q2]
  ·rw[s1]at z H;exact absurd z.symm ((F H).obj j R U X Y I)
  ·rw[s2]at z I;exact absurd z ((F I).obj i Q T V W H)
  ·exact h.sim.inj i j Q R T U V X W Y H I z
 ·intro f o' B off E l s C;rcases q l s with⟨rfl,rfl,rfl⟩|⟨_,l,s⟩
  ·exact(F C).p off
  ·exact h.sim.own f o' B off E l s C
 ·have:=h.sim.ro;simp only[AS.new];omega
 ·rintro b ⟨f,o',B,E,l,s,C,z⟩;rcases q l s with⟨rfl,rfl,rfl⟩|⟨_,l,s⟩
  ·rw[<-z];exact(F C).d
  ·exact h.dwr b ⟨f,o',B,E,l,s,C,z⟩
theorem Fr.writeReg{A:zA}{D:Nat->Prop}{G:Gh}{ρ:Nat->Option Nat}{σ:ASt}{a:Act}{w w':World}(h:Fr A D G ρ σ a w){r b:Nat}{cs cs':List AV}(s:σ.rg r=some cs)(y:ρ r=some b)
 {c':Array Value} {e:Nat} (N:w.heap.size<=w'.heap.size) (C:∀b',b'≠b->w'.heap[b']?=w.heap[b']?) (V:w'.heap[b]?=some (.cells c' e (0,0))) (t:zx G w cs' c'.toList) (E:Io w w'):
 Fr A D G ρ {σ with rg:=upd σ.rg r cs'} a w'/\Ext D G w G w':=by
 obtain⟨b0,c0,e0,O,h2,h3,Q,R⟩:=h.reg r cs s;rw[y]at O;cases O;have n:Ext D G w G w':=zpa R Q N C E;have q:∀c,(σ.rg c).isSome->(upd σ.rg r cs' c).isSome:=by
  intro c u;simp only[upd];split<;>simp_all
 refine⟨⟨h.defers,h.size,fun p v F=>(h.tmp p v F).mono n.toLe fun c u=>⟨q c u,rfl⟩,?_,?_,?_,?_,h.dwr,fun b j=>h.dnew b (xaD n.size j),fun g v e m k=>(h.glob g v e m (by rw[<-n.toLe.K];exact k)).ext n⟩,n⟩
 ·intro c d f;simp only[upd]at f;split at f
  ·rename_i i;subst i;cases f;exact⟨b,c',e,y,V,t.mono n.toLe,Q,R⟩
  ·rename_i H;obtain⟨S,T,I,z,J,W,X,k5⟩:=h.reg c d f;refine⟨S,T,I,z,?_,W.mono n.toLe,X,k5⟩;rw[C S (by rintro rfl;exact H (h.rinj c r _ _ _ f s z y))];exact J
 ·intro Y Z T c2 b' f L z J;have:∀{c d},upd σ.rg r cs' c=some d->∃M,σ.rg c=some M:=by
   intro c d e;simp only[upd]at e;split at e
   ·rename_i i;subst i;exact⟨cs,s⟩
   ·exact⟨d,e⟩
  obtain⟨d1,f⟩:=this f;obtain⟨d2,L⟩:=this L;exact h.rinj Y Z d1 d2 b' f L z J
 ·intro c d b' id o x f j U l B;simp only[upd]at f;split at f
  ·rename_i i;subst i;exact h.rhp c cs b' id o x s j U l B
  ·exact h.rhp c d b' id o x f j U l B
 ·refine h.sim.keep n.toLe (fun id _ hn=>(h.sim.fresh id hn).2) ?_ (fun _ _ _ _ _ _ _ _ hp=>hp) fun b o hp=>xan (h.sim.lt b o hp) N;intro id o x F l B;exact C _ (h.rhp r cs b id o x s y F l B)
theorem Fr.put{A:zA}{D:Nat->Prop}{G:Gh}{ρ:Nat->Option Nat}{σ:ASt}{a:Act}{w:World}(h:Fr A D G ρ σ a w)(dst:Option Nat){v:AV}{x:Value}(c:yP G ρ σ.rg w v x):
 Fr A D G ρ (σ.put dst v) (a.put dst x) w:=by
 cases dst with
 |none=>exact h
 |some d=>
  refine⟨h.defers,by simp[Act.put,ASt.put,h.size],?_,h.reg,h.rinj,h.rhp,h.sim,h.dwr,h.dnew,h.glob⟩;intro p y e;simp only[ASt.put]at e;simp only[Act.put];rw[xaw]at e;rw[Array.getD_eq_getD_getElem?,Array.getElem?_setIfInBounds];by_cases hp:d=p
  ·subst hp;rw[if_pos rfl]at e;have b:d<σ.tm.length:=by
    by_cases b:d<σ.tm.length
    ·exact b
    ·simp[b]at e
   rw[if_pos b]at e;cases e;rw[if_pos rfl,if_pos (by rw[h.size];exact b)];exact c
  ·rw[if_neg hp]at e;rw[if_neg hp,<-Array.getD_eq_getD_getElem?];exact h.tmp p y e
section
variable(ρ:Operand->Value)(o:Oper)
theorem zo6{x:Operand}(h:o.op=.move x):execOp ρ o=Pure.pure (.value (ρ x)):=by unfold execOp;rw[h]
theorem zo1{x:Operand}(h:o.op=.assign x):execOp ρ o=Pure.pure (.value (ρ x)):=by unfold execOp;rw[h]
theorem zAu{c a b:Operand}(h:o.op=.pick c a b):execOp ρ o=(do Pure.pure (.value (if <-Go.asBool (ρ c)then ρ a else ρ b))):=by unfold execOp;rw[h]
theorem zAg{e:TypeId}(h:o.op=.alloc e):execOp ρ o=(do Pure.pure (.value (<-Instr.alloc e true (.tuple #[])))):=by unfold execOp;rw[h]
theorem zo2{e:TypeId}{x:Operand}(h:o.op=.box e x):execOp ρ o=(do Pure.pure (.value (<-Instr.box e (ρ x)))):=by unfold execOp;rw[h]
theorem zo3{t:TypeId}{ps:Array (Nat×Operand)}(h:o.op=.build t ps):execOp ρ o=(do Pure.pure (.value (<-Instr.build t (ps.map fun(i,x)=>(i,ρ x))))):=by unfold execOp;rw[h]
theorem zAh{t:TypeId}{n:Nat}{ps:Array (Nat×Operand)}(h:o.op=.buildSlice t n ps):execOp ρ o=(do Pure.pure (.value (<-Instr.buildSlice t n (ps.map fun(i,x)=>(i,ρ x))))):=by unfold execOp;rw[h]
theorem zAm{t:TypeId}{x:Operand}(h:o.op=.load t x):execOp ρ o=(do Pure.pure (.value (<-Instr.loadAt t (ρ x)))):=by unfold execOp;rw[h]
theorem zo8{t:TypeId}{x y:Operand}(h:o.op=.store t x y):execOp ρ o=(do Instr.storeAt t (ρ x) (ρ y);Pure.pure .skip):=by unfold execOp;rw[h]
theorem zkK{x:Operand}{a:Addr}(h:o.op=.nilCheck x)(b:ρ x=.pointer (some a)):execOp ρ o=Pure.pure (.value (.pointer (some a))):=by unfold execOp;rw[h];simp only[b]
theorem zAt{x:Operand}{t:TypeId}{v:Value}(h:o.op=.nilCheck x)(b:ρ x=.iface t v):execOp ρ o=Pure.pure (.value (.iface t v)):=by unfold execOp;rw[h];simp only[b]
theorem zAs{x:Operand}{f:FuncId}{a b:Array Value}(h:o.op=.nilCheck x)(c:ρ x=.func (.func f) a b):execOp ρ o=Pure.pure (.value (.func (.func f) a b)):=by unfold execOp;rw[h];simp only[c]
theorem zgF{op:BinOp}{t b:TypeId}{x y:Operand}(h:o.op=.binOp op t x y b):execOp ρ o=(do Pure.pure (.value (<-(do eqGuard op t x y (ρ x) (ρ y);binOp op t (ρ x) (ρ y))))):=by unfold execOp;rw[h]
theorem zo9{op:UnOp}{t:TypeId}{x:Operand}(h:o.op=.unOp op t x):execOp ρ o=(do Pure.pure (.value (<-Op.unary op (ρ x)))):=by unfold execOp;rw[h]
theorem zgG{s d:TypeId}{x:Operand}(h:o.op=.convert s d x):execOp ρ o=(do Pure.pure (.value (<-convert s d (ρ x)))):=by unfold execOp;rw[h]
theorem zAo{f:Fn}{a b:Array Operand}(h:o.op=.makeFunc f a b):execOp ρ o=(do Pure.pure (.value (<-Instr.makeFunc f (a.map ρ) (b.map ρ)))):=by unfold execOp;rw[h]
theorem zAp{t:TypeId}{r:Option Operand}(h:o.op=.makeMap t r):execOp ρ o=(do Pure.pure (.value (<-Instr.makeMap t (r.map ρ)))):=by unfold execOp;rw[h]
theorem zAq{t:TypeId}{l c:Operand}(h:o.op=.makeSlice t l c):execOp ρ o=(do Pure.pure (.value (<-Instr.makeSlice t (ρ l) (ρ c)))):=by unfold execOp;rw[h]
theorem zo7{t:TypeId}{x:Operand}{l b m:Option Operand}(h:o.op=.slice t x l b m):execOp ρ o=(do Pure.pure (.value (<-Instr.sliceAt t (ρ x) (l.map ρ) (b.map ρ) (m.map ρ)))):=by unfold execOp;rw[h]
theorem zAk{t:TypeId}{x:Operand}{f:Nat}(h:o.op=.fieldAddr t x f):execOp ρ o=(do Pure.pure (.value (<-Instr.fieldAt t (ρ x) f))):=by unfold execOp;rw[h]
theorem zAj{t:TypeId}{x:Operand}{f:Nat}(h:o.op=.field t x f):execOp ρ o=(do Pure.pure (.value (<-Instr.field t (ρ x) f))):=by unfold execOp;rw[h]
theorem zkJ{t:TypeId}{x y:Operand}(h:o.op=.indexAddr t x y):execOp ρ o=(do Pure.pure (.value (<-Instr.indexAt t (ρ x) (ρ y)))):=by unfold execOp;rw[h]
theorem zo5{t:TypeId}{x y:Operand}(h:o.op=.index t x y):execOp ρ o=(do Pure.pure (.value (<-Instr.index t (ρ x) (ρ y)))):=by unfold execOp;rw[h]
theorem zAn{t:TypeId}{x y:Operand}{ok:Bool}(h:o.op=.lookup t x y ok):execOp ρ o=(do Pure.pure (.value (<-Instr.lookup t (ρ x) (ρ y) ok))):=by unfold execOp;rw[h]
theorem zAr{t:TypeId}{m k x:Operand}(h:o.op=.mapUpdate t m k x):execOp ρ o=(do Instr.mapUpdate t (ρ m) (ρ k) (ρ x);Pure.pure .skip):=by unfold execOp;rw[h]
theorem zAl{t:TypeId}{m k x:Operand}(h:o.op=.insert t m k x):execOp ρ o=(do Instr.mapUpdate t (ρ m) (ρ k) (ρ x);Pure.pure .skip):=by unfold execOp;rw[h]
theorem zAi{x:Operand}{i:Nat}(h:o.op=.extract x i):execOp ρ o=(do Pure.pure (.value (<-Instr.extract (ρ x) i))):=by unfold execOp;rw[h]
theorem zo4{c:Call}(h:o.op=.call c):execOp ρ o=(do let d <-resolve ρ c o.type;invoke d.target d.args):=by unfold execOp;rw[h]
end
section
variable{P:Program}{w:World}
theorem und{t:TypeId}{d:TypeDesc}(h:P.underlying t=some d):(underlying t).run P w=.ok d w:=by
 simp only[underlying,xag,run_program,xac,h,xah]
theorem inf{t:TypeId}{i:TypeInfo}(h:P.info? t=some i):(typeInfo t).run P w=.ok i w:=by
 simp only[typeInfo,xag,run_program,xac,h,xah]
theorem siz{t:TypeId}{n:Nat}(h:yS P t=some n):(Go.sizeOf t).run P w=.ok n w:=by
 unfold yS at h;cases b:P.info? t with
 |none=>rw[b]at h;cases h
 |some i=>rw[b]at h;simp at h;subst h;simp only[Go.sizeOf,xag,inf b,xac,xah]
theorem agr{t:TypeId}{b:Bool}(h:zap P t=some b):(isAgg t).run P w=.ok b w:=by
 unfold zap at h;cases c:P.underlying t with
 |none=>rw[c]at h;cases h
 |some d=>
  rw[c]at h;simp only[xam,Option.some.injEq]at h;subst h;simp only[isAgg,xag,und c,xac];cases d<;>rfl
theorem zer{t:TypeId}{i:TypeInfo}{z:Value}(h:P.info? t=some i)(b:i.zero=some z):(zeroValue t).run P w=.ok z w:=by
 simp only[zeroValue,xag,inf h,xac,b,xah]
end
theorem zuy{a b:Value}(h:zm6 a b=true):a=b/\jw b=true:=by
 unfold zm6 at h;split at h
 ·simp at h;subst h;exact⟨rfl,rfl⟩
 ·simp at h;obtain⟨rfl,rfl⟩:=h;exact⟨rfl,rfl⟩
 ·rename_i x y;simp at h;have:x=y:=by cases x;cases y;congr
  subst this;exact⟨rfl,rfl⟩
 ·exact⟨rfl,rfl⟩
 ·exact⟨rfl,rfl⟩
 ·exact⟨rfl,rfl⟩
 ·exact⟨rfl,rfl⟩
 ·cases h
theorem zou{G:Gh}{w:World}{a:AV}{b:Value}(h:zdA a b=true):Rep G w a b:=by
 unfold zdA at h;split at h
 ·obtain⟨rfl,c⟩:=zuy h;exact .sc c
 ·simp at h;exact .nil (by intro d;rcases h with h|h<;>simp_all)
 ·cases h
theorem zzO{a:AV}{b:Value}(h:zdA a b=true):b.oneCell'=true:=by
 unfold zdA at h;split at h
 ·obtain⟨rfl,c⟩:=zuy h;revert c;unfold jw;split<;>simp[Value.oneCell']
 ·rfl
 ·cases h
theorem zav{G:Gh}{w:World}:∀{a:List AV} {b:List Value},kD a b=true->zx G w a b
 |[],[],_=>.nil
 |[],_::_,h=>by simp[kD]at h
 |_::_,[],h=>by simp[kD]at h
 |a::l,b::m,h=>by
  simp[kD]at h;exact .cons (zou h.1) (zav h.2)
theorem zc1:∀{a:List AV} {b:List Value},kD a b=true->∀u∈b,u.oneCell'=true
 |[],[],_,u,c=>by simp at c
 |[],_::_,h,_,_=>by simp[kD]at h
 |_::_,[],h,_,_=>by simp[kD]at h
 |a::l,b::m,h,u,c=>by
  simp[kD]at h;rcases xaz.1 c with rfl|c
  ·exact zzO h.1
  ·exact zc1 h.2 u c
theorem zov{G:Gh}{w:World}{a:AV}{b:Value}(h:zfr a b=true):Rep G w a b:=by
 unfold zfr at h;split at h
 ·rename_i cs vs;have:=Rep.agg (G:=G) (w:=w) (zav (G:=G) (w:=w) h);simpa using this
 ·rename_i cs vs;have:=Rep.tup (G:=G) (w:=w) (zav (G:=G) (w:=w) h);simpa using this
 ·exact zou h
section
variable{A:zA}{D:Nat->Prop}{G:Gh}{ρ:Nat->Option Nat}{σ:ASt}{a:Act}{w:World}{P:Program}
theorem zbU(d:Fr A D G ρ σ a w){x:zo}{y:Operand}(b:kf G.K x y=true){v:AV}(c:x.ev A σ.tm=some v):yP G ρ σ.rg w v (a.eval y):=by
 unfold kf at b;split at b
 ·rename_i n m;simp at b;subst b;simp only[zo.ev]at c;cases c;by_cases e:n<σ.tm.length
  ·rw[xar,List.getElem?_eq_getElem e];exact d.tmp n _ (List.getElem?_eq_getElem e)
  ·rw[xar,xap (by omega)];exact Rep.trep .junk
 ·rename_i key f;simp only[zo.ev]at c;cases c;exact Rep.trep (Rep.fn (by simpa using b) .nil .nil)
 ·simp only[zo.ev]at c;cases c;exact(zov b).trep
 ·rename_i n m;simp only[kf,beq_iff_eq]at b;simp only[zo.ev]at c;exact(d.glob n v c m b).1.trep
 ·cases b
inductive TL(G:Gh)(ρ:Nat->Option Nat)(rg:Nat->Option (List AV))(w:World):List AV->List Value->Prop
 |nil:TL G ρ rg w [] []
 |cons{v:AV}{vs:List AV}{x:Value}{xs:List Value}(h:yP G ρ rg w v x)(t:TL G ρ rg w vs xs):TL G ρ rg w (v::vs) (x::xs)
theorem yv(d:Fr A D G ρ σ a w):∀{xs:List zo} {ys:List Operand},zO G.K xs ys=true->∀{vs:List AV},evs A σ.tm xs=some vs->TL G ρ σ.rg w vs (ys.map a.eval)
 |[],[],_,vs,h=>by simp[evs]at h;subst h;exact .nil
 |[],_::_,h,_,_=>by simp[zO]at h
 |_::_,[],h,_,_=>by simp[zO]at h
 |x::xs,y::ys,h,vs,e=>by
  simp[zO]at h;simp only[evs]at e;cases b:x.ev A σ.tm with
  |none=>rw[b]at e;simp at e
  |some v=>
   rw[b]at e;cases c:evs A σ.tm xs with
   |none=>rw[c]at e;simp at e
   |some l=>
    rw[c]at e;simp at e;subst e;exact .cons (zbU d h.1 b) (yv d h.2 c)
theorem TL.rep{rg:Nat->Option (List AV)}:∀{vs:List AV} {xs:List Value},TL G ρ rg w vs xs->vs.any AV.isReg=false->zx G w vs xs
 |_,_,.nil,_=>.nil
 |_,_,.cons h t,hn=>by
  simp at hn;exact .cons (h.rep (by simpa using hn.1)) (t.rep (by simpa using hn.2))
def yr(P:Program)(A:zA)(D:Nat->Prop)(G:Gh)(ρ:Nat->Option Nat)(σ:ASt)(a:Act)(w:World)(e:Sem Next)(v:AV):Prop:=
 ∃x w' G',e.run P w=.ok (.value x) w'/\Fr A D G' ρ σ a w'/\Ext D G w G' w'/\yP G' ρ σ.rg w' v x
theorem yr.same(b:Fr A D G ρ σ a w){e:Sem Next}{v:AV}{x:Value}(c:e.run P w=.ok (.value x) w)(d:yP G ρ σ.rg w v x):yr P A D G ρ σ a w e v:=
 ⟨x,w,G,c,b,Ext.refl _ _ _,d⟩
theorem yr.new(c:Fr A D G ρ σ a w){e:Sem Next}{v:AV}{x:Value}{vs:List Value}{t:Nat}(d:e.run P w=.ok (.value x) (w.alloc (.cells vs.toArray t)))
 (f:At (G.shut w.heap.size) (w.alloc (.cells vs.toArray t)) w.heap.size 0 vs->Le G w (G.shut w.heap.size) (w.alloc (.cells vs.toArray t))->Rep (G.shut w.heap.size) (w.alloc (.cells vs.toArray t)) v x):yr P A D G ρ σ a w e v:=by
 obtain⟨g,b⟩:=c.shut (.cells vs.toArray t);exact⟨x,_,_,d,g,b,(f (zyQ G w vs t (0,0)) b.toLe).trep⟩
theorem zG4(d:Fr A D G ρ σ a w){o:Oper}{xs:List zo}(b:zR P G.K o.op .mov xs=true){vs:List AV}(c:evs A σ.tm xs=some vs){v:AV}(hp:pev .mov vs=some v):
 yr P A D G ρ σ a w (execOp a.eval o) v:=by
 simp only[zR]at b;split at b
 ·rename_i x e;obtain _|⟨h,t⟩:=yv d b c;cases t;simp[pev]at hp;subst hp;exact .same d (by rw[zo6 _ _ e];rfl) h
 ·rename_i x e;obtain _|⟨h,t⟩:=yv d b c;cases t;simp[pev]at hp;subst hp;exact .same d (by rw[zo1 _ _ e];rfl) h
 ·cases b
end
section
variable{A:zA}{D:Nat->Prop}{G:Gh}{ρ:Nat->Option Nat}{σ:ASt}{a:Act}{w:World}{P:Program}{rg:Nat->Option (List AV)}
theorem TL.one{vs:List AV}{x:Value}(h:TL G ρ rg w vs [x]):∃v,vs=[v]/\yP G ρ rg w v x:=by
 obtain _|⟨h,t⟩:=h;cases t;exact⟨_,rfl,h⟩
theorem TL.two{vs:List AV}{x y:Value}(h:TL G ρ rg w vs [x,y]):∃v u,vs=[v,u]/\yP G ρ rg w v x/\yP G ρ rg w u y:=by
 obtain _|⟨h,t⟩:=h;obtain⟨u,rfl,b⟩:=t.one;exact⟨_,_,rfl,h,b⟩
theorem TL.three{vs:List AV}{x y z:Value}(h:TL G ρ rg w vs [x,y,z]):∃v u t,vs=[v,u,t]/\yP G ρ rg w v x/\yP G ρ rg w u y/\yP G ρ rg w t z:=by
 obtain _|⟨h,t⟩:=h;obtain⟨u,s,rfl,c,b⟩:=t.two;exact⟨_,_,_,rfl,h,c,b⟩
theorem yP.sc{v x:Value}(h:yP G ρ rg w (.sc v) x):x=v:=by
 have h:Rep G w (.sc v) x:=h;cases h;rfl
theorem zIb{op:BinOp}{t:TypeId}{x y:Operand}{k b:IntKind}{m n:Int}:(eqGuard op t x y (.int k m) (.int b n)).run P w=.ok () w:=by
 unfold eqGuard;cases op<;>rfl
theorem zId{op:BinOp}{t:TypeId}{x y:Operand}{m n:ByteArray}:(eqGuard op t x y (.string m) (.string n)).run P w=.ok () w:=by
 unfold eqGuard;cases op<;>rfl
theorem zIa{op:BinOp}{t:TypeId}{x y:Operand}{m n:Bool}:(eqGuard op t x y (.bool m) (.bool n)).run P w=.ok () w:=by
 unfold eqGuard;cases op<;>rfl
theorem zIc{op:BinOp}{t:TypeId}{x y:Operand}{m n:Option Addr}:(eqGuard op t x y (.pointer m) (.pointer n)).run P w=.ok () w:=by
 unfold eqGuard;cases op<;>rfl
theorem ztN{op:BinOp}{t:TypeId}{x:Operand}{v:Value}(b:v=.nilIface\/∃u y,v=.iface u y):(eqGuard op t x (.const .nilIface) v .nilIface).run P w=.ok () w:=by
 unfold eqGuard;rcases b with rfl|⟨u,y,rfl⟩<;>cases op<;>simp
theorem ztM{op:BinOp}{t:TypeId}{x y:Operand}{v:Value}(b:v=.nilFunc\/∃f l m,v=.func f l m):(eqGuard op t x y v .nilFunc).run P w=.ok () w:=by
 unfold eqGuard;rcases b with rfl|⟨f,l,m,rfl⟩<;>cases op<;>rfl
theorem zH2{op:BinOp}{t:TypeId}{k c:IntKind}{m n:Int}{v:Value}(d:op=.shl\/op=.shr\/k=c)(h:vL op k m n=some v):
 (binOp op t (.int k m) (.int c n)).run P w=.ok v w:=by
 unfold vL at h;unfold binOp;cases op<;>simp only[reduceCtorEq,false_or,or_false,or_self]at d<;>try subst d
 case shl=>
  by_cases b:n<0
  ·simp[b]at h
  ·simp only[b,if_false,Option.some.injEq]at h;simp only[Op.shift,b,if_false,h,xah]
 case shr=>
  by_cases b:n<0
  ·simp[b]at h
  ·simp only[b,if_false,Option.some.injEq]at h;simp only[Op.shift,b,if_false,h,xah]
 case quo=>simp only[Op.intDiv];split at h<;>simp_all
 case rem=>simp only[Op.intDiv];split at h<;>simp_all
 case andNot=>simp at h
 all_goals
  simp only[Option.some.injEq]at h;subst h;simp[Op.intArith,Op.intBits,Op.intCmp]
theorem zH3{op:BinOp}{t:TypeId}{m n:ByteArray}{v:Value}(h:wm op m n=some v):(binOp op t (.string m) (.string n)).run P w=.ok v w:=by
 unfold wm at h;unfold binOp;cases op<;>simp only[Op.stringOp]<;>simp only[reduceCtorEq]at h
 case add=>split at h<;>simp_all
 all_goals
  simp only[Option.some.injEq]at h;subst h;rfl
theorem zJF{op:BinOp}{k:IntKind}{m n:Int}{v:Value}(h:vL op k m n=some v):jw v=true:=by
 unfold vL at h;cases op<;>simp only[reduceCtorEq]at h<;>(try split at h)<;>simp_all [jw]<;>(subst h;rfl)
theorem zJG{op:BinOp}{m n:ByteArray}{v:Value}(h:wm op m n=some v):jw v=true:=by
 unfold wm at h;cases op<;>simp only[reduceCtorEq]at h<;>(try split at h)<;>simp_all [jw]<;>(subst h;rfl)
theorem zG9(f:Fr A D G ρ σ a w){o:Oper}{xs:List zo}(b:zR P G.K o.op .pick xs=true){vs:List AV}(e:evs A σ.tm xs=some vs){v:AV}(hp:pev .pick vs=some v):
 yr P A D G ρ σ a w (execOp a.eval o) v:=by
 simp only[zR]at b;split at b
 ·rename_i c x y g;obtain⟨l,h,i,rfl,j,m,n⟩:=(yv f b e).three;unfold pev at hp;dsimp only at hp;split at hp
  ·rename_i c' h i d;simp only[xak,and_true]at d;obtain⟨rfl,rfl,rfl⟩:=d;split at hp
   ·cases hp
   ·rename_i p;cases hp;have k:=j.sc;refine .same f (x:=if c' then a.eval x else a.eval y) (by rw[zAu _ _ g,k];simp only[Go.asBool,xag,xah,xac]) ?_;split<;>assumption
  ·cases hp
 ·cases b
theorem zGL(f:Fr A D G ρ σ a w){o:Oper}{op:BinOp}{xs:List zo}(b:zR P G.K o.op (.bin op) xs=true){vs:List AV}(g:evs A σ.tm xs=some vs){v:AV}(hp:pev (.bin op) vs=some v):
 yr P A D G ρ σ a w (execOp a.eval o) v:=by
 simp only[zR]at b;split at b
 ·rename_i e t x y p h;simp only[xab,beq_iff_eq]at b;obtain⟨rfl,b⟩:=b;obtain⟨q,r,rfl,i,j⟩:=(yv f b g).two;unfold pev at hp;dsimp only at hp;split at hp
  ·rename_i k m s n c;simp only[xak,and_true]at c;obtain⟨rfl,rfl⟩:=c;split at hp
   ·rename_i l;cases d:vL e k m n with
    |none=>rw[d]at hp;cases hp
    |some u=>
     rw[d]at hp;cases hp;refine .same f (x:=u) ?_ (Rep.sc (zJF d)).trep;rw[zgF _ _ h,i.sc,j.sc];simp only[xag,zIb,xac,zH2 l d,xah]
   ·cases hp
  ·rename_i m n c;simp only[xak,and_true]at c;obtain⟨rfl,rfl⟩:=c;cases d:wm e m n with
   |none=>rw[d]at hp;cases hp
   |some u=>
    rw[d]at hp;cases hp;refine .same f (x:=u) ?_ (Rep.sc (zJG d)).trep;rw[zgF _ _ h,i.sc,j.sc];simp only[xag,zId,xac,zH3 d,xah]
  ·cases hp
 ·cases b
theorem zIe(d:Nat){t:TypeId}{m n:Bool}(h:P.underlying t=some .bool):(Op.equalIn (d+1) t (.bool m) (.bool n)).run P w=.ok (m==n) w:=by
 simp only[Op.equalIn,xag,und h,xac,xah]
theorem ztP(d:Nat){t:TypeId}{ms:Array (String×TypeId)}{v:Value}{b:Bool}(h:P.underlying t=some (.interface ms))(c:(v=.nilIface/\b=true)\/(∃u y,v=.iface u y)/\b=false):(Op.equalIn (d+1) t v .nilIface).run P w=.ok b w:=by
 rcases c with⟨rfl,rfl⟩|⟨⟨u,y,rfl⟩,rfl⟩<;>simp only[Op.equalIn,xag,und h,xac,xah]
theorem zIf(d:Nat){t e:TypeId}{x:Option Addr}(h:P.underlying t=some (.pointer e)):(Op.equalIn (d+1) t (.pointer x) (.pointer none)).run P w=.ok x.isNone w:=by
 cases x<;>simp only[Op.equalIn,xag,und h,xac,xah,Option.isNone]
theorem ztO(d:Nat){t:TypeId}{ps rs:Array TypeId}{c:Bool}{v:Value}{b:Bool}(h:P.underlying t=some (.func ps rs c))(e:(v=.nilFunc/\b=true)\/(∃f l m,v=.func f l m)/\b=false):(Op.equalIn (d+1) t v .nilFunc).run P w=.ok b w:=by
 rcases e with⟨rfl,rfl⟩|⟨⟨f,l,m,rfl⟩,rfl⟩<;>simp only[Op.equalIn,xag,und h,xac,xah]
theorem Rep.opq_inv{x:Value}(h:Rep G w .opq x):∃u y,x=.iface u y:=by cases h;exact⟨_,_,rfl⟩
theorem Rep.ptr_inv{id r c:Nat}{x:Value}(h:Rep G w (.ptr id r c) x):∃b sz N,G.ι id=some (b,sz,N)/\x=.pointer (some ⟨b,r*sz+c,none⟩):=by cases h with|ptr h=>exact⟨_,_,_,h,rfl⟩
theorem Rep.iptr_inv{cs:List AV}{x:Value}(h:Rep G w (.iptr cs) x):∃b off vs,x=.pointer (some ⟨b,off,none⟩)/\At G w b off vs/\zx G w cs vs:=by cases h with|iptr h c=>exact⟨_,_,_,rfl,h,c⟩
theorem Rep.fn_inv{k:Nat}{l m:List AV}{x:Value}(h:Rep G w (.fn k l m) x):∃f b c,x=.func (.func f) b.toArray c.toArray/\G.K k=some f/\zx G w l b/\zx G w m c:=by cases h with|fn d e g=>exact⟨_,_,_,rfl,d,e,g⟩
theorem Rep.agg_inv{cs:List AV}{x:Value}(h:Rep G w (.agg cs) x):∃vs,x=.agg vs.toArray/\zx G w cs vs:=by cases h with|agg h=>exact⟨_,rfl,h⟩
theorem Rep.tup_inv{cs:List AV}{x:Value}(h:Rep G w (.tup cs) x):∃vs,x=.tuple vs.toArray/\zx G w cs vs:=by cases h with|tup h=>exact⟨_,rfl,h⟩
theorem Rep.mp_inv{id:Nat}{x:Value}(h:Rep G w (.mp id) x):∃b sz N,G.ι id=some (b,sz,N)/\x=.map (some b):=by cases h with|mp h=>exact⟨_,_,_,h,rfl⟩
theorem Rep.arr_inv{id sz off len:Nat}{lim:Option Nat}{x:Value}(h:Rep G w (.arr id sz off len lim) x):
 ∃b N a,G.ι id=some (b,sz,N)/\off+len<=lim.getD N/\lim.getD N<=N/\(lim.getD N-off=0\/a=some ⟨b,off*sz,none⟩)/\x=.slice a len (lim.getD N-off):=by
 cases h with|arr h d e c f=>subst c;exact⟨_,_,_,h,d,e,f,rfl⟩
theorem Rep.lst_inv{sz:Nat}{full:Bool}{xs:List (List AV)}{x:Value}(h:Rep G w (.lst sz full xs) x):
 ∃a c,x=.slice a xs.length c/\xs.length<=c/\(full=true->c=xs.length)/\(xs=[]\/∃b off vs,a=some ⟨b,off,none⟩/\At G w b off vs.flatten/\zK G w sz xs vs):=by
 cases h with
 |nil h=>exact⟨_,_,rfl,Nat.zero_le _,h,.inl rfl⟩
 |lst hn hc hf h hr=>subst hn;exact⟨_,_,rfl,hc,hf,.inr ⟨_,_,_,rfl,h,hr⟩⟩
theorem zdx(e:Fr A D G ρ σ a w){o:Oper}{ne:Bool}{t f:TypeId}{x y:Operand}(g:o.op=.binOp (zbj ne) t x y f){b:Bool}
 (h:(eqGuard (zbj ne) t x y (a.eval x) (a.eval y)).run P w=.ok () w) (c:∀op,op=.eql\/op=.neq->binOp op t (a.eval x) (a.eval y)=match op with| .eql=>(do Pure.pure (.bool (<-Op.equal t (a.eval x) (a.eval y))))|_=>(do Pure.pure (.bool (!(<-Op.equal t (a.eval x) (a.eval y))))))
 (d:(Op.equal t (a.eval x) (a.eval y)).run P w=.ok b w):yr P A D G ρ σ a w (execOp a.eval o) (.b (if ne then !b else b)):=by
 refine .same e (x:=.bool (if ne then !b else b)) ?_ (Rep.sc rfl).trep;rw[zgF _ _ g];simp only[xag,h,xac];cases ne
 ·rw[show zbj false=.eql from rfl,c _ (.inl rfl)];simp only[xag,d,xac,xah];rfl
 ·rw[show zbj true=.neq from rfl,c _ (.inr rfl)];simp only[xag,d,xac,xah];rfl
theorem zGQ(i:Fr A D G ρ σ a w){o:Oper}{ne:Bool}{xs:List zo}(c:zR P G.K o.op (.eqB ne) xs=true){vs:List AV}(e:evs A σ.tm xs=some vs){v:AV}(hp:pev (.eqB ne) vs=some v):
 yr P A D G ρ σ a w (execOp a.eval o) v:=by
 simp only[zR]at c;split at c
 ·rename_i j t x y s k;simp only[xab,beq_iff_eq]at c;obtain⟨⟨rfl,l⟩,c⟩:=c;obtain⟨u,z,rfl,p,q⟩:=(yv i c e).two;have r:P.underlying t=some .bool:=by split at l<;>simp_all
  unfold pev at hp;dsimp only at hp;split at hp
  ·rename_i m n d;simp only[xak,and_true]at d;obtain⟨rfl,rfl⟩:=d;cases hp;have f:=p.sc;have g:=q.sc;have:=zdx (P:=P) i k (b:=m==n) (by rw[f,g];exact zIa) (by rw[f,g];rintro op (rfl|rfl)<;>rfl) (by rw[f,g];exact zIe 9999 r);have h:(if ne then m !=n else m==n)=(if ne then !(m==n)else m==n):=by cases ne<;>rfl
   rw[h];exact this
  ·cases hp
 ·cases c
theorem zG6(g:Fr A D G ρ σ a w){o:Oper}{ne:Bool}{xs:List zo}(c:zR P G.K o.op (.nilI ne) xs=true){vs:List AV}(h:evs A σ.tm xs=some vs){v:AV}(hp:pev (.nilI ne) vs=some v):
 yr P A D G ρ σ a w (execOp a.eval o) v:=by
 simp only[zR]at c;split at c
 ·rename_i k t x m i;simp only[xab,beq_iff_eq]at c;obtain⟨⟨rfl,l⟩,c⟩:=c;obtain⟨n,rfl,f⟩:=(yv g c h).one;obtain⟨ms,j⟩:∃ms,P.underlying t=some (.interface ms):=by split at l<;>simp_all
  unfold pev at hp;dsimp only at hp;split at hp
  ·rename_i d;simp only[xak,and_true]at d;subst d;cases hp;have e:=f.sc;have:=zdx (P:=P) g i (b:=true) (by rw[e];exact ztN (.inl rfl)) (by rw[e];rintro op (rfl|rfl)<;>rfl) (by rw[e];exact ztP 9999 j (.inl ⟨rfl,rfl⟩));cases ne<;>exact this
  ·rename_i d;simp only[xak,and_true]at d;subst d;cases hp;have f:Rep G w .opq (a.eval x):=f;obtain⟨u,y,e⟩:=f.opq_inv;have:=zdx (P:=P) g i (b:=false) (by rw[e];exact ztN (.inr ⟨u,y,rfl⟩)) (by rw[e];rintro op (rfl|rfl)<;>rfl) (by rw[e];exact ztP 9999 j (.inr ⟨⟨u,y,rfl⟩,rfl⟩));cases ne<;>exact this
  ·cases hp
 ·cases c
theorem zG7(i:Fr A D G ρ σ a w){o:Oper}{ne:Bool}{xs:List zo}(d:zR P G.K o.op (.nilP ne) xs=true){vs:List AV}(h:evs A σ.tm xs=some vs){v:AV}(hp:pev (.nilP ne) vs=some v):
 yr P A D G ρ σ a w (execOp a.eval o) v:=by
 simp only[zR]at d;split at d
 ·rename_i j t x p k;simp only[xab,beq_iff_eq]at d;obtain⟨⟨rfl,l⟩,d⟩:=d;obtain⟨q,rfl,f⟩:=(yv i d h).one;obtain⟨e,m⟩:∃e,P.underlying t=some (.pointer e):=by split at l<;>simp_all
  have key:∀{b:Bool} {z:Option Addr},a.eval x=.pointer z->z.isNone=b->yr P A D G ρ σ a w (execOp a.eval o) (.b (if ne then !b else b)):=by
   intro b z g n;exact zdx (P:=P) i k (b:=b) (by rw[g];exact zIc) (by rw[g];rintro op (rfl|rfl)<;>rfl) (by rw[g,<-n];exact zIf 9999 m)
  unfold pev at hp;dsimp only at hp;split at hp
  ·rename_i c;simp only[xak,and_true]at c;subst c;cases hp;have:=key (b:=true) f.sc rfl;cases ne<;>exact this
  ·rename_i c;simp only[xak,and_true]at c;subst c;cases hp;have f:Rep G w _ (a.eval x):=f;obtain⟨_,_,_,_,g⟩:=f.ptr_inv;have:=key (b:=false) g rfl;cases ne<;>exact this
  ·rename_i c;simp only[xak,and_true]at c;subst c;cases hp;have f:Rep G w _ (a.eval x):=f;obtain⟨_,_,_,g,_⟩:=f.iptr_inv;have:=key (b:=false) g rfl;cases ne<;>exact this
  ·cases hp
 ·cases d
theorem zG5(h:Fr A D G ρ σ a w){o:Oper}{ne:Bool}{xs:List zo}(c:zR P G.K o.op (.nilF ne) xs=true){vs:List AV}(i:evs A σ.tm xs=some vs){v:AV}(hp:pev (.nilF ne) vs=some v):
 yr P A D G ρ σ a w (execOp a.eval o) v:=by
 simp only[zR]at c;split at c
 ·rename_i p t x r j;simp only[xab,beq_iff_eq]at c;obtain⟨⟨rfl,q⟩,c⟩:=c;obtain⟨s,rfl,g⟩:=(yv h c i).one;obtain⟨ps,rs,k,n⟩:∃ps rs k,P.underlying t=some (.func ps rs k):=by split at q<;>simp_all
  unfold pev at hp;dsimp only at hp;split at hp
  ·rename_i d;simp only[xak,and_true]at d;subst d;cases hp;have e:=g.sc;have:=zdx (P:=P) h j (b:=true) (by rw[e];exact ztM (.inl rfl)) (by rw[e];rintro op (rfl|rfl)<;>rfl) (by rw[e];exact ztO 9999 n (.inl ⟨rfl,rfl⟩));cases ne<;>exact this
  ·rename_i d;simp only[xak,and_true]at d;subst d;cases hp;have g:Rep G w _ (a.eval x):=g;obtain⟨u,y,z,e,_⟩:=g.fn_inv;obtain⟨f,l,m,e⟩:∃f l m,a.eval x=.func f l m:=⟨_,_,_,e⟩;have:=zdx (P:=P) h j (b:=false) (by rw[e];exact ztM (.inr ⟨f,l,m,rfl⟩)) (by rw[e];rintro op (rfl|rfl)<;>rfl) (by rw[e];exact ztO 9999 n (.inr ⟨⟨f,l,m,rfl⟩,rfl⟩));cases ne<;>exact this
  ·cases hp
 ·cases c
theorem zHg(e:Fr A D G ρ σ a w){o:Oper}{op:UnOp}{xs:List zo}(c:zR P G.K o.op (.un op) xs=true){vs:List AV}(f:evs A σ.tm xs=some vs){v:AV}(hp:pev (.un op) vs=some v):
 yr P A D G ρ σ a w (execOp a.eval o) v:=by
 simp only[zR]at c;split at c
 ·rename_i i t x g;simp only[xab,beq_iff_eq]at c;obtain⟨rfl,c⟩:=c;obtain⟨j,rfl,h⟩:=(yv e c f).one;unfold pev at hp;dsimp only at hp;split at hp
  ·rename_i b d;simp only[xak,and_true]at d;subst d;cases hp;exact .same e (x:=.bool !b) (by rw[zo9 _ _ g,h.sc];rfl) (Rep.sc rfl).trep
  ·rename_i k n d;simp only[xak,and_true]at d;subst d;cases hp;exact .same e (x:=.int k (k.wrap (0-n))) (by rw[zo9 _ _ g,h.sc];rfl) (Rep.sc rfl).trep
  ·cases hp
 ·cases c
theorem zHf(h:Fr A D G ρ σ a w){o:Oper}{k:IntKind}{xs:List zo}(b:zR P G.K o.op (.toInt k) xs=true){vs:List AV}(e:evs A σ.tm xs=some vs){v:AV}(hp:pev (.toInt k) vs=some v):
 yr P A D G ρ σ a w (execOp a.eval o) v:=by
 simp only[zR]at b;split at b
 ·rename_i s d x i;simp only[xab]at b;obtain⟨⟨f,g⟩,b⟩:=b;obtain⟨l,rfl,j⟩:=(yv h b e).one;obtain⟨ds,f⟩:=Option.isSome_iff_exists.1 f;have g:P.underlying d=some (.int k):=by split at g<;>simp_all
  unfold pev at hp;dsimp only at hp;split at hp
  ·rename_i m n c;simp only[xak,and_true]at c;subst c;cases hp;refine .same h (x:=.int k (k.wrap n)) ?_ (Rep.sc rfl).trep;rw[zgG _ _ i,j.sc];simp only[convert,xag,und f,und g,xac,Conv.intToInt,xah]
  ·cases hp
 ·cases b
theorem zHe(h:Fr A D G ρ σ a w){o:Oper}{xs:List zo}(b:zR P G.K o.op .sstr xs=true){vs:List AV}(e:evs A σ.tm xs=some vs){v:AV}(hp:pev .sstr vs=some v):
 yr P A D G ρ σ a w (execOp a.eval o) v:=by
 simp only[zR]at b;split at b
 ·rename_i s d x i;simp only[xab]at b;obtain⟨⟨f,g⟩,b⟩:=b;obtain⟨k,rfl,j⟩:=(yv h b e).one;obtain⟨ds,f⟩:=Option.isSome_iff_exists.1 f;have g:P.underlying d=some .string:=by split at g<;>simp_all
  unfold pev at hp;dsimp only at hp;split at hp
  ·rename_i n c;simp only[xak,and_true]at c;subst c;cases hp;refine .same h (x:=.string n) ?_ (Rep.sc rfl).trep;rw[zgG _ _ i,j.sc];simp only[convert,xag,und f,und g,xac,xah]
  ·cases hp
 ·cases b
theorem zHa(h:Fr A D G ρ σ a w){o:Oper}{xs:List zo}(b:zR P G.K o.op .runeStr xs=true){vs:List AV}(e:evs A σ.tm xs=some vs){v:AV}(hp:pev .runeStr vs=some v):
 yr P A D G ρ σ a w (execOp a.eval o) v:=by
 simp only[zR]at b;split at b
 ·rename_i s d x i;simp only[xab]at b;obtain⟨⟨f,g⟩,b⟩:=b;obtain⟨l,rfl,j⟩:=(yv h b e).one;obtain⟨ds,f⟩:=Option.isSome_iff_exists.1 f;have g:P.underlying d=some .string:=by split at g<;>simp_all
  unfold pev at hp;dsimp only at hp;split at hp
  ·rename_i k n c;simp only[xak,and_true]at c;subst c;cases hp;refine .same h (x:=.string (Utf8.encode n)) ?_ (Rep.sc rfl).trep;rw[zgG _ _ i,j.sc];simp only[convert,xag,und f,und g,xac,xah,Conv.intToString]
  ·cases hp
 ·cases b
end
section
variable{A:zA}{D:Nat->Prop}{G:Gh}{ρ:Nat->Option Nat}{σ:ASt}{a:Act}{w:World}{P:Program}{rg:Nat->Option (List AV)}
theorem zao(b off n:Nat):(⟨b,off,none⟩:Addr).add n=⟨b,off+n,none⟩:=by
 unfold Addr.add;split<;>simp_all
theorem At.row{b off sz:Nat}{rs:List (List AV)}{vs:List (List Value)}(h:At G w b off vs.flatten)(f:zK G w sz rs vs){i:Nat}{v:List Value}(g:vs[i]?=some v):At G w b (off+i*sz) v:=by
 obtain⟨k,l⟩:=f.flat_get i g;intro j u c;have d:j<sz:=by
  rw[<-k];rcases Nat.lt_or_ge j v.length with e|e
  ·exact e
  ·rw[xap e]at c;cases c
 have:=h (i*sz+j) u (by rw[l j d];exact c);rw[Nat.add_assoc];exact this
theorem At.append{b off:Nat}{l m:List Value}(h:At G w b off l)(c:At G w b (off+l.length) m):At G w b off (l++m):=by
 intro i v e;by_cases d:i<l.length
 ·rw[xaG d]at e;exact h i v e
 ·rw[xaF (by omega)]at e;have:=c (i-l.length) v e;rw[show off+l.length+(i-l.length)=off+i by omega]at this;exact this
theorem At.nil{b off:Nat}:At G w b off []:=by intro i v e;simp at e
theorem At.of_rows{b sz:Nat}:∀{rs:List (List AV)} {vs:List (List Value)} {off:Nat},zK G w sz rs vs->(∀i v,vs[i]?=some v->At G w b (off+i*sz) v)->At G w b off vs.flatten
 |_,_,_,.nil,_=>At.nil
 |_,_,off,.cons (v:=v) (vs:=vs) h e _ t,ha=>by
  rw[List.flatten_cons];refine At.append (by simpa using ha 0 v (by simp)) (At.of_rows t fun i u c=>?_);have:=ha (i+1) u (by simpa using c);rw[<-h.length,e];rw[show off+sz+i*sz=off+(i+1)*sz by rw[Nat.add_mul];omega];exact this
theorem At.sub{b off sz:Nat}{rs:List (List AV)}{vs:List (List Value)}(h:At G w b off vs.flatten)(d:zK G w sz rs vs)(l n:Nat):At G w b (off+l*sz) ((vs.take n).drop l).flatten:=by
 refine At.of_rows ((d.take n).drop l) fun i v c=>?_;rw[List.getElem?_drop,xaq]at c;split at c
 ·have:=h.row d c;rw[show off+l*sz+i*sz=off+(l+i)*sz by rw[Nat.add_mul];omega];exact this
 ·cases c
theorem zjl{cs:List AV}{vs:List Value}{off sz:Nat}{agg:Bool}{v:AV}(h:zx G w cs vs)(g:off+sz<=cs.length)(f:(agg||sz==1)=true)(c:zaU agg ((cs.drop off).take sz)=some v):
 Rep G w v (if agg then .agg ((vs.drop off).take sz).toArray else vs.getD off undef):=by
 have b:=(h.drop off).take sz;unfold zaU at c;cases agg with
 |true=>simp only[if_true]at c ⊢;cases c;exact .agg b
 |false=>
  simp at f;subst f;simp only[xau,if_false]at c ⊢;split at c
  ·rename_i u d;cases c;rw[d]at b;cases e:(vs.drop off).take 1 with
   |nil=>rw[e]at b;cases b
   |cons y ys=>
    rw[e]at b;cases b with
    |cons hh ht=>
     have:vs[off]?=some y:=by
      have:=congrArg (fun l=>l[0]?) e;simp[xaq,List.getElem?_drop]at this;exact this
     rw[xar,this];exact hh
  ·cases c
theorem ztY{t off sz:Nat}{agg:Bool}{vs:List Value}(c:yS P t=some sz)(b:zap P t=some agg)(e:off+sz<=vs.length)(d:(agg||sz==1)=true):
 (part t vs.toArray off).run P w=.ok (if agg then .agg ((vs.drop off).take sz).toArray else vs.getD off undef) w:=by
 cases agg with
 |true=>
  simp only[part,xag,agr b,xac,if_true,siz c,xah];congr 2;simp only[List.extract_toArray,List.extract_eq_drop_take',Nat.add_sub_cancel_left,List.drop_take]
 |false=>
  simp at d;subst d;simp only[part,xag,agr b,xac,xau,if_false];have:vs.toArray[off]?=some vs[off]:=by simp[show off<vs.length by omega]
  rw[this];simp only[xah,xar,List.getElem?_eq_getElem (show off<vs.length by omega),Option.getD_some]
theorem zGT(k:Fr A D G ρ σ a w){o:Oper}{off sz:Nat}{agg:Bool}{xs:List zo}(b:zR P G.K o.op (.field off sz agg) xs=true){vs:List AV}(g:evs A σ.tm xs=some vs){v:AV}(hp:pev (.field off sz agg) vs=some v):
 yr P A D G ρ σ a w (execOp a.eval o) v:=by
 simp only[zR]at b;split at b
 ·rename_i t x f p;simp only[xab]at b;obtain⟨⟨d,l⟩,b⟩:=b;obtain⟨y,rfl,q⟩:=(yv k b g).one;unfold ziJ at d;split at d
  ·rename_i r c;split at c
   ·rename_i fs s;simp only[xab,beq_iff_eq]at d;obtain⟨⟨rfl,h⟩,i⟩:=d;unfold pev at hp;dsimp only at hp;split at hp
    ·rename_i cs e;simp only[xak,and_true]at e;subst e;split at hp
     ·rename_i j;obtain⟨us,u,m⟩:=Rep.agg_inv (x:=a.eval x) q;have n:=m.length;refine .same k ?_ (zjl m j l hp).trep;rw[zAj _ _ p,u];simp only[Instr.field,xag,und s,xac,c,Go.asAgg,xah,ztY h i (show r.offset+sz<=us.length by omega) l]
     ·cases hp
    ·cases hp
   ·cases c
  ·cases d
 ·cases b
theorem zGS(k:Fr A D G ρ σ a w){o:Oper}{off:Nat}{xs:List zo}(e:zR P G.K o.op (.faddr off) xs=true){vs:List AV}(l:evs A σ.tm xs=some vs){v:AV}(hp:pev (.faddr off) vs=some v):
 yr P A D G ρ σ a w (execOp a.eval o) v:=by
 simp only[zR]at e;split at e
 ·rename_i t x f y;simp only[xab]at e;obtain⟨j,e⟩:=e;obtain⟨H,rfl,m⟩:=(yv k e l).one;unfold ziJ at j;split at j
  ·rename_i u h;split at h
   ·rename_i fs z;simp only[xab,beq_iff_eq]at j;obtain⟨rfl,g⟩:=j;cases p:yS P u.type with
    |none=>rw[p]at g;cases g
    |some n=>
     rw[p]at g;have q:n≠0:=by simpa using g
     have run:∀b o',a.eval x=.pointer (some ⟨b,o',none⟩)->(execOp a.eval o).run P w=.ok (.value (.pointer (some ⟨b,o'+u.offset,none⟩))) w:=by
      intro b o' i;rw[zAk _ _ y,i];simp only[Instr.fieldAt,xag,und z,xac,h,Instr.sureAddr,xah,fieldPlace,siz p,if_neg q,zao]
     unfold pev at hp;dsimp only at hp;split at hp
     ·rename_i cs d;simp only[xak,and_true]at d;subst d;cases hp;obtain⟨b,o',us,i,s,B⟩:=Rep.iptr_inv (x:=a.eval x) m;exact .same k (run b o' i) (Rep.iptr (s.drop _) (B.drop _)).trep
     ·rename_i id r c d;simp only[xak,and_true]at d;subst d;cases hp;obtain⟨b,sz,N,C,i⟩:=Rep.ptr_inv (x:=a.eval x) m;refine .same k (run _ _ i) ?_;rw[Nat.add_assoc];exact(Rep.ptr C).trep
     ·rename_i r c d;simp only[xak,and_true]at d;subst d;cases hp;obtain⟨E,b,F,i⟩:=m;exact .same k (run _ _ i) ⟨E,b,F,rfl⟩
     ·cases hp
   ·cases h
  ·cases j
 ·cases e
theorem zlN{e:Option TypeId}{sz:Nat}(h:zfo P e sz=true):∃t,e=some t/\yS P t=some sz:=by
 unfold zfo at h;split at h
 ·exact⟨_,rfl,by simpa using h⟩
 ·cases h
theorem zfT{t e:TypeId}(h:za5 P t=some e):P.underlying t=some (.slice e):=by
 unfold za5 at h;split at h
 ·cases h;assumption
 ·cases h
theorem znY{t:TypeId}{sz len:Nat}(h:zgh P t sz len=true):∃e,P.underlying t=some (.array len e)/\yS P e=some sz:=by
 unfold zgh at h;split at h
 ·simp at h;obtain⟨rfl,h⟩:=h;exact⟨_,by assumption,h⟩
 ·cases h
theorem ztT{t e:TypeId}{sz len cap b off:Nat}{k:IntKind}{n:Int}(c:P.underlying t=some (.slice e))(d:yS P e=some sz)(f:0<=n)(g:n<len):
 (Instr.indexAt t (.slice (some ⟨b,off,none⟩) len cap) (.int k n)).run P w=.ok (.pointer (some ⟨b,off+n.toNat*sz,none⟩)) w:=by
 simp only[Instr.indexAt,Go.asIntOf,xag,xah,xac,und c,if_pos (And.intro f g),siz d,zao]
theorem zIg{t e:TypeId}{sz len b off:Nat}{k:IntKind}{n:Int}(c:P.underlying t=some (.array len e))(d:yS P e=some sz)(f:0<=n)(g:n<len):
 (Instr.indexAt t (.pointer (some ⟨b,off,none⟩)) (.int k n)).run P w=.ok (.pointer (some ⟨b,off+n.toNat*sz,none⟩)) w:=by
 simp only[Instr.indexAt,Go.asIntOf,xag,xah,xac,und c,Instr.sureAddr,if_pos (And.intro f g),siz d,zao]
theorem zGU(m:Fr A D G ρ σ a w){o:Oper}{sz:Nat}{xs:List zo}(d:zR P G.K o.op (.iaddr sz) xs=true){vs:List AV}(p:evs A σ.tm xs=some vs){v:AV}(hp:pev (.iaddr sz) vs=some v):
 yr P A D G ρ σ a w (execOp a.eval o) v:=by
 simp only[zR]at d;split at d
 ·rename_i t x y E;simp only[xab]at d;obtain⟨M,d⟩:=d;obtain⟨e,O,F⟩:=zlN M;have H:=zfT O;obtain⟨S,T,rfl,I,J⟩:=(yv m d p).two;unfold pev at hp;dsimp only at hp;split at hp
  ·rename_i sz' full rows k n f;simp only[xak,and_true]at f;obtain⟨rfl,rfl⟩:=f;split at hp
   ·rename_i l;obtain⟨q,rfl⟩:=l;cases g:rows[n.toNat]? with
    |none=>rw[g]at hp;cases hp
    |some row=>
     rw[g]at hp;cases hp;obtain⟨ad,c,s,l,U,Q⟩:=Rep.lst_inv (x:=a.eval x) I;have i:n.toNat<rows.length:=by
      rcases Nat.lt_or_ge n.toNat rows.length with h|h
      ·exact h
      ·rw[xap h]at g;cases g
     rcases Q with rfl|⟨b,off,us,rfl,z,j⟩
     ·simp at i
     ·obtain⟨u,B,C,_,_⟩:=j.get n.toNat g;refine .same m (x:=.pointer (some ⟨b,off+n.toNat*sz',none⟩)) ?_ (Rep.iptr (z.row j B) C).trep;rw[zkJ _ _ E,s,J.sc];simp only[xag,ztT (len:=rows.length) H F q (by omega),xac,xah]
   ·cases hp
  ·rename_i id sz' off len lim k n f;simp only[xak,and_true]at f;obtain⟨rfl,rfl⟩:=f;split at hp
   ·rename_i l;obtain⟨q,i,rfl⟩:=l;cases hp;obtain⟨b,N,ad,R,V,W,L,s⟩:=Rep.arr_inv (x:=a.eval x) I;rcases L with L|rfl
    ·omega
    ·have g:Rep G w (.ptr id (off+n.toNat) 0) (.pointer (some ⟨b,off*sz'+n.toNat*sz',none⟩)):=by
      have:=Rep.ptr (G:=G) (w:=w) (r:=off+n.toNat) (c:=0) R;rw[Nat.add_zero,Nat.add_mul]at this;exact this
     refine .same m ?_ g.trep;rw[zkJ _ _ E,s,J.sc];simp only[xag,ztT H F q i,xac,xah]
   ·cases hp
  ·cases hp
 ·cases d
theorem zGV(j:Fr A D G ρ σ a w){o:Oper}{sz len:Nat}{xs:List zo}(f:zR P G.K o.op (.iaddrA sz len) xs=true){vs:List AV}(l:evs A σ.tm xs=some vs){v:AV}(hp:pev (.iaddrA sz len) vs=some v):
 yr P A D G ρ σ a w (execOp a.eval o) v:=by
 simp only[zR]at f;split at f
 ·rename_i t x y s;simp only[xab]at f;obtain⟨u,f⟩:=f;obtain⟨e,z,B⟩:=znY u;obtain⟨J,L,rfl,i,m⟩:=(yv j f l).two;have run:∀b off k n,a.eval x=.pointer (some ⟨b,off,none⟩)->a.eval y=.int k n->0<=n->n<len->(execOp a.eval o).run P w=.ok (.value (.pointer (some ⟨b,off+n.toNat*sz,none⟩))) w:=by
   intro b off k n h C E i;rw[zkJ _ _ s,h,C];simp only[xag,zIg z B E i,xac,xah]
  unfold pev at hp;dsimp only at hp;split at hp
  ·rename_i cs k n d;simp only[xak,and_true]at d;obtain⟨rfl,rfl⟩:=d;split at hp
   ·rename_i g;cases hp;obtain⟨b,off,us,h,p,F⟩:=Rep.iptr_inv (x:=a.eval x) i;exact .same j (run b off k n h m.sc g.1 g.2) (Rep.iptr (p.drop _) (F.drop _)).trep
   ·cases hp
  ·rename_i id r c k n d;simp only[xak,and_true]at d;obtain⟨rfl,rfl⟩:=d;split at hp
   ·rename_i g;cases hp;obtain⟨b,sz',N,H,h⟩:=Rep.ptr_inv (x:=a.eval x) i;refine .same j (run _ _ k n h m.sc g.1 g.2) ?_;rw[Nat.add_assoc];exact(Rep.ptr H).trep
   ·cases hp
  ·rename_i r c k n d;simp only[xak,and_true]at d;obtain⟨rfl,rfl⟩:=d;split at hp
   ·rename_i g;cases hp;obtain⟨q,b,I,h⟩:=i;exact .same j (run _ _ k n h m.sc g.1 g.2) ⟨q,b,I,rfl⟩
   ·cases hp
  ·cases hp
 ·cases f
theorem zi4{d:Option TypeDesc}(h:(d matches some .string)=true):d=some .string:=by split at h<;>simp_all
theorem zGY(i:Fr A D G ρ σ a w){o:Oper}{xs:List zo}(c:zR P G.K o.op .indexS xs=true){vs:List AV}(f:evs A σ.tm xs=some vs){v:AV}(hp:pev .indexS vs=some v):
 yr P A D G ρ σ a w (execOp a.eval o) v:=by
 simp only[zR]at c;split at c
 ·rename_i t x y j;simp only[xab]at c;obtain⟨l,c⟩:=c;have m:=zi4 l;obtain⟨u,z,rfl,p,q⟩:=(yv i c f).two;unfold pev at hp;dsimp only at hp;split at hp
  ·rename_i s k n e;simp only[xak,and_true]at e;obtain⟨rfl,rfl⟩:=e;split at hp
   ·rename_i r;cases g:s.data[n.toNat]? with
    |none=>rw[g]at hp;cases hp
    |some b=>
     rw[g]at hp;cases hp;have h:s[n.toNat]?=some b:=by
      rw[<-g];by_cases d:n.toNat<s.size
      ·have:n.toNat<s.data.size:=d;rw[getElem?_pos s n.toNat d,getElem?_pos s.data n.toNat this];rfl
      ·have:¬n.toNat<s.data.size:=d;rw[getElem?_neg s n.toNat d,getElem?_neg s.data n.toNat this]
     refine .same i (x:=.int .u8 b.toNat) ?_ (Rep.sc rfl).trep;rw[zo5 _ _ j,p.sc,q.sc];simp only[Instr.index,Go.asIntOf,xag,xah,xac,und m,if_pos r,h]
   ·cases hp
  ·cases hp
 ·cases c
theorem zGX(j:Fr A D G ρ σ a w){o:Oper}{sz len:Nat}{agg:Bool}{xs:List zo}(b:zR P G.K o.op (.indexA sz len agg) xs=true){vs:List AV}(f:evs A σ.tm xs=some vs){v:AV}(hp:pev (.indexA sz len agg) vs=some v):
 yr P A D G ρ σ a w (execOp a.eval o) v:=by
 simp only[zR]at b;split at b
 ·rename_i t x y r;simp only[xab]at b;obtain⟨⟨⟨s,g⟩,c⟩,b⟩:=b;obtain⟨e,l,m⟩:=znY s;have h:zap P e=some agg:=by unfold znX at g;rw[l]at g;simpa using g
  obtain⟨C,E,rfl,u,z⟩:=(yv j b f).two;unfold pev at hp;dsimp only at hp;split at hp
  ·rename_i cs k n d;simp only[xak,and_true]at d;obtain⟨rfl,rfl⟩:=d;split at hp
   ·rename_i i;obtain⟨us,B,p⟩:=Rep.agg_inv (x:=a.eval x) u;have q:=p.length;refine .same j ?_ (zjl p i.2.2 c hp).trep;rw[zo5 _ _ r,B,z.sc];simp only[Instr.index,Go.asIntOf,xag,xah,xac,und l,if_pos (And.intro i.1 i.2.1),siz m,ztY m h (show n.toNat*sz+sz<=us.length by omega) c]
   ·cases hp
  ·cases hp
 ·cases b
theorem zzj{v:AV}{b n:Nat}(h:zM v b=some n):∃k i,v=.sc (.int k i)/\0<=i/\i<=b/\i.toNat=n:=by
 unfold zM at h;split at h
 ·split at h
  ·rename_i c;cases h;exact⟨_,_,rfl,c.1,c.2,rfl⟩
  ·cases h
 ·cases h
theorem zH4{x:Value}{k:IntKind}{i:Int}{y n:Nat}{code:BoundsCode}(b:x=.int k i)(c:0<=i)(d:i<=y)(e:i.toNat=n):(Instr.sliceBound x y code).run P w=.ok n w:=by
 subst b;simp only[Instr.sliceBound,Go.asIntOf,xag,xah,xac,if_pos (And.intro c d),e]
end
section
variable{A:zA}{D:Nat->Prop}{G:Gh}{ρ:Nat->Option Nat}{σ:ASt}{a:Act}{w:World}{P:Program}{rg:Nat->Option (List AV)}
theorem zGO(M:Fr A D G ρ σ a w){o:Oper}{xs:List zo}(g:zR P G.K o.op .bytesStr xs=true){vs:List AV}(z:evs A σ.tm xs=some vs){v:AV}(hp:pev .bytesStr vs=some v):
 yr P A D G ρ σ a w (execOp a.eval o) v:=by
 simp only[zR]at g;split at g
 ·rename_i s d x O;simp only[xab]at g;obtain⟨⟨B,p⟩,g⟩:=g;have B:=zi4 B;obtain⟨e,p,Q⟩:∃e,P.underlying s=some (.slice e)/\P.underlying e=some (.int .u8):=by
   unfold zrV at p;split at p
   ·rename_i e C;refine⟨e,C,?_⟩;split at p<;>simp_all
   ·cases p
  obtain⟨X,rfl,E⟩:=(yv M g z).one;unfold pev at hp;dsimp only at hp;split at hp
  ·rename_i sz full rows i;simp only[xak,and_true]at i;subst i;cases f:bytesOf rows with
   |none=>rw[f]at hp;cases hp
   |some l=>
    rw[f]at hp;cases hp;obtain⟨ad,c,F,R,Y,S⟩:=Rep.lst_inv (x:=a.eval x) E;refine .same M (x:=.string ⟨l.toArray⟩) ?_ (Rep.sc rfl).trep;rw[zgG _ _ O,F];simp only[xag,run_convert_bytes_string w s d e _ _ _ p Q B];rcases S with rfl|⟨b,off,us,rfl,H,I⟩
    ·simp[bytesOf]at f;subst f;cases ad with
     |none=>rfl
     |some ad=>rfl
    ·
     have key:∀{rows:List (List AV)} {us:List (List Value)} {l:List UInt8},zK G w sz rows us->bytesOf rows=some l->∃k:List Int,us.flatten=k.map (Value.int .u8)/\k.length=rows.length/\l=k.map fun n=>UInt8.ofNat n.toNat:=by
      intro rows
      induction rows with
      |nil=>intro us l J f;cases J;simp[bytesOf]at f;subst f;exact⟨[],rfl,rfl,rfl⟩
      |cons r rows ih=>
       intro us l J f;cases J with
       |cons h hl R t=>
        unfold bytesOf at f;split at f
        ·rename_i i;cases i
        ·rename_i n L i;obtain⟨rfl,rfl⟩:=List.cons.inj i;cases m:bytesOf rows with
         |none=>rw[m]at f;cases f
         |some l'=>
          rw[m]at f;cases f;obtain⟨k,F,T,U⟩:=ih t m;cases h with
          |cons h0 E=>
           cases E;cases h0;exact⟨n::k,by simp[F],by simp[T],by simp[U]⟩
        ·cases f
     obtain⟨k,N,V,W⟩:=key I f;have q:=run_loadCells_list (P:=P) (w:=w) (⟨b,off,none⟩:Addr) us.flatten (by
      intro j u C;rw[zao];exact(H j u C).2)
     have y:us.flatten.length=rows.length:=by rw[N,xaH,V]
     rw[y,N]at q;rw[run_bytesToString (P:=P) (w:=w) (⟨b,off,none⟩:Addr) rows.length c k q];simp only[xac,xah];subst W;have:∀(k:List Int) (s:ByteArray),k.foldl (fun r n=>r.push (UInt8.ofNat n.toNat)) s=⟨s.data++(k.map fun n=>UInt8.ofNat n.toNat).toArray⟩:=by
      intro k
      induction k with
      |nil=>intro s;cases s;simp
      |cons n k ih=>intro s;rw[List.foldl_cons,ih];cases s;simp[ByteArray.push]
     rw[this];simp[ByteArray.empty,ByteArray.emptyWithCapacity];rfl
  ·cases hp
 ·cases g
theorem TL.more{vs:List AV}{x:Value}{xs:List Value}(h:TL G ρ rg w vs (x::xs)):∃v us,vs=v::us/\yP G ρ rg w v x/\TL G ρ rg w us xs:=by
 obtain _|⟨h,t⟩:=h;exact⟨_,_,rfl,h,t⟩
theorem y3{v:AV}{x:Value}{b y n:Nat}{code:BoundsCode}(c:zM v b=some n)(d:yP G ρ rg w v x)(g:b<=y):(Instr.sliceBound x y code).run P w=.ok n w/\n<=b:=by
 obtain⟨k,i,rfl,e,h,f⟩:=zzj c;exact⟨zH4 d.sc e (by omega) f,by omega⟩
structure Bds(P:Program)(w:World)(isS:Bool)(len cap:Nat)(lo hi mx:Option Value)(l h m:Nat):Prop where
 run:(Instr.sliceBounds isS len cap lo hi mx).run P w=.ok (l,h,m) w
 lh:l<=h
 hm:h<=m
theorem zkl{b:Bool}{len cap:Nat}(c:len<=cap):Bds P w b len cap none none none 0 len cap:=
 ⟨by simp only[Instr.sliceBounds,xag,xah,xac],Nat.zero_le _,c⟩
theorem zkj{b:Bool}{len cap l:Nat}{v:AV}{x:Value}(e:len<=cap)(c:zM v len=some l)(d:yP G ρ rg w v x):Bds P w b len cap (some x) none none l len cap:=
 ⟨by simp only[Instr.sliceBounds,xag,xah,xac,(y3 (P:=P) c d (xad _)).1],(y3 (P:=P) (code:=.index) c d (xad _)).2,e⟩
theorem zki{b:Bool}{len cap h:Nat}{v:AV}{x:Value}(c:len<=cap)(d:zM v len=some h)(e:yP G ρ rg w v x):Bds P w b len cap none (some x) none 0 h cap:=by
 have f:=(y3 (P:=P) (code:=.index) d e c).2;exact⟨by simp only[Instr.sliceBounds,xag,xah,xac,(y3 (P:=P) d e c).1],Nat.zero_le _,by omega⟩
theorem zkk{c:Bool}{len cap l h:Nat}{v u:AV}{x y:Value}(d:len<=cap)(e:zM v len=some h)(f:yP G ρ rg w v x)(b:zM u h=some l)(g:yP G ρ rg w u y):Bds P w c len cap (some y) (some x) none l h cap:=by
 have i:=(y3 (P:=P) (code:=.index) e f d).2;exact⟨by simp only[Instr.sliceBounds,xag,xah,xac,(y3 (P:=P) e f d).1,(y3 (P:=P) b g (xad _)).1],(y3 (P:=P) (code:=.index) b g (xad _)).2,by omega⟩
theorem zoa{c:Bool}{len cap h m:Nat}{v u:AV}{x y:Value}(e:len<=cap)(f:zM v len=some m)(g:yP G ρ rg w v x)(b:zM u m=some h)(d:yP G ρ rg w u y):Bds P w c len cap none (some y) (some x) 0 h m:=
 ⟨by simp only[Instr.sliceBounds,xag,xah,xac,(y3 (P:=P) f g e).1,(y3 (P:=P) b d (xad _)).1],Nat.zero_le _,(y3 (P:=P) (code:=.index) b d (xad _)).2⟩
theorem zob{d:Bool}{len cap l h m:Nat}{v u t:AV}{x y z:Value}(g:len<=cap)(i:zM v len=some m)(j:yP G ρ rg w v x)(c:zM u m=some h)(e:yP G ρ rg w u y)(b:zM t h=some l)(f:yP G ρ rg w t z):
 Bds P w d len cap (some z) (some y) (some x) l h m:=
 ⟨by simp only[Instr.sliceBounds,xag,xah,xac,(y3 (P:=P) i j g).1,(y3 (P:=P) c e (xad _)).1,(y3 (P:=P) b f (xad _)).1],(y3 (P:=P) (code:=.index) b f (xad _)).2,(y3 (P:=P) (code:=.index) c e (xad _)).2⟩
theorem zIt{t e:TypeId}{sz len cap l h m:Nat}{ad:Option Addr}{lo b mx:Option Value}(c:P.underlying t=some (.slice e))(d:yS P e=some sz)(f:Bds P w true len cap lo b mx l h m):
 (Instr.sliceAt t (.slice ad len cap) lo b mx).run P w=.ok (.slice (if m=l then ad else ad.map (·.add (l*sz))) (h-l) (m-l)) w:=by
 simp only[Instr.sliceAt,Instr.slice,xag,und c,xac,f.run,siz d,xah]
theorem zdJ{sz:Nat}{full full':Bool}{xs:List (List AV)}{ad:Option Addr}{c l h m:Nat}(n:Rep G w (.lst sz full xs) (.slice ad xs.length c))(p:l<=h)(q:h<=m)(r:h<=xs.length)(k:full'=true->m=h):
 Rep G w (.lst sz full' ((xs.take h).drop l)) (.slice (if m=l then ad else ad.map (·.add (l*sz))) (h-l) (m-l)):=by
 obtain⟨s,c',t,v,i,e⟩:=n.lst_inv;cases t;have d:((xs.take h).drop l).length=h-l:=by simp;omega
 by_cases u:h=l
 ·subst u;have:(xs.take h).drop h=[]:=by simp
  rw[this,Nat.sub_self];exact .nil fun f=>by rw[k f,Nat.sub_self]
 ·rcases e with rfl|⟨b,off,vs,rfl,j,g⟩
  ·simp at r;omega
  ·rw[if_neg (by omega)];simp only[xam,zao];exact .lst d.symm (by omega) (fun f=>by rw[d,k f]) (j.sub g l h) ((g.take h).drop l)
theorem zcR{id sz off len l h m:Nat}{lim lim':Option Nat}{ad:Option Addr}{cap:Nat}(i:Rep G w (.arr id sz off len lim) (.slice ad len cap))(j:l<=h)(k:h<=m)(r:h<=len)
 (d:(m=cap/\lim'=lim)\/(m<=len/\lim'=some (off+m))):
 Rep G w (.arr id sz (off+l) (h-l) lim') (.slice (if m=l then ad else ad.map (·.add (l*sz))) (h-l) (m-l)):=by
 obtain⟨b,N,n,f,s,p,g,q⟩:=i.arr_inv;cases q;have c:m-l=0\/(if m=l then ad else ad.map (·.add (l*sz)))=some ⟨b,(off+l)*sz,none⟩:=by
  by_cases e:m=l
  ·left;omega
  ·right;rw[if_neg e];rcases g with g|rfl
   ·rcases d with⟨rfl,_⟩|⟨d,_⟩<;>omega
   ·simp only[xam,zao,Nat.add_mul]
 rcases d with⟨rfl,rfl⟩|⟨d,rfl⟩
 ·exact .arr f (by omega) p (by omega) c
 ·exact .arr f (by simp only[Option.getD_some];omega) (by simp only[Option.getD_some];omega) (by simp only[Option.getD_some];omega) c
theorem zfK{x:Option Operand}{b:Bool}(h:(x.isSome==b)=true):x.isSome=b:=by simpa using h
theorem zHc(Y:Fr A D G ρ σ a w){o:Oper}{z:Nat}{lo Z mx:Bool}{xs:List zo}(F:zR P G.K o.op (.sliceL z lo Z mx) xs=true){vs:List AV}(V:evs A σ.tm xs=some vs){v:AV}(hp:pev (.sliceL z lo Z mx) vs=some v):
 yr P A D G ρ σ a w (execOp a.eval o) v:=by
 simp only[zR]at F;split at F
 ·rename_i t x T M C ho;simp only[xab]at F;obtain⟨⟨⟨⟨hz,n⟩,p⟩,r⟩,F⟩:=F;obtain⟨e,he,hs⟩:=zlN hz;have hu:=zfT he;have n:=zfK n;have p:=zfK p;have r:=zfK r;obtain⟨v1,us,rfl,y,I⟩:=(yv Y F V).more;have fin:∀{ad len cap l h m u},a.eval x=.slice ad len cap->Bds P w true len cap (T.map a.eval) (M.map a.eval) (C.map a.eval) l h m->
   Rep G w u (.slice (if m=l then ad else ad.map (·.add (l*z))) (h-l) (m-l))->yr P A D G ρ σ a w (execOp a.eval o) u:=by
   intro ad len cap l h m u E g hr;refine .same Y ?_ hr.trep;rw[zo7 _ _ ho,E];simp only[xag,zIt hu hs g,xac,xah]
  unfold pev at hp;dsimp only at hp;split at hp
  ·rename_i sz full rows rest O;obtain⟨rfl,rfl⟩:=List.cons.inj O;split at hp
   ·cases hp
   ·rename_i J;have y:Rep G w (.lst z full rows) (a.eval x):=by
     have y:Rep G w (.lst sz full rows) (a.eval x):=y;by_cases U:z=sz
     ·rw[U];exact y
     ·have:rows=[]:=by
       cases rows with
       |nil=>rfl
       |cons _ _=>exact absurd ⟨U,rfl⟩ J
      subst this;generalize a.eval x=q at y;cases y with
      |nil e=>exact .nil e
      |lst hn B S _ _=>subst hn;exact .nil S
    obtain⟨ad,c,E,B,S,hx⟩:=Rep.lst_inv (x:=a.eval x) y;rw[E]at y;cases T with
    |none=>
     cases M with
     |none=>
      cases C with
      |none=>
       simp only[Option.isSome_none]at n p r;subst n;subst p;subst r;cases I;cases hp;refine fin E (zkl B) ?_;by_cases W:c=0
       ·rw[if_pos W];simpa using y
       ·rw[if_neg W];have:=zdJ (full':=full) (l:=0) (h:=rows.length) (m:=c) y (Nat.zero_le _) B (xad _) S;rw[if_neg W]at this;simpa using this
      |some C=>simp only[Option.isSome_none,Option.isSome_some]at n p r;subst n;subst p;subst r;(try dsimp only at hp);first|(cases hp;done)|(split at hp<;>cases hp)
     |some M=>
      cases C with
      |none=>
       simp only[Option.isSome_none,Option.isSome_some]at n p r;subst n;subst p;subst r;obtain⟨u,rfl,d⟩:=TL.one I;dsimp only at hp;cases g:zM u rows.length with
       |none=>rw[g]at hp;cases hp
       |some h=>
        rw[g]at hp;cases hp;have i:=(y3 (P:=P) (code:=.index) g d (xad _)).2;refine fin E (zki B g d) ?_;have:=zdJ (full':=full&&h==rows.length) (l:=0) (h:=h) (m:=c) y (Nat.zero_le _) (by omega) i (by simp;intro Q X;rw[S Q,X]);simpa using this
      |some C=>
       simp only[Option.isSome_none,Option.isSome_some]at n p r;subst n;subst p;subst r;obtain⟨u,u',rfl,d,j⟩:=TL.two I;dsimp only at hp;cases g:zM u' rows.length with
       |none=>rw[g]at hp;cases hp
       |some m=>
        rw[g]at hp;dsimp only[Option.bind_some]at hp;cases f:zM u m with
        |none=>rw[f]at hp;cases hp
        |some h=>
         rw[f]at hp;cases hp;have i:=(y3 (P:=P) (code:=.index) g j (xad _)).2;have k:=(y3 (P:=P) (code:=.index) f d (xad _)).2;refine fin E (zoa B g j f d) ?_;have:=zdJ (full':=m==h) (l:=0) (h:=h) (m:=m) y (Nat.zero_le _) k (by omega) (by simp);simpa using this
    |some T=>
     cases M with
     |none=>
      cases C with
      |none=>
       simp only[Option.isSome_none,Option.isSome_some]at n p r;subst n;subst p;subst r;obtain⟨u,rfl,d⟩:=TL.one I;dsimp only at hp;cases g:zM u rows.length with
       |none=>rw[g]at hp;cases hp
       |some l=>
        rw[g]at hp;cases hp;have i:=(y3 (P:=P) (code:=.index) g d (xad _)).2;refine fin E (zkj B g d) ?_;have:=zdJ (full':=full) (l:=l) (h:=rows.length) (m:=c) y i B (xad _) S;simpa using this
      |some C=>simp only[Option.isSome_none,Option.isSome_some]at n p r;subst n;subst p;subst r;(try dsimp only at hp);first|(cases hp;done)|(split at hp<;>cases hp)
     |some M=>
      cases C with
      |none=>
       simp only[Option.isSome_none,Option.isSome_some]at n p r;subst n;subst p;subst r;obtain⟨u,u',rfl,d,j⟩:=TL.two I;dsimp only at hp;cases g:zM u' rows.length with
       |none=>rw[g]at hp;cases hp
       |some h=>
        rw[g]at hp;dsimp only[Option.bind_some]at hp;cases f:zM u h with
        |none=>rw[f]at hp;cases hp
        |some l=>
         rw[f]at hp;cases hp;have i:=(y3 (P:=P) (code:=.index) g j (xad _)).2;have k:=(y3 (P:=P) (code:=.index) f d (xad _)).2;refine fin E (zkk B g j f d) ?_;exact zdJ (full':=full&&h==rows.length) y k (by omega) i (by simp;intro Q X;rw[S Q,X])
      |some C=>
       simp only[Option.isSome_some]at n p r;subst n;subst p;subst r;obtain⟨u,u',R,rfl,d,j,L⟩:=TL.three I;dsimp only at hp;cases g:zM R rows.length with
       |none=>rw[g]at hp;cases hp
       |some m=>
        rw[g]at hp;dsimp only[Option.bind_some]at hp;cases f:zM u' m with
        |none=>rw[f]at hp;cases hp
        |some h=>
         rw[f]at hp;dsimp only[Option.bind_some]at hp;cases s:zM u h with
         |none=>rw[s]at hp;cases hp
         |some l=>
          rw[s]at hp;cases hp;have i:=(y3 (P:=P) (code:=.index) g L (xad _)).2;have k:=(y3 (P:=P) (code:=.index) f j (xad _)).2;have H:=(y3 (P:=P) (code:=.index) s d (xad _)).2;refine fin E (zob B g L f j s d) ?_;exact zdJ (full':=m==h) y H k (by omega) (by simp)
  ·rename_i id sz off len lim rest O;obtain⟨rfl,rfl⟩:=List.cons.inj O;split at hp
   ·cases hp
   ·rename_i J;have J:z=sz:=by simpa using J
    subst J;obtain⟨b,N,ad,aa,ab,hN,ha,E⟩:=Rep.arr_inv (x:=a.eval x) y;have B:len<=lim.getD N-off:=by omega
    have y:Rep G w _ (a.eval x):=y;rw[E]at y;cases T with
    |none=>
     cases M with
     |none=>
      cases C with
      |none=>
       simp only[Option.isSome_none]at n p r;subst n;subst p;subst r;cases I;cases hp;refine fin E (zkl B) ?_;have:=zcR (l:=0) (h:=len) (m:=lim.getD N-off) (lim':=lim) y (Nat.zero_le _) B (xad _) (.inl ⟨rfl,rfl⟩);simpa using this
      |some C=>simp only[Option.isSome_none,Option.isSome_some]at n p r;subst n;subst p;subst r;(try dsimp only at hp);first|(cases hp;done)|(split at hp<;>cases hp)
     |some M=>
      cases C with
      |none=>
       simp only[Option.isSome_none,Option.isSome_some]at n p r;subst n;subst p;subst r;obtain⟨u,rfl,d⟩:=TL.one I;dsimp only at hp;cases g:zM u len with
       |none=>rw[g]at hp;cases hp
       |some h=>
        rw[g]at hp;cases hp;have i:=(y3 (P:=P) (code:=.index) g d (xad _)).2;refine fin E (zki B g d) ?_;have:=zcR (l:=0) (h:=h) (m:=lim.getD N-off) (lim':=lim) y (Nat.zero_le _) (by omega) i (.inl ⟨rfl,rfl⟩);simpa using this
      |some C=>
       simp only[Option.isSome_none,Option.isSome_some]at n p r;subst n;subst p;subst r;obtain⟨u,u',rfl,d,j⟩:=TL.two I;dsimp only at hp;cases g:zM u' len with
       |none=>rw[g]at hp;cases hp
       |some m=>
        rw[g]at hp;dsimp only[Option.bind_some]at hp;cases f:zM u m with
        |none=>rw[f]at hp;cases hp
        |some h=>
         rw[f]at hp;cases hp;have i:=(y3 (P:=P) (code:=.index) g j (xad _)).2;have k:=(y3 (P:=P) (code:=.index) f d (xad _)).2;refine fin E (zoa B g j f d) ?_;have:=zcR (l:=0) (h:=h) (m:=m) (lim':=some (off+m)) y (Nat.zero_le _) k (by omega) (.inr ⟨i,rfl⟩);simpa using this
    |some T=>
     cases M with
     |none=>
      cases C with
      |none=>
       simp only[Option.isSome_none,Option.isSome_some]at n p r;subst n;subst p;subst r;obtain⟨u,rfl,d⟩:=TL.one I;dsimp only at hp;cases g:zM u len with
       |none=>rw[g]at hp;cases hp
       |some l=>
        rw[g]at hp;cases hp;have i:=(y3 (P:=P) (code:=.index) g d (xad _)).2;exact fin E (zkj B g d) (zcR (lim':=lim) y i B (xad _) (.inl ⟨rfl,rfl⟩))
      |some C=>simp only[Option.isSome_none,Option.isSome_some]at n p r;subst n;subst p;subst r;(try dsimp only at hp);first|(cases hp;done)|(split at hp<;>cases hp)
     |some M=>
      cases C with
      |none=>
       simp only[Option.isSome_none,Option.isSome_some]at n p r;subst n;subst p;subst r;obtain⟨u,u',rfl,d,j⟩:=TL.two I;dsimp only at hp;cases g:zM u' len with
       |none=>rw[g]at hp;cases hp
       |some h=>
        rw[g]at hp;dsimp only[Option.bind_some]at hp;cases f:zM u h with
        |none=>rw[f]at hp;cases hp
        |some l=>
         rw[f]at hp;cases hp;have i:=(y3 (P:=P) (code:=.index) g j (xad _)).2;have k:=(y3 (P:=P) (code:=.index) f d (xad _)).2;exact fin E (zkk B g j f d) (zcR (lim':=lim) y k (by omega) i (.inl ⟨rfl,rfl⟩))
      |some C=>
       simp only[Option.isSome_some]at n p r;subst n;subst p;subst r;obtain⟨u,u',R,rfl,d,j,L⟩:=TL.three I;dsimp only at hp;cases g:zM R len with
       |none=>rw[g]at hp;cases hp
       |some m=>
        rw[g]at hp;dsimp only[Option.bind_some]at hp;cases f:zM u' m with
        |none=>rw[f]at hp;cases hp
        |some h=>
         rw[f]at hp;dsimp only[Option.bind_some]at hp;cases s:zM u h with
         |none=>rw[s]at hp;cases hp
         |some l=>
          rw[s]at hp;cases hp;have i:=(y3 (P:=P) (code:=.index) g L (xad _)).2;have k:=(y3 (P:=P) (code:=.index) f j (xad _)).2;have H:=(y3 (P:=P) (code:=.index) s d (xad _)).2;exact fin E (zob B g L f j s d) (zcR (lim':=some (off+m)) y H k (by omega) (.inr ⟨i,rfl⟩))
  ·cases hp
 ·cases F
theorem zIu{t:TypeId}{s:ByteArray}{l h m:Nat}{lo b:Option Value}(c:P.underlying t=some .string)(d:Bds P w false s.size s.size lo b none l h m):
 (Instr.sliceAt t (.string s) lo b none).run P w=.ok (.string (s.extract l h)) w:=by
 simp only[Instr.sliceAt,Instr.slice,xag,und c,xac,Option.isSome_none,xau,if_false,d.run,xah]
theorem zHd(r:Fr A D G ρ σ a w){o:Oper}{lo y:Bool}{xs:List zo}(b:zR P G.K o.op (.sliceS lo y) xs=true){vs:List AV}(k:evs A σ.tm xs=some vs){v:AV}(hp:pev (.sliceS lo y) vs=some v):
 yr P A D G ρ σ a w (execOp a.eval o) v:=by
 simp only[zR]at b;split at b
 ·rename_i t x n i z;simp only[xab]at b;obtain⟨⟨⟨B,e⟩,f⟩,b⟩:=b;have C:=zi4 B;have e:=zfK e;have f:=zfK f;obtain⟨H,us,rfl,E,j⟩:=(yv r b k).more;unfold pev at hp;dsimp only at hp;split at hp
  ·rename_i s rest p;obtain⟨rfl,rfl⟩:=List.cons.inj p;have F:=E.sc;have fin:∀{l h m},Bds P w false s.size s.size (n.map a.eval) (i.map a.eval) none l h m->yr P A D G ρ σ a w (execOp a.eval o) (.sc (.string (s.extract l h))):=by
    intro l h m c;refine .same r ?_ (Rep.sc rfl).trep;rw[zo7 _ _ z,F];simp only[Option.map_none,xag,zIu C c,xac,xah]
   cases n with
   |none=>
    cases i with
    |none=>
     simp only[Option.isSome_none]at e f;subst e;subst f;cases j;cases hp;exact fin (zkl (xad _))
    |some i=>
     simp only[Option.isSome_none,Option.isSome_some]at e f;subst e;subst f;obtain⟨u,rfl,d⟩:=TL.one j;dsimp only at hp;cases c:zM u s.size with
     |none=>rw[c]at hp;cases hp
     |some h=>
      rw[c]at hp;cases hp;exact fin (zki (xad _) c d)
   |some n=>
    cases i with
    |none=>
     simp only[Option.isSome_none,Option.isSome_some]at e f;subst e;subst f;obtain⟨u,rfl,d⟩:=TL.one j;dsimp only at hp;cases c:zM u s.size with
     |none=>rw[c]at hp;cases hp
     |some l=>
      rw[c]at hp;cases hp;exact fin (zkj (xad _) c d)
    |some i=>
     simp only[Option.isSome_some]at e f;subst e;subst f;obtain⟨u,u',rfl,d,q⟩:=TL.two j;dsimp only at hp;cases c:zM u' s.size with
     |none=>rw[c]at hp;cases hp
     |some h=>
      rw[c]at hp;dsimp only[Option.bind_some]at hp;cases g:zM u h with
      |none=>rw[g]at hp;cases hp
      |some l=>
       rw[g]at hp;cases hp;exact fin (zkk (xad _) c q g d)
  ·cases hp
 ·cases b
end
section
variable{A:zA}{D:Nat->Prop}{G:Gh}{ρ:Nat->Option Nat}{σ:ASt}{a:Act}{w:World}{P:Program}{rg:Nat->Option (List AV)}
theorem Rep.oneCell{v:AV}{x:Value}(h:Rep G w v x)(b:v.isCell=true):x.oneCell'=true:=by
 cases h<;>first|rfl|(simp[AV.isCell]at b;done)|skip
 rename_i c;revert c;unfold jw;split<;>simp[Value.oneCell']
theorem zx.oneCell{vs:List AV}{xs:List Value}(h:zx G w vs xs)(c:vs.all AV.isCell=true):∀u∈xs,u.oneCell'=true:=by
 induction vs generalizing xs with
 |nil=>cases h;intro u b;simp at b
 |cons v vs ih=>
  cases h with
  |cons h t=>
   simp at c;intro u b;rcases xaz.1 b with rfl|b
   ·exact h.oneCell c.1
   ·exact ih t (by simpa using c.2) u b
theorem Rep.cells{v:AV}{x:Value}(h:Rep G w v x)(b:v.cells.all AV.isCell=true):zx G w v.cells x.cells.toList:=by
 cases h with
 |agg h=>simpa[AV.cells,Value.cells]using h
 |junk=>simp[AV.cells,AV.isCell]at b
 |tup h=>simp[AV.cells,AV.isCell]at b
 |sc hs=>
  have:x.cells=#[x]:=by revert hs;unfold jw;split<;>simp[Value.cells]
  rw[this];exact .cons (.sc hs) .nil
 |opq=>exact .cons .opq .nil
 |ptr h=>exact .cons (.ptr h) .nil
 |iptr h hr=>exact .cons (.iptr h hr) .nil
 |nil h=>exact .cons (.nil h) .nil
 |lst hn hc' hf h hr=>exact .cons (.lst hn hc' hf h hr) .nil
 |arr h hl hN hcap ha=>exact .cons (.arr h hl hN hcap ha) .nil
 |fn hk ha hb=>exact .cons (.fn hk ha hb) .nil
 |mp h=>exact .cons (.mp h) .nil
theorem zbZ{v:AV}(h:v.cells.all AV.isCell=true):v.isReg=false:=by cases v<;>simp_all [AV.isReg,AV.cells,AV.isCell]
theorem zJN(l:List Value):∀(k off:Nat) (cs:Array Value),off+k+l.length<=cs.size->
 ((l.zipIdx k).foldl (fun cs p=>cs.setIfInBounds (off+p.2) p.1) cs).toList=cs.toList.take (off+k)++l++cs.toList.drop (off+k+l.length):=by
 induction l with
 |nil=>intro k off cs h;simp
 |cons v l ih=>
  intro k off cs h;rw[List.zipIdx_cons,List.foldl_cons,ih (k+1) off _ (by simp at h ⊢;omega)];simp only[Array.toList_setIfInBounds,xaI]at h ⊢;have b:off+k<cs.size:=by omega
  have c:off+k<cs.toList.length:=by simpa using b
  rw[List.take_set,List.drop_set_of_lt (by omega)];have d:(cs.toList.take (off+(k+1))).set (off+k) v=cs.toList.take (off+k)++[v]:=by
   rw[show off+(k+1)=off+k+1 by omega,List.take_succ_eq_append_getElem c,List.set_append_right _ _ (by simp;omega)];simp[Nat.min_eq_left (Nat.le_of_lt b)]
  have e:cs.toList.drop (off+(k+1)+l.length)=cs.toList.drop (off+k+(l.length+1)):=by congr 1;omega
  rw[d,e];simp only[List.append_assoc,List.cons_append,List.nil_append]
theorem ztR{place:Nat->Option (Nat×Nat)}{cells:Array Value}{i off sz:Nat}{v:Value}{rest:List (Nat×Value)}(hp:place i=some (off,sz))(b:v.cells.size=sz)(c:off+sz<=cells.size):
 Instr.fill place cells ((i,v)::rest)=Instr.fill place (cells.toList.take off++v.cells.toList++cells.toList.drop (off+sz)).toArray rest:=by
 rw[Instr.fill,hp];simp only[];rw[if_neg (show ¬((decide (v.cells.size≠sz)||decide (off+v.cells.size > cells.size))=true)by simp;omega)];congr 1;have:=zJN v.cells.toList 0 off cells (by simp;omega);apply Array.toList_inj.1;rw[<-Array.foldl_toList,Array.toList_zipIdx,this];simp[b]
theorem zlD{place:Nat->Option (Nat×Nat)}:∀{ids:List Nat} {b:List (Nat×Nat)} {vs:List AV} {xs:List Value} {cs out:List AV} {us:List Value},
 ids.map place=b.map some->TL G ρ rg w vs xs->zx G w cs us->vc b vs cs=some out->
 ∃c,Instr.fill place us.toArray (ids.zip xs)=some c/\zx G w out c.toList
 |[],[],vs,xs,cs,out,us,_,ht,hc,hf=>by
  cases vs with
  |nil=>simp[vc]at hf;subst hf;exact⟨us.toArray,by simp[Instr.fill],by simpa using hc⟩
  |cons _ _=>simp[vc]at hf
 |[],_::_,_,_,_,_,_,h,_,_,_=>by simp at h
 |_::_,[],_,_,_,_,_,h,_,_,_=>by simp at h
 |i::ids,(off,sz)::b,vs,xs,cs,out,us,hm,ht,hc,hf=>by
  cases ht with
  |nil=>simp[vc]at hf
  |cons h t=>
   rename_i v vs x xs;rw[vc]at hf;split at hf
   ·cases hf
   ·rename_i g;simp only[Bool.or_eq_true,Bool.not_eq_eq_eq_not,Bool.not_true,bne_iff_ne,ne_eq,decide_eq_true_eq,not_or,Bool.not_eq_false,Decidable.not_not,Nat.not_lt]at g;obtain⟨⟨j,k⟩,n⟩:=g;have d:=(h.rep (zbZ j)).cells j;have l:=d.length;have m:=hc.length;simp only[xao,xak]at hm;have e:=ztR (cells:=us.toArray) (rest:=ids.zip xs) hm.1 (show x.cells.size=sz by rw[<-k,l,Array.length_toList]) (by simp;omega);rw[List.zip_cons_cons,e];have f:zx G w (cs.take off++v.cells++cs.drop (off+sz)) (us.take off++x.cells.toList++us.drop (off+sz)):=((hc.take off).append d).append (hc.drop _);exact zlD hm.2 t f hf
theorem zdC{t:TypeId}{cs:List AV}(h:zbx P t cs=true):∃i z,P.info? t=some i/\i.zero=some z/\kD cs z.cells.toList=true:=by
 unfold zbx at h;split at h
 ·rename_i z b;cases c:P.info? t with
  |none=>rw[c]at b;cases b
  |some i=>rw[c]at b;exact⟨i,z,rfl,b,h⟩
 ·cases h
theorem ztW{P:Program}{w:World}:∀(fs:List Field),(fs.all (fun(f:Field)=>(yS P f.type).isSome))=true->
 ∃ps:List (Nat×Nat),(fs.mapM fun(f:Field)=>(do Pure.pure (f.offset,<-Go.sizeOf f.type):Sem (Nat×Nat))).run P w=.ok ps w/\∀i:Nat,ps[i]?=(fs[i]?).bind fun(f:Field)=>(yS P f.type).map fun n=>(f.offset,n)
 |[],_=>⟨[],by simp,by simp⟩
 |f::fs,h=>by
  simp only[List.all_cons,xab]at h;obtain⟨n,b⟩:=Option.isSome_iff_exists.1 h.1;obtain⟨ps,c,hp⟩:=ztW (P:=P) (w:=w) fs h.2;refine⟨(f.offset,n)::ps,?_,?_⟩
  ·rw[List.mapM_cons];simp only[xag,siz b,xac,xah,c]
  ·intro i;cases i with
   |zero=>simp[b]
   |succ i=>simp[hp i]
theorem zGM(F:Fr A D G ρ σ a w){o:Oper}{zero:List AV}{d:List (Nat×Nat)}{xs:List zo}(g:zR P G.K o.op (.build zero d) xs=true){vs:List AV}(H:evs A σ.tm xs=some vs){v:AV}
 (hp:pev (.build zero d) vs=some v):yr P A D G ρ σ a w (execOp a.eval o) v:=by
 simp only[zR]at g;split at g
 ·rename_i t ps J;simp only[xab]at g;obtain⟨⟨C,b⟩,g⟩:=g;obtain⟨i,z,L,C,l⟩:=zdC C;have M:=yv F g H;unfold pev at hp;dsimp only at hp;cases E:vc d vs zero with
  |none=>rw[E]at hp;cases hp
  |some out=>
   rw[E]at hp;cases hp;have N:zx G w zero z.cells.toList:=zav l;have q:(ps.map fun p=>(p.1,a.eval p.2)).toList=(ps.toList.map (·.1)).zip ((ps.toList.map (·.2)).map a.eval):=by
    simp only[Array.toList_map,List.map_map];rw[List.zip_map',];rfl
   have r:(ps.map fun(i,x)=>(i,a.eval x))=ps.map fun p=>(p.1,a.eval p.2):=rfl;unfold ztc at b;split at b
   ·rename_i fs I;simp only[xab,beq_iff_eq]at b;obtain⟨b,s⟩:=b;obtain⟨pl,u,y⟩:=ztW (P:=P) (w:=w) fs.toList (by simpa using s);obtain⟨h,c,j⟩:=zlD (place:=fun i=>pl.toArray[i]?) (ids:=ps.toList.map (·.1)) (by
     rw[<-b,List.map_map];apply List.map_congr_left;intro p _;simp[y]) M N E
    refine .same F (x:=.agg h) ?_ (by have:=Rep.agg j;simpa using this.trep);rw[zo3 _ _ J];simp only[Instr.build,xag,zer L C,xac,und I];have O:(fs.mapM fun(f:Field)=>(do Pure.pure (f.offset,<-Go.sizeOf f.type):Sem (Nat×Nat))).run P w=.ok pl.toArray w:=by
     rw[<-Array.toArray_toList (xs:=fs),List.mapM_toArray];simp only[Sem.run_map,u,xac]
    rw[O];simp only[xac,r,q];simp only[Array.toArray_toList]at c;rw[c];simp only[xah,xac]
   ·rename_i n e I;simp only[xab,beq_iff_eq]at b;obtain⟨B,b⟩:=b;cases k:yS P e with
    |none=>rw[k]at B;cases B
    |some m=>
     obtain⟨h,c,j⟩:=zlD (place:=fun i=>some (i*m,m)) (ids:=ps.toList.map (·.1)) (by
      rw[<-b,List.map_map,k];rfl) M N E
     refine .same F (x:=.agg h) ?_ (by have:=Rep.agg j;simpa using this.trep);rw[zo3 _ _ J];simp only[Instr.build,xag,zer L C,xac,und I,siz k,r,q];simp only[Array.toArray_toList]at c;rw[c];simp only[xah,xac]
   ·cases b
 ·cases g
end
section
variable{A:zA}{D:Nat->Prop}{G:Gh}{ρ:Nat->Option Nat}{σ:ASt}{a:Act}{w:World}{P:Program}{rg:Nat->Option (List AV)}
theorem zK.flatten_set{sz:Nat}{rs:List (List AV)}{vs:List (List Value)}(h:zK G w sz rs vs)(i:Nat)(r:List Value)(b:i<rs.length):
 (vs.set i r).flatten=vs.flatten.take (i*sz)++r++vs.flatten.drop (i*sz+sz):=by
 induction i generalizing rs vs with
 |zero=>
  cases h with
  |nil=>simp at b
  |cons h e c t=>
   have:=h.length;simp[<-this,e,List.drop_append]
 |succ i ih=>
  cases h with
  |nil=>simp at b
  |cons h e c t=>
   rename_i r0 rs v vs;have d:=h.length;simp only[List.set_cons_succ,List.flatten_cons,ih t (by simpa using b)];rw[show(i+1)*sz=v.length+i*sz by rw[<-d,e,Nat.add_mul];omega];rw[show v.length+i*sz+sz=v.length+(i*sz+sz)by omega];rw[List.take_append,List.drop_append,List.take_of_length_le (by omega:v.length<=v.length+i*sz),xaB (by omega:v.length<=v.length+(i*sz+sz))];simp[List.append_assoc]
theorem zrd{sz:Nat}:∀{ids:List Nat} {vs:List AV} {xs:List Value} {rs out:List (List AV)} {us:List (List Value)},
 TL G ρ rg w vs xs->zK G w sz rs us->zj sz ids vs rs=some out->
 ∃b,Instr.fill (fun i=>some (i*sz,sz)) us.flatten.toArray (ids.zip xs)=some b.flatten.toArray/\zK G w sz out b/\out.length=rs.length
 |[],vs,xs,rs,out,us,ht,hc,hf=>by
  cases vs with
  |nil=>simp[zj]at hf;subst hf;exact⟨us,by simp[Instr.fill],hc,rfl⟩
  |cons _ _=>simp[zj]at hf
 |i::ids,vs,xs,rs,out,us,ht,hc,hf=>by
  cases ht with
  |nil=>simp[zj]at hf
  |cons h t=>
   rename_i v vs x xs;rw[zj]at hf;split at hf
   ·cases hf
   ·rename_i g;simp only[Bool.or_eq_true,Bool.not_eq_eq_eq_not,Bool.not_true,bne_iff_ne,ne_eq,decide_eq_true_eq,not_or,Bool.not_eq_false,Decidable.not_not,Nat.not_le]at g;obtain⟨⟨e,j⟩,k⟩:=g;have c:=(h.rep (zbZ e)).cells e;have l:=c.length;have m:=hc.flat_length;have n:i*sz+sz<=rs.length*sz:=by
     have:=Nat.mul_le_mul_right sz (show i+1<=rs.length by omega);rw[Nat.add_mul]at this;omega
    have d:=ztR (place:=fun i=>some (i*sz,sz)) (cells:=us.flatten.toArray) (i:=i) (off:=i*sz) (sz:=sz) (rest:=ids.zip xs) rfl (show x.cells.size=sz by rw[<-j,l,Array.length_toList]) (by simp only[List.size_toArray];omega);rw[List.zip_cons_cons,d];have p:=hc.flatten_set i x.cells.toList k;rw[<-p];have f:zK G w sz (rs.set i v.cells) (us.set i x.cells.toList):=hc.set c j (c.oneCell e) i;obtain⟨b,q,r,s⟩:=zrd t f hf;exact⟨b,q,r,by simpa using s⟩
theorem zjw{sz n:Nat}{z:Array Value}(b:z.size=sz)(h:0<sz):((Array.range (n*sz)).map (fun i=>z[i%z.size]!))=(List.replicate n z.toList).flatten.toArray:=by
 apply Array.toList_inj.1;simp only[Array.toList_map,Array.toList_range];apply List.ext_getElem?;intro i;have c:(List.replicate n z.toList).flatten.length=n*sz:=by simp[b]
 by_cases d:i<n*sz
 ·rw[xat,List.getElem?_range d];have e:i/sz<n:=Nat.div_lt_of_lt_mul (by rw[Nat.mul_comm];exact d);have j:i%sz<sz:=Nat.mod_lt _ h;have f:(List.replicate n z.toList)[i/sz]?=some z.toList:=by simp[e]
  have key:∀n:Nat,∀q r:Nat,q<n->r<sz->(List.replicate n z.toList).flatten[q*sz+r]?=z.toList[r]?:=by
   intro n
   induction n with
   |zero=>intro q r k;omega
   |succ n ih=>
    intro q r k g;rw[List.replicate_succ,List.flatten_cons];cases q with
    |zero=>rw[Nat.zero_mul,Nat.zero_add,xaG (by simpa[b]using g)]
    |succ q=>
     rw[xaF (by simp[b,Nat.add_mul];omega)];rw[<-ih q r (by omega) g];congr 1;simp[b,Nat.add_mul];omega
  have:=key n (i/sz) (i%sz) e j;rw[show i/sz*sz+i%sz=i by rw[Nat.mul_comm];exact Nat.div_add_mod i sz]at this;rw[List.toList_toArray,this];simp only[xam,b];rw[getElem!_pos z (i%sz) (by omega)];simp
 ·rw[xap (by simp;omega),xap (by rw[List.toList_toArray,c];omega)]
theorem zGN(N:Fr A D G ρ σ a w){o:Oper}{sz n:Nat}{zero:List AV}{b:List Nat}{xs:List zo}(c:zR P G.K o.op (.buildSl sz n zero b) xs=true){vs:List AV}(s:evs A σ.tm xs=some vs){v:AV}
 (hp:pev (.buildSl sz n zero b) vs=some v):yr P A D G ρ σ a w (execOp a.eval o) v:=by
 simp only[zR]at c;split at c
 ·rename_i t d ps R;simp only[xab,beq_iff_eq,decide_eq_true_eq]at c;obtain⟨⟨⟨⟨⟨⟨rfl,S⟩,q⟩,T⟩,j⟩,u⟩,c⟩:=c;split at q
  ·rename_i e y;simp only[xab,beq_iff_eq]at q;obtain⟨U,B⟩:=q;have V:=zfT y;obtain⟨i,z,W,B,g⟩:=zdC B;have X:=yv N c s;have O:zx G w zero z.cells.toList:=zav g;have C:=O.length;have E:z.cells.size=sz:=by rw[<-j,C,Array.length_toList]
   unfold pev at hp;dsimp only at hp;split at hp
   ·cases F:zj sz b vs (List.replicate d zero)with
    |none=>rw[F]at hp;cases hp
    |some out=>
     rw[F]at hp;cases hp;have H:zK G w sz (List.replicate d zero) (List.replicate d z.cells.toList):=zK.replicate O j (zc1 g) d;obtain⟨k,Q,Y,Z⟩:=zrd X H F;have f:out.length=d:=by simpa using Z
     have l:(ps.map fun p=>(p.1,a.eval p.2)).toList=b.zip ((ps.toList.map (·.2)).map a.eval):=by
      rw[<-u];simp only[Array.toList_map,List.map_map];rw[List.zip_map',];rfl
     have m:(ps.map fun(i,x)=>(i,a.eval x))=ps.map fun p=>(p.1,a.eval p.2):=rfl;refine .new N (x:=.slice (some ⟨w.heap.size,0,none⟩) d d) (vs:=k.flatten) (t:=e) ?_ ?_
     ·rw[zAh _ _ R];simp only[Instr.buildSlice,xag,und V,xac,siz U]
      rw[if_neg (show ¬(d*sz > 2^24)by have:(2:Nat)^24=16777216:=by decide
                                       omega)]
      by_cases I:d*sz=0
      ·have J:d=0:=by
        rcases Nat.mul_eq_zero.1 I with h|h
        ·exact h
        ·omega
       subst J;simp only[I,if_true,xag,xah,xac,m,l];have:((Array.range 0).map fun x=>(#[]:Array Value)[x%(#[]:Array Value).size]!)=(List.replicate 0 z.cells.toList).flatten.toArray:=by simp
       rw[this,Q];simp only[xag,newRow,run_newObj,xac,xah];rfl
      ·simp only[I,if_false,xag,zer W B,xac,xah,m,l];rw[zjw E T,Q];simp only[xag,newRow,run_newObj,xac,xah];rfl
     ·intro L M;cases out with
      |nil=>simp at f;subst f;exact .nil fun _=>rfl
      |cons r out=>exact .lst f.symm (by omega) (fun _=>f.symm) L (Y.mono M)
   ·cases hp
  ·cases q
 ·cases c
theorem zGR(g:Fr A D G ρ σ a w){o:Oper}{j:Nat}{xs:List zo}(b:zR P G.K o.op (.extract j) xs=true){vs:List AV}(e:evs A σ.tm xs=some vs){v:AV}(hp:pev (.extract j) vs=some v):
 yr P A D G ρ σ a w (execOp a.eval o) v:=by
 simp only[zR]at b;split at b
 ·rename_i x h i;simp only[xab,beq_iff_eq]at b;obtain⟨rfl,b⟩:=b;obtain⟨p,rfl,k⟩:=(yv g b e).one;unfold pev at hp;dsimp only at hp;split at hp
  ·rename_i us c;simp only[xak,and_true]at c;subst c;obtain⟨f,l,m⟩:=Rep.tup_inv (x:=a.eval x) k;obtain⟨y,n,d⟩:=m.get h hp;refine .same g (x:=y) ?_ d.trep;rw[zAi _ _ i,l];have:f.toArray[h]?=some y:=by simpa using n
   simp only[Instr.extract,this,xag,xah,xac]
  ·cases hp
 ·cases b
theorem vI{ρ:Operand->Value}{o:Oper}{b:Builtin}{xs:Array Operand}{ts:Array TypeId}(h:o.op=.call {callee:=.builtin b,args:=xs,argTypes:=ts}):
 execOp ρ o=builtin b ts o.type (xs.map fun| .const _=>true|_=>false) (xs.map ρ):=by
 rw[zo4 _ _ h];rfl
theorem zcA{xs:Array Operand}{x:Value}(h:xs.toList.map a.eval=[x]):xs.map a.eval=#[x]:=by
 apply Array.toList_inj.1;simpa using h
theorem znt{xs:Array Operand}{x y:Value}(h:xs.toList.map a.eval=[x,y]):xs.map a.eval=#[x,y]:=by
 apply Array.toList_inj.1;simpa using h
theorem TL.one_of{v:AV}{xs:List Value}(h:TL G ρ rg w [v] xs):∃x,xs=[x]/\yP G ρ rg w v x:=by
 obtain _|⟨h,t⟩:=h;cases t;exact⟨_,rfl,h⟩
theorem TL.two_of{v u:AV}{xs:List Value}(h:TL G ρ rg w [v,u] xs):∃x y,xs=[x,y]/\yP G ρ rg w v x/\yP G ρ rg w u y:=by
 obtain _|⟨h,t⟩:=h;obtain⟨y,rfl,b⟩:=t.one_of;exact⟨_,_,rfl,h,b⟩
theorem zG0(g:Fr A D G ρ σ a w){o:Oper}{xs:List zo}(b:zR P G.K o.op .lenS xs=true){vs:List AV}(d:evs A σ.tm xs=some vs){v:AV}(hp:pev .lenS vs=some v):
 yr P A D G ρ σ a w (execOp a.eval o) v:=by
 simp only[zR]at b;split at b
 ·rename_i as ts h;simp only[xab]at b;obtain⟨c,b⟩:=b;have e:=yv g b d;unfold zrS at c;split at c
  ·rename_i t f;have i:=zi4 c;unfold pev at hp;dsimp only at hp;split at hp
   ·rename_i s;cases hp;obtain⟨x,j,k⟩:=e.one_of;have l:=k.sc;refine .same g (x:=goInt s.size) ?_ (Rep.sc rfl).trep;rw[vI h,zcA j,l];simp only[builtin,Builtin.len_,f,List.getElem?_toArray,xas,xag,und i,xac,xah]
   ·cases hp
  ·cases c
 ·cases b
theorem zc3{ts:Array TypeId}{e:TypeId}(h:zax P ts=some e):∃t,ts[0]?=some t/\P.underlying t=some (.slice e):=by
 unfold zax at h;cases b:ts[0]? with
 |none=>rw[b]at h;cases h
 |some t=>rw[b]at h;exact⟨t,rfl,zfT h⟩
theorem zGZ(m:Fr A D G ρ σ a w){o:Oper}{xs:List zo}(d:zR P G.K o.op .lenL xs=true){vs:List AV}(h:evs A σ.tm xs=some vs){v:AV}(hp:pev .lenL vs=some v):
 yr P A D G ρ σ a w (execOp a.eval o) v:=by
 simp only[zR]at d;split at d
 ·rename_i as ts p;simp only[xab]at d;obtain⟨q,d⟩:=d;have f:=yv m d h;obtain⟨e,r⟩:=Option.isSome_iff_exists.1 q;obtain⟨t,j,s⟩:=zc3 r;have fin:∀{ad n c},as.map a.eval=#[.slice ad n c]->yr P A D G ρ σ a w (execOp a.eval o) (.i n):=by
   intro ad n c g;refine .same m (x:=goInt n) ?_ (Rep.sc rfl).trep;rw[vI p,g];simp only[builtin,Builtin.len_,j,List.getElem?_toArray,xas,xag,und s,xac,xah]
  unfold pev at hp;dsimp only at hp;split at hp
  ·cases hp;obtain⟨x,g,k⟩:=f.one_of;obtain⟨ad,c,l,_⟩:=Rep.lst_inv (x:=x) k;exact fin (by rw[zcA g,l])
  ·cases hp;obtain⟨x,g,k⟩:=f.one_of;obtain⟨b,N,ad,_,_,_,_,l⟩:=Rep.arr_inv (x:=x) k;exact fin (by rw[zcA g,l])
  ·cases hp
 ·cases d
theorem zGP(h:Fr A D G ρ σ a w){o:Oper}{xs:List zo}(b:zR P G.K o.op .cap xs=true){vs:List AV}(d:evs A σ.tm xs=some vs){v:AV}(hp:pev .cap vs=some v):
 yr P A D G ρ σ a w (execOp a.eval o) v:=by
 simp only[zR]at b;split at b
 ·rename_i as ts i;simp only[xab]at b;obtain⟨j,b⟩:=b;have f:=yv h b d;obtain⟨e,k⟩:=Option.isSome_iff_exists.1 j;obtain⟨t,g,l⟩:=zc3 k;unfold pev at hp;dsimp only at hp;split at hp
  ·cases hp;obtain⟨x,m,n⟩:=f.one_of;obtain⟨ad,c,p,r,q,_⟩:=Rep.lst_inv (x:=x) n;refine .same h (x:=goInt c) ?_ (by rw[q rfl];exact(Rep.sc rfl).trep);rw[vI i,zcA m,p];simp only[builtin,Builtin.cap_,g,List.getElem?_toArray,xas,xag,und l,xac,xah]
  ·cases hp
 ·cases b
theorem zmJ:∀{l:List AV} {ys:List Value} {v r:Value},TL G ρ rg w l ys->ve false v l=some r->(ys.foldlM Builtin.min2 v).run P w=.ok r w
 |[],ys,v,r,h,hf=>by cases h;cases v<;>(simp[ve]at hf;subst hf;rfl)
 |u::l,ys,v,r,h,hf=>by
  cases h with
  |cons h t=>
   unfold ve at hf;split at hf
   ·rename_i b;cases b
   ·rename_i k x d y c b;obtain⟨rfl,rfl⟩:=List.cons.inj b;rw[List.foldlM_cons,h.sc];simp only[Builtin.min2,xag,xah,xac];exact zmJ t hf
   ·rename_i x y c b;obtain⟨rfl,rfl⟩:=List.cons.inj b;rw[List.foldlM_cons,h.sc];simp only[Builtin.min2,Op.stringOp,Go.asBool,xag,xah,xac];exact zmJ t hf
   ·cases hf
theorem zmI:∀{l:List AV} {ys:List Value} {v r:Value},TL G ρ rg w l ys->ve true v l=some r->(ys.foldlM Builtin.max2 v).run P w=.ok r w
 |[],ys,v,r,h,hf=>by cases h;cases v<;>(simp[ve]at hf;subst hf;rfl)
 |u::l,ys,v,r,h,hf=>by
  cases h with
  |cons h t=>
   unfold ve at hf;split at hf
   ·rename_i b;cases b
   ·rename_i k x d y c b;obtain⟨rfl,rfl⟩:=List.cons.inj b;rw[List.foldlM_cons,h.sc];simp only[Builtin.max2,xag,xah,xac];exact zmI t hf
   ·rename_i x y c b;obtain⟨rfl,rfl⟩:=List.cons.inj b;rw[List.foldlM_cons,h.sc];simp only[Builtin.max2,Op.stringOp,Go.asBool,xag,xah,xac];exact zmI t hf
   ·cases hf
theorem ziN{mx:Bool}:∀{l:List AV} {v r:Value},ve mx v l=some r->jw v=true->jw r=true
 |[],v,r,hf,hs=>by cases v<;>(simp[ve]at hf;subst hf;exact hs)
 |u::l,v,r,hf,hs=>by
  unfold ve at hf;split at hf
  ·rename_i b;cases b
  ·rename_i b;obtain⟨rfl,rfl⟩:=List.cons.inj b;exact ziN hf rfl
  ·rename_i b;obtain⟨rfl,rfl⟩:=List.cons.inj b;exact ziN hf rfl
  ·cases hf
theorem zG2(i:Fr A D G ρ σ a w){o:Oper}{xs:List zo}(b:zR P G.K o.op .min xs=true){vs:List AV}(e:evs A σ.tm xs=some vs){v:AV}(hp:pev .min vs=some v):
 yr P A D G ρ σ a w (execOp a.eval o) v:=by
 simp only[zR]at b;split at b
 ·rename_i as ts j;have c:=yv i b e;unfold pev at hp;dsimp only at hp;split at hp
  ·rename_i u l;cases d:ve false u l with
   |none=>rw[d]at hp;cases hp
   |some r=>
    rw[d]at hp;cases hp;generalize f:as.toList.map a.eval=ys at c;cases c with
    |cons h t=>
     rename_i y g;have k:jw u=true:=by have m:Rep G w (.sc u) _:=h;cases m;assumption
     refine .same i (x:=r) ?_ (Rep.sc (ziN d k)).trep;rw[vI j];have:(as.map a.eval).toList=u::g:=by rw[Array.toList_map,f,h.sc]
     simp only[builtin,Builtin.min_,this,xag,zmJ t d,xac,xah]
  ·cases hp
 ·cases b
theorem zG1(i:Fr A D G ρ σ a w){o:Oper}{xs:List zo}(b:zR P G.K o.op .max xs=true){vs:List AV}(e:evs A σ.tm xs=some vs){v:AV}(hp:pev .max vs=some v):
 yr P A D G ρ σ a w (execOp a.eval o) v:=by
 simp only[zR]at b;split at b
 ·rename_i as ts j;have c:=yv i b e;unfold pev at hp;dsimp only at hp;split at hp
  ·rename_i u l;cases d:ve true u l with
   |none=>rw[d]at hp;cases hp
   |some r=>
    rw[d]at hp;cases hp;generalize f:as.toList.map a.eval=ys at c;cases c with
    |cons h t=>
     rename_i y g;have k:jw u=true:=by have m:Rep G w (.sc u) _:=h;cases m;assumption
     refine .same i (x:=r) ?_ (Rep.sc (ziN d k)).trep;rw[vI j];have:(as.map a.eval).toList=u::g:=by rw[Array.toList_map,f,h.sc]
     simp only[builtin,Builtin.max_,this,xag,zmI t d,xac,xah]
  ·cases hp
 ·cases b
theorem zG3(g:Fr A D G ρ σ a w){o:Oper}{key n:Nat}{xs:List zo}(b:zR P G.K o.op (.mkfn key n) xs=true){vs:List AV}(d:evs A σ.tm xs=some vs){v:AV}(hp:pev (.mkfn key n) vs=some v):
 yr P A D G ρ σ a w (execOp a.eval o) v:=by
 simp only[zR]at b;split at b
 ·rename_i f first cap j
  simp only[xab,beq_iff_eq]at b;obtain⟨⟨k,rfl⟩,b⟩:=b;have e:=yv g b d;unfold pev at hp;dsimp only at hp;split at hp
  ·cases hp
  ·rename_i l;cases hp;have c:=e.rep (by simpa using l);rw[List.map_append]at c;have h:=c.take first.size
   have i:=c.drop first.size
   have m:((first.toList.map a.eval)++(cap.toList.map a.eval)).take first.size=first.toList.map a.eval:=by rw[List.take_append_of_le_length (by simp),List.take_of_length_le (by simp)]
   have p:((first.toList.map a.eval)++(cap.toList.map a.eval)).drop first.size=cap.toList.map a.eval:=by rw[List.drop_append_of_le_length (by simp),xaB (by simp)];rfl
   rw[m]at h;rw[p]at i;refine .same g (x:=.func (.func f) (first.map a.eval) (cap.map a.eval)) ?_ ?_
   ·rw[zAo _ _ j];rfl
   ·have:=(Rep.fn k h i).trep (ρ:=ρ) (rg:=σ.rg);have q:(first.toList.map a.eval).toArray=first.map a.eval:=by apply Array.toList_inj.1;simp
    have r:(cap.toList.map a.eval).toArray=cap.map a.eval:=by apply Array.toList_inj.1;simp
    rw[q,r]at this;exact this
 ·cases b
theorem zG8(h:Fr A D G ρ σ a w){o:Oper}{xs:List zo}(g:zR P G.K o.op .nilchk xs=true){vs:List AV}(j:evs A σ.tm xs=some vs){v:AV}(hp:pev .nilchk vs=some v):
 yr P A D G ρ σ a w (execOp a.eval o) v:=by
 simp only[zR]at g;split at g
 ·rename_i x i;obtain⟨l,rfl,e⟩:=(yv h g j).one;unfold pev at hp;dsimp only at hp;split at hp
  ·rename_i c;simp only[xak,and_true]at c;subst c;cases hp;obtain⟨b,off,us,d,_⟩:=Rep.iptr_inv (x:=a.eval x) e;exact .same h (by rw[zkK _ _ i d];rfl) (by rw[<-d];exact e)
  ·rename_i c;simp only[xak,and_true]at c;subst c;cases hp;obtain⟨b,sz,N,m,d⟩:=Rep.ptr_inv (x:=a.eval x) e;exact .same h (by rw[zkK _ _ i d];rfl) (by rw[<-d];exact e)
  ·rename_i c;simp only[xak,and_true]at c;subst c;cases hp;have k:=e;obtain⟨n,b,p,d⟩:=k;exact .same h (by rw[zkK _ _ i d];rfl) (by rw[<-d];exact e)
  ·rename_i c;simp only[xak,and_true]at c;subst c;cases hp;obtain⟨u,y,d⟩:=Rep.opq_inv (x:=a.eval x) e;exact .same h (by rw[zAt _ _ i d];rfl) (by rw[<-d];exact e)
  ·rename_i c;simp only[xak,and_true]at c;subst c;cases hp;obtain⟨f,q,r,d,_⟩:=Rep.fn_inv (x:=a.eval x) e;exact .same h (by rw[zAs _ _ i d];rfl) (by rw[<-d];exact e)
  ·cases hp
 ·cases g
theorem zGW(g:Fr A D G ρ σ a w){o:Oper}{xs:List zo}(b:zR P G.K o.op .ibox xs=true){vs:List AV}(d:evs A σ.tm xs=some vs){v:AV}(hp:pev .ibox vs=some v):
 yr P A D G ρ σ a w (execOp a.eval o) v:=by
 simp only[zR]at b;split at b
 ·rename_i t x i;obtain⟨k,rfl,j⟩:=(yv g b d).one;unfold pev at hp;dsimp only at hp;split at hp
  ·rename_i h;cases hp;have c:=(j.rep (zbZ h)).cells h;refine .new g (x:=.pointer (some ⟨w.heap.size,0,none⟩)) (vs:=(a.eval x).cells.toList) (t:=t) ?_ fun e f=>.iptr e (c.mono f);rw[zo2 _ _ i];simp only[Instr.box,newVar,newRow,xag,run_newObj,xac,xah];rfl
  ·cases hp
 ·cases b
theorem zHb(d:Fr A D G ρ σ a w){o:Oper}{p:POp}{xs:List zo}(b:zR P G.K o.op p xs=true){vs:List AV}(c:evs A σ.tm xs=some vs){v:AV}(hp:pev p vs=some v):
 yr P A D G ρ σ a w (execOp a.eval o) v:=by
 cases p with
 |mov=>exact zG4 d b c hp
 |pick=>exact zG9 d b c hp
 |bin _=>exact zGL d b c hp
 |eqB _=>exact zGQ d b c hp
 |nilI _=>exact zG6 d b c hp
 |nilP _=>exact zG7 d b c hp
 |nilF _=>exact zG5 d b c hp
 |un _=>exact zHg d b c hp
 |toInt _=>exact zHf d b c hp
 |sstr=>exact zHe d b c hp
 |runeStr=>exact zHa d b c hp
 |bytesStr=>exact zGO d b c hp
 |field _ _ _=>exact zGT d b c hp
 |faddr _=>exact zGS d b c hp
 |iaddr _=>exact zGU d b c hp
 |iaddrA _ _=>exact zGV d b c hp
 |indexS=>exact zGY d b c hp
 |indexA _ _ _=>exact zGX d b c hp
 |sliceS _ _=>exact zHd d b c hp
 |sliceL _ _ _ _=>exact zHc d b c hp
 |build _ _=>exact zGM d b c hp
 |buildSl _ _ _ _=>exact zGN d b c hp
 |extract _=>exact zGR d b c hp
 |lenS=>exact zG0 d b c hp
 |lenL=>exact zGZ d b c hp
 |cap=>exact zGP d b c hp
 |min=>exact zG2 d b c hp
 |max=>exact zG1 d b c hp
 |mkfn _ _=>exact zG3 d b c hp
 |nilchk=>exact zG8 d b c hp
 |ibox=>exact zGW d b c hp
end
end Abs
