/-
 The engine, part 1: operations of the loaded code on values without a heap.
-/
import Derived.RangeFuncLeaves
import Derived.Laws.Sem
import Derived.Laws.World
import Derived.Laws.Append
set_option linter.all false
namespace Go.VE
theorem Za{α:Type _}(a b:α):(some a=some b)=(a=b):=Option.some.injEq a b
theorem Zc{α β:Type _}(a:α)(f:α→Option β):(some a).bind f=f a:=rfl
theorem Zd{α β:Type _}(a:α)(b:β)(c:α)(d:β):((a,b)=(c,d))=(a=c∧b=d):=Prod.mk.injEq a b c d
theorem Ze{α:Type _}{l:List α}{i:Nat}(h:i<l.length):l[i]?=some l[i]:=List.getElem?_eq_getElem h
theorem Zf{α:Type _}{l:List α}{i:Nat}{a:α}:l[i]?=some a↔∃h:i<l.length,l[i]=a:=List.getElem?_eq_some_iff
theorem Zh{α β:Type _}{b:β}{x:Option α}{f:α→β}:x.map f=some b↔∃a,x=some a∧f a=b:=Option.map_eq_some_iff
theorem Zi{α β:Type _}{b:β}{x:Option α}{f:α→Option β}:x.bind f=some b↔∃a,x=some a∧f a=some b:=Option.bind_eq_some_iff
theorem Zj(a b:Bool):((a&&b)=true)=(a=true∧b=true):=Bool.and_eq_true a b
theorem Zk{α:Type _}{a b:List α}:(a++b).length=a.length+b.length:=List.length_append
inductive V where
 | bool (b:Bool)
 | int (k:IntKind) (n:Int)
 | str (s:ByteArray)
 | dY
 | ay
 | fsl (es:Nat) (xs:List (List V))
 | hsl (id es off len:Nat)
 | cq
 | fptr (cs:List V)
 | hptr (id el off:Nat)
 | clo (f:FuncId) (first cap:List V)
 | yld (id:Nat)
 | eT
 | aO
 | fmap (kvs:List (V×V))
 | hmap (id:Nat)
 | agg (cs:List V)
 | tup (vs:List V)
 deriving Inhabited
def V.undef:V:=.tup []
def V.one:V→Bool
 | .agg _|.tup _=>false
 | _=>true
def V.cells:V→List V
 | .agg cs=>cs
 | v=>[v]
mutual
def V.scalar:V→Bool
 | .bool _|.int ..|.str _|.cq|.eT|.aO|.dY|.ay=>true
 | .agg cs=>V.cE cs
 | .tup cs=>V.cE cs
 | _=>false
def V.cE:List V→Bool
 | []=>true
 | v::r=>V.scalar v&&V.cE r
end
mutual
def V.closed:V→Bool
 | .hsl ..|.hptr ..|.yld ..|.hmap ..=>false
 | .clo _ a b=>V.iY a&&V.iY b
 | .agg cs=>V.iY cs
 | .tup cs=>V.iY cs
 | _=>true
def V.iY:List V→Bool
 | []=>true
 | v::r=>V.closed v&&V.iY r
end
inductive TK where
 | bool|int (k:IntKind)|str|ptr (e:TypeId)|slice (e:TypeId)
 | struct (fs:List (Nat×TypeId))|array (n:Nat) (e:TypeId)|map (k e:TypeId)|other
 deriving Inhabited
structure TD where
 size:Nat
 bytes:Nat
 zero:List V
 kind:TK
 deriving Inhabited
def TD.agg (d:TD):Bool:=match d.kind with|.struct _|.array _ _=>true|_=>false
abbrev Frame:=List V
def get:Frame→Nat→V
 | [],_=>.undef
 | x::_,0=>x
 | _::r,i+1=>get r i
def set:Frame→Nat→V→Frame
 | [],0,v=>[v]
 | [],i+1,v=>.undef::set [] i v
 | _::r,0,v=>v::r
 | x::r,i+1,v=>x::set r i v
inductive vB where
 | ready|busy|done
inductive Out where
 | norm
 | exit (id:Nat)
 | ret
 deriving DecidableEq,Inhabited
structure p_ where
 st:vB
 pend:Option Out
 frame:Frame
 nt:Nat
 params:List Nat
 assign:Code
 body:Code
inductive Ob where
 | free
 | dead
 | row (es:Nat) (xs:List (List V))
 | frz (es:Nat) (xs:List (List V))
 | map (kvs:List (V×V))
 | loop (r:p_)
def Ob.rows:Ob→Option (Nat×List (List V))
 | .row es xs|.frz es xs=>some (es,xs)
 | _=>none
abbrev an:=List Ob
structure FI where
 ntmps:Nat
 results:List ResultVar
 body:Code
structure Env where
 tt:TypeId→Option TD
 ft:FuncId→Option FI
 keep:FuncId→Bool
 own:FuncId→Bool
 eqN:TypeId→Option Nat
def Env.dn (E:Env) (t:TypeId):Option TK:=(E.tt t).map TD.kind
def ofValue:Nat→Value→Option V
 | 0,_=>none
 | n+1,v=>
  match v with
  | .bool b=>some (.bool b)
  | .int k n=>some (.int k n)
  | .string s=>some (.str s)
  | .pointer none=>some .cq
  | .slice none 0 0=>some .ay
  | .map none=>some .eT
  | .nilFunc=>some .aO
  | .agg cs=>(cs.toList.mapM (ofValue n)).map .agg
  | _=>none
def ev (F:Frame):Operand→Option V
 | .tmp t=>some (get F t)
 | .const v=>ofValue 4 v
 | .func f=>some (.clo f [] [])
 | .global _=>none
def fP (F:Frame):List Operand→Option (List V)
 | []=>some []
 | x::r=>match ev F x,fP F r with
  | some v,some vs=>some (v::vs)
  | _,_=>none
def mk (agg:Bool) (cs:List V):Option V:=
 if agg then some (.agg cs)else match cs with|[v]=>some v|_=>none
def cut (cs:List V) (off n:Nat):Option (List V):=
 let r:=(cs.drop off).take n
 if r.length=n then some r else none
def gV:List V→Option (List Int)
 | []=>some []
 | .int .i64 a::r=>(gV r).map (a::·)
 | _=>none
def ji (as bs:List V):Option Bool:=
 match gV as,gV bs with
 | some a,some b=>if a.length=b.length then some (a==b)else none
 | _,_=>none
def qA (op:BinOp) (x y:Int):Option Bool:=
 match op with
 | .eql=>some (x==y)|.neq=>some (x != y)|.lss=>some (decide (x<y))|.leq=>some (decide (x≤y))
 | .gtr=>some (decide (x>y))|.geq=>some (decide (x≥y))|_=>none
def oV (k:TK) (x y:V):Option Bool:=
 match k,x,y with
 | .slice _,.ay,.ay=>some true
 | .slice _,.fsl ..,.ay=>some false
 | .slice _,.hsl ..,.ay=>some false
 | .ptr _,.cq,.cq=>some true
 | .ptr _,.fptr _,.cq=>some false
 | .ptr _,.hptr ..,.cq=>some false
 | .map ..,.eT,.eT=>some true
 | .map ..,.fmap _,.eT=>some false
 | .map ..,.hmap _,.eT=>some false
 | _,_,_=>none
def Bc (E:Env) (op:BinOp) (t:TypeId) (x y:V):Option V:=
 match x,y with
 | .int k a,.int k' b=>
  match op with
  | .shl=>if b<0 then none else some (.int k (k.wrap (a*2 ^ (min b.toNat k.bits))))
  | .shr=>if b<0 then none else some (.int k (a.fdiv (2 ^ (min b.toNat k.bits))))
  | _=>if k=k' then
   match op with
   | .add=>some (.int k (k.wrap (a+b)))
   | .sub=>some (.int k (k.wrap (a-b)))
   | .mul=>some (.int k (k.wrap (a*b)))
   | .quo=>if b=0 then none else some (.int k (k.wrap (a.tdiv b)))
   | .rem=>if b=0 then none else some (.int k (a.tmod b))
   | .and=>some (.int k (k.wrap (BitVec.ofInt k.bits a &&& BitVec.ofInt k.bits b).toNat))
   | .or=>some (.int k (k.wrap (BitVec.ofInt k.bits a ||| BitVec.ofInt k.bits b).toNat))
   | .xor=>some (.int k (k.wrap (BitVec.ofInt k.bits a ^^^ BitVec.ofInt k.bits b).toNat))
   | .andNot=>some (.int k (k.wrap (BitVec.ofInt k.bits a &&& ~~~ BitVec.ofInt k.bits b).toNat))
   | op=>(qA op a b).map .bool
   else none
 | .str a,.str b=>
  match op with
  | .add=>if((a.size+b.size:Nat):Int)>IntKind.i64.max then none else some (.str (a++b))
  | .eql=>some (.bool (a.toList==b.toList))
  | .neq=>some (.bool !(a.toList==b.toList))
  | .lss=>some (.bool (Op.bytesLess a.toList b.toList))
  | .leq=>some (.bool (Op.bytesLess a.toList b.toList||a.toList==b.toList))
  | .gtr=>some (.bool !(Op.bytesLess a.toList b.toList||a.toList==b.toList))
  | .geq=>some (.bool !(Op.bytesLess a.toList b.toList))
  | _=>none
 | .bool a,.bool b=>
  match E.dn t,op with
  | some .bool,.eql=>some (.bool (a==b))
  | some .bool,.neq=>some (.bool !(a==b))
  | _,_=>none
 | .agg a,.agg b=>
  match E.eqN t,op with
  | some n,.eql=>if a.length=n then(ji a b).map .bool else none
  | some n,.neq=>if a.length=n then(ji a b).map (fun t=>.bool !t)else none
  | _,_=>none
 | x,y=>
  match E.dn t,op with
  | some k,.eql=>(oV k x y).map .bool
  | some k,.neq=>(oV k x y).map fun t=>.bool !t
  | _,_=>none
def oJ (place:Nat→Option (Nat×Nat)) (cells:List V):List (Nat×V)→Option (List V)
 | []=>some cells
 | (i,v)::rest=>
  match place i with
  | none=>none
  | some (off,size)=>
   if v.cells.length≠size||off+v.cells.length>cells.length then none
   else oJ place (cells.take off++v.cells++cells.drop (off+v.cells.length)) rest
def jm (F:Frame):List (Nat×Operand)→Option (List (Nat×V))
 | []=>some []
 | (i,x)::r=>match ev F x,jm F r with
  | some v,some vs=>some ((i,v)::vs)
  | _,_=>none
def jJ (E:Env):List (Nat×TypeId)→Option (List (Nat×Nat))
 | []=>some []
 | (off,t)::r=>match E.tt t,jJ E r with
  | some d,some ps=>some ((off,d.size)::ps)
  | _,_=>none
def gQ (F:Frame):Option Operand→Option (Option Int)
 | none=>some none
 | some x=>match ev F x with
  | some (.int _ n)=>some (some n)
  | _=>none
def dR (len:Nat) (lo hi:Option Int):Option (Nat×Nat):=
 let h:=hi.getD len
 let l:=lo.getD 0
 if 0≤h∧h≤len∧0≤l∧l≤h then some (l.toNat,h.toNat)else none
def aN (E:Env) (F:Frame) (op:Op):Option V:=
 match op with
 | .move x|.assign x=>ev F x
 | .pick c a b=>match ev F c with
  | some (.bool t)=>if t then ev F a else ev F b
  | _=>none
 | .nilCheck x=>match ev F x with
  | some (.hptr id el off)=>some (.hptr id el off)
  | some (.fptr cs)=>some (.fptr cs)
  | some (.clo f a b)=>some (.clo f a b)
  | _=>none
 | .binOp op t x y _=>match ev F x,ev F y with
  | some a,some b=>Bc E op t a b
  | _,_=>none
 | .unOp op _ x=>match op,ev F x with
  | .not,some (.bool b)=>some (.bool !b)
  | .neg,some (.int k n)=>some (.int k (k.wrap (0-n)))
  | _,_=>none
 | .convert s d x=>match E.tt s,E.tt d,ev F x with
  | some _,some td,some (.int _ n)=>match td.kind with
   | .int k=>some (.int k (k.wrap n))
   | _=>none
  | _,_,_=>none
 | .fieldAddr s x f=>match E.dn s,ev F x with
  | some (.struct fs),some p=>match fs[f]? with
   | some (off,t)=>match E.tt t with
    | some d=>if d.size=0 then none else match p with
     | .fptr cs=>if off≤cs.length then some (.fptr (cs.drop off))else none
     | .hptr id el o=>some (.hptr id el (o+off))
     | _=>none
    | none=>none
   | none=>none
  | _,_=>none
 | .field s x f=>match E.dn s,ev F x with
  | some (.struct fs),some (.agg cs)=>match fs[f]? with
   | some (off,t)=>match E.tt t with
    | some d=>(cut cs off d.size).bind (mk d.agg)
    | none=>none
   | none=>none
  | _,_=>none
 | .indexAddr t x i=>match E.dn t,ev F x,ev F i with
  | some (.slice e),some s,some (.int _ n)=>match E.tt e with
   | some d=>if n<0 then none else match s with
    | .fsl es xs=>if es=d.size then(xs[n.toNat]?).map .fptr else none
    | .hsl id es off len=>if es=d.size∧n.toNat<len then some (.hptr id (off+n.toNat) 0)else none
    | _=>none
   | none=>none
  | some (.array len e),some p,some (.int _ n)=>match E.tt e with
   | some d=>if 0≤n∧n<len then match p with
    | .fptr cs=>if n.toNat*d.size≤cs.length then some (.fptr (cs.drop (n.toNat*d.size)))else none
    | .hptr id el o=>some (.hptr id el (o+n.toNat*d.size))
    | _=>none
    else none
   | none=>none
  | _,_,_=>none
 | .index t x i=>match E.dn t,ev F x,ev F i with
  | some .str,some (.str s),some (.int _ n)=>if 0≤n then(s[n.toNat]?).map (fun b=>.int .u8 b.toNat)else none
  | some (.array len e),some (.agg cs),some (.int _ n)=>match E.tt e with
   | some d=>if 0≤n∧n<len then(cut cs (n.toNat*d.size) d.size).bind (mk d.agg)else none
   | none=>none
  | _,_,_=>none
 | .slice t x lo hi mx=>match E.dn t,ev F x,gQ F lo,gQ F hi,gQ F mx with
  | some .str,some (.str s),some l,some h,some none=>(dR s.size l h).map fun (l,h)=>.str (s.extract l h)
  | some (.slice e),some v,some l,some h,some none=>match E.tt e with
   | some d=>match v with
    | .fsl es xs=>if es=d.size then(dR xs.length l h).map fun (l,h)=>.fsl es ((xs.take h).drop l)else none
    | .hsl id es off len=>if es=d.size then(dR len l h).map fun (l,h)=>.hsl id es (off+l) (h-l)else none
    | .dY=>(dR 0 l h).map fun _=>.dY
    | .ay=>(dR 0 l h).map fun _=>.ay
    | _=>none
   | none=>none
  | some (.slice e),some v,some none,some (some 0),some (some 0)=>match E.tt e,v with
   | some _,.fsl ..|some _,.hsl ..|some _,.dY|some _,.ay=>some .dY
   | _,_=>none
  | _,_,_,_,_=>none
 | .build t ps=>match E.tt t,jm F ps.toList with
  | some d,some vs=>match d.kind with
   | .struct fs=>match jJ E fs with
    | some pl=>(oJ (fun i=>pl[i]?) d.zero vs).map .agg
    | none=>none
   | .array _ e=>match E.tt e with
    | some de=>(oJ (fun i=>some (i*de.size,de.size)) d.zero vs).map .agg
    | none=>none
   | _=>none
  | _,_=>none
 | .makeFunc (.func f) a b=>match fP F a.toList,fP F b.toList with
  | some a,some b=>some (.clo f a b)
  | _,_=>none
 | .extract x i=>match ev F x with
  | some (.tup vs)=>vs[i]?
  | _=>none
 | .call { callee:=.builtin b,args,argTypes }=>match b,fP F args.toList,argTypes[0]? with
  | .len,some [v],some t=>match E.dn t,v with
   | some .str,.str s=>some (.int .i64 s.size)
   | some (.slice _),.fsl _ xs=>some (.int .i64 xs.length)
   | some (.slice _),.hsl _ _ _ len=>some (.int .i64 len)
   | some (.slice _),.dY=>some (.int .i64 0)
   | some (.slice _),.ay=>some (.int .i64 0)
   | _,_=>none
  | .max,some [.int k a,.int k' b],_=>if k=k' then some (.int k (if b>a then b else a))else none
  | .min,some [.int k a,.int k' b],_=>if k=k' then some (.int k (if b<a then b else a))else none
  | _,_,_=>none
 | _=>none
def dX (H:an) (p:V) (n:Nat):Option (List V):=
 match p with
 | .fptr cs=>cut cs 0 n
 | .hptr id el off=>match (H[id]?).bind Ob.rows with
  | some (_,xs)=>match xs[el]? with
   | some cs=>cut cs off n
   | none=>none
  | none=>none
 | _=>none
def pW:V→V→Option Bool
 | .int k a,.int k' b=>if k=k' then some (a==b)else none
 | .str a,.str b=>some (a==b)
 | .agg a,.agg b=>ji a b
 | _,_=>none
def fQ (k:V):List (V×V)→Nat→Option (Option (Nat×V))
 | [],_=>some none
 | (k',v)::r,i=>match pW k k' with
  | some true=>some (some (i,v))
  | some false=>fQ k r (i+1)
  | none=>none
def u9 (E:Env) (t:TypeId) (k:V):Bool:=
 match E.dn t,k with
 | some (.int k),.int k' _=>k==k'
 | some .str,.str _=>true
 | some _,.agg cs=>match E.eqN t with|some n=>cs.length==n&&(gV cs).isSome|none=>false
 | _,_=>false
def jx (H:an):V→Option (List (V×V))
 | .eT=>some []
 | .fmap kvs=>some kvs
 | .hmap id=>match H[id]? with
  | some (.map kvs)=>some kvs
  | _=>none
 | _=>none
def dg (E:Env) (F:Frame) (H:an) (op:Op):Option V:=
 match op with
 | .load t a=>match E.tt t,ev F a with
  | some d,some p=>(dX H p d.size).bind (mk d.agg)
  | _,_=>none
 | .lookup t m k ok=>match E.dn t,ev F m,ev F k with
  | some (.map kt et),some m,some k=>match E.tt et,jx H m with
   | some d,some kvs=>if u9 E kt k then match fQ k kvs 0,mk d.agg d.zero with
    | some (some (_,v)),_=>some (if ok then .tup [v,.bool true]else v)
    | some none,some z=>some (if ok then .tup [z,.bool false]else z)
    | _,_=>none
    else none
   | _,_=>none
  | _,_,_=>none
 | _=>none
inductive Mk where
 | ptr|sl (es len:Nat)|map
def Mk.val (id:Nat):Mk→V
 | .ptr=>.hptr id 0 0
 | .sl es len=>.hsl id es 0 len
 | .map=>.hmap id
def fH (es:Nat) (xs:List (List V)):List (Nat×V)→Option (List (List V))
 | []=>some xs
 | (i,v)::r=>if v.cells.length=es∧i<xs.length∧v.cells.all V.one=true then fH es (xs.set i v.cells) r else none
def ez (E:Env) (F:Frame) (op:Op):Option (Ob×Mk):=
 match op with
 | .alloc t=>(E.tt t).map fun d=>(.row d.size [d.zero],.ptr)
 | .box _ x=>match ev F x with
  | some v=>if v.cells.all V.one then some (.row v.cells.length [v.cells],.ptr)else none
  | none=>none
 | .makeSlice t l c=>match E.dn t,ev F l,ev F c with
  | some (.slice e),some (.int k n),some (.int k' m)=>match E.tt e with
   | some d=>if k=.i64∧k'=.i64∧0≤n∧n≤m∧m≤2147483648∧d.bytes≤4096 then some (.row d.size (List.replicate m.toNat d.zero),.sl d.size n.toNat)else none
   | none=>none
  | _,_,_=>none
 | .buildSlice t len ps=>match E.dn t,jm F ps.toList with
  | some (.slice e),some vs=>match E.tt e with
   | some d=>if len*d.size≤16777216 then(fH d.size (List.replicate len d.zero) vs).map fun xs=>(.row d.size xs,.sl d.size len)else none
   | none=>none
  | _,_=>none
 | .makeMap _ none=>some (.map [],.map)
 | _=>none
def ec (H:an) (es:Nat):V→Option (List (List V))
 | .dY=>some []
 | .ay=>some []
 | .fsl es' xs=>if es'=es then some xs else none
 | .hsl id es' off len=>if es'=es then match (H[id]?).bind Ob.rows with
  | some (_,xs)=>if off+len≤xs.length then some ((xs.drop off).take len)else none
  | none=>none
  else none
 | _=>none
def kX (k v:V) (kvs:List (V×V)):Option (List (V×V)):=
 match fQ k kvs 0 with
 | some (some (j,_))=>some (kvs.set j (k,v))
 | some none=>some (kvs++[(k,v)])
 | none=>none
def iE (H:an):V→Option an
 | .dY=>some H
 | .ay=>some H
 | .hsl id _ _ _=>match H[id]? with
  | some (.row _ _)=>some (H.set id .dead)
  | _=>none
 | _=>none
def d5 (E:Env) (F:Frame) (H:an) (op:Op):Option (V×an):=
 match op with
 | .store t a x=>match E.tt t,ev F a,ev F x with
  | some d,some (.hptr id el off),some v=>match H[id]? with
   | some (.row es xs)=>match xs[el]? with
    | some cs=>if v.cells.length=d.size∧off+d.size≤cs.length∧v.cells.all V.one=true then
     some (.undef,H.set id (.row es (xs.set el (cs.take off++v.cells++cs.drop (off+v.cells.length)))))else none
    | none=>none
   | _=>none
  | _,_,_=>none
 | .mapUpdate t m k x=>match E.dn t,ev F m,ev F k,ev F x with
  | some (.map kt _),some (.hmap id),some k,some v=>match H[id]? with
   | some (.map kvs)=>if u9 E kt k then(kX k v kvs).map fun kvs=>(.undef,H.set id (.map kvs))else none
   | _=>none
  | _,_,_,_=>none
 | .call { callee:=.builtin .append,args,argTypes }=>match argTypes.toList,fP F args.toList with
  | [t,t'],some [s,x]=>match E.dn t,E.dn t' with
   | some (.slice e),some (.slice _)=>match E.tt e with
    | some d=>match ec H d.size s,ec H d.size x with
     | some _,some []=>some (s,H)
     | some xs,some ys=>
      if xs.length+ys.length≤2147483648∧d.bytes≤4096∧0<d.bytes then
       (iE H s).map fun H1=>(.hsl H.length d.size 0 (xs.length+ys.length),H1++[.row d.size (xs++ys)])
      else none
     | _,_=>none
    | none=>none
   | _,_=>none
  | _,_=>none
 | _=>none
inductive Callee where
 | fn (f:FuncId)
 | yld (id:Nat)
def gR (F:Frame) (op:Op):Option (Callee×List V):=
 match op with
 | .call { callee:=.value f,args,.. }=>match ev F f,fP F args.toList with
  | some (.clo g a b),some vs=>some (.fn g,a++vs++b)
  | some (.yld id),some vs=>some (.yld id,vs)
  | _,_=>none
 | _=>none
inductive Jv where
 | pure|read|alloc|loud|call
 deriving DecidableEq
def eG:Op→Jv
 | .load ..|.lookup ..=>.read
 | .alloc ..|.box ..|.makeSlice ..|.buildSlice ..|.makeMap ..=>.alloc
 | .store ..|.mapUpdate ..=>.loud
 | .call { callee:=.builtin .append,.. }=>.loud
 | .call { callee:=.value _,.. }=>.call
 | _=>.pure
def jl (f:V→Option V):List V→Option (List V)
 | []=>some []
 | x::r=>match f x,jl f r with
  | some y,some s=>some (y::s)
  | _,_=>none
def oD (f:V→Option V):List (List V)→Option (List (List V))
 | []=>some []
 | x::r=>match jl f x,oD f r with
  | some y,some s=>some (y::s)
  | _,_=>none
def oK (f:V→Option V):List (V×V)→Option (List (V×V))
 | []=>some []
 | (k,x)::r=>match f k,f x,oK f r with
  | some k,some y,some s=>some ((k,y)::s)
  | _,_,_=>none
def borrow:Nat→an→V→Option V
 | 0,_,x=>if x.closed then some x else none
 | n+1,H,x=>
  if x.closed then some x else
  match x with
  | .hsl id es off len=>match (H[id]?).bind Ob.rows with
   | some (es',xs)=>if es'=es∧off+len≤xs.length then(oD (borrow n H) ((xs.drop off).take len)).map (.fsl es)else none
   | none=>none
  | .hptr id el off=>match (H[id]?).bind Ob.rows with
   | some (_,xs)=>match xs[el]? with
    | some cs=>if off≤cs.length then(jl (borrow n H) (cs.drop off)).map .fptr else none
    | none=>none
   | none=>none
  | .hmap id=>match H[id]? with
   | some (.map kvs)=>(oK (borrow n H) kvs).map .fmap
   | _=>none
  | .clo f a b=>match jl (borrow n H) a,jl (borrow n H) b with
   | some a,some b=>some (.clo f a b)
   | _,_=>none
  | .agg cs=>(jl (borrow n H) cs).map .agg
  | .tup cs=>(jl (borrow n H) cs).map .tup
  | _=>none
def borrows (n:Nat) (H:an) (l:List V):Option (List V):=jl (borrow n H) l
def dz (f:V→List Nat):List V→List Nat
 | []=>[]
 | x::r=>f x++dz f r
def cB:Nat→an→V→List Nat
 | 0,_,_=>[]
 | n+1,H,x=>
  if x.closed then []else
  match x with
  | .hsl id _ _ _=>id::(match (H[id]?).bind Ob.rows with|some (_,xs)=>dz (cB n H) xs.flatten|none=>[])
  | .hptr id _ _=>id::(match (H[id]?).bind Ob.rows with|some (_,xs)=>dz (cB n H) xs.flatten|none=>[])
  | .hmap id=>id::(match H[id]? with|some (.map kvs)=>dz (cB n H) (kvs.map (·.1))++dz (cB n H) (kvs.map (·.2))|_=>[])
  | .clo _ a b=>dz (cB n H) a++dz (cB n H) b
  | .agg cs=>dz (cB n H) cs
  | .tup cs=>dz (cB n H) cs
  | _=>[]
def o9 (H:an) (id:Nat):an:=
 match H[id]? with
 | some (.row es xs)=>H.set id (.frz es xs)
 | some (.map _)=>H.set id .dead
 | _=>H
def bT (H:an) (l:List Nat):an:=l.foldl o9 H
abbrev dN:=Callee→List V→an→Option (V×an)
def gM (H:an) (T:List Nat):Bool:=T.all fun id=>((H[id]?).bind Ob.rows).isSome
def dD (call:dN) (f:FuncId) (args:List V) (H:an):Option V:=
 match borrows 8 H args with
 | some as=>match call (.fn f) as []with
  | some (r,H1)=>match borrow 8 H1 r with
   | some y=>if y.closed then some y else none
   | none=>none
  | none=>none
 | none=>none
def nr (k:Nat) (H1:an) (id es off len:Nat):Option (V×Ob):=
 match H1[id]? with
 | some (.row es' xs)=>if es'=es∧(xs.all fun x=>x.all V.scalar)=true then some (.hsl k es off len,.row es xs)else none
 | _=>none
def jr (call:dN) (f:FuncId) (args:List V) (H:an):Option (V×an):=
 match borrows 8 H args with
 | some as=>match call (.fn f) as []with
  | some (r,H1)=>
   if r.scalar then some (r,H)else
   match r with
   | .hsl id es off len=>(nr H.length H1 id es off len).map fun (v,ob)=>(v,H++[ob])
   | .tup (.hsl id es off len::rest)=>if V.cE rest then(nr H.length H1 id es off len).map fun (v,ob)=>(.tup (v::rest),H++[ob])else none
   | _=>none
  | none=>none
 | none=>none
def e7 (E:Env) (call:dN) (f:FuncId) (args:List V) (H:an):Option (V×an):=
 if E.own f then jr call f args H else call (.fn f) args H
def iG (e:Edge):Bool:=match e.ground with|.textOnly _|.gcOnly _=>false|_=>true
def zE (o:Oper) (i:Nat):Bool:=o.after.any fun e=>e.on==i&&iG e
def xz (acc:List (List Nat)) (o:Oper):List Nat:=
 (o.after.toList.filter iG).foldl (fun l e=>(e.on::(acc[e.on]?).getD []).foldl (fun l k=>if l.contains k then l else k::l) l) []
def Bz (ops:List Oper):List (List Nat):=ops.foldl (fun acc o=>acc++[xz acc o]) []
def before (ops:List Oper) (i k:Nat):Bool:=(((Bz ops)[i]?).getD []).contains k
def eJ (ops:List Oper) (i:Nat):Bool:=
 match ops[i]? with
 | some _=>(List.range ops.length).all fun k=>match ops[k]? with
  | some p=>k==i||eG p.op==.pure||(if k<i then before ops i k else before ops k i)
  | none=>true
 | none=>false
def qz (ops:List Oper):List Nat:=ops.filterMap (·.dst)
def SN (ops:List Oper) (i k:Nat):Bool:=if k<i then before ops i k else before ops k i
def A2 (ops:List Oper) (i k:Nat):Option (List Nat):=
 match ops[k]? with
 | some p=>
  if k==i||eG p.op==.pure||SN ops i k then some []else
  match p.op with
  | .load _ (.tmp a)=>if(qz ops).contains a then none else some [a]
  | _=>none
 | none=>some []
def wZ (ops:List Oper) (i:Nat):List Nat→Option (List Nat)
 | []=>some []
 | k::r=>match A2 ops i k,wZ ops i r with
  | some a,some b=>some (a++b)
  | _,_=>none
def xe (ops:List Oper) (i:Nat):Option (Nat×List Nat):=
 match (ops[i]?).map Oper.op with
 | some (.store _ (.tmp a) _)=>if(qz ops).contains a then none else(wZ ops i (List.range ops.length)).map fun l=>(a,l)
 | _=>none
def oT (id:Nat):V→Bool
 | .hptr id' _ _=>id' != id
 | .fptr _=>true
 | _=>false
def oa (ops:List Oper) (i:Nat) (F:Frame):Bool:=
 match xe ops i with
 | some (a,l)=>match get F a with
  | .hptr id _ _=>l.all fun s=>oT id (get F s)
  | _=>false
 | none=>false
def dL (E:Env) (call:dN) (ops:List Oper) (place:Option (Nat×Nat)) (F:Frame) (H:an) (op:Op):Option (V×an):=
 match eG op with
 | .pure=>(aN E F op).map fun v=>(v,H)
 | .read=>match place with
  | none=>(dg E F H op).map fun v=>(v,H)
  | some (b,i)=>match dg E F (H.take b) op with
   | some v=>some (v,H)
   | none=>if eJ ops i then(dg E F H op).map fun v=>(v,H)else none
 | .alloc=>match ez E F op,place with
  | some (ob,m),none=>some (m.val H.length,H++[ob])
  | some (ob,m),some (b,i)=>match H[b+i]? with
   | some .free=>some (m.val (b+i),H.set (b+i) ob)
   | _=>none
  | none,_=>none
 | .loud=>match place with
  | none=>d5 E F H op
  | some (_,i)=>if eJ ops i||oa ops i F then d5 E F H op else none
 | .call=>match gR F op with
  | some (.fn f,args)=>
   if E.keep f then
    match place with
    | none=>e7 E call f args H
    | some (_,i)=>if eJ ops i then e7 E call f args H else none
   else match place with
    | none=>match dD call f args H with
     | some y=>some (y,if y.scalar then H else bT H (dz (cB 8 H) args))
     | none=>none
    | some (b,i)=>match dD call f args (H.take b)with
     | some y=>if y.scalar then some (y,H)else if gM (H.take b) (dz (cB 8 (H.take b)) args)then some (y,bT H (dz (cB 8 (H.take b)) args))else none
     | none=>if eJ ops i then match dD call f args H with
      | some y=>some (y,if y.scalar then H else bT H (dz (cB 8 H) args))
      | none=>none
      else none
  | some (.yld id,args)=>match place with
   | none=>call (.yld id) args H
   | some (_,i)=>if eJ ops i then call (.yld id) args H else none
  | none=>none
def g9 (n:Nat) (F:Frame) (dst:Option Nat) (v:V):Option Frame:=
 match dst with
 | none=>some F
 | some d=>if d<n then some (set F d v)else none
def eZ (ops:List Oper) (F:Frame) (o:Oper):Bool:=
 match o.guard with
 | none=>true
 | some (j,b)=>match (ops[j]?).bind (·.dst)with
  | some d=>match get F d with
   | .bool c=>c==b
   | _=>false
  | none=>false
def eW (E:Env) (call:dN) (n:Nat) (ops:List Oper) (place:Option (Nat×Nat)) (o:Oper) (F:Frame) (H:an):Option (Frame×an):=
 if eZ ops F o then
  match dL E call ops place F H o.op with
  | some (v,H')=>(g9 n F o.dst v).map fun F'=>(F',H')
  | none=>none
 else(g9 n F o.dst .undef).map fun F'=>(F',H)
def i_ (E:Env) (call:dN) (n:Nat) (ops:List Oper):List Oper→Frame→an→Option (Frame×an)
 | [],F,H=>some (F,H)
 | o::r,F,H=>match eW E call n ops none o F H with
  | some (F',H')=>i_ E call n ops r F' H'
  | none=>none
def gE (E:Env) (call:dN) (n:Nat) (ops:List Oper) (base:Nat):List Nat→Frame→an→Option (Frame×an)
 | [],F,H=>some (F,H)
 | i::r,F,H=>match ops[i]? with
  | some o=>match eW E call n ops (some (base,i)) o F H with
   | some (F',H')=>gE E call n ops base r F' H'
   | none=>none
  | none=>none
def nE (o:Oper) (ops:List Oper):List Nat:=
 (o.op.operands.toList.filterMap fun|.tmp t=>some t|_=>none) ++
 (match o.guard with|some (g,_)=>((ops[g]?).bind (·.dst)).toList|none=>[])
def rT (ops:List Oper) (a b:Oper):Bool:=
 (match a.dst with|some d => !(nE b ops).contains d&&b.dst != some d|none=>true) &&
 (match b.dst with|some d => !(nE a ops).contains d|none=>true)
def qg (ops:List Oper):Bool:=
 (List.range ops.length).all fun j=>(List.range j).all fun i=>
  match ops[i]?,ops[j]? with
  | some a,some b=>zE b i||rT ops a b
  | _,_=>false
def uu (ops:List Oper):Bool:=
 (List.range ops.length).all fun j=>match ops[j]? with
  | some o=>o.after.all fun e => !iG e||decide (e.on<j)
  | none=>true
def mK (ops:List Oper):Bool:=ops.any fun o=>eG o.op==.alloc
def gG (E:Env) (call:dN) (n:Nat) (ops:List Oper) (draw:Bool) (F:Frame) (H:an):Option (Frame×an):=
 if draw then
  if qg ops&&uu ops then
   gE E call n ops H.length (List.range ops.length) F (if mK ops then H++List.replicate ops.length .free else H)
  else none
 else i_ E call n ops ops F H
def iu (step:Frame→an→Option (Out×Frame×an)):Nat→Frame→an→Option (Out×Frame×an)
 | 0,_,_=>none
 | k+1,F,H=>match step F H with
  | some (.norm,F',H')=>iu step k F' H'
  | r=>r
def gX:Out→Option Code
 | .norm=>none
 | .ret=>some .ret
 | .exit id=>some (.exit id)
def exec (E:Env) (call:dN) (lf:Nat) (ro:Bool) (n:Nat):Code→Frame→an→Option (Out×Frame×an)
 | .skip,F,H=>some (.norm,F,H)
 | .label _,F,H=>some (.norm,F,H)
 | .region _ ops draw,F,H=>(gG E call n ops.toList draw F H).map fun (F',H')=>(.norm,F',H')
 | .seq a b,F,H=>match exec E call lf ro n a F H with
  | some (.norm,F',H')=>exec E call lf ro n b F' H'
  | r=>r
 | .cond c x y,F,H=>match ev F c with
  | some (.bool t)=>if t then exec E call lf ro n x F H else exec E call lf ro n y F H
  | _=>none
 | .block id c,F,H=>match exec E call lf ro n c F H with
  | some (.exit id',F',H')=>if id'=id then some (.norm,F',H')else some (.exit id',F',H')
  | r=>r
 | .loop c,F,H=>iu (exec E call lf ro n c) lf F H
 | .rangeFunc g ps assign body,F,H=>match ro,ev F g with
  | false,some (.clo f a b)=>
   match call (.fn f) (a++.yld H.length::b) (H++[.loop ⟨.ready,none,F,n,ps.toList,assign,body⟩])with
   | some (_,H')=>match H'[H.length]? with
    | some (.loop r)=>match r.st with
     | .busy=>none
     | _=>some (r.pend.getD .norm,F,H'.set H.length .dead)
    | _=>none
   | none=>none
  | _,_=>none
 | .exit id,F,H=>some (.exit id,F,H)
 | .ret,F,H=>some (.ret,F,H)
 | _,_,_=>none
def gD (E:Env) (F:Frame) (H:an):List ResultVar→Option (List V)
 | []=>some []
 | .tmp t::r=>(gD E F H r).map (get F t::·)
 | .cell a t::r=>match E.tt t,gD E F H r with
  | some d,some vs=>((dX H (get F a) d.size).bind (mk d.agg)).map (·::vs)
  | _,_=>none
def result:List V→V
 | [v]=>v
 | vs=>.tup vs
def o0:List Nat→List V→Frame→Frame
 | t::ts,v::vs,F=>o0 ts vs (set F t v)
 | _,_,F=>F
def run (E:Env):Nat→dN
 | 0,_,_,_=>none
 | n+1,.fn f,args,H=>match E.ft f with
  | some fi=>if args.length≤fi.ntmps then
   match exec E (run E n) n false fi.ntmps fi.body args H with
   | some (.exit _,_,_)=>none
   | some (_,F',H')=>(gD E F' H' fi.results).map fun vs=>(result vs,H')
   | none=>none
   else none
  | none=>none
 | n+1,.yld id,args,H=>match H[id]? with
  | some (.loop r)=>match r.st with
   | .ready=>if args.length=r.params.length∧r.params.all (·<r.nt)then
    match exec E (run E n) n true r.nt r.assign (o0 r.params args r.frame) H with
    | some (.norm,F2,H2)=>match H2[id]? with
     | some (.loop r2)=>match r2.st with
      | .ready=>match exec E (run E n) n true r.nt r.body F2 (H2.set id (.loop { r2 with st:=.busy }))with
       | some (o,_,H4)=>match H4[id]? with
        | some (.loop r4)=>some (.bool (o==.norm),H4.set id (.loop { r4 with st:=(if o==.norm then .ready else .done),pend:=(if o==.norm then none else some o) }))
        | _=>none
       | none=>none
      | _=>none
     | _=>none
    | _=>none
    else none
   | _=>none
  | _=>none
end Go.VE
namespace Go.VE
@[simp] theorem get_nil (i:Nat):get [] i=.undef:=by cases i <;> rfl
@[simp] theorem xG (F:Frame) (i:Nat) (v:V):get (set F i v) i=v:=by
 induction F generalizing i with
 | nil=>induction i with
  | zero=>rfl
  | succ i ih=>simpa [set,get]using ih
 | cons x r ih=>cases i with
  | zero=>rfl
  | succ i=>simpa [set,get]using ih i
theorem lF (F:Frame) {i j:Nat} (v:V) (h:i≠j):get (set F i v) j=get F j:=by
 induction F generalizing i j with
 | nil=>
  induction i generalizing j with
  | zero=>cases j with
   | zero=>exact absurd rfl h
   | succ j=>simp[set,get]
  | succ i ih=>cases j with
   | zero=>simp[set,get]
   | succ j=>simpa [set,get]using ih (j:=j) (by omega)
 | cons x r ih=>cases i with
  | zero=>cases j with
   | zero=>exact absurd rfl h
   | succ j=>simp[set,get]
  | succ i=>cases j with
   | zero=>simp[set,get]
   | succ j=>simpa [set,get]using ih (i:=i) (j:=j) (by omega)
theorem CD (F:Frame) {i j:Nat} (u v:V) (h:i≠j):set (set F i u) j v=set (set F j v) i u:=by
 induction F generalizing i j with
 | nil=>
  induction i generalizing j with
  | zero=>cases j with
   | zero=>exact absurd rfl h
   | succ j=>simp[set]
  | succ i ih=>cases j with
   | zero=>simp[set]
   | succ j=>simpa [set]using ih (j:=j) (by omega)
 | cons x r ih=>cases i with
  | zero=>cases j with
   | zero=>exact absurd rfl h
   | succ j=>simp[set]
  | succ i=>cases j with
   | zero=>simp[set]
   | succ j=>simpa [set]using ih (i:=i) (j:=j) (by omega)
inductive IC where
 | cells (c:Array Value)
 | map (es:Array MapEntry)
abbrev bB:=Nat→Option IC
def IC.at (x:IC) (w:World) (b:Nat):Prop:=
 match x with
 | .cells c=>∃el fr,w.heap[b]? = some (.cells c el fr)
 | .map es=>∃clock,w.heap[b]? = some (.map es clock)
def bB.le (I I':bB):Prop:=∀b x,I b=some x→I' b=some x
theorem bB.le_refl (I:bB):bB.le I I:=fun _ _ h=>h
theorem bB.le_trans {I J K:bB} (h:bB.le I J) (h':bB.le J K):bB.le I K:=fun b x e=>h' b x (h b x e)
inductive ei (I:bB):V→Value→Prop
 | bool (b:Bool):ei I (.bool b) (.bool b)
 | int (k:IntKind) (n:Int):ei I (.int k n) (.int k n)
 | str (s:ByteArray):ei I (.str s) (.string s)
 | dY (a:Option Addr):ei I .dY (.slice a 0 0)
 | ay:ei I .ay (.slice none 0 0)
 | fsl0 (es:Nat) (a:Addr) (cap:Nat):ei I (.fsl es []) (.slice (some a) 0 cap)
 | fsl (es:Nat) (xs:List (List V)) (b o cap:Nat) (c:Array Value) (hI:I b=some (.cells c)) (hc:xs.length≤cap)
  (hu:∀x∈xs,x.length=es) (ho:∀x∈xs,∀y∈x,V.one y=true) (hb:o+xs.length*es≤c.size)
  (hr:∀(i j:Nat) x y v,xs[i]? = some x→x[j]? = some y→c[o+i*es+j]? = some v→ei I y v) :
  ei I (.fsl es xs) (.slice (some ⟨b,o,none⟩) xs.length cap)
 | cq:ei I .cq (.pointer none)
 | fptr (cs:List V) (b o:Nat) (c:Array Value) (hI:I b=some (.cells c)) (hb:o+cs.length≤c.size)
  (hr:∀(j:Nat) y v,cs[j]? = some y→c[o+j]? = some v→ei I y v):ei I (.fptr cs) (.pointer (some ⟨b,o,none⟩))
 | clo (f:FuncId) (x y:List V) (u v:Array Value) (hx:x.length=u.size) (hy:y.length=v.size)
  (h1:∀(j:Nat) a b,x[j]? = some a→u[j]? = some b→ei I a b) (h2:∀(j:Nat) a b,y[j]? = some a→v[j]? = some b→ei I a b) :
  ei I (.clo f x y) (.func (.func f) u v)
 | eT:ei I .eT (.map none)
 | aO:ei I .aO .nilFunc
 | fmap (kvs:List (V×V)) (b:Nat) (es:Array MapEntry) (hI:I b=some (.map es)) (hl:kvs.length=es.size)
  (hk:∀(j:Nat) p e,kvs[j]? = some p→es[j]? = some e→ei I p.1 e.key)
  (hv:∀(j:Nat) p e,kvs[j]? = some p→es[j]? = some e→ei I p.2 e.val):ei I (.fmap kvs) (.map (some b))
 | agg (cs:List V) (vs:Array Value) (hl:cs.length=vs.size) (h:∀(j:Nat) a b,cs[j]? = some a→vs[j]? = some b→ei I a b) :
  ei I (.agg cs) (.agg vs)
 | tup (cs:List V) (vs:Array Value) (hl:cs.length=vs.size) (h:∀(j:Nat) a b,cs[j]? = some a→vs[j]? = some b→ei I a b) :
  ei I (.tup cs) (.tuple vs)
structure Pl where
 b:Nat
 o:Nat
 es:Nat
 sz:Nat
abbrev Mu:=Nat→Option Pl
inductive aK (I:bB) (μ:Mu):V→Value→Prop
 | c (x:V) (v:Value) (h:ei I x v):aK I μ x v
 | hsl (id off len cap:Nat) (p:Pl) (hm:μ id=some p) (hc:len≤cap) (hb:p.o+(off+cap)*p.es≤p.sz) :
  aK I μ (.hsl id p.es off len) (.slice (some ⟨p.b,p.o+off*p.es,none⟩) len cap)
 | hsl0 (id es off:Nat) (a:Addr):aK I μ (.hsl id es off 0) (.slice (some a) 0 0)
 | hptr (id el off:Nat) (p:Pl) (hm:μ id=some p):aK I μ (.hptr id el off) (.pointer (some ⟨p.b,p.o+el*p.es+off,none⟩))
 | yld (id:Nat) (p:Pl) (hm:μ id=some p):aK I μ (.yld id) (.func (.yield p.b) #[] #[])
 | hmap (id:Nat) (p:Pl) (hm:μ id=some p):aK I μ (.hmap id) (.map (some p.b))
 | clo (f:FuncId) (x y:List V) (u v:Array Value) (hx:x.length=u.size) (hy:y.length=v.size)
  (h1:∀(j:Nat) a b,x[j]? = some a→u[j]? = some b→aK I μ a b) (h2:∀(j:Nat) a b,y[j]? = some a→v[j]? = some b→aK I μ a b) :
  aK I μ (.clo f x y) (.func (.func f) u v)
 | agg (cs:List V) (vs:Array Value) (hl:cs.length=vs.size) (h:∀(j:Nat) a b,cs[j]? = some a→vs[j]? = some b→aK I μ a b) :
  aK I μ (.agg cs) (.agg vs)
 | tup (cs:List V) (vs:Array Value) (hl:cs.length=vs.size) (h:∀(j:Nat) a b,cs[j]? = some a→vs[j]? = some b→aK I μ a b) :
  aK I μ (.tup cs) (.tuple vs)
def Mu.le (μ μ':Mu):Prop:=∀id p,μ id=some p→μ' id=some p
theorem Mu.le_refl (μ:Mu):Mu.le μ μ:=fun _ _ h=>h
theorem ei.mono {I I':bB} (h:bB.le I I') {x:V} {v:Value} (r:ei I x v):ei I' x v:=by
 induction r with
 | bool b=>exact .bool b
 | int k n=>exact .int k n
 | str s=>exact .str s
 | dY a=>exact .dY a
 | ay=>exact .ay
 | fsl0 es a cap=>exact .fsl0 es a cap
 | fsl es xs b o cap c hI hc hu ho hb _ ih=>exact .fsl es xs b o cap c (h _ _ hI) hc hu ho hb ih
 | cq=>exact .cq
 | fptr cs b o c hI hb _ ih=>exact .fptr cs b o c (h _ _ hI) hb ih
 | clo f x y u v hx hy _ _ ih1 ih2=>exact .clo f x y u v hx hy ih1 ih2
 | eT=>exact .eT
 | aO=>exact .aO
 | fmap kvs b es hI hl _ _ ih1 ih2=>exact .fmap kvs b es (h _ _ hI) hl ih1 ih2
 | agg cs vs hl _ ih=>exact .agg cs vs hl ih
 | tup cs vs hl _ ih=>exact .tup cs vs hl ih
theorem aK.mono {I I':bB} {μ μ':Mu} (h:bB.le I I') (hm:Mu.le μ μ') {x:V} {v:Value} (r:aK I μ x v):aK I' μ' x v:=by
 induction r with
 | c x v r=>exact .c _ _ (r.mono h)
 | hsl id off len cap p hp hc hb=>exact .hsl id off len cap p (hm _ _ hp) hc hb
 | hsl0 id es off a=>exact .hsl0 id es off a
 | hptr id el off p hp=>exact .hptr id el off p (hm _ _ hp)
 | yld id p hp=>exact .yld id p (hm _ _ hp)
 | hmap id p hp=>exact .hmap id p (hm _ _ hp)
 | clo f x y u v hx hy _ _ ih1 ih2=>exact .clo f x y u v hx hy ih1 ih2
 | agg cs vs hl _ ih=>exact .agg cs vs hl ih
 | tup cs vs hl _ ih=>exact .tup cs vs hl ih
def bS (I:bB) (μ:Mu) (xs:List V) (vs:List Value):Prop:=
 xs.length=vs.length∧∀(j:Nat) a b,xs[j]? = some a→vs[j]? = some b→aK I μ a b
theorem bS.nil {I:bB} {μ:Mu}:bS I μ [] []:=⟨rfl,by simp⟩
theorem bS.cons {I:bB} {μ:Mu} {x:V} {v:Value} {xs:List V} {vs:List Value} (h:aK I μ x v) (r:bS I μ xs vs):bS I μ (x::xs) (v::vs):=by
 refine⟨by simp[r.1],?_⟩
 intro j a b h1 h2
 cases j with
 | zero=>simp at h1 h2;subst h1;subst h2;exact h
 | succ j=>exact r.2 j a b (by simpa using h1) (by simpa using h2)
theorem bS.cons_inv {I:bB} {μ:Mu} {x:V} {xs:List V} {ws:List Value} (r:bS I μ (x::xs) ws):∃v vs,ws=v::vs∧aK I μ x v∧bS I μ xs vs:=by
 obtain⟨hl,h⟩:=r
 cases ws with
 | nil=>simp at hl
 | cons v vs=>
  refine⟨v,vs,rfl,h 0 x v (by simp) (by simp),by simpa using hl,?_⟩
  intro j a b h1 h2;exact h (j+1) a b (by simpa using h1) (by simpa using h2)
theorem bS.vj {I:bB} {μ:Mu} {ws:List Value} (r:bS I μ [] ws):ws=[]:=by
 have:=r.1;cases ws with
 | nil=>rfl
 | cons _ _=>simp at this
theorem bS.append {I:bB} {μ:Mu} {xs ys:List V} {us vs:List Value} (h:bS I μ xs us) (h':bS I μ ys vs):bS I μ (xs++ys) (us++vs):=by
 induction xs generalizing us with
 | nil=>rw[bS.vj h];exact h'
 | cons x xs ih=>
  obtain⟨v,us,rfl,hv,hr⟩:=h.cons_inv;exact .cons hv (ih hr)
theorem bS.mono {I I':bB} {μ μ':Mu} (h:bB.le I I') (hm:Mu.le μ μ') {xs:List V} {vs:List Value} (r:bS I μ xs vs):bS I' μ' xs vs:=
 ⟨r.1,fun j a b h1 h2=>(r.2 j a b h1 h2).mono h hm⟩
theorem bS.take {I:bB} {μ:Mu} {xs:List V} {vs:List Value} (r:bS I μ xs vs) (n:Nat):bS I μ (xs.take n) (vs.take n):=by
 refine⟨by simp[r.1],fun j a b h1 h2 => ?_⟩
 rw[List.getElem?_take]at h1 h2;split at h1 <;> simp_all;exact r.2 j a b h1 h2
theorem bS.drop {I:bB} {μ:Mu} {xs:List V} {vs:List Value} (r:bS I μ xs vs) (n:Nat):bS I μ (xs.drop n) (vs.drop n):=by
 refine⟨by simp[r.1],fun j a b h1 h2 => ?_⟩
 rw[List.getElem?_drop]at h1 h2;exact r.2 _ a b h1 h2
theorem aK.cells {I:bB} {μ:Mu} {x:V} {v:Value} (r:aK I μ x v):bS I μ x.cells v.cells.toList:=by
 cases r with
 | c x v h=>
  cases h with
  | agg cs vs hl h=>exact⟨by simpa [V.cells,Value.cells]using hl,fun j a b h1 h2=>.c _ _ (h j a b h1 (by simpa [Value.cells]using h2))⟩
  | bool b=>exact .cons (.c _ _ (.bool b)) .nil
  | int k n=>exact .cons (.c _ _ (.int k n)) .nil
  | str s=>exact .cons (.c _ _ (.str s)) .nil
  | dY a=>exact .cons (.c _ _ (.dY a)) .nil
  | ay=>exact .cons (.c _ _ .ay) .nil
  | fsl0 es a cap=>exact .cons (.c _ _ (.fsl0 es a cap)) .nil
  | fsl es xs b o cap c hI hc hu ho hb hr=>exact .cons (.c _ _ (.fsl es xs b o cap c hI hc hu ho hb hr)) .nil
  | cq=>exact .cons (.c _ _ .cq) .nil
  | fptr cs b o c hI hb hr=>exact .cons (.c _ _ (.fptr cs b o c hI hb hr)) .nil
  | clo f x y u v hx hy h1 h2=>exact .cons (.c _ _ (.clo f x y u v hx hy h1 h2)) .nil
  | eT=>exact .cons (.c _ _ .eT) .nil
  | aO=>exact .cons (.c _ _ .aO) .nil
  | fmap kvs b es hI hl hk hv=>exact .cons (.c _ _ (.fmap kvs b es hI hl hk hv)) .nil
  | tup cs vs hl h=>exact .cons (.c _ _ (.tup cs vs hl h)) .nil
 | hsl id off len cap p hm hc hb=>exact .cons (.hsl id off len cap p hm hc hb) .nil
 | hsl0 id es off a=>exact .cons (.hsl0 id es off a) .nil
 | hptr id el off p hm=>exact .cons (.hptr id el off p hm) .nil
 | yld id p hm=>exact .cons (.yld id p hm) .nil
 | hmap id p hm=>exact .cons (.hmap id p hm) .nil
 | clo f x y u v hx hy h1 h2=>exact .cons (.clo f x y u v hx hy h1 h2) .nil
 | agg cs vs hl h=>exact⟨by simpa [V.cells,Value.cells]using hl,fun j a b h1 h2=>h j a b h1 (by simpa [Value.cells]using h2)⟩
 | tup cs vs hl h=>exact .cons (.tup cs vs hl h) .nil
theorem aK.A4 {I:bB} {μ:Mu} {cs:List V} {vs:Array Value} (h:bS I μ cs vs.toList):aK I μ (.agg cs) (.agg vs):=
 .agg cs vs (by simpa using h.1) fun j a b h1 h2=>h.2 j a b h1 (by simpa using h2)
theorem aK.IW {I:bB} {μ:Mu} {cs:List V} {vs:Array Value} (h:bS I μ cs vs.toList):aK I μ (.tup cs) (.tuple vs):=
 .tup cs vs (by simpa using h.1) fun j a b h1 h2=>h.2 j a b h1 (by simpa using h2)
section inv
variable {I:bB} {μ:Mu}
theorem aK.mJ {b:Bool} {v:Value} (h:aK I μ (.bool b) v):v=.bool b:=by cases h with|c _ _ h=>cases h;rfl
theorem aK.gm {k:IntKind} {n:Int} {v:Value} (h:aK I μ (.int k n) v):v=.int k n:=by cases h with|c _ _ h=>cases h;rfl
theorem aK.ov {s:ByteArray} {v:Value} (h:aK I μ (.str s) v):v=.string s:=by cases h with|c _ _ h=>cases h;rfl
theorem aK.si {v:Value} (h:aK I μ .dY v):∃a,v=.slice a 0 0:=by cases h with|c _ _ h=>cases h;exact⟨_,rfl⟩
theorem aK.iX {es:Nat} {xs:List (List V)} {v:Value} (h:aK I μ (.fsl es xs) v):ei I (.fsl es xs) v:=by cases h with|c _ _ h=>exact h
theorem aK.jh {cs:List V} {v:Value} (h:aK I μ (.fptr cs) v):∃b o c,v=.pointer (some ⟨b,o,none⟩)∧I b=some (.cells c)∧o+cs.length≤c.size ∧
 (∀(j:Nat) y u,cs[j]? = some y→c[o+j]? = some u→ei I y u):=by
 cases h with|c _ _ h=>cases h with|fptr cs b o c hI hb hr=>exact⟨b,o,c,rfl,hI,hb,hr⟩
theorem aK.lR {v:Value} (h:aK I μ .ay v):v=.slice none 0 0:=by cases h with|c _ _ h=>cases h;rfl
theorem aK.HV {v:Value} (h:aK I μ .eT v):v=.map none:=by cases h with|c _ _ h=>cases h;rfl
theorem aK.nU {id el off:Nat} {v:Value} (h:aK I μ (.hptr id el off) v):∃p,μ id=some p∧v=.pointer (some ⟨p.b,p.o+el*p.es+off,none⟩):=by
 cases h with
 | c _ _ h=>cases h
 | hptr _ _ _ p hm=>exact⟨p,hm,rfl⟩
theorem aK.J8 {id:Nat} {v:Value} (h:aK I μ (.yld id) v):∃p,μ id=some p∧v=.func (.yield p.b) #[] #[]:=by
 cases h with
 | c _ _ h=>cases h
 | yld _ p hm=>exact⟨p,hm,rfl⟩
theorem aK.wG {id:Nat} {v:Value} (h:aK I μ (.hmap id) v):∃p,μ id=some p∧v=.map (some p.b):=by
 cases h with
 | c _ _ h=>cases h
 | hmap _ p hm=>exact⟨p,hm,rfl⟩
theorem aK.lM {id es off len:Nat} {v:Value} (h:aK I μ (.hsl id es off len) v) :
 (∃p cap,μ id=some p∧p.es=es∧len≤cap∧p.o+(off+cap)*es≤p.sz∧v=.slice (some ⟨p.b,p.o+off*es,none⟩) len cap)∨(len=0∧∃a,v=.slice (some a) 0 0):=by
 cases h with
 | c _ _ h=>cases h
 | hsl _ _ _ cap p hm hc hb=>exact .inl ⟨p,cap,hm,rfl,hc,hb,rfl⟩
 | hsl0 _ _ _ a=>exact .inr ⟨rfl,a,rfl⟩
theorem aK.js {cs:List V} {v:Value} (h:aK I μ (.agg cs) v):∃vs,v=.agg vs∧bS I μ cs vs.toList:=by
 cases h with
 | c _ _ h=>cases h with|agg _ vs hl h=>exact⟨vs,rfl,by simpa using hl,fun j a b h1 h2=>.c _ _ (h j a b h1 (by simpa using h2))⟩
 | agg _ vs hl h=>exact⟨vs,rfl,by simpa using hl,fun j a b h1 h2=>h j a b h1 (by simpa using h2)⟩
theorem aK.lN {cs:List V} {v:Value} (h:aK I μ (.tup cs) v):∃vs,v=.tuple vs∧bS I μ cs vs.toList:=by
 cases h with
 | c _ _ h=>cases h with|tup _ vs hl h=>exact⟨vs,rfl,by simpa using hl,fun j a b h1 h2=>.c _ _ (h j a b h1 (by simpa using h2))⟩
 | tup _ vs hl h=>exact⟨vs,rfl,by simpa using hl,fun j a b h1 h2=>h j a b h1 (by simpa using h2)⟩
theorem aK.iW {f:FuncId} {x y:List V} {v:Value} (h:aK I μ (.clo f x y) v):∃a b,v=.func (.func f) a b∧bS I μ x a.toList∧bS I μ y b.toList:=by
 cases h with
 | c _ _ h=>cases h with
  | clo _ _ _ u v hx hy h1 h2=>exact⟨u,v,rfl,⟨by simpa using hx,fun j a b p q=>.c _ _ (h1 j a b p (by simpa using q))⟩,⟨by simpa using hy,fun j a b p q=>.c _ _ (h2 j a b p (by simpa using q))⟩⟩
 | clo _ _ _ u v hx hy h1 h2=>exact⟨u,v,rfl,⟨by simpa using hx,fun j a b p q=>h1 j a b p (by simpa using q)⟩,⟨by simpa using hy,fun j a b p q=>h2 j a b p (by simpa using q)⟩⟩
theorem aK.of_bool {x:V} {b:Bool} (h:aK I μ x (.bool b)):x=.bool b:=by
 cases h with|c _ _ h=>cases h;rfl
end inv
def dQ (I:bB) (μ:Mu) (n:Nat) (F:Frame) (tmps:Array Value):Prop:=
 tmps.size=n∧∀t,aK I μ (get F t) (tmps.getD t undef)
theorem aK.undef (I:bB) (μ:Mu):aK I μ .undef Go.undef:=.c _ _ (.tup [] #[] rfl (by simp))
theorem dQ.mono {I I':bB} {μ μ':Mu} {n:Nat} {F:Frame} {tmps:Array Value} (h:bB.le I I') (hm:Mu.le μ μ') (r:dQ I μ n F tmps):dQ I' μ' n F tmps:=
 ⟨r.1,fun t=>(r.2 t).mono h hm⟩
theorem dQ.put {I:bB} {μ:Mu} {n:Nat} {F F':Frame} {a:Act} {dst:Option Nat} {x:V} {v:Value} (r:dQ I μ n F a.tmps) (h:aK I μ x v)
 (hp:g9 n F dst x=some F'):dQ I μ n F' (a.put dst v).tmps:=by
 cases dst with
 | none=>simp only[g9,Za]at hp;subst hp;exact r
 | some d=>
  simp only[g9]at hp;split at hp
  ·rename_i hd;simp only[Za]at hp;subst hp;refine⟨by simp[Act.put,r.1],fun t => ?_⟩
   by_cases hdt:d=t
   ·subst hdt;have:d<a.tmps.size:=by rw[r.1];exact hd
    simpa [Act.put,Array.getD_eq_getD_getElem?,Array.getElem?_setIfInBounds,this]using h
   ·have:=r.2 t;rw[lF _ _ hdt];simpa [Act.put,Array.getD_eq_getD_getElem?,Array.getElem?_setIfInBounds,hdt]using this
  ·simp at hp
theorem vI {I:bB}:∀(n:Nat) (v:Value) (x:V),ofValue n v=some x→ei I x v:=by
 intro n
 induction n with
 | zero=>intro v x h;simp[ofValue]at h
 | succ n ih=>
  intro v x h;unfold ofValue at h;split at h <;> (try (simp only[Za]at h;subst h;constructor)) <;> (try (simp at h;done))
  rename_i cs;simp only[Zh]at h;obtain⟨xs,hm,rfl⟩:=h;have key:∀(l:List Value) (ys:List V),l.mapM (ofValue n)=some ys→ys.length=l.length∧∀(j:Nat) a b,ys[j]? = some a→l[j]? = some b→ei I a b:=by
   intro l
   induction l with
   | nil=>intro ys h;simp at h;subst h;simp
   | cons v l ihl=>
    intro ys h;simp only[List.mapM_cons,Option.pure_def,Option.bind_eq_bind,Zi,Za]at h;obtain⟨y,hy,zs,hz,rfl⟩:=h;obtain⟨hl,hr⟩:=ihl zs hz;refine⟨by simp[hl],fun j a b h1 h2 => ?_⟩
    cases j with
    | zero=>simp at h1 h2;subst h1;subst h2;exact ih _ _ hy
    | succ j=>exact hr j a b (by simpa using h1) (by simpa using h2)
  obtain⟨hl,hr⟩:=key _ _ hm;exact .agg _ _ (by simpa using hl) fun j a b h1 h2=>hr j a b h1 (by simpa using h2)
theorem cJ {I:bB} {μ:Mu} {n:Nat} {F:Frame} {a:Act} (r:dQ I μ n F a.tmps) {o:Operand} {x:V} (h:ev F o=some x):aK I μ x (a.eval o):=by
 cases o with
 | tmp t=>simp only[ev,Za]at h;subst h;exact r.2 t
 | const v=>exact .c _ _ (vI 4 _ _ h)
 | func f=>simp only[ev,Za]at h;subst h;exact .c _ _ (.clo f [] [] #[] #[] rfl rfl (by simp) (by simp))
 | global g=>simp[ev]at h
theorem m8 {I:bB} {μ:Mu} {n:Nat} {F:Frame} {a:Act} (r:dQ I μ n F a.tmps):∀{l:List Operand} {xs:List V},fP F l=some xs→bS I μ xs (l.map a.eval):=by
 intro l
 induction l with
 | nil=>intro xs h;simp only[fP,Za]at h;subst h;exact .nil
 | cons o l ih=>
  intro xs h;simp only[fP]at h;split at h
  ·rename_i v vs h1 h2;simp only[Za]at h;subst h;exact .cons (cJ r h1) (ih h2)
  ·simp at h
theorem DX {I:bB} {μ:Mu} {n:Nat} {F:Frame} {a:Act} (r:dQ I μ n F a.tmps):∀{l:List (Nat×Operand)} {xs:List (Nat×V)},jm F l=some xs →
 xs.length=l.length∧∀(j:Nat) x y,xs[j]? = some x→l[j]? = some y→x.1=y.1∧aK I μ x.2 (a.eval y.2):=by
 intro l
 induction l with
 | nil=>intro xs h;simp only[jm,Za]at h;subst h;simp
 | cons o l ih=>
  intro xs h;obtain⟨i,o⟩:=o;simp only[jm]at h;split at h
  ·rename_i v vs h1 h2;simp only[Za]at h;subst h;obtain⟨hl,hr⟩:=ih h2;refine⟨by simp[hl],fun j x y h1' h2' => ?_⟩
   cases j with
   | zero=>simp at h1' h2';subst h1';subst h2';exact⟨rfl,cJ r h1⟩
   | succ j=>exact hr j x y (by simpa using h1') (by simpa using h2')
  ·simp at h
end Go.VE
namespace Go.VE
def jq:TypeDesc→TK
 | .bool=>.bool
 | .int k=>.int k
 | .string=>.str
 | .pointer e=>.ptr e
 | .slice e=>.slice e
 | .struct fs=>.struct (fs.toList.map fun f=>(f.offset,f.type))
 | .array n e=>.array n e
 | .map k e=>.map k e
 | _=>.other
def yS:Value→Bool
 | .agg _=>true
 | _=>false
def aH (P:Program) (t:TypeId):Option TD:=
 match P.info? t,P.underlying t with
 | some i,some d=>match i.zero with
  | some z=>match z.cells.toList.mapM (ofValue 4)with
   | some cs=>if cs.length=i.size∧cs.all V.one=true∧yS z=(TD.mk i.size i.bytes cs (jq d)).agg then some ⟨i.size,i.bytes,cs,jq d⟩else none
   | none=>none
  | none=>none
 | _,_=>none
def ic (a:List Int):Array Value:=(a.map (Value.int .i64)).toArray
structure xj (P:Program) (t:TypeId) (n:Nat):Prop where
 eq:∀(w:World) (x y:Operand) (a b:List Int),a.length=n→b.length=n →
  (do eqGuard .eql t x y (.agg (ic a)) (.agg (ic b));binOp .eql t (.agg (ic a)) (.agg (ic b))).run P w=.ok (.bool (a==b)) w
 ne:∀(w:World) (x y:Operand) (a b:List Int),a.length=n→b.length=n →
  (do eqGuard .neq t x y (.agg (ic a)) (.agg (ic b));binOp .neq t (.agg (ic a)) (.agg (ic b))).run P w=.ok (.bool !(a==b)) w
 key:∀(w:World) (a b:List Int),a.length=n→b.length=n→(Op.equal t (.agg (ic a)) (.agg (ic b))).run P w=.ok (a==b) w
 check:∀(w:World) (e:Bool) (a:List Int),a.length=n→(Instr.checkKey e 10000 t (.agg (ic a))).run P w=.ok () w
 kind:∃d,P.underlying t=some d∧((∃n e,d=.array n e)∨(∃fs,d=.struct fs))
structure eF (P:Program) (E:Env):Prop where
 tt:∀t d,E.tt t=some d→aH P t=some d
 ft:∀f fi,E.ft f=some fi→∃fn,P.funcs[f]? = some fn∧fn.body=some fi.body∧fn.ntmps=fi.ntmps∧fn.results.toList=fi.results∧(fn.name == "runtime.NumGoroutine")=false
 eqN:∀t n,E.eqN t=some n→xj P t n
structure mP (P:Program) (t:TypeId) (d:TD):Prop where
 info:∃i z,P.info? t=some i∧i.size=d.size∧i.bytes=d.bytes∧i.zero=some z∧(∀I μ,bS I μ d.zero z.cells.toList)∧d.zero.length=d.size∧d.zero.all V.one=true∧yS z=d.agg
 und:∃desc,P.underlying t=some desc∧jq desc=d.kind
theorem HJ {I:bB} {μ:Mu}:∀(l:List Value) (ys:List V),l.mapM (ofValue 4)=some ys→bS I μ ys l:=by
 intro l
 induction l with
 | nil=>intro ys h;simp at h;subst h;exact .nil
 | cons v l ihl=>
  intro ys h;simp only[List.mapM_cons,Option.pure_def,Option.bind_eq_bind,Zi,Za]at h;obtain⟨y,hy,zs,hz,rfl⟩:=h;exact .cons (.c _ _ (vI 4 _ _ hy)) (ihl zs hz)
theorem eF.ty {P:Program} {E:Env} (h:eF P E) {t:TypeId} {d:TD} (ht:E.tt t=some d):mP P t d:=by
 have:=h.tt t d ht;unfold aH at this;split at this
 ·rename_i i desc hi hd;split at this
  ·rename_i z hz;split at this
   ·rename_i cs hc;split at this
    ·rename_i hl;simp only[Za]at this;subst this;exact⟨⟨i,z,hi,rfl,rfl,hz,fun I μ=>HJ _ _ hc,hl⟩,⟨desc,hd,rfl⟩⟩
    ·simp at this
   ·simp at this
  ·simp at this
 ·simp at this
section runs
variable {P:Program} {w:World} {t:TypeId} {d:TD}
theorem dM {desc:TypeDesc} (h:P.underlying t=some desc):(underlying t).run P w=.ok desc w:=by simp[underlying,h]
theorem qC {i:TypeInfo} (h:P.info? t=some i):(typeInfo t).run P w=.ok i w:=by simp[typeInfo,h]
theorem mP.jk (h:mP P t d):(sizeOf t).run P w=.ok d.size w:=by
 obtain⟨i,z,hi,hs,_⟩:=h.info;simp[sizeOf,qC hi,hs]
theorem mP.dM (h:mP P t d):∃desc,P.underlying t=some desc∧jq desc=d.kind∧∀w,(underlying t).run P w=.ok desc w:=by
 obtain⟨desc,h1,h2⟩:=h.und;exact⟨desc,h1,h2,fun w=>VE.dM h1⟩
theorem mP.ES (h:mP P t d):(isAgg t).run P w=.ok d.agg w:=by
 obtain⟨desc,h1,h2⟩:=h.und;unfold isAgg;simp only[Sem.run_bind,VE.dM h1,Result.andThen_ok];cases desc <;> simp[TD.agg,←h2,jq]
theorem mP.xB (h:mP P t d):∃z,(∀w,(zeroValue t).run P w=.ok z w)∧(∀I μ,bS I μ d.zero z.cells.toList)∧d.zero.length=d.size∧d.zero.all V.one=true:=by
 obtain⟨i,z,hi,_,_,hz,hr,hl,h1,_⟩:=h.info;exact⟨z,fun w=>by simp[zeroValue,qC hi,hz],hr,hl,h1⟩
end runs
theorem mP.JK {P:Program} {t:TypeId} {d:TD} (h:mP P t d):∃z,(∀w,(zeroValue t).run P w=.ok z w)∧∀I μ x,VE.mk d.agg d.zero=some x→aK I μ x z:=by
 obtain⟨i,z,hi,_,_,hz,hr,hl,h1,hagg⟩:=h.info;refine⟨z,fun w=>by simp[zeroValue,qC hi,hz],fun I μ x hx => ?_⟩
 have hrel:=hr I μ
 cases hd:d.agg with
 | true=>
  rw[hd]at hx hagg;cases z <;> simp[yS]at hagg;simp only[VE.mk,if_true,Za]at hx;subst hx;exact .A4 (by simpa [Value.cells]using hrel)
 | false=>
  rw[hd]at hx hagg;simp only[VE.mk,Bool.false_eq_true,if_false]at hx;split at hx
  ·rename_i v hv;simp only[Za]at hx;subst hx;rw[hv]at hrel;have e:z.cells.toList=[z]:=by cases z <;> first|rfl|simp[yS]at hagg
   rw[e]at hrel;exact hrel.2 0 _ _ rfl rfl
  ·simp at hx
theorem fy {E:Env} {t:TypeId} {k:TK} (h:E.dn t=some k):∃d,E.tt t=some d∧d.kind=k:=by
 unfold Env.dn at h;simpa [Zh]using h
theorem FL {d:TypeDesc} {k:IntKind} (h:jq d=.int k):d=.int k:=by cases d <;> simp_all [jq]
theorem Df {d:TypeDesc} (h:jq d=.bool):d=.bool:=by cases d <;> simp_all [jq]
theorem yQ {d:TypeDesc} (h:jq d=.str):d=.string:=by cases d <;> simp_all [jq]
theorem jf {d:TypeDesc} {e:TypeId} (h:jq d=.slice e):d=.slice e:=by cases d <;> simp_all [jq]
theorem w_ {d:TypeDesc} {n:Nat} {e:TypeId} (h:jq d=.array n e):d=.array n e:=by cases d <;> simp_all [jq]
theorem ue {d:TypeDesc} {k e:TypeId} (h:jq d=.map k e):d=.map k e:=by cases d <;> simp_all [jq]
theorem tZ {d:TypeDesc} {fs:List (Nat×TypeId)} (h:jq d=.struct fs):∃fl,d=.struct fl∧fs=fl.toList.map fun f=>(f.offset,f.type):=by
 cases d <;> simp_all [jq]
theorem uV {I:bB} {μ:Mu} {cs r:List V} {vs:List Value} {off n:Nat} (h:bS I μ cs vs) (hc:cut cs off n=some r) :
 bS I μ r ((vs.drop off).take n)∧r.length=n∧off+n≤cs.length∨(n=0∧r=[]):=by
 unfold cut at hc;simp only at hc;split at hc
 ·rename_i hl;simp only[Za]at hc;subst hc
  by_cases hn:n=0
  ·right;subst hn;simp
  ·left;refine⟨(h.drop off).take n,hl,?_⟩;simp at hl;omega
 ·simp at hc
theorem Gx {I:bB} {μ:Mu} {cs:List V} {x:V} {vs:Array Value} (h:mk true cs=some x) (r:bS I μ cs vs.toList):aK I μ x (.agg vs):=by
 simp only[mk,if_true,Za]at h;subst h;exact .A4 r
theorem mk_one {I:bB} {μ:Mu} {cs:List V} {x:V} {vs:List Value} (h:mk false cs=some x) (r:bS I μ cs vs):∃v,vs=[v]∧aK I μ x v:=by
 simp only[mk,Bool.false_eq_true,if_false]at h;split at h
 ·simp only[Za]at h;subst h;obtain⟨v,vs',rfl,hv,hr⟩:=r.cons_inv;exact⟨v,by rw[hr.vj],hv⟩
 ·simp at h
theorem BM {P:Program} {w:World} {I:bB} {μ:Mu} {t:TypeId} {d:TD} {cs r:List V} {vs:Array Value} {x:V} {off:Nat} (ht:mP P t d) (h:bS I μ cs vs.toList)
 (hc:cut cs off d.size=some r) (hm:mk d.agg r=some x):∃u,(part t vs off).run P w=.ok u w∧aK I μ x u:=by
 unfold part;simp only[Sem.run_bind,ht.ES,Result.andThen_ok]
 cases hagg:d.agg with
 | true=>
  rw[hagg]at hm;refine⟨.agg (vs.extract off (off+d.size)),by simp[ht.jk],?_⟩
  refine Gx hm ?_;have e:(vs.extract off (off+d.size)).toList=(vs.toList.drop off).take d.size:=by simp
  rw[e];rcases uV h hc with⟨a,_⟩|⟨h0,rfl⟩
  ·exact a
  ·rw[h0];exact .nil
 | false=>
  rw[hagg]at hm;rcases uV h hc with⟨a,hl,_⟩|⟨h0,rfl⟩
  ·obtain⟨v,hv,hx⟩:=mk_one hm a;refine⟨v,?_,hx⟩;have hd:d.size=1:=by
    have:=a.1;rw[hv]at this;simp at this;omega
   rw[hd]at hv;have:vs[off]? = some v:=by
    have:=congrArg (·[0]?) hv;simpa [List.getElem?_take,List.getElem?_drop]using this
   simp[this]
  ·simp[mk]at hm
theorem EK {I:bB} {μ:Mu}:∀(as:List V) (a:List Int) (va:List Value),gV as=some a→bS I μ as va→va=a.map (Value.int .i64)∧a.length=as.length:=by
 intro as
 induction as with
 | nil=>intro a va h ha;simp only[gV,Za]at h;subst h;rw[ha.vj];simp
 | cons x as ih=>
  intro a va h ha;obtain⟨v,va,rfl,hv,hr⟩:=ha.cons_inv;have hx:∃y,x=.int .i64 y:=by
   cases x with
   | int k y=>cases k <;> simp[gV]at h ⊢
   | _=>simp[gV]at h
  obtain⟨y,rfl⟩:=hx;simp only[gV,Zh]at h;obtain⟨b,hb,rfl⟩:=h;obtain⟨g1,g2⟩:=ih _ _ hb hr;have:=hv.gm;subst this;exact⟨by simp[g1],by simp[g2]⟩
theorem lT {I:bB} {μ:Mu} {as:List V} {a:List Int} {va:Array Value} (h:gV as=some a) (ha:bS I μ as va.toList):va=ic a∧a.length=as.length:=by
 obtain⟨h1,h2⟩:=EK _ _ _ h ha;refine⟨?_,h2⟩;have:=congrArg List.toArray h1;simpa [ic]using this
theorem rD {as bs:List V} {r:Bool} (h:ji as bs=some r):∃a b,gV as=some a∧gV bs=some b∧a.length=b.length∧r=(a==b):=by
 unfold ji at h;split at h
 ·rename_i a b h1 h2;split at h
  ·rename_i hl;simp only[Za]at h;exact⟨a,b,h1,h2,hl,h.symm⟩
  ·simp at h
 ·simp at h
end Go.VE
namespace Go.VE
section
variable {P:Program} {E:Env} {I:bB} {μ:Mu} {n:Nat} {F:Frame} {a:Act} {w:World}
theorem GM (f:BinOp) (t:TypeId) (p q:Operand) (k k':IntKind) (m m':Int):(eqGuard f t p q (.int k m) (.int k' m')).run P w=.ok () w:=by
 unfold eqGuard;cases f <;> simp
theorem GN (f:BinOp) (t:TypeId) (p q:Operand) (s s':ByteArray):(eqGuard f t p q (.string s) (.string s')).run P w=.ok () w:=by
 unfold eqGuard;cases f <;> simp
theorem EU (f:BinOp) (t:TypeId) (p q:Operand) (s s':Bool):(eqGuard f t p q (.bool s) (.bool s')).run P w=.ok () w:=by
 unfold eqGuard;cases f <;> simp
theorem Cm (d:Nat) {t:TypeId} (x y:Bool) (h:P.underlying t=some .bool):(Op.equalIn (d+1) t (.bool x) (.bool y)).run P w=.ok (x==y) w:=by
 simp only[Op.equalIn,Sem.run_bind,dM h,Result.andThen_ok,Sem.run_pure]
theorem xC {t:TypeId} (x y:Bool) (h:P.underlying t=some .bool):(Op.equal t (.bool x) (.bool y)).run P w=.ok (x==y) w:=
 Cm 9999 x y h
theorem C4 (d:Nat) {t:TypeId} {k:IntKind} (x y:Int) (h:P.underlying t=some (.int k)):(Op.equalIn (d+1) t (.int k x) (.int k y)).run P w=.ok (x==y) w:=by
 simp only[Op.equalIn,Sem.run_bind,dM h,Result.andThen_ok,Sem.run_pure,if_true]
theorem AO (d:Nat) {t e:TypeId} (ad:Option Addr) (l c:Nat) (h:P.underlying t=some (.slice e)):(Op.equalIn (d+1) t (.slice ad l c) (.slice none 0 0)).run P w=.ok ad.isNone w:=by
 cases ad <;> simp only[Op.equalIn,Sem.run_bind,dM h,Result.andThen_ok,Sem.run_pure] <;> rfl
theorem CF (d:Nat) {t e:TypeId} (ad:Option Addr) (h:P.underlying t=some (.pointer e)):(Op.equalIn (d+1) t (.pointer ad) (.pointer none)).run P w=.ok ad.isNone w:=by
 cases ad <;> simp only[Op.equalIn,Sem.run_bind,dM h,Result.andThen_ok,Sem.run_pure] <;> rfl
theorem CO (d:Nat) {t e e':TypeId} (ad:Option Nat) (h:P.underlying t=some (.map e e')):(Op.equalIn (d+1) t (.map ad) (.map none)).run P w=.ok ad.isNone w:=by
 cases ad <;> simp only[Op.equalIn,Sem.run_bind,dM h,Result.andThen_ok,Sem.run_pure] <;> rfl
theorem Ap (hE:eF P E) {t:TypeId} {k:TK} {x y:V} {u v:Value} {b:Bool} (hk:E.dn t=some k) (h:oV k x y=some b) (hx:aK I μ x u) (hy:aK I μ y v) :
 (Op.equal t u v).run P w=.ok b w∧(∀op p q,(eqGuard op t p q u v).run P w=.ok () w)∧binOp .eql t u v=(do pure (.bool (←Op.equal t u v)))∧binOp .neq t u v=(do pure (.bool (!(←Op.equal t u v)))):=by
 obtain⟨d,hd,hkd⟩:=fy hk;obtain⟨desc,h1,h2,_⟩:=(hE.ty hd).dM;rw[hkd]at h2;have hsl:∀(e:TypeId) (ad:Option Addr) (l c:Nat),P.underlying t=some (.slice e)→b=ad.isNone →
  (Op.equal t (.slice ad l c) (.slice none 0 0)).run P w=.ok b w∧(∀op p q,(eqGuard op t p q (.slice ad l c) (.slice none 0 0)).run P w=.ok () w)∧binOp .eql t (.slice ad l c) (.slice none 0 0)=(do pure (.bool (←Op.equal t (.slice ad l c) (.slice none 0 0))))∧binOp .neq t (.slice ad l c) (.slice none 0 0)=(do pure (.bool (!(←Op.equal t (.slice ad l c) (.slice none 0 0))))):=by
  intro e ad l c hu hb;refine⟨?_,fun op p q=>by unfold eqGuard;cases op <;> simp,rfl,rfl⟩
  rw[hb];exact AO 9999 ad l c hu
 have hpt:∀(e:TypeId) (ad:Option Addr),P.underlying t=some (.pointer e)→b=ad.isNone →
  (Op.equal t (.pointer ad) (.pointer none)).run P w=.ok b w∧(∀op p q,(eqGuard op t p q (.pointer ad) (.pointer none)).run P w=.ok () w)∧binOp .eql t (.pointer ad) (.pointer none)=(do pure (.bool (←Op.equal t (.pointer ad) (.pointer none))))∧binOp .neq t (.pointer ad) (.pointer none)=(do pure (.bool (!(←Op.equal t (.pointer ad) (.pointer none))))):=by
  intro e ad hu hb;refine⟨?_,fun op p q=>by unfold eqGuard;cases op <;> simp,rfl,rfl⟩
  rw[hb];exact CF 9999 ad hu
 have hmp:∀(e e':TypeId) (ad:Option Nat),P.underlying t=some (.map e e')→b=ad.isNone →
  (Op.equal t (.map ad) (.map none)).run P w=.ok b w∧(∀op p q,(eqGuard op t p q (.map ad) (.map none)).run P w=.ok () w)∧binOp .eql t (.map ad) (.map none)=(do pure (.bool (←Op.equal t (.map ad) (.map none))))∧binOp .neq t (.map ad) (.map none)=(do pure (.bool (!(←Op.equal t (.map ad) (.map none))))):=by
  intro e e' ad hu hb;refine⟨?_,fun op p q=>by unfold eqGuard;cases op <;> simp,rfl,rfl⟩
  rw[hb];exact CO 9999 ad hu
 unfold oV at h;split at h <;> (try (simp only[Za]at h;subst h))
 ·have:=jf h2;subst this;rw[hx.lR,hy.lR];exact hsl _ none 0 0 h1 rfl
 ·have:=jf h2;subst this;rw[hy.lR];have hf:=hx.iX
  cases hf with
  | fsl0 _ ad cap=>exact hsl _ _ _ _ h1 rfl
  | fsl=>exact hsl _ _ _ _ h1 rfl
 ·have:=jf h2;subst this;rw[hy.lR];rcases hx.lM with⟨p,cap,_,_,_,_,ee⟩|⟨_,ad,ee⟩
  ·rw[ee];exact hsl _ _ _ _ h1 rfl
  ·rw[ee];exact hsl _ _ _ _ h1 rfl
 ·obtain⟨e,rfl⟩:∃e,desc=.pointer e:=by cases desc <;> simp_all [jq]
  cases hx with|c _ _ hx=>cases hx;cases hy with|c _ _ hy=>cases hy;exact hpt _ none h1 rfl
 ·obtain⟨e,rfl⟩:∃e,desc=.pointer e:=by cases desc <;> simp_all [jq]
  cases hy with|c _ _ hy=>cases hy;cases hx with|c _ _ hx=>cases hx;exact hpt _ _ h1 rfl
 ·obtain⟨e,rfl⟩:∃e,desc=.pointer e:=by cases desc <;> simp_all [jq]
  cases hy with
  | c _ _ hy=>
   cases hy
   cases hx with
   | c _ _ hx=>cases hx
   | hptr=>exact hpt _ _ h1 rfl
 ·have:=ue h2;subst this;cases hx with|c _ _ hx=>cases hx;cases hy with|c _ _ hy=>cases hy;exact hmp _ _ none h1 rfl
 ·have:=ue h2;subst this;cases hy with|c _ _ hy=>cases hy;cases hx with|c _ _ hx=>cases hx;exact hmp _ _ _ h1 rfl
 ·have:=ue h2;subst this
  cases hy with
  | c _ _ hy=>
   cases hy
   cases hx with
   | c _ _ hx=>cases hx
   | hmap=>exact hmp _ _ _ h1 rfl
 ·cases h
theorem Kp (hE:eF P E) {op:BinOp} {t:TypeId} {x y z:V} {u v:Value} (p q:Operand) (h:Bc E op t x y=some z) (hx:aK I μ x u) (hy:aK I μ y v) :
 ∃r,(do eqGuard op t p q u v;binOp op t u v).run P w=.ok r w∧aK I μ z r:=by
 unfold Bc at h;split at h
 ·
  rename_i k m k' m';rw[hx.gm,hy.gm];simp only[Sem.run_bind,GM,Result.andThen_ok];split at h
  ·
   split at h
   ·simp at h
   ·rename_i hb;simp only[Za]at h;subst h;exact⟨_,by simp[binOp,Op.shift,hb],.c _ _ (.int _ _)⟩
  ·split at h
   ·simp at h
   ·rename_i hb;simp only[Za]at h;subst h;exact⟨_,by simp[binOp,Op.shift,hb],.c _ _ (.int _ _)⟩
  ·split at h
   ·rename_i hns hnr hk;subst hk
    cases op with
    | shl=>exact absurd rfl hns
    | shr=>exact absurd rfl hnr
    | add=>simp only[Za]at h;subst h;exact⟨_,by simp[binOp,Op.intArith],.c _ _ (.int _ _)⟩
    | sub=>simp only[Za]at h;subst h;exact⟨_,by simp[binOp,Op.intArith],.c _ _ (.int _ _)⟩
    | mul=>simp only[Za]at h;subst h;exact⟨_,by simp[binOp,Op.intArith],.c _ _ (.int _ _)⟩
    | quo=>
     simp only at h;split at h
     ·simp at h
     ·rename_i hb;simp only[Za]at h;subst h;exact⟨_,by simp[binOp,Op.intDiv,hb],.c _ _ (.int _ _)⟩
    | rem=>
     simp only at h;split at h
     ·simp at h
     ·rename_i hb;simp only[Za]at h;subst h;exact⟨_,by simp[binOp,Op.intDiv,hb],.c _ _ (.int _ _)⟩
    | and=>simp only[Za]at h;subst h;exact⟨_,by simp[binOp,Op.intBits],.c _ _ (.int _ _)⟩
    | or=>simp only[Za]at h;subst h;exact⟨_,by simp[binOp,Op.intBits],.c _ _ (.int _ _)⟩
    | xor=>simp only[Za]at h;subst h;exact⟨_,by simp[binOp,Op.intBits],.c _ _ (.int _ _)⟩
    | andNot=>simp only[Za]at h;subst h;exact⟨_,by simp[binOp,Op.intBits],.c _ _ (.int _ _)⟩
    | eql=>simp only[qA,Option.map_some,Za]at h;subst h;exact⟨_,by simp[binOp,Op.intCmp],.c _ _ (.bool _)⟩
    | neq=>simp only[qA,Option.map_some,Za]at h;subst h;exact⟨_,by simp[binOp,Op.intCmp],.c _ _ (.bool _)⟩
    | lss=>simp only[qA,Option.map_some,Za]at h;subst h;exact⟨_,by simp[binOp,Op.intCmp],.c _ _ (.bool _)⟩
    | leq=>simp only[qA,Option.map_some,Za]at h;subst h;exact⟨_,by simp[binOp,Op.intCmp],.c _ _ (.bool _)⟩
    | gtr=>simp only[qA,Option.map_some,Za]at h;subst h;exact⟨_,by simp[binOp,Op.intCmp],.c _ _ (.bool _)⟩
    | geq=>simp only[qA,Option.map_some,Za]at h;subst h;exact⟨_,by simp[binOp,Op.intCmp],.c _ _ (.bool _)⟩
   ·simp at h
 ·
  rename_i s s';rw[hx.ov,hy.ov];simp only[Sem.run_bind,GN,Result.andThen_ok];split at h
  ·split at h
   ·simp at h
   ·rename_i hb;simp only[Za]at h;subst h;exact⟨_,by simp only[binOp,Op.stringOp];rw[if_neg hb];rfl,.c _ _ (.str _)⟩
  all_goals first
   | (simp only[Za]at h;subst h;exact⟨_,by simp[binOp,Op.stringOp],.c _ _ (.bool _)⟩)
   | simp at h
 ·
  rename_i b b';rw[hx.mJ,hy.mJ];simp only[Sem.run_bind,EU,Result.andThen_ok];split at h
  ·rename_i hk;obtain⟨d,hd,hkd⟩:=fy hk;obtain⟨desc,h1,h2,_⟩:=(hE.ty hd).dM;rw[hkd]at h2;have:=Df h2;subst this;simp only[Za]at h;subst h;exact⟨_,by simp only[binOp,Sem.run_bind,xC _ _ h1,Result.andThen_ok,Sem.run_pure],.c _ _ (.bool _)⟩
  ·rename_i hk;obtain⟨d,hd,hkd⟩:=fy hk;obtain⟨desc,h1,h2,_⟩:=(hE.ty hd).dM;rw[hkd]at h2;have:=Df h2;subst this;simp only[Za]at h;subst h;exact⟨_,by simp only[binOp,Sem.run_bind,xC _ _ h1,Result.andThen_ok,Sem.run_pure],.c _ _ (.bool _)⟩
  ·simp at h
 ·
  rename_i as bs;obtain⟨va,rfl,hla⟩:=hx.js;obtain⟨vb,rfl,hlb⟩:=hy.js;split at h
  ·rename_i m heq;split at h
   ·rename_i hl;simp only[Zh]at h;obtain⟨r,hr,rfl⟩:=h;obtain⟨ia,ib,h1,h2,h3,rfl⟩:=rD hr;obtain⟨rfl,e1⟩:=lT h1 hla;obtain⟨rfl,e2⟩:=lT h2 hlb;exact⟨_,(hE.eqN _ _ heq).eq w p q ia ib (by omega) (by omega),.c _ _ (.bool _)⟩
   ·simp at h
  ·rename_i m heq;split at h
   ·rename_i hl;simp only[Zh]at h;obtain⟨r,hr,rfl⟩:=h;obtain⟨ia,ib,h1,h2,h3,rfl⟩:=rD hr;obtain⟨rfl,e1⟩:=lT h1 hla;obtain⟨rfl,e2⟩:=lT h2 hlb;exact⟨_,(hE.eqN _ _ heq).ne w p q ia ib (by omega) (by omega),.c _ _ (.bool _)⟩
   ·simp at h
  ·simp at h
 ·
  split at h
  ·rename_i k hk;simp only[Zh]at h;obtain⟨b,hb,rfl⟩:=h;obtain⟨h1,h2,h3,_⟩:=Ap (w:=w) hE hk hb hx hy;exact⟨.bool b,by rw[Sem.run_bind,h2,h3];simp[Result.andThen,h1],.c _ _ (.bool _)⟩
  ·rename_i k hk;simp only[Zh]at h;obtain⟨b,hb,rfl⟩:=h;obtain⟨h1,h2,_,h3⟩:=Ap (w:=w) hE hk hb hx hy;exact⟨.bool !b,by rw[Sem.run_bind,h2,h3];simp[Result.andThen,h1],.c _ _ (.bool _)⟩
  ·simp at h
end
end Go.VE
namespace Go.VE
section
variable {P:Program} {E:Env} {I:bB} {μ:Mu} {n:Nat} {F:Frame} {a:Act} {w:World}
theorem CP (off:Nat):∀(l:List Value) (k:Nat) (cells:Array Value),off+k+l.length≤cells.size →
 ((l.zipIdx k).foldl (fun cs (p:Value×Nat)=>cs.setIfInBounds (off+p.2) p.1) cells).toList=cells.toList.take (off+k)++l++cells.toList.drop (off+k+l.length):=by
 intro l
 induction l with
 | nil=>intro k cells _;simp
 | cons v l ih=>
  intro k cells h;simp only[List.length_cons]at h;simp only[List.zipIdx_cons,List.foldl_cons];rw[ih (k+1) _ (by simp;omega)]
  have h1:off+k<cells.toList.length:=by simp;omega
  simp only[Array.toList_setIfInBounds,List.length_cons];rw[show off+(k+1)=off+k+1 from by omega,List.take_succ_eq_append_getElem (by simpa using h1)]
  rw[List.take_set_of_le (by omega),List.getElem_set_self]
  rw[List.drop_set_of_lt (by omega)]
  simp[List.append_assoc];omega
theorem ER {cs xs:List V} {cells:Array Value} {v:Value} {off:Nat} (h:bS I μ cs cells.toList) (hx:bS I μ xs v.cells.toList) (hl:off+xs.length≤cs.length) :
 bS I μ (cs.take off++xs++cs.drop (off+xs.length)) (v.cells.zipIdx.foldl (fun cs (p:Value×Nat)=>cs.setIfInBounds (off+p.2) p.1) cells).toList:=by
 have e:v.cells.zipIdx.foldl (fun cs (p:Value×Nat)=>cs.setIfInBounds (off+p.2) p.1) cells=(v.cells.toList.zipIdx 0).foldl (fun cs (p:Value×Nat)=>cs.setIfInBounds (off+p.2) p.1) cells:=by
  rw[←Array.foldl_toList];simp
 have h1:=h.1;have h2:=hx.1;rw[e,CP off _ 0 _ (by simp at h1 h2 ⊢;omega)]
 simp only[Nat.add_zero];rw[←h2];exact((h.take off).append hx).append (h.drop _)
theorem wO {place place':Nat→Option (Nat×Nat)} (hp:∀i p,place i=some p→place' i=some p):∀(vs:List (Nat×V)) (us:List (Nat×Value)) (cs r:List V) (cells:Array Value),
 vs.length=us.length→(∀(j:Nat) x y,vs[j]? = some x→us[j]? = some y→x.1=y.1∧aK I μ x.2 y.2)→bS I μ cs cells.toList→oJ place cs vs=some r →
 ∃r',Instr.fill place' cells us=some r'∧bS I μ r r'.toList:=by
 intro vs
 induction vs with
 | nil=>
  intro us cs r cells hl _ hc hf
  cases us with
  | nil=>simp only[oJ,Za]at hf;subst hf;exact⟨cells,rfl,hc⟩
  | cons _ _=>simp at hl
 | cons x vs ih=>
  intro us cs r cells hl hr hc hf
  cases us with
  | nil=>simp at hl
  | cons y us=>
   obtain⟨i,x⟩:=x;obtain⟨i',y⟩:=y;obtain⟨hii,hxy⟩:=hr 0 (i,x) (i',y) rfl rfl;simp only at hii;subst hii;simp only at hxy;simp only[oJ]at hf;split at hf
   ·simp at hf
   ·rename_i off size hpl;split at hf
    ·simp at hf
    ·rename_i hn;have hcells:=hxy.cells;have hlen:x.cells.length=y.cells.size:=by simpa using hcells.1
     have hsz:cs.length=cells.size:=by simpa using hc.1
     have hn':¬(decide (y.cells.size≠size)||decide (off+y.cells.size>cells.size))=true:=by
      simp only[Bool.or_eq_true,decide_eq_true_eq]at hn ⊢;omega
     simp only[Bool.or_eq_true,decide_eq_true_eq]at hn;obtain⟨r',h1,h2⟩:=ih us _ r _ (by simpa using hl) (fun j a b p q=>hr (j+1) a b (by simpa using p) (by simpa using q)) (ER hc hcells (by omega)) hf
     refine⟨r',?_,h2⟩;simp only[Instr.fill,hp _ _ hpl];rw[if_neg hn'];exact h1
theorem Gz (ps:Array (Nat×Operand)) (f:Operand→Value):(ps.map fun (i,x)=>(i,f x)).toList=ps.toList.map fun p=>(p.1,f p.2):=by simp
theorem Am {ps:Array (Nat×Operand)} {vs:List (Nat×V)} (r:dQ I μ n F a.tmps) (h:jm F ps.toList=some vs) :
 vs.length=(ps.map fun (i,x)=>(i,a.eval x)).toList.length∧∀(j:Nat) x y,vs[j]? = some x→(ps.map fun (i,x)=>(i,a.eval x)).toList[j]? = some y→x.1=y.1∧aK I μ x.2 y.2:=by
 obtain⟨hl,hr⟩:=DX r h;rw[Gz];refine⟨by simpa using hl,fun j x y h1 h2 => ?_⟩
 simp only[List.getElem?_map,Zh]at h2;obtain⟨z,hz,rfl⟩:=h2;exact hr j x z h1 hz
theorem Gn (hE:eF P E):∀(fl:List Field) (pl:List (Nat×Nat)),jJ E (fl.map fun f=>(f.offset,f.type))=some pl →
 ((fl.mapM fun f=>do pure (f.offset,←sizeOf f.type)):Sem (List (Nat×Nat))).run P w=.ok pl w:=by
 intro fl
 induction fl with
 | nil=>intro pl h;simp only[List.map_nil,jJ,Za]at h;subst h;simp
 | cons f fl ih=>
  intro pl h;simp only[List.map_cons,jJ]at h;split at h
  ·rename_i d ps hd hps;simp only[Za]at h;subst h;have:=ih _ hps;simp only[List.mapM_cons,Sem.run_bind,(hE.ty hd).jk,Result.andThen_ok,Sem.run_pure,this]
  ·simp at h
theorem DA (hE:eF P E) (fl:Array Field) (pl:List (Nat×Nat)) (h:jJ E (fl.toList.map fun f=>(f.offset,f.type))=some pl) :
 ((fl.mapM fun f=>do pure (f.offset,←sizeOf f.type)):Sem (Array (Nat×Nat))).run P w=.ok pl.toArray w:=by
 rw[Array.mapM_eq_mapM_toList];simp only[Sem.run_map,Gn hE _ _ h,Result.andThen_ok]
theorem HE (hE:eF P E) (r:dQ I μ n F a.tmps) {t:TypeId} {ps:Array (Nat×Operand)} {x:V} (h:aN E F (.build t ps)=some x) :
 ∃v,(Instr.build t (ps.map fun (i,x)=>(i,a.eval x))).run P w=.ok v w∧aK I μ x v:=by
 simp only[aN]at h;split at h
 ·rename_i d vs hd hvs;obtain⟨hl,hr⟩:=Am r hvs;obtain⟨z,hz,hzr,_⟩:=(hE.ty hd).xB;obtain⟨desc,h1,h2,h3⟩:=(hE.ty hd).dM;unfold Instr.build;simp only[Sem.run_bind,hz,h3,Result.andThen_ok];split at h
  ·rename_i fs hk;rw[hk]at h2;obtain⟨fl,rfl,rfl⟩:=tZ h2;split at h
   ·rename_i pl hpl;simp only[Zh]at h;obtain⟨cs,hf,rfl⟩:=h;obtain⟨r',g1,g2⟩:=wO (place':=fun i=>pl.toArray[i]?) (by intro i p hp;simpa using hp) vs _ d.zero cs z.cells hl hr (hzr I μ) hf
    refine⟨.agg r',?_,.A4 g2⟩;have:=DA (w:=w) hE fl pl hpl;simp only[Sem.run_bind,this,Result.andThen_ok];rw[g1];simp
   ·simp at h
  ·rename_i e hk;rw[hk]at h2;have:=w_ h2;subst this;split at h
   ·rename_i de hde;simp only[Zh]at h;obtain⟨cs,hf,rfl⟩:=h;obtain⟨r',g1,g2⟩:=wO (place':=fun i=>some (i*de.size,de.size)) (by intro i p hp;simpa using hp) vs _ d.zero cs z.cells hl hr (hzr I μ) hf
    refine⟨.agg r',?_,.A4 g2⟩;simp only[Sem.run_bind,(hE.ty hde).jk,Result.andThen_ok];rw[g1];simp
   ·simp at h
  ·simp at h
 ·simp at h
theorem lz (b o k:Nat):(⟨b,o,none⟩:Addr).add k=⟨b,o+k,none⟩:=by
 unfold Addr.add;split
 ·rename_i h;subst h;rfl
 ·rfl
theorem z8 {cs:List V} {b o:Nat} {c:Array Value} (k:Nat) (hI:I b=some (.cells c)) (hb:o+cs.length≤c.size)
 (hr:∀(j:Nat) y u,cs[j]? = some y→c[o+j]? = some u→ei I y u) (hk:k≤cs.length):aK I μ (.fptr (cs.drop k)) (.pointer (some ⟨b,o+k,none⟩)):=
 .c _ _ (.fptr _ b (o+k) c hI (by simp;omega) fun j y u h1 h2=>hr (k+j) y u (by simpa [List.getElem?_drop]using h1) (by simpa [Nat.add_assoc]using h2))
theorem ED (hE:eF P E) (r:dQ I μ n F a.tmps) {s:TypeId} {o:Operand} {f:Nat} {x:V} (h:aN E F (.fieldAddr s o f)=some x) :
 ∃v,(Instr.fieldAt s (a.eval o) f).run P w=.ok v w∧aK I μ x v:=by
 simp only[aN]at h;split at h
 ·rename_i fs p hk hp;obtain⟨d,hd,hkd⟩:=fy hk;obtain⟨desc,h1,h2,h3⟩:=(hE.ty hd).dM;rw[hkd]at h2;obtain⟨fl,rfl,rfl⟩:=tZ h2;have hv:=cJ r hp;split at h
  ·rename_i off t hf;simp only[List.getElem?_map,Zh,Zd]at hf;obtain⟨fd,hfd,rfl,rfl⟩:=hf;have hfd':fl[f]? = some fd:=by simpa using hfd
   split at h
   ·rename_i dt hdt;split at h
    ·simp at h
    ·rename_i hsz;have hrun:∀(b oo:Nat),(Instr.fieldAt s (.pointer (some ⟨b,oo,none⟩)) f).run P w=.ok (.pointer (some ⟨b,oo+fd.offset,none⟩)) w:=by
      intro b oo;unfold Instr.fieldAt;simp only[Sem.run_bind,h3,Result.andThen_ok,hfd',Instr.sureAddr,Sem.run_pure,fieldPlace,(hE.ty hdt).jk,if_neg hsz,lz]
     split at h
     ·rename_i cs;split at h
      ·rename_i hle;simp only[Za]at h;subst h;obtain⟨b,oo,c,e,hI,hb,hr⟩:=hv.jh;rw[e];exact⟨_,hrun b oo,z8 _ hI hb hr hle⟩
      ·simp at h
     ·rename_i id el oo;simp only[Za]at h;subst h;obtain⟨p,hm,e⟩:=hv.nU;rw[e];refine⟨_,hrun _ _,?_⟩;have:=aK.hptr (I:=I) (μ:=μ) id el (oo+fd.offset) p hm
      rwa [←Nat.add_assoc]at this
     ·simp at h
   ·simp at h
  ·simp at h
 ·simp at h
theorem HH (hE:eF P E) (r:dQ I μ n F a.tmps) {s:TypeId} {o:Operand} {f:Nat} {x:V} (h:aN E F (.field s o f)=some x) :
 ∃v,(Instr.field s (a.eval o) f).run P w=.ok v w∧aK I μ x v:=by
 simp only[aN]at h;split at h
 ·rename_i fs cs hk hp;obtain⟨d,hd,hkd⟩:=fy hk;obtain⟨desc,h1,h2,h3⟩:=(hE.ty hd).dM;rw[hkd]at h2;obtain⟨fl,rfl,rfl⟩:=tZ h2;obtain⟨vs,e,hvs⟩:=(cJ r hp).js;rw[e];split at h
  ·rename_i off t hf;simp only[List.getElem?_map,Zh,Zd]at hf;obtain⟨fd,hfd,rfl,rfl⟩:=hf;have hfd':fl[f]? = some fd:=by simpa using hfd
   split at h
   ·rename_i dt hdt;simp only[Zi]at h;obtain⟨q,hq,hm⟩:=h;obtain⟨u,hu,hx⟩:=BM (w:=w) (hE.ty hdt) hvs hq hm;refine⟨u,?_,hx⟩;unfold Instr.field;simp only[Sem.run_bind,h3,Result.andThen_ok,hfd',asAgg,Sem.run_pure,hu]
   ·simp at h
  ·simp at h
 ·simp at h
theorem kz (k:IntKind) (m:Int):(asIntOf (.int k m)).run P w=.ok (k,m) w:=rfl
theorem El (hE:eF P E) (r:dQ I μ n F a.tmps) {t:TypeId} {o i:Operand} {x:V} (h:aN E F (.indexAddr t o i)=some x) :
 ∃v,(Instr.indexAt t (a.eval o) (a.eval i)).run P w=.ok v w∧aK I μ x v:=by
 simp only[aN]at h;split at h
 ·
  rename_i e s k m hk hs hi;obtain⟨d,hd,hkd⟩:=fy hk;obtain⟨desc,h1,h2,h3⟩:=(hE.ty hd).dM;rw[hkd]at h2;have:=jf h2;subst this;have hv:=cJ r hs;have hiv:=(cJ r hi).gm;rw[hiv];split at h
  ·rename_i de hde;split at h
   ·simp at h
   ·rename_i hneg;have hrun:∀(b oo len cap:Nat),m.toNat<len→(Instr.indexAt t (.slice (some ⟨b,oo,none⟩) len cap) (.int k m)).run P w=.ok (.pointer (some ⟨b,oo+m.toNat*de.size,none⟩)) w:=by
     intro b oo len cap hlt;unfold Instr.indexAt;have hc:0≤m∧m<(len:Int):=by omega
     simp only[Sem.run_bind,kz,h3,Result.andThen_ok,Sem.run_pure,(hE.ty hde).jk,Sem.run_ite,if_pos hc,lz]
    split at h
    ·rename_i es xs;split at h
     ·rename_i hes;simp only[Zh]at h;obtain⟨cs,hcs,rfl⟩:=h;have hlt:m.toNat<xs.length:=(Zf.1 hcs).1;have hf:=hv.iX;generalize hg:a.eval o=g at hf
      cases hf with
      | fsl0=>simp at hlt
      | fsl _ _ b oo cap c hI hc hu ho hb hr=>
       refine⟨_,hrun b oo _ _ hlt,?_⟩;have hmem:cs∈xs:=List.mem_of_getElem? hcs;have hcl:=hu cs hmem;have hbd:(m.toNat+1)*es≤xs.length*es:=Nat.mul_le_mul_right _ hlt;rw[Nat.add_mul]at hbd;rw[←hes];exact .c _ _ (.fptr cs b _ c hI (by omega) fun j y u p q=>hr m.toNat j cs y u hcs p q)
     ·simp at h
    ·rename_i id es off len;split at h
     ·rename_i hes;simp only[Za]at h;subst h;obtain⟨hes,hlt⟩:=hes;rcases hv.lM with⟨p,cap,hm,he,hc,hb,e⟩|⟨h0,_⟩
      ·rw[e];refine⟨_,hrun _ _ _ _ hlt,?_⟩;have:=aK.hptr (I:=I) (μ:=μ) id (off+m.toNat) 0 p hm;rw[he,Nat.add_mul,Nat.add_zero]at this;rw[←hes]
       rwa [Nat.add_assoc]
      ·omega
     ·simp at h
    ·simp at h
  ·simp at h
 ·
  rename_i len e p k m hk hs hi;obtain⟨d,hd,hkd⟩:=fy hk;obtain⟨desc,h1,h2,h3⟩:=(hE.ty hd).dM;rw[hkd]at h2;have:=w_ h2;subst this;have hv:=cJ r hs;have hiv:=(cJ r hi).gm;rw[hiv];split at h
  ·rename_i de hde;split at h
   ·rename_i hc;have hrun:∀(b oo:Nat),(Instr.indexAt t (.pointer (some ⟨b,oo,none⟩)) (.int k m)).run P w=.ok (.pointer (some ⟨b,oo+m.toNat*de.size,none⟩)) w:=by
     intro b oo;unfold Instr.indexAt;simp only[Sem.run_bind,kz,h3,Result.andThen_ok,Sem.run_pure,Instr.sureAddr,(hE.ty hde).jk,Sem.run_ite,if_pos hc,lz]
    split at h
    ·rename_i cs;split at h
     ·rename_i hle;simp only[Za]at h;subst h;obtain⟨b,oo,c,e,hI,hb,hr⟩:=hv.jh;rw[e];exact⟨_,hrun b oo,z8 _ hI hb hr hle⟩
     ·simp at h
    ·rename_i id el oo;simp only[Za]at h;subst h;obtain⟨p,hm,e⟩:=hv.nU;rw[e];refine⟨_,hrun _ _,?_⟩;have:=aK.hptr (I:=I) (μ:=μ) id el (oo+m.toNat*de.size) p hm
     rwa [←Nat.add_assoc]at this
    ·simp at h
   ·simp at h
  ·simp at h
 ·simp at h
end
end Go.VE
namespace Go.VE
section
variable {P:Program} {E:Env} {I:bB} {μ:Mu} {n:Nat} {F:Frame} {a:Act} {w:World}
theorem He (hE:eF P E) (r:dQ I μ n F a.tmps) {t:TypeId} {o i:Operand} {x:V} (h:aN E F (.index t o i)=some x) :
 ∃v,(Instr.index t (a.eval o) (a.eval i)).run P w=.ok v w∧aK I μ x v:=by
 simp only[aN]at h;split at h
 ·rename_i s k m hk hs hi;obtain⟨d,hd,hkd⟩:=fy hk;obtain⟨desc,h1,h2,h3⟩:=(hE.ty hd).dM;rw[hkd]at h2;have:=yQ h2;subst this;rw[(cJ r hi).gm,(cJ r hs).ov];split at h
  ·rename_i hc;simp only[Zh]at h;obtain⟨b,hb,rfl⟩:=h;refine⟨.int .u8 b.toNat,?_,.c _ _ (.int _ _)⟩;unfold Instr.index;simp only[Sem.run_bind,kz,h3,Result.andThen_ok,if_pos hc,hb,Sem.run_pure]
  ·simp at h
 ·rename_i len e cs k m hk hs hi;obtain⟨d,hd,hkd⟩:=fy hk;obtain⟨desc,h1,h2,h3⟩:=(hE.ty hd).dM;rw[hkd]at h2;have:=w_ h2;subst this;obtain⟨vs,ev,hvs⟩:=(cJ r hs).js;rw[(cJ r hi).gm,ev];split at h
  ·rename_i de hde;split at h
   ·rename_i hc;simp only[Zi]at h;obtain⟨q,hq,hm⟩:=h;obtain⟨u,hu,hx⟩:=BM (w:=w) (hE.ty hde) hvs hq hm;refine⟨u,?_,hx⟩;unfold Instr.index;simp only[Sem.run_bind,kz,h3,Result.andThen_ok,Sem.run_ite,if_pos hc,(hE.ty hde).jk,hu]
   ·simp at h
  ·simp at h
 ·simp at h
theorem Ew (hE:eF P E) (r:dQ I μ n F a.tmps) {s d:TypeId} {o:Operand} {x:V} (h:aN E F (.convert s d o)=some x) :
 ∃v,(convert s d (a.eval o)).run P w=.ok v w∧aK I μ x v:=by
 simp only[aN]at h;split at h
 ·rename_i ts td k m hs hd ho;split at h
  ·rename_i k' hk;simp only[Za]at h;subst h;obtain⟨d1,g1,_,g3⟩:=(hE.ty hs).dM;obtain⟨d2,h1,h2,h3⟩:=(hE.ty hd).dM;rw[hk]at h2;have:=FL h2;subst this;rw[(cJ r ho).gm];refine⟨_,?_,.c _ _ (.int _ _)⟩;unfold convert;simp only[Sem.run_bind,g3,h3,Result.andThen_ok,Conv.intToInt,Sem.run_pure]
  ·simp at h
 ·simp at h
theorem kY (r:dQ I μ n F a.tmps) {o:Option Operand} {m:Option Int} (h:gQ F o=some m) :
 (m=none∧o.map a.eval=none)∨∃k z,m=some z∧o.map a.eval=some (.int k z):=by
 cases o with
 | none=>simp only[gQ,Za]at h;subst h;exact .inl ⟨rfl,rfl⟩
 | some x=>
  simp only[gQ]at h;split at h
  ·rename_i k z hx;simp only[Za]at h;subst h;exact .inr ⟨k,z,rfl,by simp[(cJ r hx).gm]⟩
  ·simp at h
theorem jt (k:IntKind) (z:Int) (y:Nat) (code:BoundsCode) (h0:0≤z) (h1:z≤y):(Instr.sliceBound (.int k z) y code).run P w=.ok z.toNat w:=by
 unfold Instr.sliceBound;simp only[Sem.run_bind,kz,Result.andThen_ok,if_pos (And.intro h0 h1),Sem.run_pure]
theorem iZ (r:dQ I μ n F a.tmps) {lo hi:Option Operand} {l h:Option Int} (e1:gQ F lo=some l) (e2:gQ F hi=some h) (isS:Bool) (len cap L H:Nat) (hc:len≤cap)
 (hb:dR len l h=some (L,H)):(Instr.sliceBounds isS len cap (lo.map a.eval) (hi.map a.eval) none).run P w=.ok (L,H,cap) w∧L≤H∧H≤len:=by
 unfold dR at hb;simp only at hb;split at hb
 ·rename_i hcond;simp only[Za,Zd]at hb;obtain⟨rfl,rfl⟩:=hb;obtain⟨c1,c2,c3,c4⟩:=hcond;refine⟨?_,by omega,by omega⟩
  unfold Instr.sliceBounds;rcases kY r e1 with⟨rfl,q1⟩|⟨k1,z1,rfl,q1⟩ <;> rcases kY r e2 with⟨rfl,q2⟩|⟨k2,z2,rfl,q2⟩ <;>
   simp only[q1,q2,Option.getD_none,Option.getD_some]at c1 c2 c3 c4 ⊢
  ·simp[Sem.run_bind]
  ·rw[Sem.run_bind];simp only[Sem.run_pure,Result.andThen_ok,Sem.run_bind,jt k2 z2 _ _ c1 (show z2≤(cap:Int)by omega)]
   simp
  ·rw[Sem.run_bind];simp only[Sem.run_pure,Result.andThen_ok,Sem.run_bind,jt k1 z1 _ _ c3 (show z1≤(len:Int)by omega)]
   simp
  ·rw[Sem.run_bind];simp only[Sem.run_pure,Result.andThen_ok,Sem.run_bind,jt k2 z2 _ _ c1 (show z2≤(cap:Int)by omega),jt k1 z1 _ _ c3 (show z1≤(z2.toNat:Int)by omega)]
 ·simp at hb
theorem zI {es:Nat} {xs:List (List V)} {v:Value} {L H:Nat} (h:ei I (.fsl es xs) v) (h1:L≤H) (h2:H≤xs.length) :
 ∃ad len cap,v=.slice ad len cap∧len=xs.length∧len≤cap∧ei I (.fsl es ((xs.take H).drop L)) (.slice (if cap=L then ad else ad.map (·.add (L*es))) (H-L) (cap-L)):=by
 cases h with
 | fsl0 _ ad cap=>
  simp at h2;have hL:L=0:=by omega
  subst h2;subst hL;refine⟨some ad,0,cap,rfl,rfl,Nat.zero_le _,?_⟩;have:=ei.fsl0 (I:=I) es ad cap;split
  ·simpa using this
  ·simpa [Addr.add]using ei.fsl0 (I:=I) es (ad.add (0*es)) cap
 | fsl _ _ b o cap c hI hc hu ho hb hr=>
  refine⟨_,_,cap,rfl,rfl,hc,?_⟩;have hlen:((xs.take H).drop L).length=H-L:=by simp;omega
  by_cases hz:H-L=0
  ·have:(xs.take H).drop L=[]:=List.eq_nil_of_length_eq_zero (by rw[hlen];exact hz)
   rw[this,hz];split
   ·exact .fsl0 es _ _
   ·exact .fsl0 es _ _
  ·rw[if_neg (by omega)]
   simp only[Option.map_some,lz];have hlt:L≤xs.length:=by omega
   have e:ei I (.fsl es ((xs.take H).drop L)) (.slice (some ⟨b,o+L*es,none⟩) ((xs.take H).drop L).length (cap-L)):=by
    refine .fsl es _ b (o+L*es) (cap-L) c hI (by rw[hlen];omega) (fun x hx=>hu x (List.mem_of_mem_take (List.mem_of_mem_drop hx))) (fun x hx=>ho x (List.mem_of_mem_take (List.mem_of_mem_drop hx))) ?_ ?_
    ·rw[hlen];have:L*es+(H-L)*es≤xs.length*es:=by rw[←Nat.add_mul];exact Nat.mul_le_mul_right _ (by omega)
     omega
    ·intro i j x y u p q s;rw[List.getElem?_drop,List.getElem?_take]at p;split at p
     ·refine hr (L+i) j x y u p q ?_;rw[←s];congr 1;rw[Nat.add_mul];omega
     ·simp at p
   rw[hlen]at e;exact e
theorem G8 (hE:eF P E) (r:dQ I μ n F a.tmps) {t:TypeId} {o:Operand} {lo hi mx:Option Operand} {x:V} (h:aN E F (.slice t o lo hi mx)=some x) :
 ∃v,(Instr.sliceAt t (a.eval o) (lo.map a.eval) (hi.map a.eval) (mx.map a.eval)).run P w=.ok v w∧aK I μ x v:=by
 simp only[aN]at h;split at h
 ·
  rename_i s l hh hk ho hl hhi hmx;obtain⟨d,hd,hkd⟩:=fy hk;obtain⟨desc,h1,h2,h3⟩:=(hE.ty hd).dM;rw[hkd]at h2;have:=yQ h2;subst this;rw[(cJ r ho).ov];simp only[Zh]at h;obtain⟨⟨L,H⟩,hb,rfl⟩:=h;obtain⟨g,_,_⟩:=iZ (P:=P) (w:=w) r hl hhi false s.size s.size L H (Nat.le_refl _) hb;have hm:mx.map a.eval=none:=by rcases kY r hmx with⟨_,q⟩|⟨k,z,e,_⟩;exact q;cases e
  refine⟨.string (s.extract L H),?_,.c _ _ (.str _)⟩;unfold Instr.sliceAt Instr.slice;simp only[Sem.run_bind,h3,Result.andThen_ok,hm,g,Option.isSome_none,Bool.false_eq_true,if_false,Sem.run_pure]
 ·rename_i e v l hh hk ho hl hhi hmx;obtain⟨d,hd,hkd⟩:=fy hk;obtain⟨desc,h1,h2,h3⟩:=(hE.ty hd).dM;rw[hkd]at h2;have:=jf h2;subst this;have hv:=cJ r ho;have hm:mx.map a.eval=none:=by rcases kY r hmx with⟨_,q⟩|⟨k,z,e,_⟩;exact q;cases e
  have hrun:∀(ad:Option Addr) (len cap L H:Nat) (de:TD),E.tt e=some de→len≤cap→dR len l hh=some (L,H) →
   (Instr.sliceAt t (.slice ad len cap) (lo.map a.eval) (hi.map a.eval) (mx.map a.eval)).run P w=.ok (.slice (if cap=L then ad else ad.map (·.add (L*de.size))) (H-L) (cap-L)) w:=by
   intro ad len cap L H de hde hc hb;obtain⟨g,_,_⟩:=iZ (P:=P) (w:=w) r hl hhi true len cap L H hc hb;unfold Instr.sliceAt Instr.slice;simp only[Sem.run_bind,h3,Result.andThen_ok,hm,g,(hE.ty hde).jk,Sem.run_pure]
  split at h
  ·rename_i de hde;split at h
   ·rename_i es xs;split at h
    ·rename_i hes;simp only[Zh]at h;obtain⟨⟨L,H⟩,hb,rfl⟩:=h;obtain⟨_,hLH,hHl⟩:=iZ (P:=P) (w:=w) r hl hhi true xs.length xs.length L H (Nat.le_refl _) hb;obtain⟨ad,len,cap,e1,e2,e3,e4⟩:=zI hv.iX hLH hHl;rw[e1];subst e2;refine⟨_,hrun ad _ cap L H de hde e3 hb,?_⟩;rw[←hes];exact .c _ _ e4
    ·simp at h
   ·rename_i id es off len;split at h
    ·rename_i hes;simp only[Zh]at h;obtain⟨⟨L,H⟩,hb,rfl⟩:=h;obtain⟨_,hLH,hHl⟩:=iZ (P:=P) (w:=w) r hl hhi true len len L H (Nat.le_refl _) hb;rcases hv.lM with⟨p,cap,hm',he,hc,hbd,ee⟩|⟨h0,ad,ee⟩
     ·rw[ee];refine⟨_,hrun _ _ cap L H de hde hc hb,?_⟩;simp only
      by_cases hz:cap=L
      ·have:H-L=0:=by omega
       rw[if_pos hz,this,show cap-L=0 by omega]
       exact .hsl0 id es (off+L) _
      ·rw[if_neg hz];simp only[Option.map_some,lz];rw[←hes];subst he;have:=aK.hsl (I:=I) (μ:=μ) id (off+L) (H-L) (cap-L) p hm' (by omega) (by
        have:off+L+(cap-L)=off+cap:=by omega
        rw[this];exact hbd)
       rwa [Nat.add_mul,←Nat.add_assoc]at this
     ·rw[ee];subst h0;refine⟨_,hrun _ _ 0 L H de hde (Nat.le_refl _) hb,?_⟩;simp only;have hL:L=0:=by omega
      have hH:H=0:=by omega
      subst hL;subst hH;simpa using aK.hsl0 (I:=I) (μ:=μ) id es (off+0) ad
    ·simp at h
   ·simp only[Zh]at h;obtain⟨⟨L,H⟩,hb,rfl⟩:=h;obtain⟨_,hLH,hHl⟩:=iZ (P:=P) (w:=w) r hl hhi true 0 0 L H (Nat.le_refl _) hb;obtain⟨ad,ee⟩:=hv.si;rw[ee];refine⟨_,hrun ad 0 0 L H de hde (Nat.le_refl _) hb,?_⟩;have hL:L=0:=by omega
    have hH:H=0:=by omega
    subst hL;subst hH;exact .c _ _ (.dY _)
   ·simp only[Zh]at h;obtain⟨⟨L,H⟩,hb,rfl⟩:=h;obtain⟨_,hLH,hHl⟩:=iZ (P:=P) (w:=w) r hl hhi true 0 0 L H (Nat.le_refl _) hb;have ee:=hv.lR;rw[ee];refine⟨_,hrun none 0 0 L H de hde (Nat.le_refl _) hb,?_⟩;have hL:L=0:=by omega
    have hH:H=0:=by omega
    subst hL;subst hH;exact .c _ _ .ay
   ·simp at h
  ·simp at h
 ·rename_i e v hk ho hl hhi hmx;obtain⟨d,hd,hkd⟩:=fy hk;obtain⟨desc,h1,h2,h3⟩:=(hE.ty hd).dM;rw[hkd]at h2;have:=jf h2;subst this;have hv:=cJ r ho;have q1:lo.map a.eval=none:=by rcases kY r hl with⟨_,q⟩|⟨k,z,e,_⟩;exact q;cases e
  obtain⟨k2,q2⟩:∃k,hi.map a.eval=some (.int k 0):=by
   rcases kY r hhi with⟨q,_⟩|⟨k,z,e,q⟩
   ·cases q
   ·cases e;exact⟨k,q⟩
  obtain⟨k3,q3⟩:∃k,mx.map a.eval=some (.int k 0):=by
   rcases kY r hmx with⟨q,_⟩|⟨k,z,e,q⟩
   ·cases q
   ·cases e;exact⟨k,q⟩
  have hrun:∀(ad:Option Addr) (len cap:Nat) (de:TD),E.tt e=some de→∃ad',(Instr.sliceAt t (.slice ad len cap) (lo.map a.eval) (hi.map a.eval) (mx.map a.eval)).run P w=.ok (.slice ad' 0 0) w:=by
   intro ad len cap de hde;refine⟨ad,?_⟩;unfold Instr.sliceAt Instr.slice Instr.sliceBounds;simp only[Sem.run_bind,h3,Result.andThen_ok,q1,q2,q3,jt k3 0 cap _ (Int.le_refl _) (by omega),jt k2 0 _ _ (Int.le_refl _) (by simp),(hE.ty hde).jk,Sem.run_pure]
   simp
  split at h
  ·rename_i de es xs hde;simp only[Za]at h;subst h;obtain⟨ad,len,cap,e1,_⟩:=zI (L:=0) (H:=0) hv.iX (Nat.le_refl _) (Nat.zero_le _);rw[e1];obtain⟨ad',g⟩:=hrun ad len cap _ hde;exact⟨_,g,.c _ _ (.dY _)⟩
  ·rename_i de id es off len hde;simp only[Za]at h;subst h;rcases hv.lM with⟨p,cap,_,_,_,_,ee⟩|⟨_,ad,ee⟩
   ·rw[ee];obtain⟨ad',g⟩:=hrun _ _ _ _ hde;exact⟨_,g,.c _ _ (.dY _)⟩
   ·rw[ee];obtain⟨ad',g⟩:=hrun _ _ _ _ hde;exact⟨_,g,.c _ _ (.dY _)⟩
  ·rename_i de hde;simp only[Za]at h;subst h;obtain⟨ad,ee⟩:=hv.si;rw[ee];obtain⟨ad',g⟩:=hrun _ _ _ _ hde;exact⟨_,g,.c _ _ (.dY _)⟩
  ·rename_i de hde;simp only[Za]at h;subst h;have ee:=hv.lR;rw[ee];obtain⟨ad',g⟩:=hrun _ _ _ _ hde;exact⟨_,g,.c _ _ (.dY _)⟩
  ·simp at h
 ·simp at h
end
end Go.VE
namespace Go.VE
section
variable {P:Program} {E:Env} {I:bB} {μ:Mu} {n:Nat} {F:Frame} {a:Act} {w:World}
theorem bS.one {x:V} {vs:List Value} (h:bS I μ [x] vs):∃v,vs=[v]∧aK I μ x v:=by
 obtain⟨v,r,rfl,hv,hr⟩:=h.cons_inv;exact⟨v,by rw[hr.vj],hv⟩
theorem bS.two {x y:V} {vs:List Value} (h:bS I μ [x,y] vs):∃u v,vs=[u,v]∧aK I μ x u∧aK I μ y v:=by
 obtain⟨u,r,rfl,hu,hr⟩:=h.cons_inv;obtain⟨v,rfl,hv⟩:=hr.one;exact⟨u,v,rfl,hu,hv⟩
theorem vm {args:Array Operand} {l:List Value} (h:args.toList.map a.eval=l):args.map a.eval=l.toArray:=by
 subst h;apply Array.ext';simp
def rA:Option TK→V→Option V
 | some .str,.str s=>some (.int .i64 s.size)
 | some (.slice _),.fsl _ xs=>some (.int .i64 xs.length)
 | some (.slice _),.hsl _ _ _ len=>some (.int .i64 len)
 | some (.slice _),.dY=>some (.int .i64 0)
 | some (.slice _),.ay=>some (.int .i64 0)
 | _,_=>none
theorem La (hE:eF P E) {t:TypeId} {x z:V} {v:Value} {ty:TypeId} {ats:Array TypeId} (hat:ats[0]? = some t) (hx:aK I μ x v)
 (h:rA (E.dn t) x=some z):∃u,(Builtin.len_ ats ty #[v]).run P w=.ok u w∧aK I μ z u:=by
 cases hk:E.dn t with
 | none=>rw[hk]at h;simp[rA]at h
 | some k=>
  rw[hk]at h;obtain⟨d,hd,hkd⟩:=fy hk;obtain⟨desc,h1,h2,h3⟩:=(hE.ty hd).dM;rw[hkd]at h2
  cases k with
  | str=>
   have:=yQ h2;subst this
   cases x with
   | str s=>
    simp only[rA,Za]at h;subst h;rw[hx.ov];refine⟨_,?_,.c _ _ (.int _ _)⟩;unfold Builtin.len_;simp[hat,h3,goInt]
   | _=>simp[rA]at h
  | slice e=>
   have:=jf h2;subst this;have hrun:∀ad (len cap:Nat),(Builtin.len_ ats ty #[.slice ad len cap]).run P w=.ok (.int .i64 len) w:=by
    intro ad len cap;unfold Builtin.len_;simp[hat,h3,goInt]
   cases x with
   | fsl es xs=>
    simp only[rA,Za]at h;subst h;obtain⟨ad,len,cap,e1,e2,_⟩:=zI (L:=0) (H:=0) hx.iX (Nat.le_refl _) (Nat.zero_le _);rw[e1,←e2];exact⟨_,hrun _ _ _,.c _ _ (.int _ _)⟩
   | hsl id es off len=>
    simp only[rA,Za]at h;subst h;rcases hx.lM with⟨p,cap,_,_,_,_,ee⟩|⟨h0,ad,ee⟩
    ·rw[ee];exact⟨_,hrun _ _ _,.c _ _ (.int _ _)⟩
    ·rw[ee,h0];exact⟨_,hrun _ _ _,.c _ _ (.int _ _)⟩
   | dY=>
    simp only[rA,Za]at h;subst h;obtain⟨ad,ee⟩:=hx.si;rw[ee];exact⟨_,hrun _ _ _,.c _ _ (.int _ _)⟩
   | ay=>
    simp only[rA,Za]at h;subst h;rw[hx.lR];exact⟨_,hrun _ _ _,.c _ _ (.int _ _)⟩
   | _=>simp[rA]at h
  | _=>simp[rA]at h
theorem d8 {s:Sem Value} {v:Value} {w':World} (h:s.run P w=.ok v w'):(do pure (Next.value (←s)):Sem Next).run P w=.ok (.value v) w':=by
 rw[Sem.run_bind,h];rfl
theorem Jz (hE:eF P E) (r:dQ I μ n F a.tmps) (o:Oper) {x:V} (h:aN E F o.op=some x) :
 ∃v,(execOp a.eval o).run P w=.ok (.value v) w∧aK I μ x v:=by
 obtain⟨dst,op,ty,pos,after,guard⟩:=o;simp only at h
 cases op with
 | move y=>exact⟨_,rfl,cJ r (by simpa [aN]using h)⟩
 | assign y=>exact⟨_,rfl,cJ r (by simpa [aN]using h)⟩
 | pick c y z=>
  simp only[aN]at h;simp only[execOp];split at h
  ·rename_i t hc;have e:=(cJ r hc).mJ;simp only[e,asBool,Sem.run_bind,Sem.run_pure,Result.andThen_ok]
   cases t with
   | true=>simp only[if_true]at h ⊢;exact⟨_,rfl,cJ r h⟩
   | false=>simp only[Bool.false_eq_true,if_false]at h ⊢;exact⟨_,rfl,cJ r h⟩
  ·simp at h
 | nilCheck y=>
  simp only[aN]at h;simp only[execOp];split at h
  ·rename_i id el off hy;simp only[Za]at h;subst h;have hv:=cJ r hy;obtain⟨p,_,e⟩:=hv.nU;rw[e]at hv ⊢;exact⟨_,rfl,hv⟩
  ·rename_i cs hy;simp only[Za]at h;subst h;have hv:=cJ r hy;obtain⟨b,o,c,e,_⟩:=hv.jh;rw[e]at hv ⊢;exact⟨_,rfl,hv⟩
  ·rename_i f u v hy;simp only[Za]at h;subst h;have hv:=cJ r hy;obtain⟨b,c,e,_⟩:=hv.iW;rw[e]at hv ⊢;exact⟨_,rfl,hv⟩
  ·simp at h
 | binOp op t y z yt=>
  simp only[aN]at h;split at h
  ·rename_i u v hu hv;obtain⟨q,hq,hr⟩:=Kp (w:=w) hE y z h (cJ r hu) (cJ r hv);exact⟨q,d8 hq,hr⟩
  ·simp at h
 | unOp op t y=>
  simp only[aN]at h;simp only[execOp];split at h
  ·rename_i b hy;simp only[Za]at h;subst h;rw[(cJ r hy).mJ];exact⟨_,d8 (by simp only[Op.unary];rfl),.c _ _ (.bool _)⟩
  ·rename_i k m hy;simp only[Za]at h;subst h;rw[(cJ r hy).gm];exact⟨_,d8 (by simp only[Op.unary,Op.intArith];rfl),by simpa using aK.c _ _ (.int k _)⟩
  ·simp at h
 | convert s d y=>
  obtain⟨v,h1,h2⟩:=Ew (w:=w) hE r h;exact⟨v,d8 h1,h2⟩
 | fieldAddr s y f=>
  obtain⟨v,h1,h2⟩:=ED (w:=w) hE r h;exact⟨v,d8 h1,h2⟩
 | field s y f=>
  obtain⟨v,h1,h2⟩:=HH (w:=w) hE r h;exact⟨v,d8 h1,h2⟩
 | indexAddr t y i=>
  obtain⟨v,h1,h2⟩:=El (w:=w) hE r h;exact⟨v,d8 h1,h2⟩
 | index t y i=>
  obtain⟨v,h1,h2⟩:=He (w:=w) hE r h;exact⟨v,d8 h1,h2⟩
 | slice t y lo hi mx=>
  obtain⟨v,h1,h2⟩:=G8 (w:=w) hE r h;exact⟨v,d8 h1,h2⟩
 | build t ps=>
  obtain⟨v,h1,h2⟩:=HE (w:=w) hE r h;exact⟨v,d8 h1,h2⟩
 | makeFunc f u v=>
  cases f with
  | func f=>
   simp only[aN]at h;split at h
   ·rename_i x1 x2 h1 h2;simp only[Za]at h;subst h;have r1:=m8 r h1;have r2:=m8 r h2;refine⟨.func (.func f) (u.map a.eval) (v.map a.eval),rfl,?_⟩;refine .clo f _ _ _ _ (by simpa using r1.1) (by simpa using r2.1) (fun j p q s t=>r1.2 j p q s (by simpa using t)) (fun j p q s t=>r2.2 j p q s (by simpa using t))
   ·simp at h
  | _=>simp[aN]at h
 | extract y i=>
  simp only[aN]at h;simp only[execOp];split at h
  ·rename_i vs hy;obtain⟨us,e,hl⟩:=(cJ r hy).lN;rw[e];have hlt:=(Zf.1 h).1;have hlt':i<us.size:=by have:=hl.1;simp at this;omega
   refine⟨us[i],d8 (by simp[Instr.extract,hlt']),hl.2 i x _ h (by simp[hlt'])⟩
  ·simp at h
 | call c=>
  obtain⟨callee,args,ats⟩:=c
  cases callee with
  | builtin b=>
   simp only[aN]at h;simp only[execOp,resolve,Sem.run_bind,Sem.run_pure,Result.andThen_ok,invoke];split at h
   ·rename_i v t hargs hat;obtain⟨u,hu,hr⟩:=(m8 r hargs).one;rw[vm hu];obtain⟨q,h1,h2⟩:=La (w:=w) (ty:=ty) hE hat hr (by rw[←h];rfl)
    exact⟨q,by simp only[builtin];exact d8 h1,h2⟩
   ·rename_i k x1 k' x2 hargs;split at h
    ·rename_i hk;simp only[Za]at h;subst h;subst hk;obtain⟨u,v,e,hu,hv⟩:=(m8 r hargs).two;rw[vm e,hu.gm,hv.gm];exact⟨_,by simp only[builtin];exact d8 (by simp[Builtin.max_,Builtin.max2]),.c _ _ (.int _ _)⟩
    ·simp at h
   ·rename_i k x1 k' x2 hargs;split at h
    ·rename_i hk;simp only[Za]at h;subst h;subst hk;obtain⟨u,v,e,hu,hv⟩:=(m8 r hargs).two;rw[vm e,hu.gm,hv.gm];exact⟨_,by simp only[builtin];exact d8 (by simp[Builtin.min_,Builtin.min2]),.c _ _ (.int _ _)⟩
    ·simp at h
   ·simp at h
  | _=>simp[aN]at h
 | _=>simp[aN]at h
end
end Go.VE
namespace Go.VE
structure fA (I:bB) (μ:Mu) (p:Pl) (c:Array Value) (es:Nat) (xs:List (List V)):Prop where
 es_eq:p.es=es
 sz:c.size=p.sz
 o_:∀x∈xs,x.length=es
 one:∀x∈xs,∀y∈x,V.one y=true
 room:p.o+xs.length*es≤c.size
 rel:bS I μ xs.flatten ((c.toList.drop p.o).take (xs.length*es))
def pL (I:bB) (μ:Mu) (kvs:List (V×V)) (es:Array MapEntry):Prop:=
 kvs.length=es.size∧∀(j:Nat) q e,kvs[j]? = some q→es[j]? = some e→aK I μ q.1 e.key∧aK I μ q.2 e.val
def vB.is:vB→LoopState→Prop
 | .ready,.ready|.busy,.busy|.done,.done=>True
 | _,_=>False
structure pY (I:bB) (μ:Mu) (r:p_) (l:Loop):Prop where
 st:r.st.is l.state
 pend:l.pending=r.pend.bind gX
 pendOk:r.pend≠some .norm
 frame:dQ I μ r.nt r.frame l.tmps
 params:l.params.toList=r.params
 assign:l.assign=r.assign
 body:l.body=r.body
def Ob.live:Ob→Bool
 | .row ..|.map _|.loop _=>true
 | _=>false
def nD (I:bB) (μ:Mu) (w:World) (id:Nat):Ob→Prop
 | .free=>μ id=none
 | .dead=>True
 | .row es xs=>∃p c el,μ id=some p∧I p.b=none∧w.heap[p.b]? = some (.cells c el)∧fA I μ p c es xs
 | .frz es xs=>∃p c,μ id=some p∧I p.b=some (.cells c)∧fA I μ p c es xs
 | .map kvs=>∃p es clock,μ id=some p∧I p.b=none∧w.heap[p.b]? = some (.map es clock)∧pL I μ kvs es
 | .loop r=>∃p l,μ id=some p∧I p.b=none∧w.heap[p.b]? = some (.loop l)∧pY I μ r l
structure cg (I:bB) (μ:Mu) (H:an) (w:World):Prop where
 dom:∀id,H.length≤id→μ id=none
 imm:∀b x,I b=some x→x.at w b
 obs:∀id ob,H[id]? = some ob→nD I μ w id ob
 inj:∀id id' ob ob' p p',H[id]? = some ob→H[id']? = some ob'→ob.live=true→ob'.live=true→μ id=some p→μ id'=some p'→p.b=p'.b→id=id'
def fZ (μ:Mu) (H:an) (b:Nat):Prop:=∃id p ob,H[id]? = some ob∧ob.live=true∧μ id=some p∧p.b=b
def Obj.nf (o:Obj):Prop:=∀c t fr,o=.cells c t fr→fr=(0,0)
theorem ou (c:Array Value) (t:TypeId):Obj.nf (.cells c t):=fun _ _ _ h=>by cases h;rfl
theorem mF {o:Obj} (h:(match o with|.cells ..=>false|_=>true)=true):Obj.nf o:=fun c t fr e=>by subst e;cases h
theorem y8 {w w':World} {o:Obj} {b:Nat} (hz:Obj.nf o) (h1:w'.heap[b]? = some o) (h2:∀k,k≠b→w'.heap[k]? = w.heap[k]?) (a:Addr) (h:w.frozen? a=false):w'.frozen? a=false:=by
 by_cases e:a.block=b
 ·unfold World.frozen?;rw[e,h1];split
  ·rename_i c t lo hi heq;cases heq;have:=hz _ _ _ rfl;cases this;simp
  ·rfl
 ·unfold World.frozen? at h ⊢;rw[h2 _ e];exact h
structure Step (I:bB) (μ:Mu) (H:an) (w:World) (I':bB) (μ':Mu) (H':an) (w':World):Prop where
 le:bB.le I I'
 mu:Mu.le μ μ'
 len:H.length≤H'.length
 size:w.heap.size≤w'.heap.size
 frame:∀b,b<w.heap.size→¬fZ μ H b→w'.heap[b]? = w.heap[b]?
 terr:∀b,((I' b).isSome=true∨fZ μ' H' b)→(I b).isSome=true∨fZ μ H b∨w.heap.size≤b
 os:w'.os=w.os
 out:w'.output=w.output
 fz:∀a:Addr,w.frozen? a=false→w'.frozen? a=false
section
variable {I I' I'':bB} {μ μ' μ'':Mu} {H H' H'':an} {w w' w'':World} {P:Program} {E:Env} {n:Nat} {F:Frame} {a:Act}
theorem IC.sG {x:IC} {b:Nat} (h:x.at w b):b<w.heap.size:=by
 cases x with
 | cells c=>obtain⟨_,_,h⟩:=h;exact(Array.getElem?_eq_some_iff.1 h).1
 | map es=>obtain⟨_,h⟩:=h;exact(Array.getElem?_eq_some_iff.1 h).1
theorem IC.qa {x:IC} {b:Nat} (h:x.at w b) (e:w'.heap[b]? = w.heap[b]?):x.at w' b:=by
 cases x with
 | cells c=>obtain⟨el,fr,h⟩:=h;exact⟨el,fr,by rw[e];exact h⟩
 | map es=>obtain⟨cl,h⟩:=h;exact⟨cl,by rw[e];exact h⟩
theorem Step.refl (I:bB) (μ:Mu) (H:an) (w:World):Step I μ H w I μ H w:=
 ⟨bB.le_refl _,Mu.le_refl _,Nat.le_refl _,Nat.le_refl _,fun _ _ _=>rfl,fun _ h=>h.elim .inl fun h=>.inr (.inl h),rfl,rfl,fun _ h=>h⟩
theorem fj (s:cg I μ H w) {b:Nat} (h:fZ μ H b):I b=none:=by
 obtain⟨id,p,ob,h1,h2,h3,rfl⟩:=h;have:=s.obs id ob h1
 cases ob with
 | row es xs=>obtain⟨q,c,el,hq,hI,_⟩:=this;rw[h3]at hq;cases hq;exact hI
 | map kvs=>obtain⟨q,c,el,hq,hI,_⟩:=this;rw[h3]at hq;cases hq;exact hI
 | loop r=>obtain⟨q,c,hq,hI,_⟩:=this;rw[h3]at hq;cases hq;exact hI
 | _=>simp[Ob.live]at h2
theorem ki (s:cg I μ H w) {b:Nat} (h:fZ μ H b):b<w.heap.size:=by
 obtain⟨id,p,ob,h1,h2,h3,rfl⟩:=h;have:=s.obs id ob h1
 cases ob with
 | row es xs=>obtain⟨q,c,el,hq,hI,hh,_⟩:=this;rw[h3]at hq;cases hq;exact(Array.getElem?_eq_some_iff.1 hh).1
 | map kvs=>obtain⟨q,c,el,hq,hI,hh,_⟩:=this;rw[h3]at hq;cases hq;exact(Array.getElem?_eq_some_iff.1 hh).1
 | loop r=>obtain⟨q,c,hq,hI,hh,_⟩:=this;rw[h3]at hq;cases hq;exact(Array.getElem?_eq_some_iff.1 hh).1
 | _=>simp[Ob.live]at h2
theorem Step.trans (s':cg I' μ' H' w') (h1:Step I μ H w I' μ' H' w') (h2:Step I' μ' H' w' I'' μ'' H'' w''):Step I μ H w I'' μ'' H'' w'' where
 fz:=fun a h=>h2.fz a (h1.fz a h)
 le:=bB.le_trans h1.le h2.le
 mu:=fun id p h=>h2.mu id p (h1.mu id p h)
 len:=Nat.le_trans h1.len h2.len
 size:=Nat.le_trans h1.size h2.size
 frame:=by
  intro b hb hn;rw[h2.frame b (Nat.lt_of_lt_of_le hb h1.size) ?_,h1.frame b hb hn];intro ho;rcases h1.terr b (.inr ho)with h|h|h
  ·have:=fj s' ho;obtain⟨x,hx⟩:=Option.isSome_iff_exists.1 h;rw[h1.le _ _ hx]at this;cases this
  ·exact hn h
  ·omega
 terr:=by
  intro b h;rcases h2.terr b h with h|h|h
  ·exact h1.terr b (.inl h)
  ·exact h1.terr b (.inr h)
  ·exact .inr (.inr (Nat.le_trans h1.size h))
 os:=h2.os.trans h1.os
 out:=h2.out.trans h1.out
theorem fA.mono (h:bB.le I I') (hm:Mu.le μ μ') {p:Pl} {c:Array Value} {es:Nat} {xs:List (List V)} (r:fA I μ p c es xs):fA I' μ' p c es xs:=
 ⟨r.es_eq,r.sz,r.o_,r.one,r.room,r.rel.mono h hm⟩
theorem pL.mono (h:bB.le I I') (hm:Mu.le μ μ') {kvs:List (V×V)} {es:Array MapEntry} (r:pL I μ kvs es):pL I' μ' kvs es:=
 ⟨r.1,fun j q e a b=>⟨(r.2 j q e a b).1.mono h hm,(r.2 j q e a b).2.mono h hm⟩⟩
theorem pY.mono (h:bB.le I I') (hm:Mu.le μ μ') {r:p_} {l:Loop} (x:pY I μ r l):pY I' μ' r l:=
 ⟨x.st,x.pend,x.pendOk,x.frame.mono h hm,x.params,x.assign,x.body⟩
theorem nD.mono (h:bB.le I I') (hm:Mu.le μ μ') {id:Nat} {ob:Ob} (r:nD I μ w id ob)
 (hb:∀p,μ id=some p→ob.live=true→w'.heap[p.b]? = w.heap[p.b]? ∧ I' p.b=none) (hf:ob=.free→μ' id=none):nD I' μ' w' id ob:=by
 cases ob with
 | free=>exact hf rfl
 | dead=>trivial
 | row es xs=>
  obtain⟨p,c,el,h1,h2,h3,h4⟩:=r;obtain⟨g1,g2⟩:=hb p h1 rfl;exact⟨p,c,el,hm _ _ h1,g2,by rw[g1];exact h3,h4.mono h hm⟩
 | frz es xs=>
  obtain⟨p,c,h1,h2,h4⟩:=r;exact⟨p,c,hm _ _ h1,h _ _ h2,h4.mono h hm⟩
 | map kvs=>
  obtain⟨p,es,cl,h1,h2,h3,h4⟩:=r;obtain⟨g1,g2⟩:=hb p h1 rfl;exact⟨p,es,cl,hm _ _ h1,g2,by rw[g1];exact h3,h4.mono h hm⟩
 | loop x=>
  obtain⟨p,l,h1,h2,h3,h4⟩:=r;obtain⟨g1,g2⟩:=hb p h1 rfl;exact⟨p,l,hm _ _ h1,g2,by rw[g1];exact h3,h4.mono h hm⟩
theorem cg.oc (s:cg I μ H w) (e:w'.heap=w.heap):cg I μ H w' where
 dom:=s.dom
 imm:=fun b x h=>IC.qa (s.imm b x h) (by rw[e])
 obs:=fun id ob h=>(s.obs id ob h).mono (bB.le_refl _) (Mu.le_refl _) (fun p hp hl=>⟨by rw[e],fj s ⟨id,p,ob,h,hl,hp,rfl⟩⟩) (fun he=>by subst he;exact s.obs id _ h)
 inj:=s.inj
theorem Step.oc (e:w'.heap=w.heap) (h1:w'.os=w.os) (h2:w'.output=w.output):Step I μ H w I μ H w':=
 ⟨bB.le_refl _,Mu.le_refl _,Nat.le_refl _,by rw[e];exact Nat.le_refl _,fun _ _ _=>by rw[e],fun b h=>h.elim .inl fun h=>.inr (.inl h),h1,h2,fun a h=>by unfold World.frozen? at h ⊢;rw[e];exact h⟩
def Mu.fI (μ:Mu) (k:Nat) (p:Pl):Mu:=fun id=>if id=k then some p else μ id
theorem Mu.fe (μ:Mu) (k:Nat) (p:Pl):μ.fI k p k=some p:=by simp[Mu.fI]
theorem Mu.gf (μ:Mu) {k id:Nat} (p:Pl) (h:id≠k):μ.fI k p id=μ id:=by simp[Mu.fI,h]
theorem Mu.mh {k:Nat} {p:Pl} (h:μ k=none):Mu.le μ (μ.fI k p):=by
 intro id q hq
 by_cases e:id=k
 ·subst e;rw[h]at hq;cases hq
 ·rw[Mu.gf _ _ e];exact hq
theorem jC (o:Obj) (b:Nat) (h:b<w.heap.size):(w.alloc o).heap[b]? = w.heap[b]? := by
 show (w.heap.push o)[b]? = _;simp[Array.getElem?_push,Nat.ne_of_lt h]
theorem ly (o:Obj):(w.alloc o).heap[w.heap.size]? = some o:=by
 show (w.heap.push o)[w.heap.size]? = _;simp
theorem KE {o:Obj} (hz:Obj.nf o) (a:Addr) (h:w.frozen? a=false):(w.alloc o).frozen? a=false:=
 y8 (b:=w.heap.size) hz (ly o) (fun k hk=>by
  by_cases hl:k<w.heap.size
  ·exact jC o k hl
  ·show (w.heap.push o)[k]? = _;rw[Array.getElem?_eq_none (by simp;omega),Array.getElem?_eq_none (by omega)]) a h
theorem cg.place (s:cg I μ H w) {k:Nat} {ob:Ob} {o:Obj} {p:Pl} (hk:μ k=none) (hlen:H.length≤H'.length) (hlt:k<H'.length)
 (hne:∀id,id≠k→H'[id]? = some .free∨H'[id]? = H[id]?) (hfree:∀id,id≠k→H'[id]? = some .free→μ id=none) (heq:H'[k]? = some ob) (hp:p.b=w.heap.size)
 (hob:nD I (μ.fI k p) (w.alloc o) k ob) (hz:Obj.nf o):cg I (μ.fI k p) H' (w.alloc o)∧Step I μ H w I (μ.fI k p) H' (w.alloc o):=by
 have hI:∀b x,I b=some x→b<w.heap.size:=fun b x h=>IC.sG (s.imm b x h)
 have hget:∀id ob',id≠k→H'[id]? = some ob'→ob'≠.free→H[id]? = some ob':=by
  intro id ob' h1 h2 h3;rcases hne id h1 with h|h
  ·rw[h]at h2;cases h2;exact absurd rfl h3
  ·rw[←h];exact h2
 have howned:∀b,fZ (μ.fI k p) H' b→fZ μ H b∨b=w.heap.size:=by
  rintro b ⟨id,q,ob',h1,h2,h3,rfl⟩
  by_cases e:id=k
  ·subst e;rw[Mu.fe]at h3;cases h3;exact .inr hp
  ·rw[Mu.gf _ _ e]at h3;exact .inl ⟨id,q,ob',hget id ob' e h1 (by rintro rfl;simp[Ob.live]at h2),h2,h3,rfl⟩
 refine⟨⟨?_,?_,?_,?_⟩,⟨bB.le_refl _,Mu.mh hk,hlen,by simp,?_,?_,rfl,rfl,y8 (b:=w.heap.size) hz (ly o) fun k hk => ?_⟩⟩
 ·intro id h;rw[Mu.gf _ _ (by omega)]
  exact s.dom id (by omega)
 ·intro b x h;exact IC.qa (s.imm b x h) (jC o b (hI b x h))
 ·intro id ob' h
  by_cases e:id=k
  ·subst e;rw[heq]at h;cases h;exact hob
  ·by_cases hf:ob'=.free
   ·subst hf;show (μ.fI k p) id=none;rw[Mu.gf _ _ e];exact hfree id e h
   ·have h':=hget id ob' e h hf;refine(s.obs id ob' h').mono (bB.le_refl _) (Mu.mh hk) (fun q hq hl => ?_) (fun he=>absurd he hf)
    have ho:fZ μ H q.b:=⟨id,q,ob',h',hl,hq,rfl⟩;exact⟨jC o _ (ki s ho),fj s ho⟩
 ·intro id id' o1 o2 q q' h1 h2 l1 l2 m1 m2 hb
  by_cases e:id=k <;> by_cases e':id'=k
  ·rw[e,e']
  ·subst e;rw[Mu.fe]at m1;cases m1;rw[Mu.gf _ _ e']at m2;have:=ki s ⟨id',q',o2,hget id' o2 e' h2 (by rintro rfl;simp[Ob.live]at l2),l2,m2,rfl⟩
   omega
  ·subst e';rw[Mu.fe]at m2;cases m2;rw[Mu.gf _ _ e]at m1;have:=ki s ⟨id,q,o1,hget id o1 e h1 (by rintro rfl;simp[Ob.live]at l1),l1,m1,rfl⟩
   omega
  ·rw[Mu.gf _ _ e]at m1;rw[Mu.gf _ _ e']at m2;exact s.inj id id' o1 o2 q q' (hget id o1 e h1 (by rintro rfl;simp[Ob.live]at l1)) (hget id' o2 e' h2 (by rintro rfl;simp[Ob.live]at l2)) l1 l2 m1 m2 hb
 ·intro b hb _;exact jC o b hb
 ·intro b h;rcases h with h|h
  ·exact .inl h
  ·rcases howned b h with h|h
   ·exact .inr (.inl h)
   ·exact .inr (.inr (by omega))
 ·by_cases hl:k<w.heap.size
  ·exact jC o k hl
  ·show (w.heap.push o)[k]? = _;rw[Array.getElem?_eq_none (by simp;omega),Array.getElem?_eq_none (by omega)]
theorem cg.push (s:cg I μ H w) {ob:Ob} {o:Obj} {p:Pl} (hp:p.b=w.heap.size) (hob:nD I (μ.fI H.length p) (w.alloc o) H.length ob) (hz:Obj.nf o:=by first|exact ou _ _|exact mF rfl) :
 cg I (μ.fI H.length p) (H++[ob]) (w.alloc o)∧Step I μ H w I (μ.fI H.length p) (H++[ob]) (w.alloc o):=by
 refine s.place (s.dom _ (Nat.le_refl _)) (by simp) (by simp) (fun id h=>.inr ?_) (fun id h hf => ?_) (by simp) hp hob hz
 ·by_cases hlt:id<H.length
  ·rw[List.getElem?_append_left hlt]
  ·rw[List.getElem?_eq_none (by simp;omega),List.getElem?_eq_none (by omega)]
 ·by_cases hlt:id<H.length
  ·rw[List.getElem?_append_left hlt]at hf;exact s.obs id _ hf
  ·exact s.dom id (by omega)
theorem cg.fill (s:cg I μ H w) {k:Nat} {ob:Ob} {o:Obj} {p:Pl} (hk:H[k]? = some .free) (hp:p.b=w.heap.size) (hob:nD I (μ.fI k p) (w.alloc o) k ob) (hz:Obj.nf o:=by first|exact ou _ _|exact mF rfl) :
 cg I (μ.fI k p) (H.set k ob) (w.alloc o)∧Step I μ H w I (μ.fI k p) (H.set k ob) (w.alloc o):=by
 have hlt:=(Zf.1 hk).1;refine s.place (s.obs k _ hk) (by simp) (by simpa using hlt) (fun id h=>.inr ?_) (fun id h hf => ?_) (by simp[hlt]) hp hob hz
 ·rw[List.getElem?_set_ne (Ne.symm h)]
 ·rw[List.getElem?_set_ne (Ne.symm h)]at hf;exact s.obs id _ hf
def fF (w:World) (b:Nat) (o:Obj):World:={ w with heap:=w.heap.setIfInBounds b o }
theorem eX (o:Obj) {b b':Nat} (h:b'≠b):(fF w b o).heap[b']? = w.heap[b']? := by simp[fF,Array.getElem?_setIfInBounds_ne (Ne.symm h)]
theorem gL (o:Obj) {b:Nat} (h:b<w.heap.size):(fF w b o).heap[b]? = some o:=by simp[fF,h]
theorem qU (b:Nat) (o:Obj):(fF w b o).heap.size=w.heap.size:=by simp[fF]
theorem Ge (b:Nat) (o o':Obj):fF (fF w b o) b o'=fF w b o':=by simp[fF]
theorem LW {o:Obj} {b:Nat} (hz:Obj.nf o) (a:Addr) (h:w.frozen? a=false):(fF w b o).frozen? a=false:=by
 by_cases hb:b<w.heap.size
 ·exact y8 (b:=b) hz (gL o hb) (fun k hk=>eX o hk) a h
 ·have:(fF w b o).heap=w.heap:=by simp[fF,Array.setIfInBounds,hb]
  unfold World.frozen? at h ⊢;rw[this];exact h
theorem cg.write (s:cg I μ H w) {id:Nat} {ob ob':Ob} {o:Obj} {p:Pl} (hid:H[id]? = some ob) (hl:ob.live=true) (hp:μ id=some p)
 (hob:nD I μ (fF w p.b o) id ob') (hz:Obj.nf o:=by first|exact ou _ _|exact mF rfl):cg I μ (H.set id ob') (fF w p.b o)∧Step I μ H w I μ (H.set id ob') (fF w p.b o):=by
 have hlt:=(Zf.1 hid).1;have hown:fZ μ H p.b:=⟨id,p,ob,hid,hl,hp,rfl⟩;have hback:∀k x,(H.set id ob')[k]? = some x→∃y,H[k]? = some y∧(x.live=true→y.live=true)∧(k≠id→y=x):=by
  intro k x h
  by_cases e:k=id
  ·subst e;exact⟨ob,hid,fun _=>hl,fun h=>absurd rfl h⟩
  ·rw[List.getElem?_set_ne (Ne.symm e)]at h;exact⟨x,h,fun h=>h,fun _=>rfl⟩
 have howned:∀b,fZ μ (H.set id ob') b→fZ μ H b:=by
  rintro b ⟨k,q,x,h1,h2,h3,rfl⟩;obtain⟨y,hy,hyl,_⟩:=hback k x h1;exact⟨k,q,y,hy,hyl h2,h3,rfl⟩
 refine⟨⟨?_,?_,?_,?_⟩,⟨bB.le_refl _,Mu.le_refl _,by simp,by rw[qU];exact Nat.le_refl _,?_,?_,rfl,rfl,y8 (b:=p.b) hz (gL o (ki s hown)) fun k hk=>eX o hk⟩⟩
 ·intro k h;exact s.dom k (by simpa using h)
 ·intro b x h;refine IC.qa (s.imm b x h) (eX o ?_);intro hb;rw[hb,fj s hown]at h;cases h
 ·intro k x h
  by_cases e:k=id
  ·subst e;rw[List.getElem?_set_self hlt]at h;cases h;exact hob
  ·rw[List.getElem?_set_ne (Ne.symm e)]at h;refine(s.obs k x h).mono (bB.le_refl _) (Mu.le_refl _) (fun q hq hlx=>⟨eX o ?_,fj s ⟨k,q,x,h,hlx,hq,rfl⟩⟩) (fun he=>by subst he;exact s.obs k _ h)
   intro hb;exact e (s.inj k id x ob q p h hid hlx hl hq hp hb)
 ·intro k k' x x' q q' h1 h2 l1 l2 m1 m2 hb;obtain⟨y,hy,hyl,_⟩:=hback k x h1;obtain⟨y',hy',hyl',_⟩:=hback k' x' h2;exact s.inj k k' y y' q q' hy hy' (hyl l1) (hyl' l2) m1 m2 hb
 ·intro b _ hn;refine eX o ?_;rintro rfl;exact hn hown
 ·intro b h;rcases h with h|h
  ·exact .inl h
  ·exact .inr (.inl (howned b h))
theorem cg.kill (s:cg I μ H w) {id:Nat} {ob:Ob} (hid:H[id]? = some ob):cg I μ (H.set id .dead) w∧Step I μ H w I μ (H.set id .dead) w:=by
 have hlt:=(Zf.1 hid).1;have hback:∀k x,(H.set id .dead)[k]? = some x→x.live=true→H[k]? = some x∧k≠id:=by
  intro k x h hx
  by_cases e:k=id
  ·subst e;rw[List.getElem?_set_self hlt]at h;cases h;simp[Ob.live]at hx
  ·rw[List.getElem?_set_ne (Ne.symm e)]at h;exact⟨h,e⟩
 refine⟨⟨?_,s.imm,?_,?_⟩,⟨bB.le_refl _,Mu.le_refl _,by simp,Nat.le_refl _,fun _ _ _=>rfl,?_,rfl,rfl,fun _ h=>h⟩⟩
 ·intro k h;exact s.dom k (by simpa using h)
 ·intro k x h
  by_cases e:k=id
  ·subst e;rw[List.getElem?_set_self hlt]at h;cases h;trivial
  ·rw[List.getElem?_set_ne (Ne.symm e)]at h;exact s.obs k x h
 ·intro k k' x x' q q' h1 h2 l1 l2 m1 m2 hb;exact s.inj k k' x x' q q' (hback k x h1 l1).1 (hback k' x' h2 l2).1 l1 l2 m1 m2 hb
 ·rintro b (h|⟨k,q,x,h1,h2,h3,rfl⟩)
  ·exact .inl h
  ·exact .inr (.inl ⟨k,q,x,(hback k x h1 h2).1,h2,h3,rfl⟩)
end
end Go.VE
namespace Go.VE
section
variable {P:Program} {E:Env} {I:bB} {μ:Mu} {H:an} {n:Nat} {F:Frame} {a:Act} {w:World}
theorem sj {b:Nat} {c:Array Value} {el:TypeId} {fr:Nat×Nat} (h:w.heap[b]? = some (.cells c el fr)) (k:Nat):w.cell? ⟨b,k,none⟩=c[k]? := by
 simp[World.cell?,h]
theorem CI {b o:Nat} {c:Array Value} (hc:∀k,w.cell? ⟨b,k,none⟩=c[k]?):∀(m i:Nat) (acc:Array Value),o+i+m≤c.size →
 (loadCellsFrom ⟨b,o,none⟩ i m acc).run P w=.ok (acc++((c.toList.drop (o+i)).take m).toArray) w:=by
 intro m
 induction m with
 | zero=>intro i acc _;simp[loadCellsFrom]
 | succ m ih=>
  intro i acc h;have hlt:o+i<c.size:=by omega
  have e:w.cell? ⟨b,o+i,none⟩=some c[o+i]:=by rw[hc];simp[hlt]
  simp only[loadCellsFrom,Sem.run_bind,lz,run_load,e,Result.andThen_ok];rw[ih (i+1) _ (by omega)]
  congr 1
  rw[List.drop_eq_getElem_cons (show o+i<c.toList.length by simpa using hlt),List.take_succ_cons]
  apply Array.ext';simp[Nat.add_assoc]
theorem zK {b o m:Nat} {c:Array Value} (hc:∀k,w.cell? ⟨b,k,none⟩=c[k]?) (h:o+m≤c.size∨m=0) :
 (loadCells ⟨b,o,none⟩ m).run P w=.ok ((c.toList.drop o).take m).toArray w:=by
 rcases h with h|h
 ·have:=CI (P:=P) hc m 0 #[] (o:=o) (by omega)
  simpa [loadCells]using this
 ·subst h;simp[loadCells,loadCellsFrom]
theorem fU {es:Nat} {xs:List (List V)} (hu:∀x∈xs,x.length=es):xs.flatten.length=xs.length*es:=by
 induction xs with
 | nil=>simp
 | cons x xs ih=>
  simp only[List.flatten_cons,Zk,List.length_cons];rw[ih (fun y hy=>hu y (List.mem_cons_of_mem _ hy)),hu x (by simp),Nat.add_mul];omega
theorem zn {es:Nat}:∀{xs:List (List V)} (_:∀x∈xs,x.length=es) {el:Nat} {cs:List V},xs[el]? = some cs→(xs.flatten.drop (el*es)).take es=cs:=by
 intro xs
 induction xs with
 | nil=>intro _ el cs h;simp at h
 | cons x xs ih=>
  intro hu el cs h;have hx:x.length=es:=hu x (by simp)
  cases el with
  | zero=>simp at h;subst h;simp[hx]
  | succ el=>
   have:=ih (fun y hy=>hu y (List.mem_cons_of_mem _ hy)) (el:=el) (cs:=cs) (by simpa using h)
   rw[List.flatten_cons,show (el+1)*es=x.length+el*es by rw[hx,Nat.add_mul];omega,←List.drop_drop]
   simpa using this
theorem BC {es:Nat}:∀{xs:List (List V)} (_:∀x∈xs,x.length=es) {el:Nat} (cs:List V),el<xs.length→cs.length=es →
 (xs.set el cs).flatten=xs.flatten.take (el*es)++cs++xs.flatten.drop (el*es+es):=by
 intro xs
 induction xs with
 | nil=>intro _ el cs h;simp at h
 | cons x xs ih=>
  intro hu el cs h hc;have hx:x.length=es:=hu x (by simp)
  cases el with
  | zero=>simp[hx]
  | succ el=>
   have:=ih (fun y hy=>hu y (List.mem_cons_of_mem _ hy)) (el:=el) cs (by simpa using h) hc
   simp only[List.set_cons_succ,List.flatten_cons,this];rw[show (el+1)*es=x.length+el*es by rw[hx,Nat.add_mul];omega]
   rw[show x.length+el*es+es=x.length+(el*es+es)by omega]
   rw[List.take_append,List.drop_append];simp[List.take_of_length_le,List.drop_eq_nil_of_le,Nat.add_sub_cancel_left]
theorem wQ {es:Nat} {xs:List (List V)} (hu:∀x∈xs,x.length=es) {i j:Nat} {x:List V} {y:V} (h1:xs[i]? = some x) (h2:x[j]? = some y):xs.flatten[i*es+j]? = some y:=by
 have:=zn hu h1;have hj:j<es:=by rw[←hu x (List.mem_of_getElem? h1)];exact(Zf.1 h2).1
 have e:=congrArg (·[j]?) this;simp only[List.getElem?_take,hj,if_true,List.getElem?_drop]at e;rw[e];exact h2
theorem fA.elem {p:Pl} {c:Array Value} {es:Nat} {xs:List (List V)} (r:fA I μ p c es xs) {el:Nat} {cs:List V} (h:xs[el]? = some cs) :
 bS I μ cs ((c.toList.drop (p.o+el*es)).take es)∧cs.length=es∧p.o+el*es+es≤c.size:=by
 have hlt:=(Zf.1 h).1;have hl:=r.o_ cs (List.mem_of_getElem? h);have h1:=(r.rel.drop (el*es)).take es;rw[zn r.o_ h]at h1;have hm:el*es+es≤xs.length*es:=by
  have:=Nat.mul_le_mul_right es (show el+1≤xs.length from hlt)
  rwa [Nat.add_mul,Nat.one_mul]at this
 have hroom:=r.room;refine⟨?_,hl,by omega⟩
 have e:(((c.toList.drop p.o).take (xs.length*es)).drop (el*es)).take es=(c.toList.drop (p.o+el*es)).take es:=by
  rw[List.drop_take,List.take_take,List.drop_drop,Nat.min_eq_left (by omega)]
 rw[e]at h1;exact h1
theorem fA.span {p:Pl} {c:Array Value} {es:Nat} {xs:List (List V)} (r:fA I μ p c es xs) {off len:Nat} (h:off+len≤xs.length) :
 bS I μ ((xs.drop off).take len).flatten ((c.toList.drop (p.o+off*es)).take (len*es))∧p.o+off*es+len*es≤c.size:=by
 have hroom:=r.room;have hm:off*es+len*es≤xs.length*es:=by
  rw[←Nat.add_mul];exact Nat.mul_le_mul_right _ h
 have e1:((xs.drop off).take len).flatten=(xs.flatten.drop (off*es)).take (len*es):=by
  have hx:xs=xs.take off++((xs.drop off).take len++(xs.drop off).drop len):=by rw[List.take_append_drop,List.take_append_drop]
  have g1:(xs.take off).flatten.length=off*es:=by
   rw[fU (fun x hx=>r.o_ x (List.mem_of_mem_take hx))];rw[List.length_take,Nat.min_eq_left (by omega)]
  have g2:((xs.drop off).take len).flatten.length=len*es:=by
   rw[fU (fun x hx=>r.o_ x (List.mem_of_mem_drop (List.mem_of_mem_take hx))),List.length_take,List.length_drop,Nat.min_eq_left (by omega)]
  have hf:=congrArg List.flatten hx;simp only[List.flatten_append]at hf;rw[hf,←g1,List.drop_left,←g2,List.take_left]
 have h1:=(r.rel.drop (off*es)).take (len*es);rw[e1];refine⟨?_,by omega⟩
 have e:(((c.toList.drop p.o).take (xs.length*es)).drop (off*es)).take (len*es)=(c.toList.drop (p.o+off*es)).take (len*es):=by
  rw[List.drop_take,List.take_take,List.drop_drop,Nat.min_eq_left (by omega)]
 rw[e]at h1;exact h1
theorem Cj {ob:Ob} {es:Nat} {xs:List (List V)} (h:ob.rows=some (es,xs)):ob=.row es xs∨ob=.frz es xs:=by
 cases ob <;> simp_all [Ob.rows]
theorem cg.rows (s:cg I μ H w) {id es:Nat} {xs:List (List V)} (h:(H[id]?).bind Ob.rows=some (es,xs)) :
 ∃p c,μ id=some p∧(∀k,w.cell? ⟨p.b,k,none⟩=c[k]?)∧fA I μ p c es xs:=by
 obtain⟨ob,h1,h2⟩:=Zi.1 h;have:=s.obs id ob h1;rcases Cj h2 with rfl|rfl
 ·obtain⟨p,c,el,g1,_,g3,g4⟩:=this;exact⟨p,c,g1,sj g3,g4⟩
 ·obtain⟨p,c,g1,g2,g4⟩:=this;obtain⟨el,fr,g3⟩:=s.imm _ _ g2;exact⟨p,c,g1,sj g3,g4⟩
theorem HU (s:cg I μ H w) {p:V} {v:Value} (hv:aK I μ p v) {m:Nat} {cs:List V} (h:dX H p m=some cs) :
 ∃(b o:Nat) (c:Array Value),v=.pointer (some ⟨b,o,none⟩)∧(∀k,w.cell? ⟨b,k,none⟩=c[k]?)∧(o+m≤c.size∨m=0)∧bS I μ cs ((c.toList.drop o).take m):=by
 unfold dX at h;split at h
 ·rename_i xs;obtain⟨b,o,c,e,hI,hb,hr⟩:=hv.jh;obtain⟨el,fr,g⟩:=s.imm _ _ hI;refine⟨b,o,c,e,sj g,?_⟩;have hl:bS I μ xs ((c.toList.drop o).take xs.length):=by
   refine⟨by simp;omega,fun j x y h1 h2 => ?_⟩
   have hj:=(Zf.1 h1).1;rw[List.getElem?_take,if_pos hj,List.getElem?_drop]at h2;exact .c _ _ (hr j x y h1 (by simpa using h2))
  rcases uV hl h with⟨g1,g2,g3⟩|⟨g1,g2⟩
  ·refine⟨.inl (by omega),?_⟩
   rw[List.drop_zero,List.take_take,Nat.min_eq_left (by omega)]at g1
   exact g1
  ·refine⟨.inr g1,?_⟩;rw[g2,g1];exact .nil
 ·rename_i id el off;split at h
  ·rename_i es xs hrow;split at h
   ·rename_i ecs hel;obtain⟨p,c,g1,g2,g3⟩:=s.rows hrow;obtain⟨q,hq,e⟩:=hv.nU;rw[g1]at hq;cases hq;refine⟨_,_,c,e,g2,?_⟩;obtain⟨k1,k2,k3⟩:=g3.elem hel;rw[g3.es_eq];rcases uV k1 h with⟨f1,f2,f3⟩|⟨f1,f2⟩
    ·refine⟨.inl (by omega),?_⟩
     rw[List.drop_take,List.take_take,Nat.min_eq_left (by omega),List.drop_drop]at f1
     exact f1
    ·refine⟨.inr f1,?_⟩;rw[f2,f1];exact .nil
   ·simp at h
  ·simp at h
 ·simp at h
theorem yH (hE:eF P E) (s:cg I μ H w) {t:TypeId} {d:TD} (hd:E.tt t=some d) {p x:V} {v:Value} (hv:aK I μ p v) (h:(dX H p d.size).bind (mk d.agg)=some x) :
 ∃u,(Instr.loadAt t v).run P w=.ok u w∧aK I μ x u∧∃ad,v=.pointer (some ad)∧(loadVar t ad).run P w=.ok u w:=by
 obtain⟨cs,hc,hm⟩:=Zi.1 h;obtain⟨b,o,c,e,g1,g2,g3⟩:=HU s hv hc;have key:∃u,(loadVar t ⟨b,o,none⟩).run P w=.ok u w∧aK I μ x u:=by
  unfold loadVar;simp only[Sem.run_bind,(hE.ty hd).ES,Result.andThen_ok]
  cases hagg:d.agg with
  | true=>
   rw[hagg]at hm;refine⟨.agg ((c.toList.drop o).take d.size).toArray,?_,Gx hm (by simpa using g3)⟩
   simp only[if_true,Sem.run_bind,(hE.ty hd).jk,Result.andThen_ok,zK g1 g2,Sem.run_pure]
  | false=>
   rw[hagg]at hm;obtain⟨u,hu,hx⟩:=mk_one hm g3;refine⟨u,?_,hx⟩;have hsz:d.size≠0:=by
    intro h0;rw[h0]at hu;simp at hu
   have hcell:c[o]? = some u:=by
    have:=congrArg (·[0]?) hu;simp only[List.getElem?_take,List.getElem?_drop,List.getElem?_cons_zero]at this;rw[if_pos (by omega)]at this
    simpa using this
   simp only[Bool.false_eq_true,if_false,run_load,g1,hcell]
 obtain⟨u,h1,h2⟩:=key;refine⟨u,?_,h2,_,e,h1⟩;rw[e];unfold Instr.loadAt;simp only[Sem.run_bind,Instr.sureAddr,Sem.run_pure,Result.andThen_ok,h1]
end
end Go.VE
namespace Go.VE
section
variable {P:Program} {E:Env} {I:bB} {μ:Mu} {H:an} {n:Nat} {F:Frame} {a:Act} {w:World}
theorem cg.Br (s:cg I μ H w) {b:Nat} {x:IC} (h:I b=some x):b<w.heap.size:=IC.sG (s.imm b x h)
theorem JL {b es:Nat} {c:Array Value} {xs:List (List V)} (h:bS I μ xs.flatten c.toList) (hu:∀x∈xs,x.length=es) (ho:∀x∈xs,∀y∈x,V.one y=true) :
 fA I μ ⟨b,0,es,c.size⟩ c es xs:=by
 have hl:xs.length*es=c.size:=by rw[←fU hu,h.1];simp
 exact⟨rfl,rfl,hu,ho,by simp[hl],by simpa [hl,List.take_of_length_le]using h⟩
structure Je (I:bB) (μ:Mu) (w:World) (ob:Ob) (m:Mk) (o:Obj) (p:Pl) (u:Value):Prop where
 b:p.b=w.heap.size
 live:ob.live=true
 nf:Obj.nf o
 rel:∀k,μ k=none→nD I (μ.fI k p) (w.alloc o) k ob∧aK I (μ.fI k p) (m.val k) u
theorem cg.s6 (s:cg I μ H w):I w.heap.size=none:=by
 cases h:I w.heap.size with
 | none=>rfl
 | some x=>have:=s.Br h;omega
theorem qY (s:cg I μ H w) {es:Nat} {xs:List (List V)} {c:Array Value} {el:TypeId} {m:Mk} {u:Value} (h:bS I μ xs.flatten c.toList) (hu:∀x∈xs,x.length=es)
 (ho:∀x∈xs,∀y∈x,V.one y=true) (hv:∀k,aK I (μ.fI k ⟨w.heap.size,0,es,c.size⟩) (m.val k) u):Je I μ w (.row es xs) m (.cells c el) ⟨w.heap.size,0,es,c.size⟩ u where
 nf:=ou _ _
 b:=rfl
 live:=rfl
 rel:=fun k hk=>⟨⟨_,c,el,Mu.fe _ _ _,s.s6,ly _,(JL h hu ho).mono (bB.le_refl _) (Mu.mh hk)⟩,hv k⟩
theorem Dn (t:TypeId) (v:Value):(newVar t v).run P w=.ok ⟨w.heap.size,0,none⟩ (w.alloc (.cells v.cells t)):=by
 simp[newVar,newRow]
theorem AF {z:List V} {zs:Array Value} (h:bS I μ z zs.toList) (m:Nat) :
 bS I μ (List.replicate m z).flatten (((Array.range (m*zs.size)).map (fun i=>zs[i % zs.size]!)).toList):=by
 have hz:z.length=zs.size:=by simpa using h.1
 have hu:∀x∈List.replicate m z,x.length=z.length:=fun x hx=>by rw[List.eq_of_mem_replicate hx]
 have hfl:=fU hu;simp only[List.length_replicate]at hfl;refine⟨by rw[hfl,hz];simp,fun j x y h1 h2 => ?_⟩
 have hj:=(Zf.1 h1).1;rw[hfl]at hj;have hpos:0<z.length:=by
  rcases Nat.eq_zero_or_pos z.length with h0|h0
  ·rw[h0]at hj;simp at hj
  ·exact h0
 have hi:j / z.length<m:=(Nat.div_lt_iff_lt_mul hpos).2 hj;have hr:j % z.length<z.length:=Nat.mod_lt _ hpos;have e1:=wQ hu (i:=j / z.length) (j:=j % z.length) (x:=z) (y:=z[j % z.length]) (by simp[hi]) (by simp[hr])
 rw[Nat.mul_comm,Nat.div_add_mod]at e1;rw[e1]at h1;cases h1;have hr':j % zs.size<zs.size:=by rw[←hz];exact hr
 have e2:y=zs[j % zs.size]:=by
  have hlt:j<(Array.range (m*zs.size)).size:=by simp;rw[←hz];exact hj
  simp only[Array.toList_map,List.getElem?_map,Zh]at h2;obtain⟨q,hq,rfl⟩:=h2;have:q=j:=by
   have:=(Zf.1 hq).2;simpa using this.symm
  subst this;simp[hr']
 rw[e2];exact h.2 (j % z.length) _ _ (by simp[hr]) (by rw[hz];simp[hr'])
theorem AM {es:Nat}:∀(vs:List (Nat×V)) (xs ys:List (List V)),(∀x∈xs,x.length=es)→(∀x∈xs,∀y∈x,V.one y=true)→fH es xs vs=some ys →
 oJ (fun i=>some (i*es,es)) xs.flatten vs=some ys.flatten∧(∀x∈ys,x.length=es)∧(∀x∈ys,∀y∈x,V.one y=true)∧ys.length=xs.length:=by
 intro vs
 induction vs with
 | nil=>intro xs ys hu ho h;simp only[fH,Za]at h;subst h;exact⟨rfl,hu,ho,rfl⟩
 | cons v vs ih=>
  intro xs ys hu ho h;obtain⟨i,v⟩:=v;simp only[fH]at h;split at h
  ·rename_i hc;obtain⟨h1,h2,h3⟩:=hc;have hu':∀x∈xs.set i v.cells,x.length=es:=fun x hx=>by
    rcases List.mem_or_eq_of_mem_set hx with h|h
    ·exact hu x h
    ·rw[h];exact h1
   have ho':∀x∈xs.set i v.cells,∀y∈x,V.one y=true:=fun x hx=>by
    rcases List.mem_or_eq_of_mem_set hx with h|h
    ·exact ho x h
    ·rw[h];simpa using h3
   obtain⟨g1,g2,g3,g4⟩:=ih _ ys hu' ho' h;refine⟨?_,g2,g3,by simpa using g4⟩
   rw[BC hu _ h2 h1]at g1;have hb:i*es+es≤xs.length*es:=by
    have:=Nat.mul_le_mul_right es (show i+1≤xs.length from h2)
    rwa [Nat.add_mul,Nat.one_mul]at this
   have hfl:=fU hu;simp only[oJ];rw[if_neg (by simp[h1,hfl];omega),h1]
   exact g1
  ·simp at h
theorem Ca (hE:eF P E) (r:dQ I μ n F a.tmps) (s:cg I μ H w) (o:Oper) {ob:Ob} {m:Mk} (h:ez E F o.op=some (ob,m)) :
 ∃x p u,(execOp a.eval o).run P w=.ok (.value u) (w.alloc x)∧Je I μ w ob m x p u:=by
 obtain⟨dst,op,ty,pos,after,guard⟩:=o;simp only at h
 cases op with
 | alloc t=>
  simp only[ez,Zh,Zd]at h;obtain⟨d,hd,rfl,rfl⟩:=h;obtain⟨z,hz,hr,hl,ho⟩:=(hE.ty hd).xB;refine⟨.cells z.cells t,_,.pointer (some ⟨w.heap.size,0,none⟩),?_,qY s (by simpa using hr I μ) (by simp[hl]) (by simpa using ho) (fun k => ?_)⟩
  ·simp only[execOp];refine d8 ?_;unfold Instr.alloc;simp only[Sem.run_bind,hz,Result.andThen_ok,Dn,Sem.run_pure]
  ·have:=aK.hptr (I:=I) k 0 0 _ (Mu.fe μ k ⟨w.heap.size,0,d.size,z.cells.size⟩);simp only[Nat.zero_mul,Nat.add_zero]at this;exact this
 | box t x=>
  simp only[ez]at h;split at h
  ·rename_i v hv;split at h
   ·rename_i ho;simp only[Za,Zd]at h;obtain⟨rfl,rfl⟩:=h;have hr:=cJ r hv;refine⟨.cells (a.eval x).cells t,_,.pointer (some ⟨w.heap.size,0,none⟩),?_,qY s (by simpa using hr.cells) (by simp) (by simpa using ho) (fun k => ?_)⟩
    ·simp only[execOp];refine d8 ?_;unfold Instr.box;simp only[Sem.run_bind,Dn,Result.andThen_ok,Sem.run_pure]
    ·have:=aK.hptr (I:=I) k 0 0 _ (Mu.fe μ k ⟨w.heap.size,0,v.cells.length,(a.eval x).cells.size⟩);simp only[Nat.zero_mul,Nat.add_zero]at this;exact this
   ·simp at h
  ·simp at h
 | makeSlice t l c=>
  simp only[ez]at h;split at h
  ·rename_i e k1 ln k2 cn hk hl hc;obtain⟨d,hd,hkd⟩:=fy hk;obtain⟨desc,h1,h2,h3⟩:=(hE.ty hd).dM;rw[hkd]at h2;have:=jf h2;subst this;split at h
   ·rename_i de hde;split at h
    ·rename_i hcond;obtain⟨rfl,rfl,hn0,hnm,hm,hby⟩:=hcond;simp only[Za,Zd]at h;obtain⟨rfl,rfl⟩:=h;obtain⟨z,hz,hr,hzl,ho⟩:=(hE.ty hde).xB;obtain⟨i,_,hi,hisz,hib,_⟩:=(hE.ty hde).info;have hzs:z.cells.size=de.size:=by have:=(hr I μ).1;simp at this;omega
     have hcap:(0:Int)≤cn:=by omega
     have w1:IntKind.i64.wrap ln=ln:=by simp[IntKind.wrap,IntKind.signed,IntKind.bits];omega
     have w2:IntKind.i64.wrap cn=cn:=by simp[IntKind.wrap,IntKind.signed,IntKind.bits];omega
     have hbig:∀y:Int,0≤y→y≤2147483648→((i.bytes:Int)*y>2 ^ 48)=False:=by
      intro y hy0 hy;simp only[eq_iff_iff,iff_false,Int.not_lt,gt_iff_lt];have hb':(i.bytes:Int)≤4096:=by omega
      calc (i.bytes:Int)*y≤4096*2147483648:=Int.mul_le_mul hb' hy hy0 (by omega)
       _≤2 ^ 48:=by decide
     have hsem:(Instr.makeSlice t (.int .i64 ln) (.int .i64 cn)).run P w =
      .ok (.slice (some ⟨w.heap.size,0,none⟩) ln.toNat cn.toNat) (w.alloc (.cells ((Array.range (cn.toNat*z.cells.size)).map (fun i=>z.cells[i % z.cells.size]!)) e)):=by
      unfold Instr.makeSlice;have t1:(decide (cn<0)||decide ((i.bytes:Int)*cn>2 ^ 48))=false:=by
       rw[Bool.or_eq_false_iff];exact⟨by simp;omega,by simp only[hbig cn hcap hm,decide_false]⟩
      have q1:(((decide (cn<0)||decide ((i.bytes:Int)*cn>2 ^ 48))||decide (ln<0))||decide (ln>cn))=false:=by rw[t1];simp;omega
      simp only[Sem.run_bind,h3,Result.andThen_ok,asInt,kz,Sem.run_pure,qC hi,w1,w2,q1,Bool.false_eq_true,if_false,run_askRoom,(hE.ty hde).jk];rw[hzs]
      by_cases h0:cn.toNat*de.size=0
      ·have er:Array.range 0=(#[]:Array Nat):=rfl;simp[h0,newRow,er]
      ·simp[h0,hz,hzs,newRow]
     refine⟨.cells ((Array.range (cn.toNat*z.cells.size)).map (fun i=>z.cells[i % z.cells.size]!)) e,_,.slice (some ⟨w.heap.size,0,none⟩) ln.toNat cn.toNat,?_,qY s (AF (hr I μ) cn.toNat) (fun x hx=>by rw[List.eq_of_mem_replicate hx,hzl]) (fun x hx=>by rw[List.eq_of_mem_replicate hx];simpa using ho) (fun k => ?_)⟩
     ·simp only[execOp];refine d8 ?_;rw[(cJ r hl).gm,(cJ r hc).gm];exact hsem
     ·have:=aK.hsl (I:=I) (μ:=μ.fI k ⟨w.heap.size,0,de.size,((Array.range (cn.toNat*z.cells.size)).map (fun i=>z.cells[i % z.cells.size]!)).size⟩) k 0 ln.toNat cn.toNat _ (Mu.fe _ _ _) (by omega) (by simp[hzs])
      simpa [Mk.val]using this
    ·simp at h
   ·simp at h
  ·simp at h
 | buildSlice t len ps=>
  simp only[ez]at h;split at h
  ·rename_i e vs hk hvs;obtain⟨d,hd,hkd⟩:=fy hk;obtain⟨desc,h1,h2,h3⟩:=(hE.ty hd).dM;rw[hkd]at h2;have:=jf h2;subst this;split at h
   ·rename_i de hde;split at h
    ·rename_i hsize;simp only[Zh,Zd]at h;obtain⟨ys,hys,rfl,rfl⟩:=h;obtain⟨z,hz,hr,hzl,ho⟩:=(hE.ty hde).xB;have hzs:z.cells.size=de.size:=by have:=(hr I μ).1;simp at this;omega
     obtain⟨hl,hrr⟩:=Am r hvs;obtain⟨g1,g2,g3,g4⟩:=AM vs _ ys (fun x hx=>by rw[List.eq_of_mem_replicate hx,hzl]) (fun x hx=>by rw[List.eq_of_mem_replicate hx];simpa using ho) hys
     obtain⟨r',f1,f2⟩:=wO (place':=fun i=>some (i*de.size,de.size)) (fun i p hp=>hp) vs _ _ _ ((Array.range (len*z.cells.size)).map (fun i=>z.cells[i % z.cells.size]!)) hl hrr (AF (hr I μ) len) g1
     have hlen:r'.size=len*de.size:=by
      have e1:=f2.1;rw[fU g2,g4]at e1;simpa using e1.symm
     refine⟨.cells r' e,_,.slice (some ⟨w.heap.size,0,none⟩) len len,?_,qY s f2 g2 g3 (fun k => ?_)⟩
     ·simp only[execOp];refine d8 ?_;unfold Instr.buildSlice;have hns:¬(len*de.size>2 ^ 24):=by omega
      simp only[Sem.run_bind,h3,Result.andThen_ok,(hE.ty hde).jk,if_neg hns]
      by_cases h0:len*de.size=0
      ·have e0:(Array.range (len*z.cells.size)).map (fun i=>z.cells[i % z.cells.size]!)=#[]:=by rw[hzs,h0];simp
       rw[e0]at f1;have er:Array.range 0=(#[]:Array Nat):=rfl;simp only[h0,if_true,Sem.run_pure,Result.andThen_ok,er,Array.map_empty];rw[f1];simp[newRow]
      ·simp only[if_neg h0,Sem.run_bind,hz,Result.andThen_ok,Sem.run_pure];rw[hzs]at f1;rw[hzs,f1];simp[newRow]
     ·have:=aK.hsl (I:=I) (μ:=μ.fI k ⟨w.heap.size,0,de.size,r'.size⟩) k 0 len len _ (Mu.fe _ _ _) (Nat.le_refl _) (by simp[hlen])
      simpa [Mk.val]using this
    ·simp at h
   ·simp at h
  ·simp at h
 | makeMap t r=>
  cases r with
  | none=>
   simp only[ez,Za,Zd]at h;obtain⟨rfl,rfl⟩:=h;refine⟨.map #[] 0,⟨w.heap.size,0,0,0⟩,.map (some w.heap.size),?_,⟨rfl,rfl,mF rfl,fun k hk=>⟨⟨_,#[],0,Mu.fe _ _ _,s.s6,ly _,rfl,by simp⟩,?_⟩⟩⟩
   ·simp only[execOp];refine d8 ?_;unfold Instr.makeMap;simp[run_newObj]
   ·exact aK.hmap (I:=I) k ⟨w.heap.size,0,0,0⟩ (Mu.fe _ _ _)
  | some x=>simp[ez]at h
 | _=>simp[ez]at h
end
end Go.VE
namespace Go.VE
section
variable {P:Program} {E:Env} {I:bB} {μ:Mu} {H H':an} {n:Nat} {F:Frame} {a:Act} {w:World}
theorem aK.one {x:V} {v:Value} (h:aK I μ x v) (ho:x.one=true):v.oneCell'=true:=by
 cases h with
 | c _ _ h=>cases h <;> first|rfl|simp[V.one]at ho
 | agg=>simp[V.one]at ho
 | tup=>simp[V.one]at ho
 | _=>rfl
theorem bS.LB {xs:List V} {vs:List Value} (h:bS I μ xs vs) (ho:∀x∈xs,V.one x=true):∀v∈vs,v.oneCell'=true:=by
 intro v hv;obtain⟨j,hj,rfl⟩:=List.mem_iff_getElem.1 hv;have hj':j<xs.length:=by rw[h.1];exact hj
 exact(h.2 j xs[j] vs[j] (by simp[hj']) (by simp[hj])).one (ho _ (List.getElem_mem hj'))
theorem FD {b:Nat} {o:Obj} (h:w.heap[b]? = some o):fF w b o=w:=by
 unfold fF;have:w.heap.setIfInBounds b o=w.heap:=by
  apply Array.ext
  ·simp
  ·intro i h1 h2;obtain⟨hb,e⟩:=Array.getElem?_eq_some_iff.1 h;rw[Array.getElem_setIfInBounds];split
   ·subst_vars;rfl
   ·rfl
 rw[this]
theorem Bj {b o:Nat} {c:Array Value} {el:TypeId} {v:Value} (h:w.heap[b]? = some (.cells c el)) :
 w.setCell ⟨b,o,none⟩ v=fF w b (.cells (c.setIfInBounds o v) el):=by
 unfold World.setCell fF
 congr 1
 obtain⟨hb,e⟩:=Array.getElem?_eq_some_iff.1 h;apply Array.ext
 ·simp
 ·intro i h1 h2
  by_cases hi:i=b
  ·subst hi;simp[Array.getElem_modify,e]
  ·have hi':i<w.heap.size:=by simpa using h2
   rw[Array.getElem_modify_of_ne (Ne.symm hi) _ (by simpa using hi'),Array.getElem_setIfInBounds]
   ·simp[Ne.symm hi]
   ·exact hi'
theorem tJ {b o:Nat} {el:TypeId}:∀(vs:List Value) (i:Nat) (w:World) (c:Array Value),w.heap[b]? = some (.cells c el)→(∀v∈vs,v.oneCell'=true)→o+i+vs.length≤c.size →
 ∃c',(storeCells ⟨b,o,none⟩ vs i).run P w=.ok () (fF w b (.cells c' el))∧c'.toList=c.toList.take (o+i)++vs++c.toList.drop (o+i+vs.length):=by
 intro vs
 induction vs with
 | nil=>
  intro i w c h _ _;exact⟨c,by simp[storeCells,FD h],by simp⟩
 | cons v vs ih=>
  intro i w c h ho hl;simp only[List.length_cons]at hl;have hlt:o+i<c.size:=by omega
  have hcell:w.cell? ⟨b,o+i,none⟩=some c[o+i]:=by rw[sj h];simp[hlt]
  have hfr:w.frozen? ⟨b,o+i,none⟩=false:=by simp[World.frozen?,h]
  have hb:=(Array.getElem?_eq_some_iff.1 h).1;obtain⟨c',g1,g2⟩:=ih (i+1) (fF w b (.cells (c.setIfInBounds (o+i) v) el)) (c.setIfInBounds (o+i) v) (gL _ hb) (fun x hx=>ho x (List.mem_cons_of_mem _ hx)) (by simp;omega)
  refine⟨c',?_,?_⟩
  ·simp only[storeCells,Sem.run_bind,lz,run_store P w _ v _ (ho v (by simp)),hcell,hfr,Bool.false_eq_true,if_false,Result.andThen_ok,Bj h]
   rw[g1,Ge]
  ·rw[g2];have hlt':o+i<c.toList.length:=by simpa using hlt
   simp only[Array.toList_setIfInBounds,List.length_cons];rw[show o+(i+1)=o+i+1 from by omega,List.take_succ_eq_append_getElem (by simpa using hlt'),List.take_set_of_le (by omega),List.getElem_set_self,List.drop_set_of_lt (by omega)]
   simp[List.append_assoc];omega
structure B6 (P:Program) (I:bB) (μ:Mu) (H:an) (w:World) (s:Sem Next) (x:V) (H':an):Prop where
 run:∃nx u w' μ',s.run P w=.ok nx w'∧(nx=.value u∨(nx=.skip∧u=undef))∧aK I μ' x u∧cg I μ' H' w'∧Step I μ H w I μ' H' w'
theorem CH {α:Type} (L vs:List α) (o m k:Nat) (hm:o+m≤L.length) (hk:k+vs.length≤m) :
 ((L.take (o+k)++vs++L.drop (o+k+vs.length)).drop o).take m=((L.drop o).take m).take k++vs++((L.drop o).take m).drop (k+vs.length):=by
 obtain⟨A,B,C,rfl,hA,hB⟩:∃A B C:List α,L=A++(B++C)∧A.length=o∧B.length=m:=
  ⟨L.take o,(L.drop o).take m,(L.drop o).drop m,by rw[List.take_append_drop,List.take_append_drop],by simp;omega,by simp;omega⟩
 subst hA;subst hB;have e1:(A++(B++C)).take (A.length+k)=A++B.take k:=by
  rw[List.take_append,List.take_of_length_le (by omega),Nat.add_sub_cancel_left,List.take_append_of_le_length (by omega)]
 have e2:(A++(B++C)).drop (A.length+k+vs.length)=B.drop (k+vs.length)++C:=by
  rw[List.drop_append,List.drop_eq_nil_of_le (by omega),List.nil_append,List.drop_append_of_le_length (by omega)]
  congr 2;omega
 have e3:((A++(B++C)).drop A.length).take B.length=B:=by simp
 rw[e1,e2,e3];simp only[List.append_assoc,List.drop_left];have hl:(B.take k++(vs++B.drop (k+vs.length))).length=B.length:=by simp;omega
 have:B.take k++(vs++(B.drop (k+vs.length)++C))=(B.take k++(vs++B.drop (k+vs.length)))++C:=by simp[List.append_assoc]
 rw[this,←hl,List.take_left]
theorem fA.splice {p:Pl} {c c':Array Value} {es el off:Nat} {xs:List (List V)} {cs ys:List V} {vs:List Value} (r:fA I μ p c es xs) (hel:xs[el]? = some cs) (hy:bS I μ ys vs)
 (ho:∀y∈ys,V.one y=true) (hl:off+ys.length≤cs.length) (hc:c'.toList=c.toList.take (p.o+el*es+off)++vs++c.toList.drop (p.o+el*es+off+vs.length)) :
 fA I μ p c' es (xs.set el (cs.take off++ys++cs.drop (off+ys.length))):=by
 obtain⟨k1,k2,k3⟩:=r.elem hel;have hlt:=(Zf.1 hel).1;have hvl:=hy.1;have hroom:=r.room;have hm:el*es+es≤xs.length*es:=by
  have:=Nat.mul_le_mul_right es (show el+1≤xs.length from hlt)
  rwa [Nat.add_mul,Nat.one_mul]at this
 have hsz:c'.size=c.size:=by
  have:=congrArg List.length hc;simp at this;omega
 have hnl:(cs.take off++ys++cs.drop (off+ys.length)).length=es:=by simp;omega
 have hmem:∀x∈xs.set el (cs.take off++ys++cs.drop (off+ys.length)),x∈xs∨x=cs.take off++ys++cs.drop (off+ys.length):=fun x hx=>List.mem_or_eq_of_mem_set hx
 refine⟨r.es_eq,by rw[hsz];exact r.sz,?_,?_,by rw[hsz];simpa using hroom,?_⟩
 ·intro x hx;rcases hmem x hx with h|h
  ·exact r.o_ x h
  ·rw[h];exact hnl
 ·intro x hx y hyx;rcases hmem x hx with h|h
  ·exact r.one x h y hyx
  ·rw[h]at hyx;have hcs:=r.one cs (List.mem_of_getElem? hel);simp only[List.mem_append]at hyx;rcases hyx with (h|h)|h
   ·exact hcs y (List.mem_of_mem_take h)
   ·exact ho y h
   ·exact hcs y (List.mem_of_mem_drop h)
 ·rw[BC r.o_ _ hlt hnl,hc,List.length_set];have hrel:=r.rel;have hcl:=zn r.o_ hel;have e:List.take (xs.length*es) (List.drop p.o (List.take (p.o+el*es+off) c.toList++vs++List.drop (p.o+el*es+off+vs.length) c.toList)) =
   (((c.toList.drop p.o).take (xs.length*es)).take (el*es+off))++vs++(((c.toList.drop p.o).take (xs.length*es)).drop (el*es+off+vs.length)):=by
   have:=CH c.toList vs p.o (xs.length*es) (el*es+off) (by simpa using hroom) (by omega)
   simpa only[Nat.add_assoc]using this
  rw[e];have e2:xs.flatten.take (el*es)++(cs.take off++ys++cs.drop (off+ys.length))++xs.flatten.drop (el*es+es) =
   xs.flatten.take (el*es+off)++ys++xs.flatten.drop (el*es+off+ys.length):=by
   have hfl:=fU r.o_;have f1:xs.flatten.take (el*es+off)=xs.flatten.take (el*es)++cs.take off:=by
    rw[←hcl,List.take_add,List.take_take,Nat.min_eq_left (by omega)]
   have f2:xs.flatten.drop (el*es+off+ys.length)=cs.drop (off+ys.length)++xs.flatten.drop (el*es+es):=by
    rw[←hcl,List.drop_take];have:xs.flatten.drop (el*es+es)=(xs.flatten.drop (el*es+(off+ys.length))).drop (es-(off+ys.length)):=by rw[List.drop_drop];congr 1;omega
    rw[this,List.drop_drop,List.take_append_drop,Nat.add_assoc]
   rw[f1,f2];simp[List.append_assoc]
  rw[e2,←hvl];exact((hrel.take _).append hy).append (hrel.drop _)
theorem Hj (hE:eF P E) (r:dQ I μ n F a.tmps) (s:cg I μ H w) {t:TypeId} {p q:Operand} {x:V} (h:d5 E F H (.store t p q)=some (x,H')) :
 B6 P I μ H w (do Instr.storeAt t (a.eval p) (a.eval q);pure .skip) x H':=by
 simp only[d5]at h;split at h
 ·rename_i d id el off v hd hp hq;split at h
  ·rename_i es xs hid;split at h
   ·rename_i cs hel;split at h
    ·rename_i hc;obtain⟨hc1,hc2,hc3⟩:=hc;simp only[Za,Zd]at h;obtain⟨rfl,rfl⟩:=h;obtain⟨pl,c,ty,g1,g2,g3,g4⟩:=s.obs id _ hid;obtain⟨pl',hm,e⟩:=(cJ r hp).nU;rw[g1]at hm;cases hm;have hcells:=(cJ r hq).cells;have ho:∀y∈v.cells,V.one y=true:=by simpa using hc3
     obtain⟨k1,k2,k3⟩:=g4.elem hel;have hlv:=hcells.1;have hb:pl.o+el*es+off+0+(a.eval q).cells.toList.length≤c.size:=by omega
     obtain⟨c',f1,f2⟩:=tJ (P:=P) (o:=pl.o+el*es+off) (a.eval q).cells.toList 0 w c g3 (hcells.LB ho) hb;have hrow:fA I μ pl c' es (xs.set el (cs.take off++v.cells++cs.drop (off+v.cells.length))):=g4.splice hel hcells ho (by omega) (by simpa using f2)
     have hbl:=(Array.getElem?_eq_some_iff.1 g3).1;obtain⟨s1,s2⟩:=s.write (ob':=.row es (xs.set el (cs.take off++v.cells++cs.drop (off+v.cells.length)))) (o:=.cells c' ty) hid rfl g1
      ⟨pl,c',ty,g1,g2,gL _ hbl,hrow⟩
     refine⟨.skip,undef,_,μ,?_,.inr ⟨rfl,rfl⟩,.undef I μ,s1,s2⟩;rw[e];have hsz:¬((a.eval q).cells.size≠d.size):=by simp at hlv;omega
     rw[g4.es_eq];unfold Instr.storeAt storeVar;simp only[Sem.run_bind,Instr.sureAddr,Sem.run_pure,Result.andThen_ok,(hE.ty hd).jk,if_neg hsz,f1]
    ·simp at h
   ·simp at h
  ·simp at h
 ·simp at h
end
end Go.VE
namespace Go.VE
section
variable {P:Program} {E:Env} {I:bB} {μ:Mu} {H H':an} {n:Nat} {F:Frame} {a:Act} {w:World}
theorem yP (s:cg I μ H w) {x:V} {v:Value} (hx:aK I μ x v) {es:Nat} {ys:List (List V)} (h:ec H es x=some ys) :
 ∃ad cap arr,v=.slice ad ys.length cap∧ys.length≤cap∧(∀w2:World,w2.heap=w.heap→(Builtin.firstCells es ys.length v).run P w2=.ok arr w2)∧bS I μ ys.flatten arr.toList∧(∀y∈ys,y.length=es) ∧
  (∀y∈ys,∀z∈y,V.one z=true):=by
 have hnil:∀(ad:Option Addr) (cap:Nat) (w2:World),w2.heap=w.heap→(Builtin.firstCells es 0 (.slice ad 0 cap)).run P w2=.ok #[] w2:=by
  intro ad cap w2 _
  cases ad with
  | none=>rfl
  | some ad=>simp[Builtin.firstCells,loadCells,loadCellsFrom]
 cases x with
 | dY=>
  simp only[ec,Za]at h;subst h;obtain⟨ad,rfl⟩:=hx.si;exact⟨ad,0,#[],rfl,Nat.le_refl _,hnil ad 0,.nil,by simp,by simp⟩
 | ay=>
  simp only[ec,Za]at h;subst h;rw[hx.lR];exact⟨none,0,#[],rfl,Nat.le_refl _,hnil none 0,.nil,by simp,by simp⟩
 | fsl es' xs=>
  simp only[ec]at h;split at h
  ·rename_i he;simp only[Za]at h;subst h;subst he;have hf:=hx.iX
   cases hf with
   | fsl0 _ ad cap=>exact⟨some ad,cap,#[],rfl,Nat.zero_le _,hnil (some ad) cap,.nil,by simp,by simp⟩
   | fsl _ _ b o cap c hI hc hu ho hb hr=>
    obtain⟨el,fr,hat⟩:=s.imm _ _ hI;refine⟨_,cap,((c.toList.drop o).take (xs.length*es')).toArray,rfl,hc,?_,?_,hu,ho⟩
    ·intro w2 hw2;simp only[Builtin.firstCells];exact zK (sj (w:=w2) (by rw[hw2];exact hat)) (.inl hb)
    ·have hfl:=fU hu;refine⟨by simp[hfl];omega,fun j p q h1 h2 => ?_⟩
     have hj:=(Zf.1 h1).1;rw[hfl]at hj;have hes:0<es':=by
      rcases Nat.eq_zero_or_pos es' with h0|h0
      ·rw[h0]at hj;simp at hj
      ·exact h0
     have hi:j / es'<xs.length:=(Nat.div_lt_iff_lt_mul hes).2 hj;have hm:j % es'<es':=Nat.mod_lt _ hes;have hxl:=hu _ (List.getElem_mem hi);have e1:=wQ hu (i:=j / es') (j:=j % es') (x:=xs[j / es']) (y:=(xs[j / es'])[j % es']) (by simp[hi]) (by simp[hxl,hm])
     have ej:j / es'*es'+j % es'=j:=by rw[Nat.mul_comm,Nat.div_add_mod]
     rw[ej,h1]at e1;cases e1;simp only[List.getElem?_take,if_pos hj,List.getElem?_drop]at h2;refine .c _ _ (hr (j / es') (j % es') xs[j / es'] _ q (by simp[hi]) (by simp[hxl,hm]) ?_)
     rw[Nat.add_assoc,ej];simpa using h2
  ·simp at h
 | hsl id es' off len=>
  simp only[ec]at h;split at h
  ·rename_i he;subst he;split at h
   ·rename_i es2 xs hrow;split at h
    ·rename_i hle;simp only[Za]at h;subst h;obtain⟨p,c,g1,g2,g3⟩:=s.rows hrow;have hlen:((xs.drop off).take len).length=len:=by simp;omega
     rcases hx.lM with⟨q,cap,hm,hq,hc,hb,e⟩|⟨h0,ad,e⟩
     ·rw[g1]at hm;cases hm;have hes:es2=es':=by rw[←g3.es_eq,hq]
      subst hes;obtain⟨k1,k2⟩:=g3.span hle;refine⟨_,cap,((c.toList.drop (p.o+off*es2)).take (len*es2)).toArray,by rw[e,hlen],by omega,?_,by simpa using k1,?_,?_⟩
      ·intro w2 hw2;rw[e,hlen];simp only[Builtin.firstCells];exact zK (fun k=>by rw[←g2 k];simp[World.cell?,hw2]) (.inl k2)
      ·exact fun y hy=>g3.o_ y (List.mem_of_mem_drop (List.mem_of_mem_take hy))
      ·exact fun y hy=>g3.one y (List.mem_of_mem_drop (List.mem_of_mem_take hy))
     ·subst h0;simp only[List.take_zero]at hlen ⊢;exact⟨_,0,#[],by rw[e];rfl,Nat.le_refl _,by rw[e];exact hnil _ 0,.nil,by simp,by simp⟩
    ·simp at h
   ·simp at h
  ·simp at h
 | _=>simp[ec]at h
theorem zJ (z:Array Value) (k:Nat):(Builtin.zeroCells z k).size=k*z.size:=by simp[Builtin.zeroCells]
theorem cg.drew (s:cg I μ H w):cg I μ H w.drew:=s.oc rfl
theorem zm (s:cg I μ H w) {es cap':Nat} {xs ys:List (List V)} {old new rest:Array Value} {el:TypeId} (ho:bS I μ xs.flatten old.toList) (hn:bS I μ ys.flatten new.toList)
 (hux:∀x∈xs,x.length=es) (huy:∀x∈ys,x.length=es) (h1x:∀x∈xs,∀y∈x,V.one y=true) (h1y:∀x∈ys,∀y∈x,V.one y=true)
 (hcap:xs.length+ys.length≤cap') (hr:rest.size=(cap'-(xs.length+ys.length))*es) :
 ∃μ',aK I μ' (.hsl H.length es 0 (xs.length+ys.length)) (.slice (some ⟨w.heap.size,0,none⟩) (xs.length+ys.length) cap')∧cg I μ' (H++[.row es (xs++ys)]) (w.alloc (.cells (old++new++rest) el)) ∧
  Step I μ H w I μ' (H++[.row es (xs++ys)]) (w.alloc (.cells (old++new++rest) el)):=by
 have hlx:=fU hux;have hly:=fU huy;have hol:=ho.1;have hnl:=hn.1;simp only[Array.length_toList]at hol hnl;have hsz:(old++new++rest).size=cap'*es:=by
  simp only[Array.size_append];rw[←hol,←hnl,hlx,hly,hr,←Nat.add_mul,←Nat.add_mul];congr 1;omega
 have hmul:(xs.length+ys.length)*es≤cap'*es:=Nat.mul_le_mul_right _ hcap;rw[Nat.add_mul]at hmul;have hrow:fA I μ ⟨w.heap.size,0,es,(old++new++rest).size⟩ (old++new++rest) es (xs++ys):=by
  refine⟨rfl,rfl,?_,?_,?_,?_⟩
  ·intro x hx;rcases List.mem_append.1 hx with h|h;exact hux x h;exact huy x h
  ·intro x hx;rcases List.mem_append.1 hx with h|h;exact h1x x h;exact h1y x h
  ·rw[hsz];simp only[Zk,Nat.zero_add,Nat.add_mul];exact hmul
  ·have e:((old++new++rest).toList.drop 0).take ((xs++ys).length*es)=old.toList++new.toList:=by
    simp only[List.drop_zero,Array.toList_append];rw[List.take_left' (by simp[←hol,←hnl,hlx,hly,Nat.add_mul])]
   rw[e,List.flatten_append];exact ho.append hn
 obtain⟨s1,s2⟩:=s.push (ob:=.row es (xs++ys)) (o:=.cells (old++new++rest) el) (p:=⟨w.heap.size,0,es,(old++new++rest).size⟩) rfl
  ⟨_,_,el,Mu.fe _ _ _,s.s6,ly _,hrow.mono (bB.le_refl _) (Mu.mh (s.dom _ (Nat.le_refl _)))⟩
 refine⟨_,?_,s1,s2⟩;have:=aK.hsl (I:=I) H.length 0 (xs.length+ys.length) cap' _ (Mu.fe μ H.length ⟨w.heap.size,0,es,(old++new++rest).size⟩) hcap (by simp only[Nat.zero_add];rw[hsz];exact Nat.le_refl _)
 simpa using this
theorem Eo (s:cg I μ H w) {id:Nat} {ob ob':Ob} {p p':Pl} {o:Obj} (hid:H[id]? = some ob) (hl:ob.live=true) (hp:μ id=some p) (hb:p'.b=p.b)
 (hob:nD I (μ.fI H.length p') (fF w p.b o) H.length ob') (hz:Obj.nf o:=by first|exact ou _ _|exact mF rfl):cg I (μ.fI H.length p') (H.set id .dead++[ob']) (fF w p.b o)∧Step I μ H w I (μ.fI H.length p') (H.set id .dead++[ob']) (fF w p.b o):=by
 have hlt:=(Zf.1 hid).1;have hown:fZ μ H p.b:=⟨id,p,ob,hid,hl,hp,rfl⟩;have hk:=s.dom H.length (Nat.le_refl _);have hget:∀k x,(H.set id .dead++[ob'])[k]? = some x→(k=H.length∧x=ob')∨(k≠H.length∧k=id∧x=.dead)∨(k≠H.length∧k≠id∧H[k]? = some x):=by
  intro k x h
  by_cases e:k<H.length
  ·rw[List.getElem?_append_left (by simpa using e)]at h
   by_cases e':k=id
   ·subst e';rw[List.getElem?_set_self hlt]at h;cases h;exact .inr (.inl ⟨by omega,rfl,rfl⟩)
   ·rw[List.getElem?_set_ne (Ne.symm e')]at h;exact .inr (.inr ⟨by omega,e',h⟩)
  ·have:=(Zf.1 h).1;simp at this;have e2:k=H.length:=by omega
   subst e2;simp at h;exact .inl ⟨rfl,h.symm⟩
 have howned:∀b,fZ (μ.fI H.length p') (H.set id .dead++[ob']) b→fZ μ H b:=by
  rintro b ⟨k,q,x,h1,h2,h3,rfl⟩;rcases hget k x h1 with⟨rfl,rfl⟩|⟨_,_,rfl⟩|⟨e,e',h⟩
  ·rw[Mu.fe]at h3;cases h3;rw[hb];exact hown
  ·simp[Ob.live]at h2
  ·rw[Mu.gf _ _ e]at h3;exact⟨k,q,x,h,h2,h3,rfl⟩
 refine⟨⟨?_,?_,?_,?_⟩,⟨bB.le_refl _,Mu.mh hk,by simp,by rw[qU];exact Nat.le_refl _,?_,?_,rfl,rfl,y8 (b:=p.b) hz (gL o (ki s hown)) fun k hk=>eX o hk⟩⟩
 ·intro k h;simp at h;rw[Mu.gf _ _ (by omega)]
  exact s.dom k (by omega)
 ·intro b x h;refine IC.qa (s.imm b x h) (eX o ?_);intro hb';rw[hb',fj s hown]at h;cases h
 ·intro k x h;rcases hget k x h with⟨rfl,rfl⟩|⟨_,_,rfl⟩|⟨e,e',h⟩
  ·exact hob
  ·trivial
  ·refine(s.obs k x h).mono (bB.le_refl _) (Mu.mh hk) (fun q hq hlx=>⟨eX o ?_,fj s ⟨k,q,x,h,hlx,hq,rfl⟩⟩) (fun he => ?_)
   ·intro hb';exact e' (s.inj k id x ob q p h hid hlx hl hq hp hb')
   ·subst he;rw[Mu.gf _ _ e];exact s.obs k _ h
 ·intro k k' x x' q q' h1 h2 l1 l2 m1 m2 hbb;rcases hget k x h1 with⟨rfl,rfl⟩|⟨_,_,rfl⟩|⟨e,e',h⟩
  ·rcases hget k' x' h2 with⟨rfl,rfl⟩|⟨_,_,rfl⟩|⟨f,f',g⟩
   ·rfl
   ·simp[Ob.live]at l2
   ·rw[Mu.fe]at m1;cases m1;rw[Mu.gf _ _ f]at m2;exact absurd (s.inj k' id x' ob q' p g hid l2 hl m2 hp (by rw[←hbb,hb])) f'
  ·simp[Ob.live]at l1
  ·rcases hget k' x' h2 with⟨rfl,rfl⟩|⟨_,_,rfl⟩|⟨f,f',g⟩
   ·rw[Mu.fe]at m2;cases m2;rw[Mu.gf _ _ e]at m1;exact absurd (s.inj k id x ob q p h hid l1 hl m1 hp (by rw[hbb,hb])) e'
   ·simp[Ob.live]at l2
   ·rw[Mu.gf _ _ e]at m1;rw[Mu.gf _ _ f]at m2;exact s.inj k k' x x' q q' h g l1 l2 m1 m2 hbb
 ·intro b _ hn;refine eX o ?_;rintro rfl;exact hn hown
 ·intro b h;rcases h with h|h
  ·exact .inl h
  ·exact .inr (.inl (howned b h))
end
end Go.VE
namespace Go.VE
section
variable {P:Program} {E:Env} {I:bB} {μ:Mu} {H H':an} {n:Nat} {F:Frame} {a:Act} {w:World}
theorem yp (hE:eF P E) {t t' e:TypeId} {d:TD} {desc':TypeDesc} (ht:P.underlying t=some (.slice e)) (ht':P.underlying t'=some desc') (hint:∃e',desc'=.slice e') (hd:E.tt e=some d)
 (ad adx:Option Addr) (sl sc xl xc:Nat) (new:Array Value) (hnew:(Builtin.firstCells d.size xl (.slice adx xl xc)).run P w=.ok new w) (ty:TypeId) :
 (sl+xl≤sc→∀w',(match ad with|some b=>(storeCells (b.add (sl*d.size)) new.toList).run P w=.ok () w'|none=>w'=w) →
  (Builtin.append_ #[t,t'] ty #[.slice ad sl sc,.slice adx xl xc]).run P w=.ok (.slice ad (sl+xl) sc) w') ∧
 (sc<sl+xl→sl+xl≤2147483648→d.bytes≤4096→0<d.bytes→∀old,(∀w2,w2.heap=w.heap→(Builtin.firstCells d.size sl (.slice ad sl sc)).run P w2=.ok old w2) →
  (∀w2,w2.heap=w.heap→(Builtin.firstCells d.size xl (.slice adx xl xc)).run P w2=.ok new w2) →
  ∃cap' rest,sl+xl≤cap'∧rest.size=(cap'-(sl+xl))*d.size ∧
   (Builtin.append_ #[t,t'] ty #[.slice ad sl sc,.slice adx xl xc]).run P w=.ok (.slice (some ⟨w.heap.size,0,none⟩) (sl+xl) cap') (w.drew.alloc (.cells (old++new++rest) e))):=by
 obtain⟨i,z,hi,hisz,hib,hz,hzr,hzl,_⟩:=(hE.ty hd).info;have hzrun:∀w,(zeroValue e).run P w=.ok z w:=fun w=>by simp[zeroValue,qC hi,hz]
 have hzs:z.cells.size=d.size:=by have:=(hzr (fun _=>none) (fun _=>none)).1;simp at this;omega
 obtain⟨e',rfl⟩:=hint;constructor
 ·intro hle w' hw';unfold Builtin.append_;simp only[Sem.run_bind,List.getElem?_toArray,List.getElem?_cons_zero,List.getElem?_cons_succ,dM ht,dM ht',Result.andThen_ok,(hE.ty hd).jk,Sem.run_pure,Builtin.lenOf,Bool.false_eq_true,if_false,Bool.not_false,if_true,if_pos hle,hnew]
  cases ad with
  | none=>simp only at hw';subst hw';simp
  | some b=>simp only at hw';simp[hw']
 ·intro hlt hbig hby hby0 old hold hnew';have hcapb:Builtin.nextslicecap (sl+xl) sc≤2*(sl+xl):=nextslicecap_le hlt;have c1:¬(Builtin.nextslicecap (sl+xl) sc*i.bytes>2 ^ 48):=by
   have:Builtin.nextslicecap (sl+xl) sc*i.bytes≤(2*2147483648)*4096:=Nat.mul_le_mul (by omega) (by omega)
   omega
  have c2:¬(((sl+xl:Nat):Int)>IntKind.i64.max∧(False∨i.bytes=0)):=fun h=>by
   rcases h.2 with h|h
   ·exact h
   ·omega
  have hnle:¬(sl+xl≤sc):=by omega
  refine⟨(Question.appendCap (sl+xl) sc e).cut (w.tape w.drawn (Question.appendCap (sl+xl) sc e)),Builtin.zeroCells z.cells (((Question.appendCap (sl+xl) sc e).cut (w.tape w.drawn (Question.appendCap (sl+xl) sc e)))-(sl+xl)),?_,?_,?_⟩
  ·simp[Question.cut]
  ·rw[zJ,hzs]
  ·unfold Builtin.append_;simp only[Sem.run_bind,List.getElem?_toArray,List.getElem?_cons_zero,List.getElem?_cons_succ,dM ht,dM ht',Result.andThen_ok,(hE.ty hd).jk,Sem.run_pure,Builtin.lenOf,Bool.false_eq_true,if_false,Bool.not_false,if_true,if_neg hnle,qC hi];rw[if_neg (by simpa using c2)]
   simp only[Sem.run_bind,qC hi,if_neg c1,run_choose,Question.forced,Bool.false_eq_true,if_false,Result.andThen_ok,run_askRoom,hzrun,newRow,run_newObj,Sem.run_pure];rw[hold { w with drawn:=w.drawn+1 } rfl];simp only[Result.andThen_ok];rw[hnew' { w with drawn:=w.drawn+1 } rfl];rfl
theorem E5 (hE:eF P E) (r:dQ I μ n F a.tmps) (s:cg I μ H w) {args:Array Operand} {ats:Array TypeId} {x:V} {ty:TypeId}
 (h:d5 E F H (.call { callee:=.builtin .append,args,argTypes:=ats })=some (x,H')) :
 B6 P I μ H w (do let d ←resolve a.eval { callee:=.builtin .append,args,argTypes:=ats } ty;invoke d.target d.args) x H':=by
 simp only[d5]at h;split at h
 ·rename_i t t' vs vx hats hargs;obtain⟨us,ux,eargs,hs,hx⟩:=(m8 r hargs).two;split at h
  ·rename_i e e' hk hk';obtain⟨d0,hd0,hkd⟩:=fy hk;obtain⟨desc,h1,h2,h3⟩:=(hE.ty hd0).dM;rw[hkd]at h2;have:=jf h2;subst this;obtain⟨d1,hd1,hkd1⟩:=fy hk';obtain⟨desc1,g1,g2,g3⟩:=(hE.ty hd1).dM;rw[hkd1]at g2;have:=jf g2;subst this;have hrun:∀v w',(Builtin.append_ #[t,t'] ty #[us,ux]).run P w=.ok v w' →
    (do let d ←resolve a.eval { callee:=.builtin .append,args,argTypes:=ats } ty;invoke d.target d.args:Sem Next).run P w=.ok (.value v) w':=by
    intro v w' hv;simp only[resolve,Sem.run_bind,Sem.run_pure,Result.andThen_ok,invoke,builtin];rw[vm eargs];have ea:ats=#[t,t']:=by apply Array.ext';simpa using hats
    rw[ea,hv];rfl
   split at h
   ·rename_i d hd;split at h
    ·
     rename_i xs hxs hys;obtain⟨ad,cap,arr,e1,e2,e3,e4,_⟩:=yP (P:=P) s hs hxs;obtain⟨adx,capx,arrx,f1,f2,f3,f4,_⟩:=yP (P:=P) s hx hys;simp only[List.length_nil]at f1 f3;have harr:arrx=#[]:=by
      have:=f4.1;simp at this;exact Array.eq_empty_of_size_eq_zero this.symm
     have f3:=f3 w rfl;rw[f1]at f3;have key:=(yp hE h1 g1 ⟨_,rfl⟩ hd ad adx xs.length cap 0 capx arrx f3 ty).1 (by omega) w
      (by
       cases ad with
       | none=>rfl
       | some b=>simp[harr,storeCells])
     rw[←f1,←e1,Nat.add_zero,←e1]at key;have hsame:x=vs∧H'=H:=by
      simp only[Za,Zd]at h;exact⟨h.1.symm,h.2.symm⟩
     obtain⟨rfl,rfl⟩:=hsame;exact⟨_,us,w,μ,hrun _ _ key,.inl rfl,hs,s,.refl _ _ _ _⟩
    ·rename_i xs ys hne hxs hys;obtain⟨ad,cap,arr,e1,e2,e3,e4,e5,e6⟩:=yP (P:=P) s hs hxs;obtain⟨adx,capx,arrx,f1,f2,f3,f4,f5,f6⟩:=yP (P:=P) s hx hys;split at h
     ·rename_i hc;obtain⟨hc1,hc2,hc3⟩:=hc;have hposy:0<ys.length:=by
       rcases Nat.eq_zero_or_pos ys.length with h0|h0
       ·exact absurd (List.eq_nil_of_length_eq_zero h0) hne
       ·exact h0
      have key:=yp hE h1 g1 ⟨_,rfl⟩ hd ad adx xs.length cap ys.length capx arrx (by rw[←f1];exact f3 w rfl) ty
      rw[←f1,←e1]at key;have hgrow:cap<xs.length+ys.length→∃cap' rest,xs.length+ys.length≤cap'∧rest.size=(cap'-(xs.length+ys.length))*d.size ∧
       (Builtin.append_ #[t,t'] ty #[us,ux]).run P w=.ok (.slice (some ⟨w.heap.size,0,none⟩) (xs.length+ys.length) cap') (w.drew.alloc (.cells (arr++arrx++rest) e)):=by
       intro hlt;refine key.2 hlt hc1 hc2 hc3 arr ?_ ?_
       ·intro w2 hw2;exact e3 w2 hw2
       ·intro w2 hw2;exact f3 w2 hw2
      simp only[Zh,Zd]at h;obtain⟨H1,hgr,rfl,rfl⟩:=h
      cases vs with
      | dY=>
       simp only[iE,Za]at hgr;subst hgr;simp only[ec,Za]at hxs;subst hxs;obtain⟨ad',q⟩:=hs.si;have hcap:cap=0:=by rw[q]at e1;cases e1;rfl
       obtain⟨cap',rest,k1,k2,k3⟩:=hgrow (by simp;omega)
       obtain⟨μ',m1,m2,m3⟩:=zm (el:=e) s.drew e4 f4 e5 f5 e6 f6 k1 k2;refine⟨_,_,_,μ',hrun _ _ k3,.inl rfl,m1,m2,?_⟩;exact Step.trans s.drew (Step.oc rfl rfl rfl) m3
      | ay=>
       simp only[iE,Za]at hgr;subst hgr;simp only[ec,Za]at hxs;subst hxs;have q:=hs.lR;have hcap:cap=0:=by rw[q]at e1;cases e1;rfl
       obtain⟨cap',rest,k1,k2,k3⟩:=hgrow (by simp;omega)
       obtain⟨μ',m1,m2,m3⟩:=zm (el:=e) s.drew e4 f4 e5 f5 e6 f6 k1 k2;refine⟨_,_,_,μ',hrun _ _ k3,.inl rfl,m1,m2,?_⟩;exact Step.trans s.drew (Step.oc rfl rfl rfl) m3
      | hsl id es off len=>
       simp only[iE]at hgr;split at hgr
       ·rename_i es2 rws hid;simp only[Za]at hgr;subst hgr;have hrow:(H[id]?).bind Ob.rows=some (es2,rws):=by rw[hid];rfl
        have hxs':=hxs;simp only[ec]at hxs;split at hxs
        ·rename_i hes;rw[hrow]at hxs;simp only at hxs;split at hxs
         ·rename_i hle;simp only[Za]at hxs;obtain⟨p,c,ety,q1,q2,q3,q4⟩:=s.obs id _ hid;have hlen:xs.length=len:=by rw[←hxs];simp;omega
          have hnewblock:cap<xs.length+ys.length→B6 P I μ H w (do let d ←resolve a.eval { callee:=.builtin .append,args,argTypes:=ats } ty;invoke d.target d.args)
           (.hsl H.length d.size 0 (xs.length+ys.length)) (H.set id .dead++[.row d.size (xs++ys)]):=by
           intro hlt;obtain⟨cap',rest,k1,k2,k3⟩:=hgrow hlt;obtain⟨s1,s2⟩:=s.drew.kill hid;obtain⟨μ',m1,m2,m3⟩:=zm (el:=e) s1 e4 f4 e5 f5 e6 f6 k1 k2;rw[List.length_set]at m1;exact⟨_,_,_,μ',hrun _ _ k3,.inl rfl,m1,m2,Step.trans s.drew (Step.oc rfl rfl rfl) (Step.trans s1 s2 m3)⟩
          rcases hs.lM with⟨p',cap2,hm,hp',hcc,hbd,ee⟩|⟨h0,ad',ee⟩
          ·rw[q1]at hm;cases hm;have hcap2:cap2=cap∧ad=some ⟨p.b,p.o+off*es,none⟩:=by rw[ee]at e1;cases e1;exact⟨rfl,rfl⟩
           obtain⟨rfl,rfl⟩:=hcap2
           by_cases hfit:xs.length+ys.length≤cap2
           ·have hes2:es2=es:=by rw[←q4.es_eq,hp']
            subst hes2;have hdes:es2=d.size:=hes;obtain⟨r1,r2⟩:=q4.span hle;rw[hxs]at r1;have hnl:=f4.1;simp only[Array.length_toList]at hnl;rw[fU f5]at hnl;have hb1:(len+ys.length)*es2≤cap2*es2:=Nat.mul_le_mul_right _ (by omega)
            rw[Nat.add_mul]at hb1;rw[Nat.add_mul]at hbd;have hsz:=q4.sz;rw[←hdes]at hnl;have hroom:p.o+off*es2+len*es2+0+arrx.toList.length≤c.size:=by simp;omega
            obtain⟨c',u1,u2⟩:=tJ (P:=P) (o:=p.o+off*es2+len*es2) arrx.toList 0 w c q3 (f4.LB (fun x hx=>by
             obtain⟨l,hl,hxl⟩:=List.mem_flatten.1 hx;exact f6 l hl x hxl)) hroom
            have hcs:c'.size=c.size:=by
             have:=congrArg List.length u2;simp at this hroom;omega
            have key1:=key.1 hfit (fF w p.b (.cells c' ety)) (by
             simp only[lz,hlen];rw[←hdes];exact u1)
            have hrowrel:fA I μ ⟨p.b,p.o+off*es2,es2,p.sz⟩ c' es2 (xs++ys):=by
             refine⟨rfl,by rw[hcs];exact hsz,?_,?_,?_,?_⟩
             ·intro x hx;rcases List.mem_append.1 hx with h|h;exact(e5 x h).trans hdes.symm;exact(f5 x h).trans hdes.symm
             ·intro x hx;rcases List.mem_append.1 hx with h|h;exact e6 x h;exact f6 x h
             ·rw[hcs,Zk,hlen,Nat.add_mul];simp only;omega
             ·have e:(c'.toList.drop (p.o+off*es2)).take ((xs++ys).length*es2)=(c.toList.drop (p.o+off*es2)).take (len*es2)++arrx.toList:=by
               rw[u2,Zk,hlen,Nat.add_mul,hnl];simp only[Nat.add_zero];have hl1:(List.take (p.o+off*es2+len*es2) c.toList).length=p.o+off*es2+len*es2:=by simp;omega
               rw[List.append_assoc,List.drop_append_of_le_length (by rw[hl1];omega),List.drop_take,show p.o+off*es2+len*es2-(p.o+off*es2)=len*es2 by omega]
               have hl2:(List.take (len*es2) (List.drop (p.o+off*es2) c.toList)).length=len*es2:=by simp;omega
               rw[←List.append_assoc,List.take_left' (by rw[Zk,hl2];simp)]
              rw[e,List.flatten_append];exact r1.append f4
            obtain⟨s1,s2⟩:=Eo (ob':=.row es2 (xs++ys)) (p':=⟨p.b,p.o+off*es2,es2,p.sz⟩) (o:=.cells c' ety) s hid rfl q1 rfl
             ⟨_,c',ety,Mu.fe _ _ _,q2,gL _ (Array.getElem?_eq_some_iff.1 q3).1,hrowrel.mono (bB.le_refl _) (Mu.mh (s.dom _ (Nat.le_refl _)))⟩
            rw[←hdes];refine⟨_,_,_,_,hrun _ _ key1,.inl rfl,?_,s1,s2⟩;have:=aK.hsl (I:=I) H.length 0 (xs.length+ys.length) cap2 _ (Mu.fe μ H.length ⟨p.b,p.o+off*es2,es2,p.sz⟩) hfit (by simp only[Nat.zero_add];omega)
            simpa using this
           ·exact hnewblock (by omega)
          ·have hcap:cap=0:=by rw[ee]at e1;simp only[Value.slice.injEq]at e1;exact e1.2.2.symm
           exact hnewblock (by omega)
         ·simp at hxs
        ·simp at hxs
       ·simp at hgr
      | _=>simp[iE]at hgr
     ·simp at h
    ·simp at h
   ·simp at h
  ·simp at h
 ·simp at h
end
end Go.VE
namespace Go.VE
section
variable {P:Program} {E:Env} {I:bB} {μ:Mu} {H H':an} {n:Nat} {F:Frame} {a:Act} {w:World}
theorem OM (s t:ByteArray) (h:(s==t)=true):s=t:=by
 cases s with|mk a=>cases t with|mk b=>
 have h':(a==b)=true:=h;have:a=b:=eq_of_beq h';rw[this]
inductive sC (P:Program) (E:Env) (t:TypeId):V→Value→Prop
 | int (k:IntKind) (m:Int) (h:P.underlying t=some (.int k)):sC P E t (.int k m) (.int k m)
 | str (s:ByteArray) (h:P.underlying t=some .string):sC P E t (.str s) (.string s)
 | agg (m:Nat) (cs:List V) (l:List Int) (h:xj P t m) (hl:l.length=m) (hi:gV cs=some l):sC P E t (.agg cs) (.agg (ic l))
theorem Fk (hE:eF P E) {t:TypeId} {k:V} {v:Value} (h:u9 E t k=true) (hv:aK I μ k v):sC P E t k v:=by
 unfold u9 at h;split at h
 ·rename_i k1 k2 m hk;obtain⟨d,hd,hkd⟩:=fy hk;obtain⟨desc,h1,h2,h3⟩:=(hE.ty hd).dM;rw[hkd]at h2;have:=FL h2;subst this;have e:k1=k2:=by simpa using h
  subst e;rw[hv.gm];exact .int _ _ h1
 ·rename_i s hk;obtain⟨d,hd,hkd⟩:=fy hk;obtain⟨desc,h1,h2,h3⟩:=(hE.ty hd).dM;rw[hkd]at h2;have:=yQ h2;subst this;rw[hv.ov];exact .str _ h1
 ·rename_i cs _;split at h
  ·rename_i m heq;simp only[Zj,beq_iff_eq,Option.isSome_iff_exists]at h;obtain⟨hl,l,hi⟩:=h;obtain⟨va,rfl,hla⟩:=hv.js;obtain⟨rfl,e⟩:=lT hi hla;exact .agg m cs l (hE.eqN _ _ heq) (by omega) hi
  ·simp at h
 ·simp at h
theorem Fq (d:Nat) (e:Bool) {t:TypeId} {k:IntKind} {m:Int} (h:P.underlying t=some (.int k)):(Instr.checkKey e (d+1) t (.int k m)).run P w=.ok () w:=by
 simp only[Instr.checkKey,Sem.run_bind,dM h,Result.andThen_ok,Sem.run_pure]
theorem Gd (d:Nat) (e:Bool) {t:TypeId} {m:ByteArray} (h:P.underlying t=some .string):(Instr.checkKey e (d+1) t (.string m)).run P w=.ok () w:=by
 simp only[Instr.checkKey,Sem.run_bind,dM h,Result.andThen_ok,Sem.run_pure]
theorem sL {t:TypeId} {k:V} {v:Value} (h:sC P E t k v) (e:Bool):(Instr.checkKey e 10000 t v).run P w=.ok () w:=by
 cases h with
 | int k m h=>exact Fq 9999 e h
 | str s h=>exact Gd 9999 e h
 | agg m cs l h hl hi=>exact h.check w e l hl
def i9 (I:bB) (μ:Mu) (es:List MapEntry) (i:Nat):Option (Nat×V)→Option (Nat×Value)→Prop
 | none,none=>True
 | some (j,x),some (j',v)=>j=j'∧aK I μ x v∧i≤j∧∃e,es[j-i]? = some e∧e.val=v
 | _,_=>False
theorem yX {d:TypeDesc} {k:V} {v:Value} (hd:(∃kk m,d=.int kk∧k=.int kk m∧v=.int kk m)∨(∃s,d=.string∧k=.str s∧v=.string s)) :
 ∀(kvs:List (V×V)) (es:List MapEntry) (i:Nat) (r:Option (Nat×V)),kvs.length=es.length→(∀(j:Nat) q e,kvs[j]? = some q→es[j]? = some e→aK I μ q.1 e.key∧aK I μ q.2 e.val) →
 fQ k kvs i=some r→∃r',Instr.findNow d v es i=some r'∧i9 I μ es i r r'∧∀j x,r=some (j,x)→∃e,es[j-i]? = some e∧e.key=v:=by
 intro kvs
 induction kvs with
 | nil=>
  intro es i r hl _ h
  cases es with
  | nil=>simp only[fQ,Za]at h;subst h;exact⟨none,rfl,trivial,by simp⟩
  | cons _ _=>simp at hl
 | cons q kvs ih=>
  intro es i r hl hr h
  cases es with
  | nil=>simp at hl
  | cons e es=>
   obtain⟨q1,q2⟩:=q;obtain⟨g1,g2⟩:=hr 0 (q1,q2) e rfl rfl;simp only[fQ]at h;have hsame:∀b,pW k q1=some b→Instr.sameNow d v e.key=some b∧(b=true→e.key=v):=by
    intro b hb;rcases hd with⟨kk,m,rfl,rfl,rfl⟩|⟨s,rfl,rfl,rfl⟩
    ·cases q1 <;> simp only[pW]at hb <;> (try (simp at hb;done))
     rename_i k2 m2;split at hb
     ·rename_i hkk;simp only[Za]at hb;subst hb;subst hkk;rw[g1.gm];exact⟨by simp[Instr.sameNow],by simp;exact Eq.symm⟩
     ·simp at hb
    ·cases q1 <;> simp only[pW]at hb <;> (try (simp at hb;done))
     simp only[Za]at hb;subst hb;rw[g1.ov];exact⟨by simp[Instr.sameNow],fun he=>by rw[OM _ _ he]⟩
   split at h
   ·rename_i hk;obtain⟨f1,f2⟩:=hsame true hk;simp only[Za]at h;subst h;refine⟨some (i,e.val),by simp[Instr.findNow,f1],⟨rfl,g2,Nat.le_refl _,e,by simp,rfl⟩,?_⟩
    intro j x hj;simp only[Za,Zd]at hj;obtain⟨rfl,_⟩:=hj;exact⟨e,by simp,f2 rfl⟩
   ·rename_i hk;obtain⟨f1,_⟩:=hsame false hk;obtain⟨r',p1,p2,p3⟩:=ih es (i+1) r (by simpa using hl) (fun j a b x y=>hr (j+1) a b (by simpa using x) (by simpa using y)) h
    refine⟨r',by simp[Instr.findNow,f1,p1],?_,?_⟩
    ·cases r with
     | none=>cases r' <;> simp_all [i9]
     | some z=>
      cases r' with
      | none=>simp[i9]at p2
      | some z'=>
       obtain⟨c1,c2,c3,e',c4,c5⟩:=p2;exact⟨c1,c2,by omega,e',by rw[show z.1-i=(z.1-(i+1))+1 by omega];simpa using c4,c5⟩
    ·intro j x hj;obtain⟨e',u1,u2⟩:=p3 j x hj;subst hj;have:i+1≤j:=by
      cases r' with
      | none=>simp[i9]at p2
      | some z'=>exact p2.2.2.1
     exact⟨e',by rw[show j-i=(j-(i+1))+1 by omega];simpa using u1,u2⟩
   ·simp at h
theorem DU {t:TypeId} {m:Nat} (hq:xj P t m) {cs:List V} {l:List Int} (hl:l.length=m) (hi:gV cs=some l) :
 ∀(kvs:List (V×V)) (es:List MapEntry) (i:Nat) (r:Option (Nat×V)),kvs.length=es.length→(∀(j:Nat) q e,kvs[j]? = some q→es[j]? = some e→aK I μ q.1 e.key∧aK I μ q.2 e.val) →
 fQ (.agg cs) kvs i=some r→∃r',(Instr.findAsking t (.agg (ic l)) es i).run P w=.ok r' w∧i9 I μ es i r r'∧∀j x,r=some (j,x)→∃e,es[j-i]? = some e∧e.key=.agg (ic l):=by
 intro kvs
 induction kvs with
 | nil=>
  intro es i r hle _ h
  cases es with
  | nil=>simp only[fQ,Za]at h;subst h;exact⟨none,rfl,trivial,by simp⟩
  | cons _ _=>simp at hle
 | cons q kvs ih=>
  intro es i r hle hr h
  cases es with
  | nil=>simp at hle
  | cons e es=>
   obtain⟨q1,q2⟩:=q;obtain⟨g1,g2⟩:=hr 0 (q1,q2) e rfl rfl;simp only[fQ]at h;have hsame:∀b,pW (.agg cs) q1=some b→(Op.equal t (.agg (ic l)) e.key).run P w=.ok b w∧(b=true→e.key=.agg (ic l)):=by
    intro b hb;cases q1 <;> simp only[pW]at hb <;> (try (simp at hb;done))
    rename_i cs2;obtain⟨ia,ib,x1,x2,x3,rfl⟩:=rD hb;rw[hi]at x1;cases x1;obtain⟨vb,ev,hlb⟩:=g1.js;obtain⟨rfl,e2⟩:=lT x2 hlb;rw[ev];refine⟨hq.key w l ib hl (by omega),?_⟩
    intro he;have:l=ib:=by simpa using he
    rw[this]
   split at h
   ·rename_i hk;obtain⟨f1,f2⟩:=hsame true hk;simp only[Za]at h;subst h;refine⟨some (i,e.val),by simp[Instr.findAsking,f1],⟨rfl,g2,Nat.le_refl _,e,by simp,rfl⟩,?_⟩
    intro j x hj;simp only[Za,Zd]at hj;obtain⟨rfl,_⟩:=hj;exact⟨e,by simp,f2 rfl⟩
   ·rename_i hk;obtain⟨f1,_⟩:=hsame false hk;obtain⟨r',p1,p2,p3⟩:=ih es (i+1) r (by simpa using hle) (fun j a b x y=>hr (j+1) a b (by simpa using x) (by simpa using y)) h
    refine⟨r',by simp[Instr.findAsking,f1,p1],?_,?_⟩
    ·cases r with
     | none=>cases r' <;> simp_all [i9]
     | some z=>
      cases r' with
      | none=>simp[i9]at p2
      | some z'=>
       obtain⟨c1,c2,c3,e',c4,c5⟩:=p2;exact⟨c1,c2,by omega,e',by rw[show z.1-i=(z.1-(i+1))+1 by omega];simpa using c4,c5⟩
    ·intro j x hj;obtain⟨e',u1,u2⟩:=p3 j x hj;subst hj;have:i+1≤j:=by
      cases r' with
      | none=>simp[i9]at p2
      | some z'=>exact p2.2.2.1
     exact⟨e',by rw[show j-i=(j-(i+1))+1 by omega];simpa using u1,u2⟩
   ·simp at h
theorem pQ {t:TypeId} {k:V} {v:Value} (h:sC P E t k v) {kvs:List (V×V)} {es:Array MapEntry} (hr:pL I μ kvs es) {r:Option (Nat×V)} (hf:fQ k kvs 0=some r) :
 ∃r',(Instr.findKey t v es.toList).run P w=.ok r' w∧i9 I μ es.toList 0 r r'∧∀j x,r=some (j,x)→∃e,es[j]? = some e∧e.key=v:=by
 have hlen:kvs.length=es.toList.length:=by simpa using hr.1
 have hrel:∀(j:Nat) q e,kvs[j]? = some q→es.toList[j]? = some e→aK I μ q.1 e.key∧aK I μ q.2 e.val:=fun j q e x y=>hr.2 j q e x (by simpa using y)
 have fin:∀(r':Option (Nat×Value)),(∀j x,r=some (j,x)→∃e,es.toList[j-0]? = some e∧e.key=v)→∀j x,r=some (j,x)→∃e,es[j]? = some e∧e.key=v:=by
  intro _ q j x hj;obtain⟨e,e1,e2⟩:=q j x hj;exact⟨e,by simpa using e1,e2⟩
 cases h with
 | int kk m h=>
  obtain⟨r',g1,g2,g3⟩:=yX (.inl ⟨kk,m,rfl,rfl,rfl⟩) kvs es.toList 0 r hlen hrel hf;exact⟨r',by simp only[Instr.findKey,Sem.run_bind,dM h,Result.andThen_ok,g1,Sem.run_pure],g2,fin r' g3⟩
 | str s h=>
  obtain⟨r',g1,g2,g3⟩:=yX (.inr ⟨s,rfl,rfl,rfl⟩) kvs es.toList 0 r hlen hrel hf;exact⟨r',by simp only[Instr.findKey,Sem.run_bind,dM h,Result.andThen_ok,g1,Sem.run_pure],g2,fin r' g3⟩
 | agg m cs l h hl hi=>
  obtain⟨r',g1,g2,g3⟩:=DU (w:=w) h hl hi kvs es.toList 0 r hlen hrel hf;obtain⟨d,hd,hdk⟩:=h.kind;refine⟨r',?_,g2,fin r' g3⟩;simp only[Instr.findKey,Sem.run_bind,dM hd,Result.andThen_ok]
  cases hes:es.toList with
  | nil=>
   rw[hes]at g1;simp only[Instr.findNow,Sem.run_pure];simpa [Instr.findAsking]using g1
  | cons e rest=>
   rw[hes]at g1;have:Instr.findNow d (.agg (ic l)) (e::rest) 0=none:=by
    rcases hdk with⟨_,_,rfl⟩|⟨_,rfl⟩ <;> simp[Instr.findNow,Instr.sameNow]
   rw[this];exact g1
theorem ud {b:Nat} {o:Obj} (h:w.heap[b]? = some o) (hn:∀c e f,o≠.cells c e f):(getObj b).run P w=.ok o w:=by
 simp only[getObj,Sem.run,h]
theorem Ix (s:cg I μ H w) {m:V} {v:Value} (hv:aK I μ m v) {kvs:List (V×V)} (h:jx H m=some kvs) :
 (v=.map none∧kvs=[])∨∃b es clock,v=.map (some b)∧w.heap[b]? = some (.map es clock)∧pL I μ kvs es:=by
 cases m with
 | eT=>simp only[jx,Za]at h;exact .inl ⟨hv.HV,h.symm⟩
 | fmap k=>
  simp only[jx,Za]at h;subst h
  cases hv with
  | c _ _ hv=>cases hv with
   | fmap _ b es hI hl hk hvv=>
    obtain⟨cl,g⟩:=s.imm _ _ hI;exact .inr ⟨b,es,cl,rfl,g,hl,fun j q e x y=>⟨.c _ _ (hk j q e x y),.c _ _ (hvv j q e x y)⟩⟩
 | hmap id=>
  simp only[jx]at h;split at h
  ·rename_i kv hid;simp only[Za]at h;subst h;obtain⟨p,es,cl,g1,g2,g3,g4⟩:=s.obs id _ hid;obtain⟨q,hq,e⟩:=hv.wG;rw[g1]at hq;cases hq;exact .inr ⟨_,es,cl,e,g3,g4⟩
  ·simp at h
 | _=>simp[jx]at h
theorem GA (hE:eF P E) (r:dQ I μ n F a.tmps) (s:cg I μ H w) {t:TypeId} {m k:Operand} {ok:Bool} {x:V} (h:dg E F H (.lookup t m k ok)=some x) :
 ∃v,(Instr.lookup t (a.eval m) (a.eval k) ok).run P w=.ok v w∧aK I μ x v:=by
 simp only[dg]at h;split at h
 ·rename_i kt et mv kv hk hm hkk;obtain⟨d,hd,hkd⟩:=fy hk;obtain⟨desc,h1,h2,h3⟩:=(hE.ty hd).dM;rw[hkd]at h2;have:=ue h2;subst this;split at h
  ·rename_i de kvs hde hkvs;split at h
   ·rename_i hok;have hki:=Fk hE hok (cJ r hkk);obtain⟨z,hz,hzr⟩:=(hE.ty hde).JK;obtain⟨es,hkv,hrun⟩:∃es:Array MapEntry,pL I μ kvs es∧∀res,(Instr.findKey kt (a.eval k) es.toList).run P w=.ok res w→(Instr.lookup t (a.eval m) (a.eval k) ok).run P w =
     .ok (if ok then .tuple #[(res.map (·.2)).getD z,.bool res.isSome]else(res.map (·.2)).getD z) w:=by
     rcases Ix s (cJ r hm) hkvs with⟨e1,rfl⟩|⟨b,es,cl,e1,e2,e3⟩
     ·refine⟨#[],⟨rfl,by simp⟩,fun res hres => ?_⟩
      unfold Instr.lookup;rw[e1];simp only[Sem.run_bind,h3,Result.andThen_ok,Sem.run_pure,sL hki,hres];cases res <;> cases ok <;> simp[hz]
     ·refine⟨es,e3,fun res hres => ?_⟩
      unfold Instr.lookup;rw[e1];simp only[Sem.run_bind,h3,Result.andThen_ok,Sem.run_pure,ud e2 (by simp),sL hki,hres]
      cases res <;> cases ok <;> simp[hz]
    split at h
    ·rename_i j y _ hfind;simp only[Za]at h;obtain⟨res,q1,q2,_⟩:=pQ (w:=w) hki hkv hfind
     cases res with
     | none=>simp[i9]at q2
     | some q=>
      obtain⟨_,hv,_⟩:=q2;refine⟨_,hrun _ q1,?_⟩;subst h
      cases ok with
      | true=>exact .IW (.cons hv (.cons (.c _ _ (.bool _)) .nil))
      | false=>exact hv
    ·rename_i y hfind hy;simp only[Za]at h;obtain⟨res,q1,q2,_⟩:=pQ (w:=w) hki hkv hfind
     cases res with
     | some q=>simp[i9]at q2
     | none=>
      refine⟨_,hrun _ q1,?_⟩;subst h
      cases ok with
      | true=>exact .IW (.cons (hzr _ _ _ hy) (.cons (.c _ _ (.bool _)) .nil))
      | false=>exact hzr _ _ _ hy
    ·simp at h
   ·simp at h
  ·simp at h
 ·simp at h
end
end Go.VE
namespace Go.VE
section
variable {P:Program} {E:Env} {I:bB} {μ:Mu} {H H':an} {n:Nat} {F:Frame} {a:Act} {w:World}
theorem CK (l:List Int) (d:Nat):Instr.sameBits (d+2) (.agg (ic l)) (.agg (ic l))=true:=by
 simp only[Instr.sameBits,beq_self_eq_true,Bool.true_and,List.all_eq_true];intro p hp;obtain⟨j,hj,rfl⟩:=List.mem_iff_getElem.1 hp;simp[ic,Instr.sameBits]
theorem HN {t:TypeId} {k:V} {v:Value} (h:sC P E t k v):(Instr.keyThatStays v v).run P w=.ok v w:=by
 have:Instr.sameBits 10000 v v=true:=by
  cases h with
  | int k m h=>simp[Instr.sameBits]
  | str s h=>simp[Instr.sameBits];exact(by cases s;exact beq_self_eq_true (α:=Array UInt8) _)
  | agg m cs l h hl hi=>exact CK l 9998
 unfold Instr.keyThatStays;rw[this];rfl
theorem Ak {b:Nat} {es:Array MapEntry} {clock:Nat} (o:Obj) (h:w.heap[b]? = some (.map es clock)):(setObj b o).run P w=.ok () (fF w b o):=by
 simp only[setObj,Sem.run,h];rfl
theorem Ch (hE:eF P E) (r:dQ I μ n F a.tmps) (s:cg I μ H w) {t:TypeId} {m k y:Operand} {x:V} (h:d5 E F H (.mapUpdate t m k y)=some (x,H')) :
 B6 P I μ H w (do Instr.mapUpdate t (a.eval m) (a.eval k) (a.eval y);pure .skip) x H':=by
 simp only[d5]at h;split at h
 ·rename_i kt et id kv yv hk hm hkk hy;obtain⟨d,hd,hkd⟩:=fy hk;obtain⟨desc,h1,h2,h3⟩:=(hE.ty hd).dM;rw[hkd]at h2;have:=ue h2;subst this;split at h
  ·rename_i kvs hid;split at h
   ·rename_i hok;simp only[Zh,Zd]at h;obtain⟨kvs',hput,rfl,rfl⟩:=h;have hki:=Fk hE hok (cJ r hkk);obtain⟨p,es,cl,g1,g2,g3,g4⟩:=s.obs id _ hid;obtain⟨q,hq,em⟩:=(cJ r hm).wG;rw[g1]at hq;cases hq;have hblt:=(Array.getElem?_eq_some_iff.1 g3).1;have hpre:∀(f:Unit→Sem Next) ,True:=fun _=>trivial
    unfold kX at hput;have hkrel:=cJ r hkk;have hyrel:=cJ r hy;split at hput
    ·rename_i j z hfind;simp only[Za]at hput;subst hput;obtain⟨res,q1,q2,q3⟩:=pQ (w:=w) hki g4 hfind
     cases res with
     | none=>simp[i9]at q2
     | some res=>
      obtain⟨j',zv⟩:=res;obtain⟨rfl,_,_,e',he',_⟩:=q2;obtain⟨e2,he2,hek⟩:=q3 j z rfl;have hj:=(Array.getElem?_eq_some_iff.1 he2).1;have hrel:pL I μ (kvs.set j (kv,yv)) (es.modify j fun e=>{ e with key:=a.eval k,val:=a.eval y }):=by
       refine⟨by simpa using g4.1,fun i q e h1 h2 => ?_⟩
       by_cases hij:i=j
       ·subst hij;rw[List.getElem?_set_self (by rw[g4.1];exact hj)]at h1
        cases h1;rw[Array.getElem?_modify]at h2;simp only[if_true,Zh]at h2;obtain⟨_,_,rfl⟩:=h2;exact⟨hkrel,hyrel⟩
       ·rw[List.getElem?_set_ne (Ne.symm hij)]at h1;rw[Array.getElem?_modify]at h2;rw[if_neg (Ne.symm hij)]at h2;exact g4.2 i q e h1 h2
      obtain⟨s1,s2⟩:=s.write (ob':=.map (kvs.set j (kv,yv))) (o:=.map (es.modify j fun e=>{ e with key:=a.eval k,val:=a.eval y }) cl) hid rfl g1
       ⟨p,_,cl,g1,g2,gL _ hblt,hrel⟩
      refine⟨.skip,undef,_,μ,?_,.inr ⟨rfl,rfl⟩,.undef I μ,s1,s2⟩;unfold Instr.mapUpdate;rw[em];have hkey:((es[j]?).map (·.key)).getD (a.eval k)=a.eval k:=by rw[he2];simpa using hek
      simp only[Sem.run_bind,h3,Result.andThen_ok,ud g3 (by simp),sL hki,q1,hkey,HN hki,Ak _ g3,Sem.run_pure]
    ·rename_i hfind;simp only[Za]at hput;subst hput;obtain⟨res,q1,q2,q3⟩:=pQ (w:=w) hki g4 hfind
     cases res with
     | some q=>simp[i9]at q2
     | none=>
      have hrel:pL I μ (kvs++[(kv,yv)]) (es.push { key:=a.eval k,val:=a.eval y,born:=cl }):=by
       refine⟨by simp[g4.1],fun i q e h1 h2 => ?_⟩
       by_cases hij:i<kvs.length
       ·rw[List.getElem?_append_left hij]at h1;rw[Array.getElem?_push]at h2;rw[if_neg (by rw[←g4.1];omega)]at h2
        exact g4.2 i q e h1 h2
       ·have hlt:=(Zf.1 h1).1;simp at hlt;have:i=kvs.length:=by omega
        subst this;simp at h1;subst h1;rw[Array.getElem?_push,if_pos g4.1]at h2;cases h2;exact⟨hkrel,hyrel⟩
      obtain⟨s1,s2⟩:=s.write (ob':=.map (kvs++[(kv,yv)])) (o:=.map (es.push { key:=a.eval k,val:=a.eval y,born:=cl }) (cl+1)) hid rfl g1
       ⟨p,_,_,g1,g2,gL _ hblt,hrel⟩
      refine⟨.skip,undef,_,μ,?_,.inr ⟨rfl,rfl⟩,.undef I μ,s1,s2⟩;unfold Instr.mapUpdate;rw[em];simp only[Sem.run_bind,h3,Result.andThen_ok,ud g3 (by simp),sL hki,q1,Ak _ g3,Sem.run_pure]
    ·simp at hput
   ·simp at h
  ·simp at h
 ·simp at h
theorem J9 (hE:eF P E) (r:dQ I μ n F a.tmps) (s:cg I μ H w) (o:Oper) {x:V} (h:dg E F H o.op=some x) :
 ∃v,(execOp a.eval o).run P w=.ok (.value v) w∧aK I μ x v:=by
 obtain⟨dst,op,ty,pos,after,guard⟩:=o;simp only at h
 cases op with
 | load t p=>
  simp only[dg]at h;split at h
  ·rename_i d pv hd hp;obtain⟨u,h1,h2,_⟩:=yH hE s hd (cJ r hp) h;exact⟨u,d8 h1,h2⟩
  ·simp at h
 | lookup t m k ok=>
  obtain⟨u,h1,h2⟩:=GA hE r s h;exact⟨u,d8 h1,h2⟩
 | _=>simp[dg]at h
theorem Ka (hE:eF P E) (r:dQ I μ n F a.tmps) (s:cg I μ H w) (o:Oper) {x:V} (h:d5 E F H o.op=some (x,H')):B6 P I μ H w (execOp a.eval o) x H':=by
 obtain⟨dst,op,ty,pos,after,guard⟩:=o;simp only at h
 cases op with
 | store t p q=>exact Hj hE r s h
 | mapUpdate t m k y=>exact Ch hE r s h
 | call c=>
  obtain⟨callee,args,ats⟩:=c
  cases callee with
  | builtin b=>
   cases b with
   | append=>exact E5 hE r s h
   | _=>simp[d5]at h
  | _=>simp[d5]at h
 | _=>simp[d5]at h
end
end Go.VE
