/-
 The engine: operations of the loaded code on values without a heap; a run of it is a run of the program.
-/
import Derived.RangeFuncLeaves
import Derived.Sort.Defs
import Derived.Lib.BitFns
import Derived.Laws.Sem
import Derived.Laws.World
import Derived.Laws.Append
import Derived.OrdersIn
set_option linter.all false
namespace Go.VE
theorem ζa{α:Type _}(a b:α):(some a=some b)=(a=b):=Option.some.injEq a b
theorem ζb{α β:Type _}(a:α)(f:α->Option β):(some a).bind f=f a:=rfl
theorem ζc{α β:Type _}(a:α)(b:β)(c:α)(d:β):((a,b)=(c,d))=(a=c/\b=d):=Prod.mk.injEq a b c d
theorem ζd{α:Type _}{l:List α}{i:Nat}(h:i<l.length):l[i]?=some l[i]:=List.getElem?_eq_getElem h
theorem ζe{α:Type _}{l:List α}{i:Nat}{a:α}:l[i]?=some a↔∃h:i<l.length,l[i]=a:=List.getElem?_eq_some_iff
theorem ζf{α β:Type _}{b:β}{x:Option α}{f:α->β}:x.map f=some b↔∃a,x=some a/\f a=b:=Option.map_eq_some_iff
theorem ζg{α β:Type _}{b:β}{x:Option α}{f:α->Option β}:x.bind f=some b↔∃a,x=some a/\f a=some b:=Option.bind_eq_some_iff
theorem ζh(a b:Bool):((a&&b)=true)=(a=true/\b=true):=Bool.and_eq_true a b
theorem ζi{α:Type _}{a b:List α}:(a++b).length=a.length+b.length:=List.length_append
inductive V where
 | bool (b:Bool)
 | int (k:IntKind) (n:Int)
 | str (s:ByteArray)
 | ck
 | aR
 | fsl (es:Nat) (xs:List (List V))
 | hsl (id es off len:Nat)
 | fI
 | fptr (cs:List V)
 | hptr (id el off:Nat)
 | clo (f:FuncId) (first cap:List V)
 | yld (id:Nat)
 | eX
 | ql
 | fmap (kvs:List (V×V))
 | hmap (id:Nat)
 | agg (cs:List V)
 | tup (vs:List V)
 deriving Inhabited
def V.undef:V:=.tup []
def V.one:V->Bool
 | .agg _|.tup _=>false
 | _=>true
def V.cells:V->List V
 | .agg cs=>cs
 | v=>[v]
mutual
def V.scalar:V->Bool
 | .bool _|.int ..|.str _|.fI|.eX|.ql|.ck|.aR=>true
 | .agg cs=>V.bQ cs
 | .tup cs=>V.bQ cs
 | _=>false
def V.bQ:List V->Bool
 | []=>true
 | v::r=>V.scalar v&&V.bQ r
end
mutual
def V.closed:V->Bool
 | .hsl ..|.hptr ..|.yld ..|.hmap ..=>false
 | .clo _ a b=>V.jP a&&V.jP b
 | .agg cs=>V.jP cs
 | .tup cs=>V.jP cs
 | _=>true
def V.jP:List V->Bool
 | []=>true
 | v::r=>V.closed v&&V.jP r
end
inductive TK where
 | bool|int (k:IntKind)|str|ptr (e:TypeId)|slice (e:TypeId)
 | struct (fs:List (Nat×TypeId))|array (n:Nat) (e:TypeId)|map (k e:TypeId)|other
 deriving Inhabited
structure TD where
 size:Nat
 bytes:Nat
 zero:List V
 kind:TK
 deriving Inhabited
def TD.agg (d:TD):Bool:=match d.kind with|.struct _|.array _ _=>true|_=>false
abbrev Frame:=List V
def get:Frame->Nat->V
 | [],_=>.undef
 | x::_,0=>x
 | _::r,i+1=>get r i
def set:Frame->Nat->V->Frame
 | [],0,v=>[v]
 | [],i+1,v=>.undef::set [] i v
 | _::r,0,v=>v::r
 | x::r,i+1,v=>x::set r i v
inductive zF where
 | ready|busy|done
inductive Out where
 | norm
 | exit (id:Nat)
 | ret
 deriving DecidableEq,Inhabited
structure tW where
 st:zF
 pend:Option Out
 frame:Frame
 nt:Nat
 params:List Nat
 assign:Code
 body:Code
inductive Ob where
 | free
 | dead
 | row (es:Nat) (xs:List (List V))
 | frz (es:Nat) (xs:List (List V))
 | map (kvs:List (V×V))
 | loop (r:tW)
def Ob.rows:Ob->Option (Nat×List (List V))
 | .row es xs|.frz es xs=>some (es,xs)
 | _=>none
abbrev ak:=List Ob
structure FI where
 ntmps:Nat
 results:List ResultVar
 body:Code
structure Env where
 tt:TypeId->Option TD
 ft:FuncId->Option FI
 keep:FuncId->Bool
 own:FuncId->Bool
 eqN:TypeId->Option Nat
 sort:FuncId->Bool
 known:FuncId->List V->Option V:=λ_ _=>none
def Env.cz (E:Env) (t:TypeId):Option TK:=(E.tt t).map TD.kind
def ofValue:Nat->Value->Option V
 | 0,_=>none
 | n+1,v=>
  match v with
  | .bool b=>some (.bool b)
  | .int k n=>some (.int k n)
  | .string s=>some (.str s)
  | .pointer none=>some .fI
  | .slice none 0 0=>some .aR
  | .map none=>some .eX
  | .nilFunc=>some .ql
  | .agg cs=>(cs.toList.mapM (ofValue n)).map .agg
  | _=>none
class aW where
 gl:Nat->Option (List V)
 sc:∀g cs,gl g=some cs->∃(k:IntKind) (l:List Int),cs=l.map (V.int k)
variable [aW]
def ev (F:Frame):Operand->Option V
 | .tmp t=>some (get F t)
 | .const v=>ofValue 4 v
 | .func f=>some (.clo f [] [])
 | .global g=>(aW.gl g).map .fptr
def d_ (F:Frame):List Operand->Option (List V)
 | []=>some []
 | x::r=>match ev F x,d_ F r with
  | some v,some vs=>some (v::vs)
  | _,_=>none
def mk (agg:Bool) (cs:List V):Option V:=
 if agg then some (.agg cs)else match cs with|[v]=>some v|_=>none
def cut (cs:List V) (off n:Nat):Option (List V):=
 let r:=(cs.drop off).take n
 if r.length=n then some r else none
def gj:List V->Option (List Int)
 | []=>some []
 | .int .i64 a::r=>(gj r).map (a::·)
 | _=>none
def jx (az bs:List V):Option Bool:=
 match gj az,gj bs with
 | some a,some b=>if a.length=b.length then some (a==b)else none
 | _,_=>none
def oS (op:BinOp) (x y:Int):Option Bool:=
 match op with
 | .eql=>some (x==y)|.neq=>some (x != y)|.lss=>some (decide (x<y))|.leq=>some (decide (x<=y))
 | .gtr=>some (decide (x>y))|.geq=>some (decide (x>=y))|_=>none
def sR (k:TK) (x y:V):Option Bool:=
 match k,x,y with
 | .slice _,.aR,.aR=>some true
 | .slice _,.fsl ..,.aR=>some false
 | .slice _,.hsl ..,.aR=>some false
 | .ptr _,.fI,.fI=>some true
 | .ptr _,.fptr _,.fI=>some false
 | .ptr _,.hptr ..,.fI=>some false
 | .map ..,.eX,.eX=>some true
 | .map ..,.fmap _,.eX=>some false
 | .map ..,.hmap _,.eX=>some false
 | _,_,_=>none
def Ei (E:Env) (op:BinOp) (t:TypeId) (x y:V):Option V:=
 match x,y with
 | .int k a,.int k' b=>
  match op with
  | .shl=>if b<0 then none else some (.int k (k.wrap (a*2 ^ (min b.toNat k.bits))))
  | .shr=>if b<0 then none else some (.int k (a.fdiv (2 ^ (min b.toNat k.bits))))
  | _=>if k=k' then
   match op with
   | .add=>some (.int k (k.wrap (a+b)))
   | .sub=>some (.int k (k.wrap (a-b)))
   | .mul=>some (.int k (k.wrap (a*b)))
   | .quo=>if b=0 then none else some (.int k (k.wrap (a.tdiv b)))
   | .rem=>if b=0 then none else some (.int k (a.tmod b))
   | .and=>some (.int k (k.wrap (BitVec.ofInt k.bits a &&& BitVec.ofInt k.bits b).toNat))
   | .or=>some (.int k (k.wrap (BitVec.ofInt k.bits a ||| BitVec.ofInt k.bits b).toNat))
   | .xor=>some (.int k (k.wrap (BitVec.ofInt k.bits a ^^^ BitVec.ofInt k.bits b).toNat))
   | .andNot=>some (.int k (k.wrap (BitVec.ofInt k.bits a &&& ~~~ BitVec.ofInt k.bits b).toNat))
   | op=>(oS op a b).map .bool
   else none
 | .str a,.str b=>
  match op with
  | .add=>if((a.size+b.size:Nat):Int)>IntKind.i64.max then none else some (.str (a++b))
  | .eql=>some (.bool (a.toList==b.toList))
  | .neq=>some (.bool !(a.toList==b.toList))
  | .lss=>some (.bool (Op.bytesLess a.toList b.toList))
  | .leq=>some (.bool (Op.bytesLess a.toList b.toList||a.toList==b.toList))
  | .gtr=>some (.bool !(Op.bytesLess a.toList b.toList||a.toList==b.toList))
  | .geq=>some (.bool !(Op.bytesLess a.toList b.toList))
  | _=>none
 | .bool a,.bool b=>
  match E.cz t,op with
  | some .bool,.eql=>some (.bool (a==b))
  | some .bool,.neq=>some (.bool !(a==b))
  | _,_=>none
 | .agg a,.agg b=>
  match E.eqN t,op with
  | some n,.eql=>if a.length=n then(jx a b).map .bool else none
  | some n,.neq=>if a.length=n then(jx a b).map (λt=>.bool !t)else none
  | _,_=>none
 | x,y=>
  match E.cz t,op with
  | some k,.eql=>(sR k x y).map .bool
  | some k,.neq=>(sR k x y).map λt=>.bool !t
  | _,_=>none
def sw (place:Nat->Option (Nat×Nat)) (cells:List V):List (Nat×V)->Option (List V)
 | []=>some cells
 | (i,v)::rest=>
  match place i with
  | none=>none
  | some (off,size)=>
   if v.cells.length≠size||off+v.cells.length>cells.length then none
   else sw place (cells.take off++v.cells++cells.drop (off+v.cells.length)) rest
def kJ (F:Frame):List (Nat×Operand)->Option (List (Nat×V))
 | []=>some []
 | (i,x)::r=>match ev F x,kJ F r with
  | some v,some vs=>some ((i,v)::vs)
  | _,_=>none
def lJ (E:Env):List (Nat×TypeId)->Option (List (Nat×Nat))
 | []=>some []
 | (off,t)::r=>match E.tt t,lJ E r with
  | some d,some ps=>some ((off,d.size)::ps)
  | _,_=>none
def iN (F:Frame):Option Operand->Option (Option Int)
 | none=>some none
 | some x=>match ev F x with
  | some (.int _ n)=>some (some n)
  | _=>none
def cN (len:Nat) (lo hi:Option Int):Option (Nat×Nat):=
 let h:=hi.getD len
 let l:=lo.getD 0
 if 0<=h/\h<=len/\0<=l/\l<=h then some (l.toNat,h.toNat)else none
def AG (a b:Int):Int:=if b>a then b else a
def aO (E:Env) (F:Frame) (op:Op):Option V:=
 match op with
 | .move x|.assign x=>ev F x
 | .pick c a b=>match ev F c with
  | some (.bool t)=>if t then ev F a else ev F b
  | _=>none
 | .nilCheck x=>match ev F x with
  | some (.hptr id el off)=>some (.hptr id el off)
  | some (.fptr cs)=>some (.fptr cs)
  | some (.clo f a b)=>some (.clo f a b)
  | _=>none
 | .binOp op t x y _=>match ev F x,ev F y with
  | some a,some b=>Ei E op t a b
  | _,_=>none
 | .unOp op _ x=>match op,ev F x with
  | .not,some (.bool b)=>some (.bool !b)
  | .neg,some (.int k n)=>some (.int k (k.wrap (0-n)))
  | _,_=>none
 | .convert s d x=>match E.tt s,E.tt d,ev F x with
  | some _,some td,some (.int _ n)=>match td.kind with
   | .int k=>some (.int k (k.wrap n))
   | _=>none
  | _,_,_=>none
 | .fieldAddr s x f=>match E.cz s,ev F x with
  | some (.struct fs),some p=>match fs[f]? with
   | some (off,t)=>match E.tt t with
    | some d=>if d.size=0 then none else match p with
     | .fptr cs=>if off<=cs.length then some (.fptr (cs.drop off))else none
     | .hptr id el o=>some (.hptr id el (o+off))
     | _=>none
    | none=>none
   | none=>none
  | _,_=>none
 | .field s x f=>match E.cz s,ev F x with
  | some (.struct fs),some (.agg cs)=>match fs[f]? with
   | some (off,t)=>match E.tt t with
    | some d=>(cut cs off d.size).bind (mk d.agg)
    | none=>none
   | none=>none
  | _,_=>none
 | .indexAddr t x i=>match E.cz t,ev F x,ev F i with
  | some (.slice e),some s,some (.int _ n)=>match E.tt e with
   | some d=>if n<0 then none else match s with
    | .fsl es xs=>if es=d.size then(xs[n.toNat]?).map .fptr else none
    | .hsl id es off len=>if es=d.size/\n.toNat<len then some (.hptr id (off+n.toNat) 0)else none
    | _=>none
   | none=>none
  | some (.array len e),some p,some (.int _ n)=>match E.tt e with
   | some d=>if 0<=n/\n<len then match p with
    | .fptr cs=>if n.toNat*d.size<=cs.length then some (.fptr (cs.drop (n.toNat*d.size)))else none
    | .hptr id el o=>some (.hptr id el (o+n.toNat*d.size))
    | _=>none
    else none
   | none=>none
  | _,_,_=>none
 | .index t x i=>match E.cz t,ev F x,ev F i with
  | some .str,some (.str s),some (.int _ n)=>if 0<=n then(s[n.toNat]?).map (λb=>.int .u8 b.toNat)else none
  | some (.array len e),some (.agg cs),some (.int _ n)=>match E.tt e with
   | some d=>if 0<=n/\n<len then(cut cs (n.toNat*d.size) d.size).bind (mk d.agg)else none
   | none=>none
  | _,_,_=>none
 | .slice t x lo hi mx=>match E.cz t,ev F x,iN F lo,iN F hi,iN F mx with
  | some .str,some (.str s),some l,some h,some none=>(cN s.size l h).map λ(l,h)=>.str (s.extract l h)
  | some (.slice e),some v,some l,some h,some none=>match E.tt e with
   | some d=>match v with
    | .fsl es xs=>if es=d.size then(cN xs.length l h).map λ(l,h)=>.fsl es ((xs.take h).drop l)else none
    | .hsl id es off len=>if es=d.size then(cN len l h).map λ(l,h)=>.hsl id es (off+l) (h-l)else none
    | .ck=>(cN 0 l h).map λ_=>.ck
    | .aR=>(cN 0 l h).map λ_=>.aR
    | _=>none
   | none=>none
  | some (.slice e),some v,some none,some (some 0),some (some 0)=>match E.tt e,v with
   | some _,.fsl ..|some _,.hsl ..|some _,.ck|some _,.aR=>some .ck
   | _,_=>none
  | _,_,_,_,_=>none
 | .build t ps=>match E.tt t,kJ F ps.toList with
  | some d,some vs=>match d.kind with
   | .struct fs=>match lJ E fs with
    | some pl=>(sw (λi=>pl[i]?) d.zero vs).map .agg
    | none=>none
   | .array _ e=>match E.tt e with
    | some de=>(sw (λi=>some (i*de.size,de.size)) d.zero vs).map .agg
    | none=>none
   | _=>none
  | _,_=>none
 | .makeFunc (.func f) a b=>match d_ F a.toList,d_ F b.toList with
  | some a,some b=>some (.clo f a b)
  | _,_=>none
 | .extract x i=>match ev F x with
  | some (.tup vs)=>vs[i]?
  | _=>none
 | .call { callee:=.builtin b,args,argTypes }=>match b,d_ F args.toList,argTypes[0]? with
  | .len,some [v],some t=>match E.cz t,v with
   | some .str,.str s=>some (.int .i64 s.size)
   | some (.slice _),.fsl _ xs=>some (.int .i64 xs.length)
   | some (.slice _),.hsl _ _ _ len=>some (.int .i64 len)
   | some (.slice _),.ck=>some (.int .i64 0)
   | some (.slice _),.aR=>some (.int .i64 0)
   | _,_=>none
  | .cap,some [v],some t=>match E.cz t,v with
   | some (.slice _),.aR=>some (.int .i64 0)
   | some (.slice _),.ck=>some (.int .i64 0)
   | _,_=>none
  | .max,some [.int k a,.int k' b],_=>if k=k' then some (.int k (if b>a then b else a))else none
  | .max,some [.int k a,.int k1 b,.int k2 c,.int k3 d],_=>if k=k1/\k=k2/\k=k3 then some (.int k (AG (AG (AG a b) c) d))else none
  | .min,some [.int k a,.int k' b],_=>if k=k' then some (.int k (if b<a then b else a))else none
  | _,_,_=>none
 | _=>none
def cR (H:ak) (p:V) (n:Nat):Option (List V):=
 match p with
 | .fptr cs=>cut cs 0 n
 | .hptr id el off=>match (H[id]?).bind Ob.rows with
  | some (_,xs)=>match xs[el]? with
   | some cs=>cut cs off n
   | none=>none
  | none=>none
 | _=>none
def vk:V->V->Option Bool
 | .int k a,.int k' b=>if k=k' then some (a==b)else none
 | .str a,.str b=>some (a==b)
 | .agg a,.agg b=>jx a b
 | _,_=>none
def fT (k:V):List (V×V)->Nat->Option (Option (Nat×V))
 | [],_=>some none
 | (k',v)::r,i=>match vk k k' with
  | some true=>some (some (i,v))
  | some false=>fT k r (i+1)
  | none=>none
def vn (E:Env) (t:TypeId) (k:V):Bool:=
 match E.cz t,k with
 | some (.int k),.int k' _=>k==k'
 | some .str,.str _=>true
 | some _,.agg cs=>match E.eqN t with|some n=>cs.length==n&&(gj cs).isSome|none=>false
 | _,_=>false
def kU (H:ak):V->Option (List (V×V))
 | .eX=>some []
 | .fmap kvs=>some kvs
 | .hmap id=>match H[id]? with
  | some (.map kvs)=>some kvs
  | _=>none
 | _=>none
def cK (E:Env) (F:Frame) (H:ak) (op:Op):Option V:=
 match op with
 | .load t a=>match E.tt t,ev F a with
  | some d,some p=>(cR H p d.size).bind (mk d.agg)
  | _,_=>none
 | .lookup t m k ok=>match E.cz t,ev F m,ev F k with
  | some (.map kt et),some m,some k=>match E.tt et,kU H m with
   | some d,some kvs=>if vn E kt k then match fT k kvs 0,mk d.agg d.zero with
    | some (some (_,v)),_=>some (if ok then .tup [v,.bool true]else v)
    | some none,some z=>some (if ok then .tup [z,.bool false]else z)
    | _,_=>none
    else none
   | _,_=>none
  | _,_,_=>none
 | _=>none
inductive Mk where
 | ptr|sl (es len:Nat)|map
def Mk.val (id:Nat):Mk->V
 | .ptr=>.hptr id 0 0
 | .sl es len=>.hsl id es 0 len
 | .map=>.hmap id
def e_ (es:Nat) (xs:List (List V)):List (Nat×V)->Option (List (List V))
 | []=>some xs
 | (i,v)::r=>if v.cells.length=es/\i<xs.length/\v.cells.all V.one=true then e_ es (xs.set i v.cells) r else none
def dz (E:Env) (F:Frame) (op:Op):Option (Ob×Mk):=
 match op with
 | .alloc t=>(E.tt t).map λd=>(.row d.size [d.zero],.ptr)
 | .box _ x=>match ev F x with
  | some v=>if v.cells.all V.one then some (.row v.cells.length [v.cells],.ptr)else none
  | none=>none
 | .makeSlice t l c=>match E.cz t,ev F l,ev F c with
  | some (.slice e),some (.int k n),some (.int k' m)=>match E.tt e with
   | some d=>if k=.i64/\k'=.i64/\0<=n/\n<=m/\m<=2147483648/\d.bytes<=4096 then some (.row d.size (List.replicate m.toNat d.zero),.sl d.size n.toNat)else none
   | none=>none
  | _,_,_=>none
 | .buildSlice t len ps=>match E.cz t,kJ F ps.toList with
  | some (.slice e),some vs=>match E.tt e with
   | some d=>if len*d.size<=16777216 then(e_ d.size (List.replicate len d.zero) vs).map λxs=>(.row d.size xs,.sl d.size len)else none
   | none=>none
  | _,_=>none
 | .makeMap _ none=>some (.map [],.map)
 | _=>none
def pE (E:Env) (F:Frame) (op:Op):Option V:=
 match dz E F op with
 | some (.row es xs,.sl es' n)=>if es'=es/\n=xs.length/\(xs.all λx=>x.all V.scalar)=true then match op with
  | .buildSlice ..=>if xs.isEmpty&&es != 0 then some .ck else none
  | _=>some (.fsl es xs)
  else none
 | _=>none
def cW (H:ak) (es:Nat):V->Option (List (List V))
 | .ck=>some []
 | .aR=>some []
 | .fsl es' xs=>if es'=es then some xs else none
 | .hsl id es' off len=>if es'=es then match (H[id]?).bind Ob.rows with
  | some (_,xs)=>if off+len<=xs.length then some ((xs.drop off).take len)else none
  | none=>none
  else none
 | _=>none
def od (k v:V) (kvs:List (V×V)):Option (List (V×V)):=
 match fT k kvs 0 with
 | some (some (j,_))=>some (kvs.set j (k,v))
 | some none=>some (kvs++[(k,v)])
 | none=>none
def fQ (H:ak):V->Option ak
 | .ck=>some H
 | .aR=>some H
 | .hsl id _ _ _=>match H[id]? with
  | some (.row _ _)=>some (H.set id .dead)
  | _=>none
 | _=>none
def mkApp (H:ak) (size bytes:Nat) (zero:List V) (s x:V):Option (V×ak):=
 match s,x with
 | .aR,.int _ n=>if n=0 then some (.aR,H)else if 0<n/\n<=2147483648/\bytes<=4096/\0<bytes then some (.hsl H.length size 0 n.toNat,H++[.row size (List.replicate n.toNat zero)])else none
 | _,_=>none
def A4 (H:ak) (size:Nat) (zero:List V):V->Option (V×ak)
 | .aR|.ck=>some (.undef,H)
 | .hsl id es off len=>if es=size then match len with
  | 0=>some (.undef,H)
  | len+1=>match H[id]? with
   | some (.row es' xs)=>if off+(len+1)<=xs.length then some (.undef,H.set id (.row es' (xs.take off++List.replicate (len+1) zero++xs.drop (off+(len+1)))))else none
   | _=>none
  else none
 | _=>none
def bR (E:Env) (F:Frame) (H:ak) (op:Op):Option (V×ak):=
 match op with
 | .store t a x=>match E.tt t,ev F a,ev F x with
  | some d,some (.hptr id el off),some v=>match H[id]? with
   | some (.row es xs)=>match xs[el]? with
    | some cs=>if v.cells.length=d.size/\off+d.size<=cs.length/\v.cells.all V.one=true then
     some (.undef,H.set id (.row es (xs.set el (cs.take off++v.cells++cs.drop (off+v.cells.length)))))else none
    | none=>none
   | _=>none
  | _,_,_=>none
 | .mapUpdate t m k x|.insert t m k x=>match E.cz t,ev F m,ev F k,ev F x with
  | some (.map kt _),some (.hmap id),some k,some v=>match H[id]? with
   | some (.map kvs)=>if vn E kt k then(od k v kvs).map λkvs=>(.undef,H.set id (.map kvs))else none
   | _=>none
  | _,_,_,_=>none
 | .call { callee:=.builtin .append,args,argTypes }=>match argTypes.toList,d_ F args.toList with
  | [t,t'],some [s,x]=>match E.cz t,E.cz t' with
   | some (.slice e),some (.slice _)=>match E.tt e with
    | some d=>match cW H d.size s,cW H d.size x with
     | some _,some []=>some (s,H)
     | some xs,some ys=>
      if xs.length+ys.length<=2147483648/\d.bytes<=4096/\0<d.bytes then
       (fQ H s).map λH1=>(.hsl H.length d.size 0 (xs.length+ys.length),H1++[.row d.size (xs++ys)])
      else none
     | _,_=>none
    | none=>none
   | some (.slice e),some (.int _)=>match E.tt e with
    | some d=>mkApp H d.size d.bytes d.zero s x
    | none=>none
   | _,_=>none
  | _,_=>none
 | .call { callee:=.builtin .clear,args,argTypes }=>match argTypes[0]?,d_ F args.toList with
  | some t,some [v]=>match E.cz t with
   | some (.slice e)=>match E.tt e with
    | some d=>A4 H d.size d.zero v
    | none=>none
   | _=>none
  | _,_=>none
 | _=>none
inductive Callee where
 | fn (f:FuncId)
 | yld (id:Nat)
def iP (F:Frame) (op:Op):Option (Callee×List V):=
 match op with
 | .call { callee:=.value f,args,.. }=>match ev F f,d_ F args.toList with
  | some (.clo g a b),some vs=>some (.fn g,a++vs++b)
  | some (.yld id),some vs=>some (.yld id,vs)
  | _,_=>none
 | _=>none
inductive O_ where
 | pure|read|alloc|loud|call
 deriving DecidableEq
def bX:Op->O_
 | .load ..|.lookup ..=>.read
 | .alloc ..|.box ..|.makeSlice ..|.buildSlice ..|.makeMap ..=>.alloc
 | .store ..|.mapUpdate ..|.insert ..=>.loud
 | .call { callee:=.builtin .append,.. }=>.loud
 | .call { callee:=.builtin .clear,.. }=>.loud
 | .call { callee:=.value _,.. }=>.call
 | _=>.pure
def jS (f:V->Option V):List V->Option (List V)
 | []=>some []
 | x::r=>match f x,jS f r with
  | some y,some s=>some (y::s)
  | _,_=>none
def sN (f:V->Option V):List (List V)->Option (List (List V))
 | []=>some []
 | x::r=>match jS f x,sN f r with
  | some y,some s=>some (y::s)
  | _,_=>none
def sH (f:V->Option V):List (V×V)->Option (List (V×V))
 | []=>some []
 | (k,x)::r=>match f k,f x,sH f r with
  | some k,some y,some s=>some ((k,y)::s)
  | _,_,_=>none
def borrow:Nat->ak->V->Option V
 | 0,_,x=>if x.closed then some x else none
 | n+1,H,x=>
  if x.closed then some x else
  match x with
  | .hsl id es off len=>match (H[id]?).bind Ob.rows with
   | some (es',xs)=>if es'=es/\off+len<=xs.length then(sN (borrow n H) ((xs.drop off).take len)).map (.fsl es)else none
   | none=>none
  | .hptr id el off=>match (H[id]?).bind Ob.rows with
   | some (_,xs)=>match xs[el]? with
    | some cs=>if off<=cs.length then(jS (borrow n H) (cs.drop off)).map .fptr else none
    | none=>none
   | none=>none
  | .hmap id=>match H[id]? with
   | some (.map kvs)=>(sH (borrow n H) kvs).map .fmap
   | _=>none
  | .clo f a b=>match jS (borrow n H) a,jS (borrow n H) b with
   | some a,some b=>some (.clo f a b)
   | _,_=>none
  | .agg cs=>(jS (borrow n H) cs).map .agg
  | .tup cs=>(jS (borrow n H) cs).map .tup
  | _=>none
def borrows (n:Nat) (H:ak) (l:List V):Option (List V):=jS (borrow n H) l
def cq (f:V->List Nat):List V->List Nat
 | []=>[]
 | x::r=>f x++cq f r
def bz:Nat->ak->V->List Nat
 | 0,_,_=>[]
 | n+1,H,x=>
  if x.closed then []else
  match x with
  | .hsl id _ _ _=>id::(match (H[id]?).bind Ob.rows with|some (_,xs)=>cq (bz n H) xs.flatten|none=>[])
  | .hptr id _ _=>id::(match (H[id]?).bind Ob.rows with|some (_,xs)=>cq (bz n H) xs.flatten|none=>[])
  | .hmap id=>id::(match H[id]? with|some (.map kvs)=>cq (bz n H) (kvs.map (·.1))++cq (bz n H) (kvs.map (·.2))|_=>[])
  | .clo _ a b=>cq (bz n H) a++cq (bz n H) b
  | .agg cs=>cq (bz n H) cs
  | .tup cs=>cq (bz n H) cs
  | _=>[]
def sX (H:ak) (id:Nat):ak:=
 match H[id]? with
 | some (.row es xs)=>H.set id (.frz es xs)
 | some (.map _)=>H.set id .dead
 | _=>H
def bu (H:ak) (l:List Nat):ak:=l.foldl sX H
abbrev cu:=Callee->List V->ak->Option (V×ak)
def gG (H:ak) (T:List Nat):Bool:=T.all λid=>((H[id]?).bind Ob.rows).isSome
def bG (call:cu) (f:FuncId) (args:List V) (H:ak):Option V:=
 match borrows 8 H args with
 | some az=>match call (.fn f) az []with
  | some (r,H1)=>match borrow 8 H1 r with
   | some y=>if y.closed then some y else none
   | none=>none
  | none=>none
 | none=>none
def qV (k:Nat) (H1:ak) (id es off len:Nat):Option (V×Ob):=
 match H1[id]? with
 | some (.row es' xs)=>if es'=es/\(xs.all λx=>x.all V.scalar)=true then some (.hsl k es off len,.row es xs)else none
 | _=>none
def kP (call:cu) (f:FuncId) (args:List V) (H:ak):Option (V×ak):=
 match borrows 8 H args with
 | some az=>match call (.fn f) az []with
  | some (r,H1)=>
   if r.scalar then some (r,H)else
   match r with
   | .hsl id es off len=>(qV H.length H1 id es off len).map λ(v,ob)=>(v,H++[ob])
   | .tup (.hsl id es off len::rest)=>if V.bQ rest then(qV H.length H1 id es off len).map λ(v,ob)=>(.tup (v::rest),H++[ob])else none
   | _=>none
  | none=>none
 | none=>none
def eH (E:Env) (call:cu) (f:FuncId) (args:List V) (H:ak):Option (V×ak):=
 if E.own f then kP call f args H else call (.fn f) args H
def jT (e:Edge):Bool:=match e.ground with|.textOnly _|.gcOnly _=>false|_=>true
def B9 (o:Oper) (i:Nat):Bool:=o.after.any λe=>e.on==i&&jT e
def Bg (acc:List (List Nat)) (o:Oper):List Nat:=
 (o.after.toList.filter jT).foldl (λl e=>(e.on::(acc[e.on]?).getD []).foldl (λl k=>if l.contains k then l else k::l) l) []
def FC (ops:List Oper):List (List Nat):=ops.foldl (λacc o=>acc++[Bg acc o]) []
def before (ops:List Oper) (i k:Nat):Bool:=(((FC ops)[i]?).getD []).contains k
def isApp:Op->Bool
 | .call { callee:=.builtin .append,.. }=>true
 | _=>false
def cA (ops:List Oper) (i:Nat):Bool:=
 match ops[i]? with
 | some o=>(List.range ops.length).all λk=>match ops[k]? with
  | some p=>k==i||bX p.op==.pure||(if k<i then before ops i k else before ops k i)||(isApp o.op&&bX p.op==.alloc&&decide (i<k))
  | none=>true
 | none=>false
def dstsOf (ops:List Oper):List Nat:=ops.filterMap (·.dst)
def uA (ops:List Oper) (i k:Nat):Bool:=if k<i then before ops i k else before ops k i
def DP (ops:List Oper) (i k:Nat):Option (List Nat):=
 match ops[k]? with
 | some p=>
  if k==i||bX p.op==.pure||uA ops i k then some []else
  match p.op with
  | .load _ (.tmp a)=>if(dstsOf ops).contains a then some []else some [a]
  | _=>none
 | none=>some []
def Ai (ops:List Oper) (i:Nat):List Nat->Option (List Nat)
 | []=>some []
 | k::r=>match DP ops i k,Ai ops i r with
  | some a,some b=>some (a++b)
  | _,_=>none
def yI (ops:List Oper) (i:Nat):Option (Nat×List Nat):=
 match (ops[i]?).map Oper.op with
 | some (.store _ (.tmp a) _)=>if(dstsOf ops).contains a then none else(Ai ops i (List.range ops.length)).map λl=>(a,l)
 | _=>none
def o7 (id:Nat):V->Bool
 | .hptr id' _ _=>id' != id
 | .fptr _=>true
 | _=>false
def pY (ops:List Oper) (i:Nat) (F:Frame):Bool:=
 match yI ops i with
 | some (a,l)=>match get F a with
  | .hptr id _ _=>l.all λs=>o7 id (get F s)
  | _=>false
 | none=>false
def nF (ops:List Oper) (k a':Nat):List Nat:=
 if(dstsOf ops).contains a' then(List.range ops.length).filterMap λi=>match (ops[i]?).map Oper.op with
  | some (.store _ (.tmp a) _)=>if uA ops i k||(dstsOf ops).contains a then none else some a
  | _=>none
 else []
def lV (ops:List Oper) (k:Nat) (F:Frame) (op:Op):Bool:=
 match op with
 | .load _ (.tmp a')=>(nF ops k a').all λa=>match get F a with
  | .hptr id _ _=>o7 id (get F a')
  | _=>true
 | _=>true
def DX (d:Nat) (op:Op):Bool:=op.operands.any λx=>match x with|.tmp t=>t==d|_=>false
def M1 (d:Nat):Op->Bool
 | .call { callee:=.builtin .append,args,.. }=>match args.toList with
  | .tmp t::r=>t==d&&r.all λx=>match x with|.tmp t=>t != d|_=>true
  | _=>false
 | _=>false
def v_ (ops:List Oper) (i:Nat):Bool:=
 match ops[i]? with
 | some o=>match o.op,o.dst with
  | .makeSlice ..,some d=>(ops.any λp=>DX d p.op)&&ops.all λp => !DX d p.op||bX p.op==.call
  | .buildSlice _ len ps,some d=>len==0&&ps.size==0&&((List.range ops.length).any λk=>match ops[k]? with|some p=>DX d p.op && !cA ops k|none=>false)&&ops.all λp => !DX d p.op||M1 d p.op
  | _,_=>false
 | none=>false
def pI (ops:List Oper):Option (Nat×Nat)->Bool
 | some (_,i)=>v_ ops i
 | none=>false
def jD (E:Env) (ops:List Oper) (place:Option (Nat×Nat)) (f:FuncId):Bool:=E.keep f&&(match place with|none=>true|some (_,i)=>cA ops i || !E.own f)
def vh (ops:List Oper) (i:Nat):Bool:=
 match ops[i]? with
 | some o=>isApp o.op&&(List.range ops.length).all λk=>match ops[k]? with
  | some p=>k==i||bX p.op==.pure||uA ops i k||bX p.op==.read||(bX p.op==.alloc&&(v_ ops k||decide (i<k)))
  | none=>true
 | none=>false
def nP (F:Frame):Op->Bool
 | .call { callee:=.builtin .append,args,.. }=>match args.toList with
  | x::_=>match ev F x with|some .ck|some .aR=>true|_=>false
  | _=>false
 | _=>false
def xx (ops:List Oper) (i b:Nat) (F:Frame) (H:ak) (op:Op):Bool:=vh ops i&&(isApp op&&nP F op&&decide (b<=H.length))
def cg (E:Env) (call:cu) (ops:List Oper) (place:Option (Nat×Nat)) (F:Frame) (H:ak) (op:Op):Option (V×ak):=
 match bX op with
 | .pure=>(aO E F op).map λv=>(v,H)
 | .read=>match place with
  | none=>(cK E F H op).map λv=>(v,H)
  | some (b,i)=>if lV ops i F op then match cK E F (H.take b) op with
   | some v=>some (v,H)
   | none=>if cA ops i then(cK E F H op).map λv=>(v,H)else none
   else none
 | .alloc=>if pI ops place then(pE E F op).map λv=>(v,H)else match dz E F op,place with
  | some (ob,m),none=>some (m.val H.length,H++[ob])
  | some (ob,m),some (b,i)=>match H[b+i]? with
   | some .free=>some (m.val (b+i),H.set (b+i) ob)
   | _=>none
  | none,_=>none
 | .loud=>match place with
  | none=>bR E F H op
  | some (b,i)=>if cA ops i||pY ops i F||xx ops i b F H op then bR E F H op else none
 | .call=>match iP F op with
  | some (.fn f,args)=>
   if jD E ops place f then
    match place with
    | none=>eH E call f args H
    | some (_,i)=>if cA ops i then eH E call f args H else none
   else match place with
    | none=>match bG call f args H with
     | some y=>some (y,if y.scalar then H else bu H (cq (bz 8 H) args))
     | none=>none
    | some (b,i)=>match bG call f args (H.take b)with
     | some y=>if y.scalar then some (y,H)else if gG (H.take b) (cq (bz 8 (H.take b)) args)then some (y,bu H (cq (bz 8 (H.take b)) args))else none
     | none=>if cA ops i then match bG call f args H with
      | some y=>some (y,if y.scalar then H else bu H (cq (bz 8 H) args))
      | none=>none
      else none
  | some (.yld id,args)=>match place with
   | none=>call (.yld id) args H
   | some (_,i)=>if cA ops i then call (.yld id) args H else none
  | none=>none
def iZ (n:Nat) (F:Frame) (dst:Option Nat) (v:V):Option Frame:=
 match dst with
 | none=>some F
 | some d=>if d<n then some (set F d v)else none
def ez (ops:List Oper) (F:Frame) (o:Oper):Bool:=
 match o.guard with
 | none=>true
 | some (j,b)=>match (ops[j]?).bind (·.dst)with
  | some d=>match get F d with
   | .bool c=>c==b
   | _=>false
  | none=>false
def eW (E:Env) (call:cu) (n:Nat) (ops:List Oper) (place:Option (Nat×Nat)) (o:Oper) (F:Frame) (H:ak):Option (Frame×ak):=
 if ez ops F o then
  match cg E call ops place F H o.op with
  | some (v,H')=>(iZ n F o.dst v).map λF'=>(F',H')
  | none=>none
 else(iZ n F o.dst .undef).map λF'=>(F',H)
def kC (E:Env) (call:cu) (n:Nat) (ops:List Oper):List Oper->Frame->ak->Option (Frame×ak)
 | [],F,H=>some (F,H)
 | o::r,F,H=>match eW E call n ops none o F H with
  | some (F',H')=>kC E call n ops r F' H'
  | none=>none
def iM (E:Env) (call:cu) (n:Nat) (ops:List Oper) (base:Nat):List Nat->Frame->ak->Option (Frame×ak)
 | [],F,H=>some (F,H)
 | i::r,F,H=>match ops[i]? with
  | some o=>match eW E call n ops (some (base,i)) o F H with
   | some (F',H')=>iM E call n ops base r F' H'
   | none=>none
  | none=>none
def tmpsOf (o:Oper) (ops:List Oper):List Nat:=
 (o.op.operands.toList.filterMap λ|.tmp t=>some t|_=>none) ++
 (match o.guard with|some (g,_)=>((ops[g]?).bind (·.dst)).toList|none=>[])
def wh (ops:List Oper) (a b:Oper):Bool:=
 (match a.dst with|some d => !(tmpsOf b ops).contains d&&b.dst != some d|none=>true) &&
 (match b.dst with|some d => !(tmpsOf a ops).contains d|none=>true)
def uu (ops:List Oper):Bool:=
 (List.range ops.length).all λj=>(List.range j).all λi=>
  match ops[i]?,ops[j]? with
  | some a,some b=>B9 b i||wh ops a b
  | _,_=>false
def xW (ops:List Oper):Bool:=
 (List.range ops.length).all λj=>match ops[j]? with
  | some o=>o.after.all λe => !jT e||decide (e.on<j)
  | none=>true
def pT (ops:List Oper):Bool:=ops.any λo=>bX o.op==.alloc
def iB (E:Env) (call:cu) (n:Nat) (ops:List Oper) (draw:Bool) (F:Frame) (H:ak):Option (Frame×ak):=
 if draw then
  if uu ops&&xW ops then
   iM E call n ops H.length (List.range ops.length) F (if pT ops then H++List.replicate ops.length .free else H)
  else none
 else kC E call n ops ops F H
def js (step:Frame->ak->Option (Out×Frame×ak)):Nat->Frame->ak->Option (Out×Frame×ak)
 | 0,_,_=>none
 | k+1,F,H=>match step F H with
  | some (.norm,F',H')=>js step k F' H'
  | r=>r
def jJ:Out->Option Code
 | .norm=>none
 | .ret=>some .ret
 | .exit id=>some (.exit id)
def exec (E:Env) (call:cu) (lf:Nat) (ro:Bool) (n:Nat):Code->Frame->ak->Option (Out×Frame×ak)
 | .skip,F,H=>some (.norm,F,H)
 | .label _,F,H=>some (.norm,F,H)
 | .region _ ops draw,F,H=>(iB E call n ops.toList draw F H).map λ(F',H')=>(.norm,F',H')
 | .seq a b,F,H=>match exec E call lf ro n a F H with
  | some (.norm,F',H')=>exec E call lf ro n b F' H'
  | r=>r
 | .cond c x y,F,H=>match ev F c with
  | some (.bool t)=>if t then exec E call lf ro n x F H else exec E call lf ro n y F H
  | _=>none
 | .block id c,F,H=>match exec E call lf ro n c F H with
  | some (.exit id',F',H')=>if id'=id then some (.norm,F',H')else some (.exit id',F',H')
  | r=>r
 | .loop c,F,H=>js (exec E call lf ro n c) lf F H
 | .rangeFunc g ps assign body,F,H=>match ro,ev F g with
  | false,some (.clo f a b)=>
   match call (.fn f) (a++.yld H.length::b) (H++[.loop ⟨.ready,none,F,n,ps.toList,assign,body⟩])with
   | some (_,H')=>match H'[H.length]? with
    | some (.loop r)=>match r.st with
     | .busy=>none
     | _=>some (r.pend.getD .norm,F,H'.set H.length .dead)
    | _=>none
   | none=>none
  | _,_=>none
 | .exit id,F,H=>some (.exit id,F,H)
 | .ret,F,H=>some (.ret,F,H)
 | _,_,_=>none
def ig (E:Env) (F:Frame) (H:ak):List ResultVar->Option (List V)
 | []=>some []
 | .tmp t::r=>(ig E F H r).map (get F t::·)
 | .cell a t::r=>match E.tt t,ig E F H r with
  | some d,some vs=>((cR H (get F a) d.size).bind (mk d.agg)).map (·::vs)
  | _,_=>none
def result:List V->V
 | [v]=>v
 | vs=>.tup vs
def uH:List Nat->List V->Frame->Frame
 | t::ts,v::vs,F=>uH ts vs (set F t v)
 | _,_,F=>F
def Fu {α:Type} [Inhabited α] (lt:α->α->Bool):Nat->Nat->Array α->Array α
 | 0,_,d=>d
 | k+1,i,d=>Fu lt k (i+1) (Sort.insInner lt 0 i d)
def It (n:Nat) (lt:Fin (n+1)->Fin (n+1)->Bool):Array (Fin (n+1)):=
 if n<12 then Fu lt n 1 (List.finRange (n+1)).toArray else Sort.pdq lt (List.finRange (n+1)).toArray 0 (n+1) (Lib.bitLen (n+1)) true true
def i_ (call:cu) (g:FuncId) (us cbs:List V) (n:Nat) (i j:Fin (n+1)):Option Int:=
 match us[i.1]?,us[j.1]? with
 | some a,some b=>match bG call g (a::b::cbs) []with
  | some (.int .i64 c)=>some c
  | _=>none
 | _,_=>none
def wj {n:Nat} (t:Fin (n+1)->Fin (n+1)->Option Int) (i j:Fin (n+1)):Bool:=decide ((t i j).getD 0<0)
def NR {n:Nat} (t:Fin (n+1)->Fin (n+1)->Option Int):Bool:=
 let l:=List.finRange (n+1)
 l.all λi => !wj t i i&&l.all λj=>(t i j).isSome&&l.all λk=>(!(wj t i j&&wj t j k)||wj t i k)&&((wj t i j||wj t j k) || !wj t i k)
def w8 (xs:List (List V)) (off n:Nat) (l:List (Fin (n+1))):List (List V):=xs.take off++l.map (λi=>(xs[off+i.1]?).getD [])++xs.drop (off+(n+1))
def rz (keep:FuncId->Bool) (call:cu) (args:List V) (H:ak):Option (V×ak):=
 match args with
 | [s,c]=>match s with
  | .aR|.ck=>some (.undef,H)
  | .hsl id es off len=>match len,c with
   | 0,_=>some (.undef,H)
   | n+1,.clo g [] cb=>match H[id]? with
    | some (.row es' xs)=>if es=1/\es'=1/\off+(n+1)<=xs.length/\n<2147483648/\keep g=false then
     match borrows 8 (H.set id .dead) ((xs.drop off).take (n+1)).flatten,borrows 8 (H.set id .dead) cb with
     | some us,some cbs=>if NR (i_ call g us cbs n)then some (.undef,H.set id (.row 1 (w8 xs off n (It n (wj (i_ call g us cbs n))).toList)))else none
     | _,_=>none
     else none
    | _=>none
   | _,_=>none
  | _=>none
 | _=>none
def run (E:Env):Nat->cu
 | 0,_,_,_=>none
 | n+1,.fn f,args,H=>match E.ft f with
  | some fi=>if args.length<=fi.ntmps then
   match exec E (run E n) n false fi.ntmps fi.body args H with
   | some (.exit _,_,_)=>none
   | some (_,F',H')=>(ig E F' H' fi.results).map λvs=>(result vs,H')
   | none=>none
   else none
  | none=>if E.sort f then rz E.keep (run E n) args H else(E.known f args).map λy=>(y,H)
 | n+1,.yld id,args,H=>match H[id]? with
  | some (.loop r)=>match r.st with
   | .ready=>if args.length=r.params.length/\r.params.all (·<r.nt)then
    match exec E (run E n) n true r.nt r.assign (uH r.params args r.frame) H with
    | some (.norm,F2,H2)=>match H2[id]? with
     | some (.loop r2)=>match r2.st with
      | .ready=>match exec E (run E n) n true r.nt r.body F2 (H2.set id (.loop { r2 with st:=.busy }))with
       | some (o,_,H4)=>match H4[id]? with
        | some (.loop r4)=>some (.bool (o==.norm),H4.set id (.loop { r4 with st:=(if o==.norm then .ready else .done),pend:=(if o==.norm then none else some o) }))
        | _=>none
       | none=>none
      | _=>none
     | _=>none
    | _=>none
    else none
   | _=>none
  | _=>none
end Go.VE
namespace Go.VE
variable [aW]
@[simp] theorem get_nil (i:Nat):get [] i=.undef:=by cases i <;> rfl
@[simp] theorem tM (F:Frame) (i:Nat) (v:V):get (set F i v) i=v:=by
 induction F generalizing i with
 | nil=>induction i with
  | zero=>rfl
  | succ i ih=>simpa [set,get]using ih
 | cons x r ih=>cases i with
  | zero=>rfl
  | succ i=>simpa [set,get]using ih i
theorem gX (F:Frame) {i j:Nat} (v:V) (h:i≠j):get (set F i v) j=get F j:=by
 induction F generalizing i j with
 | nil=>
  induction i generalizing j with
  | zero=>cases j with
   | zero=>grind
   | succ j=>simp[set,get]
  | succ i ih=>cases j with
   | zero=>simp[set,get]
   | succ j=>simpa [set,get]using ih  (by omega)
 | cons x r ih=>cases i with
  | zero=>cases j with
   | zero=>grind
   | succ j=>simp[set,get]
  | succ i=>cases j with
   | zero=>simp[set,get]
   | succ j=>simpa [set,get]using ih   (by omega)
theorem Ed (F:Frame) {i j:Nat} (u v:V) (h:i≠j):set (set F i u) j v=set (set F j v) i u:=by
 induction F generalizing i j with
 | nil=>
  induction i generalizing j with
  | zero=>cases j with
   | zero=>grind
   | succ j=>simp[set]
  | succ i ih=>cases j with
   | zero=>simp[set]
   | succ j=>simpa [set]using ih  (by omega)
 | cons x r ih=>cases i with
  | zero=>cases j with
   | zero=>grind
   | succ j=>simp[set]
  | succ i=>cases j with
   | zero=>simp[set]
   | succ j=>simpa [set]using ih   (by omega)
inductive IC where
 | cells (c:Array Value)
 | map (es:Array MapEntry)
abbrev bl:=Nat->Option IC
def IC.at (x:IC) (w:World) (b:Nat):Prop:=
 match x with
 | .cells c=>∃el fr,w.heap[b]? = some (.cells c el fr)
 | .map es=>∃clock,w.heap[b]? = some (.map es clock)
def bl.le (I I':bl):Prop:=∀b x,I b=some x->I' b=some x
theorem bl.le_refl (I:bl):bl.le I I:=λ_ _ h=>h
theorem bl.le_trans {I J K:bl} (h:bl.le I J) (h':bl.le J K):bl.le I K:=λb x e=>h' b x (h b x e)
inductive dc (I:bl):V->Value->Prop
 | bool (b:Bool):dc I (.bool b) (.bool b)
 | int (k:IntKind) (n:Int):dc I (.int k n) (.int k n)
 | str (s:ByteArray):dc I (.str s) (.string s)
 | ck (a:Option Addr):dc I .ck (.slice a 0 0)
 | aR:dc I .aR (.slice none 0 0)
 | fsl0 (es:Nat) (a:Addr) (cap:Nat):dc I (.fsl es []) (.slice (some a) 0 cap)
 | fsl (es:Nat) (xs:List (List V)) (b o cap:Nat) (c:Array Value) (hI:I b=some (.cells c)) (hc:xs.length<=cap)
  (hu:∀x∈xs,x.length=es) (ho:∀x∈xs,∀y∈x,V.one y=true) (hb:o+xs.length*es<=c.size)
  (hr:∀(i j:Nat) x y v,xs[i]? = some x->x[j]? = some y->c[o+i*es+j]? = some v->dc I y v) :
  dc I (.fsl es xs) (.slice (some ⟨b,o,none⟩) xs.length cap)
 | fI:dc I .fI (.pointer none)
 | fptr (cs:List V) (b o:Nat) (c:Array Value) (hI:I b=some (.cells c)) (hb:o+cs.length<=c.size)
  (hr:∀(j:Nat) y v,cs[j]? = some y->c[o+j]? = some v->dc I y v):dc I (.fptr cs) (.pointer (some ⟨b,o,none⟩))
 | clo (f:FuncId) (x y:List V) (u v:Array Value) (hx:x.length=u.size) (hy:y.length=v.size)
  (h1:∀(j:Nat) a b,x[j]? = some a->u[j]? = some b->dc I a b) (h2:∀(j:Nat) a b,y[j]? = some a->v[j]? = some b->dc I a b) :
  dc I (.clo f x y) (.func (.func f) u v)
 | eX:dc I .eX (.map none)
 | ql:dc I .ql .nilFunc
 | fmap (kvs:List (V×V)) (b:Nat) (es:Array MapEntry) (hI:I b=some (.map es)) (hl:kvs.length=es.size)
  (hk:∀(j:Nat) p e,kvs[j]? = some p->es[j]? = some e->dc I p.1 e.key)
  (hv:∀(j:Nat) p e,kvs[j]? = some p->es[j]? = some e->dc I p.2 e.val):dc I (.fmap kvs) (.map (some b))
 | agg (cs:List V) (vs:Array Value) (hl:cs.length=vs.size) (h:∀(j:Nat) a b,cs[j]? = some a->vs[j]? = some b->dc I a b) :
  dc I (.agg cs) (.agg vs)
 | tup (cs:List V) (vs:Array Value) (hl:cs.length=vs.size) (h:∀(j:Nat) a b,cs[j]? = some a->vs[j]? = some b->dc I a b) :
  dc I (.tup cs) (.tuple vs)
structure Pl where
 b:Nat
 o:Nat
 es:Nat
 sz:Nat
abbrev Mu:=Nat->Option Pl
inductive aJ (I:bl) (μ:Mu):V->Value->Prop
 | c (x:V) (v:Value) (h:dc I x v):aJ I μ x v
 | hsl (id off len cap:Nat) (p:Pl) (hm:μ id=some p) (hc:len<=cap) (hb:p.o+(off+cap)*p.es<=p.sz) :
  aJ I μ (.hsl id p.es off len) (.slice (some ⟨p.b,p.o+off*p.es,none⟩) len cap)
 | hsl0 (id es off:Nat) (a:Addr):aJ I μ (.hsl id es off 0) (.slice (some a) 0 0)
 | hptr (id el off:Nat) (p:Pl) (hm:μ id=some p):aJ I μ (.hptr id el off) (.pointer (some ⟨p.b,p.o+el*p.es+off,none⟩))
 | yld (id:Nat) (p:Pl) (hm:μ id=some p):aJ I μ (.yld id) (.func (.yield p.b) #[] #[])
 | hmap (id:Nat) (p:Pl) (hm:μ id=some p):aJ I μ (.hmap id) (.map (some p.b))
 | clo (f:FuncId) (x y:List V) (u v:Array Value) (hx:x.length=u.size) (hy:y.length=v.size)
  (h1:∀(j:Nat) a b,x[j]? = some a->u[j]? = some b->aJ I μ a b) (h2:∀(j:Nat) a b,y[j]? = some a->v[j]? = some b->aJ I μ a b) :
  aJ I μ (.clo f x y) (.func (.func f) u v)
 | agg (cs:List V) (vs:Array Value) (hl:cs.length=vs.size) (h:∀(j:Nat) a b,cs[j]? = some a->vs[j]? = some b->aJ I μ a b) :
  aJ I μ (.agg cs) (.agg vs)
 | tup (cs:List V) (vs:Array Value) (hl:cs.length=vs.size) (h:∀(j:Nat) a b,cs[j]? = some a->vs[j]? = some b->aJ I μ a b) :
  aJ I μ (.tup cs) (.tuple vs)
def Mu.le (μ μ':Mu):Prop:=∀id p,μ id=some p->μ' id=some p
theorem Mu.le_refl (μ:Mu):Mu.le μ μ:=λ_ _ h=>h
theorem dc.mono {I I':bl} (h:bl.le I I') {x:V} {v:Value} (r:dc I x v):dc I' x v:=by
 induction r with
 | bool b=>exact .bool b
 | int k n=>exact .int k n
 | str s=>exact .str s
 | ck a=>exact .ck a
 | aR=>exact .aR
 | fsl0 es a cap=>exact .fsl0 es a cap
 | fsl es xs b o cap c hI hc hu ho hb _ ih=>exact .fsl es xs b o cap c (h _ _ hI) hc hu ho hb ih
 | fI=>exact .fI
 | fptr cs b o c hI hb _ ih=>exact .fptr cs b o c (h _ _ hI) hb ih
 | clo f x y u v hx hy _ _ ih1 ih2=>exact .clo f x y u v hx hy ih1 ih2
 | eX=>exact .eX
 | ql=>exact .ql
 | fmap kvs b es hI hl _ _ ih1 ih2=>exact .fmap kvs b es (h _ _ hI) hl ih1 ih2
 | agg cs vs hl _ ih=>exact .agg cs vs hl ih
 | tup cs vs hl _ ih=>exact .tup cs vs hl ih
theorem aJ.mono {I I':bl} {μ μ':Mu} (h:bl.le I I') (hm:Mu.le μ μ') {x:V} {v:Value} (r:aJ I μ x v):aJ I' μ' x v:=by
 induction r with
 | c x v r=>exact .c _ _ (r.mono h)
 | hsl id off len cap p hp hc hb=>exact .hsl id off len cap p (hm _ _ hp) hc hb
 | hsl0 id es off a=>exact .hsl0 id es off a
 | hptr id el off p hp=>exact .hptr id el off p (hm _ _ hp)
 | yld id p hp=>exact .yld id p (hm _ _ hp)
 | hmap id p hp=>exact .hmap id p (hm _ _ hp)
 | clo f x y u v hx hy _ _ ih1 ih2=>exact .clo f x y u v hx hy ih1 ih2
 | agg cs vs hl _ ih=>exact .agg cs vs hl ih
 | tup cs vs hl _ ih=>exact .tup cs vs hl ih
def bF (I:bl) (μ:Mu) (xs:List V) (vs:List Value):Prop:=
 xs.length=vs.length/\∀(j:Nat) a b,xs[j]? = some a->vs[j]? = some b->aJ I μ a b
theorem bF.nil {I:bl} {μ:Mu}:bF I μ [] []:=⟨rfl,by simp⟩
theorem bF.cons {I:bl} {μ:Mu} {x:V} {v:Value} {xs:List V} {vs:List Value} (h:aJ I μ x v) (r:bF I μ xs vs):bF I μ (x::xs) (v::vs):=by
 refine⟨by simp[r.1],?_⟩
 intro j a b h1 h2
 cases j with
 | zero=>grind
 | succ j=>exact r.2 j a b (by grind) (by grind)
theorem bF.cons_inv {I:bl} {μ:Mu} {x:V} {xs:List V} {ws:List Value} (r:bF I μ (x::xs) ws):∃v vs,ws=v::vs/\aJ I μ x v/\bF I μ xs vs:=by
 obtain⟨hl,h⟩:=r
 cases ws with
 | nil=>simp_all
 | cons v vs=>
  refine⟨v,vs,rfl,h 0 x v (by simp) (by simp),by grind,?_⟩
  intro j a b h1 h2;exact h (j+1) a b (by grind) (by grind)
theorem bF.tZ {I:bl} {μ:Mu} {ws:List Value} (r:bF I μ [] ws):ws=[]:=by
 have:=r.1;grind
theorem bF.append {I:bl} {μ:Mu} {xs ys:List V} {us vs:List Value} (h:bF I μ xs us) (h':bF I μ ys vs):bF I μ (xs++ys) (us++vs):=by
 induction xs generalizing us with
 | nil=>rw[bF.tZ h];exact h'
 | cons x xs ih=>
  obtain⟨v,us,rfl,hv,hr⟩:=h.cons_inv;exact .cons hv (ih hr)
theorem bF.mono {I I':bl} {μ μ':Mu} (h:bl.le I I') (hm:Mu.le μ μ') {xs:List V} {vs:List Value} (r:bF I μ xs vs):bF I' μ' xs vs:=
 ⟨r.1,λj a b h1 h2=>(r.2 j a b h1 h2).mono h hm⟩
theorem bF.take {I:bl} {μ:Mu} {xs:List V} {vs:List Value} (r:bF I μ xs vs) (n:Nat):bF I μ (xs.take n) (vs.take n):=by
 refine⟨by simp[r.1],λj a b h1 h2=>?_⟩
 rw[List.getElem?_take]at h1 h2;split at h1 <;> simp_all;exact r.2 j a b h1 h2
theorem bF.drop {I:bl} {μ:Mu} {xs:List V} {vs:List Value} (r:bF I μ xs vs) (n:Nat):bF I μ (xs.drop n) (vs.drop n):=by
 refine⟨by simp[r.1],λj a b h1 h2=>?_⟩
 rw[List.getElem?_drop]at h1 h2;exact r.2 _ a b h1 h2
theorem aJ.cells {I:bl} {μ:Mu} {x:V} {v:Value} (r:aJ I μ x v):bF I μ x.cells v.cells.toList:=by
 cases r with
 | c x v h=>
  cases h with
  | agg cs vs hl h=>exact⟨by simpa [V.cells,Value.cells]using hl,λj a b h1 h2=>.c _ _ (h j a b h1 (by simpa [Value.cells]using h2))⟩
  | bool b=>exact .cons (.c _ _ (.bool b)) .nil
  | int k n=>exact .cons (.c _ _ (.int k n)) .nil
  | str s=>exact .cons (.c _ _ (.str s)) .nil
  | ck a=>exact .cons (.c _ _ (.ck a)) .nil
  | aR=>exact .cons (.c _ _ .aR) .nil
  | fsl0 es a cap=>exact .cons (.c _ _ (.fsl0 es a cap)) .nil
  | fsl es xs b o cap c hI hc hu ho hb hr=>exact .cons (.c _ _ (.fsl es xs b o cap c hI hc hu ho hb hr)) .nil
  | fI=>exact .cons (.c _ _ .fI) .nil
  | fptr cs b o c hI hb hr=>exact .cons (.c _ _ (.fptr cs b o c hI hb hr)) .nil
  | clo f x y u v hx hy h1 h2=>exact .cons (.c _ _ (.clo f x y u v hx hy h1 h2)) .nil
  | eX=>exact .cons (.c _ _ .eX) .nil
  | ql=>exact .cons (.c _ _ .ql) .nil
  | fmap kvs b es hI hl hk hv=>exact .cons (.c _ _ (.fmap kvs b es hI hl hk hv)) .nil
  | tup cs vs hl h=>exact .cons (.c _ _ (.tup cs vs hl h)) .nil
 | hsl id off len cap p hm hc hb=>exact .cons (.hsl id off len cap p hm hc hb) .nil
 | hsl0 id es off a=>exact .cons (.hsl0 id es off a) .nil
 | hptr id el off p hm=>exact .cons (.hptr id el off p hm) .nil
 | yld id p hm=>exact .cons (.yld id p hm) .nil
 | hmap id p hm=>exact .cons (.hmap id p hm) .nil
 | clo f x y u v hx hy h1 h2=>exact .cons (.clo f x y u v hx hy h1 h2) .nil
 | agg cs vs hl h=>exact⟨by simpa [V.cells,Value.cells]using hl,λj a b h1 h2=>h j a b h1 (by simpa [Value.cells]using h2)⟩
 | tup cs vs hl h=>exact .cons (.tup cs vs hl h) .nil
theorem aJ.DT {I:bl} {μ:Mu} {cs:List V} {vs:Array Value} (h:bF I μ cs vs.toList):aJ I μ (.agg cs) (.agg vs):=
 .agg cs vs (by simpa using h.1) λj a b h1 h2=>h.2 j a b h1 (by grind)
theorem aJ.NJ {I:bl} {μ:Mu} {cs:List V} {vs:Array Value} (h:bF I μ cs vs.toList):aJ I μ (.tup cs) (.tuple vs):=
 .tup cs vs (by simpa using h.1) λj a b h1 h2=>h.2 j a b h1 (by grind)
section inv
variable {I:bl} {μ:Mu}
theorem aJ.pX {b:Bool} {v:Value} (h:aJ I μ (.bool b) v):v=.bool b:=by cases h with|c _ _ h=>cases h;rfl
theorem aJ.ey {k:IntKind} {n:Int} {v:Value} (h:aJ I μ (.int k n) v):v=.int k n:=by cases h with|c _ _ h=>cases h;rfl
theorem aJ.rj {s:ByteArray} {v:Value} (h:aJ I μ (.str s) v):v=.string s:=by cases h with|c _ _ h=>cases h;rfl
theorem aJ.qC {v:Value} (h:aJ I μ .ck v):∃a,v=.slice a 0 0:=by cases h with|c _ _ h=>cases h;grind
theorem aJ.kB {es:Nat} {xs:List (List V)} {v:Value} (h:aJ I μ (.fsl es xs) v):dc I (.fsl es xs) v:=by cases h with|c _ _ h=>omega
theorem aJ.kG {cs:List V} {v:Value} (h:aJ I μ (.fptr cs) v):∃b o c,v=.pointer (some ⟨b,o,none⟩)/\I b=some (.cells c)/\o+cs.length<=c.size /\
 (∀(j:Nat) y u,cs[j]? = some y->c[o+j]? = some u->dc I y u):=by
 cases h with|c _ _ h=>cases h with|fptr cs b o c hI hb hr=>grind
theorem aJ.kq {v:Value} (h:aJ I μ .aR v):v=.slice none 0 0:=by cases h with|c _ _ h=>cases h;rfl
theorem aJ.LQ {v:Value} (h:aJ I μ .eX v):v=.map none:=by cases h with|c _ _ h=>cases h;rfl
theorem aJ.rJ {id el off:Nat} {v:Value} (h:aJ I μ (.hptr id el off) v):∃p,μ id=some p/\v=.pointer (some ⟨p.b,p.o+el*p.es+off,none⟩):=by
 cases h with
 | c _ _ h=>cases h
 | hptr _ _ _ p hm=>grind
theorem aJ.PF {id:Nat} {v:Value} (h:aJ I μ (.yld id) v):∃p,μ id=some p/\v=.func (.yield p.b) #[] #[]:=by
 cases h with
 | c _ _ h=>cases h
 | yld _ p hm=>grind
theorem aJ.Aw {id:Nat} {v:Value} (h:aJ I μ (.hmap id) v):∃p,μ id=some p/\v=.map (some p.b):=by
 cases h with
 | c _ _ h=>cases h
 | hmap _ p hm=>grind
theorem aJ.kr {id es off len:Nat} {v:Value} (h:aJ I μ (.hsl id es off len) v) :
 (∃p cap,μ id=some p/\p.es=es/\len<=cap/\p.o+(off+cap)*es<=p.sz/\v=.slice (some ⟨p.b,p.o+off*es,none⟩) len cap)\/(len=0/\∃a,v=.slice (some a) 0 0):=by
 cases h with
 | c _ _ h=>cases h
 | hsl _ _ _ cap p hm hc hb=>simp_all
 | hsl0 _ _ _ a=>grind
theorem aJ.gq {cs:List V} {v:Value} (h:aJ I μ (.agg cs) v):∃vs,v=.agg vs/\bF I μ cs vs.toList:=by
 cases h with
 | c _ _ h=>cases h with|agg _ vs hl h=>exact⟨vs,rfl,by grind,λj a b h1 h2=>.c _ _ (h j a b h1 (by grind))⟩
 | agg _ vs hl h=>exact⟨vs,rfl,by grind,λj a b h1 h2=>h j a b h1 (by grind)⟩
theorem aJ.oP {cs:List V} {v:Value} (h:aJ I μ (.tup cs) v):∃vs,v=.tuple vs/\bF I μ cs vs.toList:=by
 cases h with
 | c _ _ h=>cases h with|tup _ vs hl h=>exact⟨vs,rfl,by grind,λj a b h1 h2=>.c _ _ (h j a b h1 (by grind))⟩
 | tup _ vs hl h=>exact⟨vs,rfl,by grind,λj a b h1 h2=>h j a b h1 (by grind)⟩
theorem aJ.jL {f:FuncId} {x y:List V} {v:Value} (h:aJ I μ (.clo f x y) v):∃a b,v=.func (.func f) a b/\bF I μ x a.toList/\bF I μ y b.toList:=by
 cases h with
 | c _ _ h=>cases h with
  | clo _ _ _ u v hx hy h1 h2=>exact⟨u,v,rfl,⟨by grind,λj a b p q=>.c _ _ (h1 j a b p (by grind))⟩,⟨by grind,λj a b p q=>.c _ _ (h2 j a b p (by grind))⟩⟩
 | clo _ _ _ u v hx hy h1 h2=>exact⟨u,v,rfl,⟨by grind,λj a b p q=>h1 j a b p (by grind)⟩,⟨by grind,λj a b p q=>h2 j a b p (by grind)⟩⟩
theorem aJ.of_bool {x:V} {b:Bool} (h:aJ I μ x (.bool b)):x=.bool b:=by
 cases h with|c _ _ h=>cases h;rfl
end inv
def tR (I:bl):Prop:=∀g cs,aW.gl g=some cs->dc I (.fptr cs) (.pointer (some ⟨g,0,none⟩))
theorem tR.mono {I I':bl} (h:bl.le I I') (r:tR I):tR I':=λg cs hg=>(r g cs hg).mono h
structure cZ (I:bl) (μ:Mu) (n:Nat) (F:Frame) (tmps:Array Value):Prop where
 size:tmps.size=n
 rel:∀t,aJ I μ (get F t) (tmps.getD t undef)
 gl:tR I
theorem aJ.undef (I:bl) (μ:Mu):aJ I μ .undef Go.undef:=.c _ _ (.tup [] #[] rfl (by simp))
theorem cZ.mono {I I':bl} {μ μ':Mu} {n:Nat} {F:Frame} {tmps:Array Value} (h:bl.le I I') (hm:Mu.le μ μ') (r:cZ I μ n F tmps):cZ I' μ' n F tmps:=
 ⟨r.1,λt=>(r.2 t).mono h hm,r.gl.mono h⟩
theorem cZ.put {I:bl} {μ:Mu} {n:Nat} {F F':Frame} {a:Act} {dst:Option Nat} {x:V} {v:Value} (r:cZ I μ n F a.tmps) (h:aJ I μ x v)
 (hp:iZ n F dst x=some F'):cZ I μ n F' (a.put dst v).tmps:=by
 cases dst with
 | none=>simp[iZ]at hp;subst hp;exact r
 | some d=>
  simp only[iZ]at hp;split at hp
  .simp  at hp;subst hp;refine⟨by simp[Act.put,r.1],λt=>?_,r.gl⟩
   by_cases hdt:d=t
   .subst hdt;have:d<a.tmps.size:=by rw[r.1];omega
    simpa [Act.put,Array.getD_eq_getD_getElem?,Array.getElem?_setIfInBounds,this]using h
   .have:=r.2 t;rw[gX _ _ hdt];simpa [Act.put,Array.getD_eq_getD_getElem?,Array.getElem?_setIfInBounds,hdt]using this
  grind
theorem zU {I:bl}:∀(n:Nat) (v:Value) (x:V),ofValue n v=some x->dc I x v:=by
 intro n
 induction n with
 | zero=>intro v x h;simp[ofValue]at h
 | succ n ih=>
  intro v x h;unfold ofValue at h;split at h <;> (try (simp  at h;subst h;constructor)) <;> (try grind)
  simp  at h;obtain⟨xs,hm,rfl⟩:=h;have key:∀(l:List Value) (ys:List V),l.mapM (ofValue n)=some ys->ys.length=l.length/\∀(j:Nat) a b,ys[j]? = some a->l[j]? = some b->dc I a b:=by
   intro l
   induction l with
   | nil=>grind
   | cons v l ihl=>
    intro ys h;simp[ζg]at h
    grind
  obtain⟨hl,hr⟩:=key _ _ hm;exact .agg _ _ (by grind) λj a b h1 h2=>hr j a b h1 (by grind)
theorem cm {I:bl} {μ:Mu} {n:Nat} {F:Frame} {a:Act} (r:cZ I μ n F a.tmps) {o:Operand} {x:V} (h:ev F o=some x):aJ I μ x (a.eval o):=by
 cases o with
 | tmp t=>simp[ev]at h;subst h;exact r.2 t
 | const v=>exact .c _ _ (zU 4 _ _ h)
 | func f=>simp[ev]at h;subst h;exact .c _ _ (.clo f [] [] #[] #[] rfl rfl (by simp) (by simp))
 | global g=>
  obtain⟨cs,h1,rfl⟩:=ζf.1 h;exact .c _ _ (r.gl g cs h1)
theorem mh {I:bl} {μ:Mu} {n:Nat} {F:Frame} {a:Act} (r:cZ I μ n F a.tmps):∀{l:List Operand} {xs:List V},d_ F l=some xs->bF I μ xs (l.map a.eval):=by
 intro l
 induction l with
 | nil=>intro xs h;simp[d_]at h;subst h;exact .nil
 | cons o l ih=>
  intro xs h;simp[d_]at h;split at h
  .rename_i v vs h1 h2;simp  at h;subst h;exact .cons (cm r h1) (ih h2)
  grind
theorem IT {I:bl} {μ:Mu} {n:Nat} {F:Frame} {a:Act} (r:cZ I μ n F a.tmps):∀{l:List (Nat×Operand)} {xs:List (Nat×V)},kJ F l=some xs ->
 xs.length=l.length/\∀(j:Nat) x y,xs[j]? = some x->l[j]? = some y->x.1=y.1/\aJ I μ x.2 (a.eval y.2):=by
 intro l
 induction l with
 | nil=>intro xs h;simp[kJ]at h;grind
 | cons o l ih=>
  intro xs h;simp[kJ]at h;split at h
  .rename_i v vs h1 h2;simp  at h;subst h;obtain⟨hl,hr⟩:=ih h2;refine⟨by simp[hl],λj x y h1' h2'=>?_⟩
   cases j with
   | zero=>simp at h1' h2';subst h1';subst h2';exact⟨rfl,cm r h1⟩
   | succ j=>grind
  grind
end Go.VE
namespace Go.VE
variable [aW]
def kN:TypeDesc->TK
 | .bool=>.bool
 | .int k=>.int k
 | .string=>.str
 | .pointer e=>.ptr e
 | .slice e=>.slice e
 | .struct fs=>.struct (fs.toList.map λf=>(f.offset,f.type))
 | .array n e=>.array n e
 | .map k e=>.map k e
 | _=>.other
def Bw:Value->Bool
 | .agg _=>true
 | _=>false
def ri (P:Program) (t:TypeId):Option TD:=
 match P.info? t,P.underlying t with
 | some i,some d=>match i.zero with
  | some z=>match z.cells.toList.mapM (ofValue 4)with
   | some cs=>if cs.length=i.size/\cs.all V.one=true/\Bw z=(TD.mk i.size i.bytes cs (kN d)).agg then some ⟨i.size,i.bytes,cs,kN d⟩else none
   | none=>none
  | none=>none
 | _,_=>none
def ic (a:List Int):Array Value:=(a.map (Value.int .i64)).toArray
structure rY (P:Program) (t:TypeId) (n:Nat):Prop where
 eq:∀(w:World) (x y:Operand) (a b:List Int),a.length=n->b.length=n ->
  (do eqGuard .eql t x y (.agg (ic a)) (.agg (ic b));binOp .eql t (.agg (ic a)) (.agg (ic b))).run P w=.ok (.bool (a==b)) w
 ne:∀(w:World) (x y:Operand) (a b:List Int),a.length=n->b.length=n ->
  (do eqGuard .neq t x y (.agg (ic a)) (.agg (ic b));binOp .neq t (.agg (ic a)) (.agg (ic b))).run P w=.ok (.bool !(a==b)) w
 key:∀(w:World) (a b:List Int),a.length=n->b.length=n->(Op.equal t (.agg (ic a)) (.agg (ic b))).run P w=.ok (a==b) w
 check:∀(w:World) (e:Bool) (a:List Int),a.length=n->(Instr.checkKey e 10000 t (.agg (ic a))).run P w=.ok () w
 kind:∃d,P.underlying t=some d/\((∃n e,d=.array n e)\/(∃fs,d=.struct fs))
structure dh (P:Program) (E:Env):Prop where
 tt:∀t d,E.tt t=some d->ri P t=some d
 ft:∀f fi,E.ft f=some fi->∃fn,P.funcs[f]? = some fn/\fn.body=some fi.body/\fn.ntmps=fi.ntmps/\fn.results.toList=fi.results/\(fn.name == "runtime.NumGoroutine")=false
 eqN:∀t n,E.eqN t=some n->rY P t n
structure mD (P:Program) (t:TypeId) (d:TD):Prop where
 info:∃i z,P.info? t=some i/\i.size=d.size/\i.bytes=d.bytes/\i.zero=some z/\(∀I μ,bF I μ d.zero z.cells.toList)/\d.zero.length=d.size/\d.zero.all V.one=true/\Bw z=d.agg
 und:∃desc,P.underlying t=some desc/\kN desc=d.kind
theorem MP {I:bl} {μ:Mu}:∀(l:List Value) (ys:List V),l.mapM (ofValue 4)=some ys->bF I μ ys l:=by
 intro l
 induction l with
 | nil=>intro ys h;simp at h;subst h;exact .nil
 | cons v l ihl=>
  intro ys h;simp only[List.mapM_cons,Option.pure_def,Option.bind_eq_bind,ζg,ζa]at h;obtain⟨y,hy,zs,hz,rfl⟩:=h;exact .cons (.c _ _ (zU 4 _ _ hy)) (ihl zs hz)
theorem dh.ty {P:Program} {E:Env} (h:dh P E) {t:TypeId} {d:TD} (ht:E.tt t=some d):mD P t d:=by
 have:=h.tt t d ht;unfold ri at this;split at this
 .rename_i i desc hi hd;split at this
  .rename_i z hz;split at this
   .rename_i cs hc;split at this
    .rename_i hl;simp only[ζa]at this;subst this;exact⟨⟨i,z,hi,rfl,rfl,hz,λI μ=>MP _ _ hc,hl⟩,⟨desc,hd,rfl⟩⟩
    .simp at this
   .simp at this
  .simp at this
 .simp at this
section runs
variable {P:Program} {w:World} {t:TypeId} {d:TD}
theorem ct {desc:TypeDesc} (h:P.underlying t=some desc):(underlying t).run P w=.ok desc w:=by simp[underlying,h]
theorem mT {i:TypeInfo} (h:P.info? t=some i):(typeInfo t).run P w=.ok i w:=by simp[typeInfo,h]
theorem mD.gn (h:mD P t d):(sizeOf t).run P w=.ok d.size w:=by
 obtain⟨i,z,hi,hs,_⟩:=h.info;simp[sizeOf,mT hi,hs]
theorem mD.ct (h:mD P t d):∃desc,P.underlying t=some desc/\kN desc=d.kind/\∀w,(underlying t).run P w=.ok desc w:=by
 obtain⟨desc,h1,h2⟩:=h.und;exact⟨desc,h1,h2,λw=>VE.ct h1⟩
theorem mD.Bh (h:mD P t d):(isAgg t).run P w=.ok d.agg w:=by
 obtain⟨desc,h1,h2⟩:=h.und;unfold isAgg;simp only[Sem.run_bind,VE.ct h1,Result.andThen_ok];cases desc <;> simp[TD.agg,<-h2,kN]
theorem mD.yh (h:mD P t d):∃z,(∀w,(zeroValue t).run P w=.ok z w)/\(∀I μ,bF I μ d.zero z.cells.toList)/\d.zero.length=d.size/\d.zero.all V.one=true:=by
 obtain⟨i,z,hi,_,_,hz,hr,hl,h1,_⟩:=h.info;exact⟨z,λw=>by simp[zeroValue,mT hi,hz],hr,hl,h1⟩
end runs
theorem mD.Pa {P:Program} {t:TypeId} {d:TD} (h:mD P t d):∃z,(∀w,(zeroValue t).run P w=.ok z w)/\∀I μ x,VE.mk d.agg d.zero=some x->aJ I μ x z:=by
 obtain⟨i,z,hi,_,_,hz,hr,hl,h1,hagg⟩:=h.info;refine⟨z,λw=>by simp[zeroValue,mT hi,hz],λI μ x hx=>?_⟩
 have hrel:=hr I μ
 cases hd:d.agg with
 | true=>
  rw[hd]at hx hagg;cases z <;> simp[Bw]at hagg;simp only[VE.mk,if_true,ζa]at hx;subst hx;exact .DT (by simpa [Value.cells]using hrel)
 | false=>
  rw[hd]at hx hagg;simp only[VE.mk,Bool.false_eq_true,if_false]at hx;split at hx
  .rename_i v hv;simp only[ζa]at hx;subst hx;rw[hv]at hrel;have e:z.cells.toList=[z]:=by cases z <;> first|rfl|simp[Bw]at hagg
   rw[e]at hrel;exact hrel.2 0 _ _ rfl rfl
  .simp at hx
theorem dR {E:Env} {t:TypeId} {k:TK} (h:E.cz t=some k):∃d,E.tt t=some d/\d.kind=k:=by
 unfold Env.cz at h;simpa [ζf]using h
theorem Fy {d:TypeDesc} {k:IntKind} (h:kN d=.int k):d=.int k:=by cases d <;> simp_all [kN]
theorem Ho {d:TypeDesc} (h:kN d=.bool):d=.bool:=by cases d <;> simp_all [kN]
theorem BF {d:TypeDesc} (h:kN d=.str):d=.string:=by cases d <;> simp_all [kN]
theorem iO {d:TypeDesc} {e:TypeId} (h:kN d=.slice e):d=.slice e:=by cases d <;> simp_all [kN]
theorem An {d:TypeDesc} {n:Nat} {e:TypeId} (h:kN d=.array n e):d=.array n e:=by cases d <;> simp_all [kN]
theorem yq {d:TypeDesc} {k e:TypeId} (h:kN d=.map k e):d=.map k e:=by cases d <;> simp_all [kN]
theorem yw {d:TypeDesc} {fs:List (Nat×TypeId)} (h:kN d=.struct fs):∃fl,d=.struct fl/\fs=fl.toList.map λf=>(f.offset,f.type):=by
 cases d <;> simp_all [kN]
theorem zy {I:bl} {μ:Mu} {cs r:List V} {vs:List Value} {off n:Nat} (h:bF I μ cs vs) (hc:cut cs off n=some r) :
 bF I μ r ((vs.drop off).take n)/\r.length=n/\off+n<=cs.length\/(n=0/\r=[]):=by
 unfold cut at hc;simp only at hc;split at hc
 .rename_i hl;simp only[ζa]at hc;subst hc
  by_cases hn:n=0
  .right;subst hn;simp
  .left;refine⟨(h.drop off).take n,hl,?_⟩;simp at hl;omega
 .simp at hc
theorem Kj {I:bl} {μ:Mu} {cs:List V} {x:V} {vs:Array Value} (h:mk true cs=some x) (r:bF I μ cs vs.toList):aJ I μ x (.agg vs):=by
 simp only[mk,if_true,ζa]at h;subst h;exact .DT r
theorem mk_one {I:bl} {μ:Mu} {cs:List V} {x:V} {vs:List Value} (h:mk false cs=some x) (r:bF I μ cs vs):∃v,vs=[v]/\aJ I μ x v:=by
 simp only[mk,Bool.false_eq_true,if_false]at h;split at h
 .simp only[ζa]at h;subst h;obtain⟨v,vs',rfl,hv,hr⟩:=r.cons_inv;exact⟨v,by rw[hr.tZ],hv⟩
 .simp at h
theorem D1 {P:Program} {w:World} {I:bl} {μ:Mu} {t:TypeId} {d:TD} {cs r:List V} {vs:Array Value} {x:V} {off:Nat} (ht:mD P t d) (h:bF I μ cs vs.toList)
 (hc:cut cs off d.size=some r) (hm:mk d.agg r=some x):∃u,(part t vs off).run P w=.ok u w/\aJ I μ x u:=by
 unfold part;simp only[Sem.run_bind,ht.Bh,Result.andThen_ok]
 cases hagg:d.agg with
 | true=>
  rw[hagg]at hm;refine⟨.agg (vs.extract off (off+d.size)),by simp[ht.gn],?_⟩
  refine Kj hm ?_;have e:(vs.extract off (off+d.size)).toList=(vs.toList.drop off).take d.size:=by simp
  rw[e];rcases zy h hc with⟨a,_⟩|⟨h0,rfl⟩
  .exact a
  .rw[h0];exact .nil
 | false=>
  rw[hagg]at hm;rcases zy h hc with⟨a,hl,_⟩|⟨h0,rfl⟩
  .obtain⟨v,hv,hx⟩:=mk_one hm a;refine⟨v,?_,hx⟩;have hd:d.size=1:=by
    have:=a.1;rw[hv]at this;simp at this;omega
   rw[hd]at hv;have:vs[off]? = some v:=by
    have:=congrArg (·[0]?) hv;simpa [List.getElem?_take,List.getElem?_drop]using this
   simp[this]
  .simp[mk]at hm
theorem Ig {I:bl} {μ:Mu}:∀(az:List V) (a:List Int) (va:List Value),gj az=some a->bF I μ az va->va=a.map (Value.int .i64)/\a.length=az.length:=by
 intro az
 induction az with
 | nil=>intro a va h ha;simp only[gj,ζa]at h;subst h;rw[ha.tZ];simp
 | cons x az ih=>
  intro a va h ha;obtain⟨v,va,rfl,hv,hr⟩:=ha.cons_inv;have hx:∃y,x=.int .i64 y:=by
   cases x with
   | int k y=>cases k <;> simp[gj]at h ⊢
   | _=>simp[gj]at h
  obtain⟨y,rfl⟩:=hx;simp only[gj,ζf]at h;obtain⟨b,hb,rfl⟩:=h;obtain⟨g1,g2⟩:=ih _ _ hb hr;have:=hv.ey;subst this;exact⟨by simp[g1],by simp[g2]⟩
theorem oO {I:bl} {μ:Mu} {az:List V} {a:List Int} {va:Array Value} (h:gj az=some a) (ha:bF I μ az va.toList):va=ic a/\a.length=az.length:=by
 obtain⟨h1,h2⟩:=Ig _ _ _ h ha;refine⟨?_,h2⟩;have:=congrArg List.toArray h1;simpa [ic]using this
theorem vw {az bs:List V} {r:Bool} (h:jx az bs=some r):∃a b,gj az=some a/\gj bs=some b/\a.length=b.length/\r=(a==b):=by
 unfold jx at h;split at h
 .rename_i a b h1 h2;split at h
  .rename_i hl;simp only[ζa]at h;exact⟨a,b,h1,h2,hl,h.symm⟩
  .simp at h
 .simp at h
end Go.VE
namespace Go.VE
variable [aW]
section
variable {P:Program} {E:Env} {I:bl} {μ:Mu} {n:Nat} {F:Frame} {a:Act} {w:World}
theorem Jx (f:BinOp) (t:TypeId) (p q:Operand) (k k':IntKind) (m m':Int):(eqGuard f t p q (.int k m) (.int k' m')).run P w=.ok () w:=by
 unfold eqGuard;cases f <;> simp
theorem KD (f:BinOp) (t:TypeId) (p q:Operand) (s s':ByteArray):(eqGuard f t p q (.string s) (.string s')).run P w=.ok () w:=by
 unfold eqGuard;cases f <;> simp
theorem HM (f:BinOp) (t:TypeId) (p q:Operand) (s s':Bool):(eqGuard f t p q (.bool s) (.bool s')).run P w=.ok () w:=by
 unfold eqGuard;cases f <;> simp
theorem EO (d:Nat) {t:TypeId} (x y:Bool) (h:P.underlying t=some .bool):(Op.equalIn (d+1) t (.bool x) (.bool y)).run P w=.ok (x==y) w:=by
 simp only[Op.equalIn,Sem.run_bind,ct h,Result.andThen_ok,Sem.run_pure]
theorem A3 {t:TypeId} (x y:Bool) (h:P.underlying t=some .bool):(Op.equal t (.bool x) (.bool y)).run P w=.ok (x==y) w:=
 EO 9999 x y h
theorem zG (d:Nat) {t:TypeId} {k:IntKind} (x y:Int) (h:P.underlying t=some (.int k)):(Op.equalIn (d+1) t (.int k x) (.int k y)).run P w=.ok (x==y) w:=by
 simp only[Op.equalIn,Sem.run_bind,ct h,Result.andThen_ok,Sem.run_pure,if_true]
theorem Dz (d:Nat) {t e:TypeId} (ad:Option Addr) (l c:Nat) (h:P.underlying t=some (.slice e)):(Op.equalIn (d+1) t (.slice ad l c) (.slice none 0 0)).run P w=.ok ad.isNone w:=by
 cases ad <;> simp only[Op.equalIn,Sem.run_bind,ct h,Result.andThen_ok,Sem.run_pure] <;> rfl
theorem FY (d:Nat) {t e:TypeId} (ad:Option Addr) (h:P.underlying t=some (.pointer e)):(Op.equalIn (d+1) t (.pointer ad) (.pointer none)).run P w=.ok ad.isNone w:=by
 cases ad <;> simp only[Op.equalIn,Sem.run_bind,ct h,Result.andThen_ok,Sem.run_pure] <;> rfl
theorem FX (d:Nat) {t e e':TypeId} (ad:Option Nat) (h:P.underlying t=some (.map e e')):(Op.equalIn (d+1) t (.map ad) (.map none)).run P w=.ok ad.isNone w:=by
 cases ad <;> simp only[Op.equalIn,Sem.run_bind,ct h,Result.andThen_ok,Sem.run_pure] <;> rfl
theorem C5 (hE:dh P E) {t:TypeId} {k:TK} {x y:V} {u v:Value} {b:Bool} (hk:E.cz t=some k) (h:sR k x y=some b) (hx:aJ I μ x u) (hy:aJ I μ y v) :
 (Op.equal t u v).run P w=.ok b w/\(∀op p q,(eqGuard op t p q u v).run P w=.ok () w)/\binOp .eql t u v=(do pure (.bool (<-Op.equal t u v)))/\binOp .neq t u v=(do pure (.bool (!(<-Op.equal t u v)))):=by
 obtain⟨d,hd,hkd⟩:=dR hk;obtain⟨desc,h1,h2,_⟩:=(hE.ty hd).ct;rw[hkd]at h2;have hsl:∀(e:TypeId) (ad:Option Addr) (l c:Nat),P.underlying t=some (.slice e)->b=ad.isNone ->
  (Op.equal t (.slice ad l c) (.slice none 0 0)).run P w=.ok b w/\(∀op p q,(eqGuard op t p q (.slice ad l c) (.slice none 0 0)).run P w=.ok () w)/\binOp .eql t (.slice ad l c) (.slice none 0 0)=(do pure (.bool (<-Op.equal t (.slice ad l c) (.slice none 0 0))))/\binOp .neq t (.slice ad l c) (.slice none 0 0)=(do pure (.bool (!(<-Op.equal t (.slice ad l c) (.slice none 0 0))))):=by
  intro e ad l c hu hb;refine⟨?_,λop p q=>by unfold eqGuard;cases op <;> simp,rfl,rfl⟩
  rw[hb];exact Dz 9999 ad l c hu
 have hpt:∀(e:TypeId) (ad:Option Addr),P.underlying t=some (.pointer e)->b=ad.isNone ->
  (Op.equal t (.pointer ad) (.pointer none)).run P w=.ok b w/\(∀op p q,(eqGuard op t p q (.pointer ad) (.pointer none)).run P w=.ok () w)/\binOp .eql t (.pointer ad) (.pointer none)=(do pure (.bool (<-Op.equal t (.pointer ad) (.pointer none))))/\binOp .neq t (.pointer ad) (.pointer none)=(do pure (.bool (!(<-Op.equal t (.pointer ad) (.pointer none))))):=by
  intro e ad hu hb;refine⟨?_,λop p q=>by unfold eqGuard;cases op <;> simp,rfl,rfl⟩
  rw[hb];exact FY 9999 ad hu
 have hmp:∀(e e':TypeId) (ad:Option Nat),P.underlying t=some (.map e e')->b=ad.isNone ->
  (Op.equal t (.map ad) (.map none)).run P w=.ok b w/\(∀op p q,(eqGuard op t p q (.map ad) (.map none)).run P w=.ok () w)/\binOp .eql t (.map ad) (.map none)=(do pure (.bool (<-Op.equal t (.map ad) (.map none))))/\binOp .neq t (.map ad) (.map none)=(do pure (.bool (!(<-Op.equal t (.map ad) (.map none))))):=by
  intro e e' ad hu hb;refine⟨?_,λop p q=>by unfold eqGuard;cases op <;> simp,rfl,rfl⟩
  rw[hb];exact FX 9999 ad hu
 unfold sR at h;split at h <;> (try (simp only[ζa]at h;subst h))
 .have:=iO h2;subst this;rw[hx.kq,hy.kq];exact hsl _ none 0 0 h1 rfl
 .have:=iO h2;subst this;rw[hy.kq];have hf:=hx.kB
  cases hf with
  | fsl0 _ ad cap=>exact hsl _ _ _ _ h1 rfl
  | fsl=>exact hsl _ _ _ _ h1 rfl
 .have:=iO h2;subst this;rw[hy.kq];rcases hx.kr with⟨p,cap,_,_,_,_,ee⟩|⟨_,ad,ee⟩
  .rw[ee];exact hsl _ _ _ _ h1 rfl
  .rw[ee];exact hsl _ _ _ _ h1 rfl
 .obtain⟨e,rfl⟩:∃e,desc=.pointer e:=by cases desc <;> simp_all [kN]
  cases hx with|c _ _ hx=>cases hx;cases hy with|c _ _ hy=>cases hy;exact hpt _ none h1 rfl
 .obtain⟨e,rfl⟩:∃e,desc=.pointer e:=by cases desc <;> simp_all [kN]
  cases hy with|c _ _ hy=>cases hy;cases hx with|c _ _ hx=>cases hx;exact hpt _ _ h1 rfl
 .obtain⟨e,rfl⟩:∃e,desc=.pointer e:=by cases desc <;> simp_all [kN]
  cases hy with
  | c _ _ hy=>
   cases hy
   cases hx with
   | c _ _ hx=>cases hx
   | hptr=>exact hpt _ _ h1 rfl
 .have:=yq h2;subst this;cases hx with|c _ _ hx=>cases hx;cases hy with|c _ _ hy=>cases hy;exact hmp _ _ none h1 rfl
 .have:=yq h2;subst this;cases hy with|c _ _ hy=>cases hy;cases hx with|c _ _ hx=>cases hx;exact hmp _ _ _ h1 rfl
 .have:=yq h2;subst this
  cases hy with
  | c _ _ hy=>
   cases hy
   cases hx with
   | c _ _ hx=>cases hx
   | hmap=>exact hmp _ _ _ h1 rfl
 .cases h
theorem On (hE:dh P E) {op:BinOp} {t:TypeId} {x y z:V} {u v:Value} (p q:Operand) (h:Ei E op t x y=some z) (hx:aJ I μ x u) (hy:aJ I μ y v) :
 ∃r,(do eqGuard op t p q u v;binOp op t u v).run P w=.ok r w/\aJ I μ z r:=by
 unfold Ei at h;split at h
 .
  rename_i k m k' m';rw[hx.ey,hy.ey];simp only[Sem.run_bind,Jx,Result.andThen_ok];split at h
  .
   split at h
   .simp at h
   .rename_i hb;simp only[ζa]at h;subst h;exact⟨_,by simp[binOp,Op.shift,hb],.c _ _ (.int _ _)⟩
  .split at h
   .simp at h
   .rename_i hb;simp only[ζa]at h;subst h;exact⟨_,by simp[binOp,Op.shift,hb],.c _ _ (.int _ _)⟩
  .split at h
   .rename_i hns hnr hk;subst hk
    cases op with
    | shl=>exact absurd rfl hns
    | shr=>exact absurd rfl hnr
    | add=>simp only[ζa]at h;subst h;exact⟨_,by simp[binOp,Op.intArith],.c _ _ (.int _ _)⟩
    | sub=>simp only[ζa]at h;subst h;exact⟨_,by simp[binOp,Op.intArith],.c _ _ (.int _ _)⟩
    | mul=>simp only[ζa]at h;subst h;exact⟨_,by simp[binOp,Op.intArith],.c _ _ (.int _ _)⟩
    | quo=>
     simp only at h;split at h
     .simp at h
     .rename_i hb;simp only[ζa]at h;subst h;exact⟨_,by simp[binOp,Op.intDiv,hb],.c _ _ (.int _ _)⟩
    | rem=>
     simp only at h;split at h
     .simp at h
     .rename_i hb;simp only[ζa]at h;subst h;exact⟨_,by simp[binOp,Op.intDiv,hb],.c _ _ (.int _ _)⟩
    | and=>simp only[ζa]at h;subst h;exact⟨_,by simp[binOp,Op.intBits],.c _ _ (.int _ _)⟩
    | or=>simp only[ζa]at h;subst h;exact⟨_,by simp[binOp,Op.intBits],.c _ _ (.int _ _)⟩
    | xor=>simp only[ζa]at h;subst h;exact⟨_,by simp[binOp,Op.intBits],.c _ _ (.int _ _)⟩
    | andNot=>simp only[ζa]at h;subst h;exact⟨_,by simp[binOp,Op.intBits],.c _ _ (.int _ _)⟩
    | eql=>simp only[oS,Option.map_some,ζa]at h;subst h;exact⟨_,by simp[binOp,Op.intCmp],.c _ _ (.bool _)⟩
    | neq=>simp only[oS,Option.map_some,ζa]at h;subst h;exact⟨_,by simp[binOp,Op.intCmp],.c _ _ (.bool _)⟩
    | lss=>simp only[oS,Option.map_some,ζa]at h;subst h;exact⟨_,by simp[binOp,Op.intCmp],.c _ _ (.bool _)⟩
    | leq=>simp only[oS,Option.map_some,ζa]at h;subst h;exact⟨_,by simp[binOp,Op.intCmp],.c _ _ (.bool _)⟩
    | gtr=>simp only[oS,Option.map_some,ζa]at h;subst h;exact⟨_,by simp[binOp,Op.intCmp],.c _ _ (.bool _)⟩
    | geq=>simp only[oS,Option.map_some,ζa]at h;subst h;exact⟨_,by simp[binOp,Op.intCmp],.c _ _ (.bool _)⟩
   .simp at h
 .
  rename_i s s';rw[hx.rj,hy.rj];simp only[Sem.run_bind,KD,Result.andThen_ok];split at h
  .split at h
   .simp at h
   .rename_i hb;simp only[ζa]at h;subst h;exact⟨_,by simp only[binOp,Op.stringOp];rw[if_neg hb];rfl,.c _ _ (.str _)⟩
  all_goals first
   | (simp only[ζa]at h;subst h;exact⟨_,by simp[binOp,Op.stringOp],.c _ _ (.bool _)⟩)
   | simp at h
 .
  rename_i b b';rw[hx.pX,hy.pX];simp only[Sem.run_bind,HM,Result.andThen_ok];split at h
  .rename_i hk;obtain⟨d,hd,hkd⟩:=dR hk;obtain⟨desc,h1,h2,_⟩:=(hE.ty hd).ct;rw[hkd]at h2;have:=Ho h2;subst this;simp only[ζa]at h;subst h;exact⟨_,by simp only[binOp,Sem.run_bind,A3 _ _ h1,Result.andThen_ok,Sem.run_pure],.c _ _ (.bool _)⟩
  .rename_i hk;obtain⟨d,hd,hkd⟩:=dR hk;obtain⟨desc,h1,h2,_⟩:=(hE.ty hd).ct;rw[hkd]at h2;have:=Ho h2;subst this;simp only[ζa]at h;subst h;exact⟨_,by simp only[binOp,Sem.run_bind,A3 _ _ h1,Result.andThen_ok,Sem.run_pure],.c _ _ (.bool _)⟩
  .simp at h
 .
  rename_i az bs;obtain⟨va,rfl,hla⟩:=hx.gq;obtain⟨vb,rfl,hlb⟩:=hy.gq;split at h
  .rename_i m heq;split at h
   .rename_i hl;simp only[ζf]at h;obtain⟨r,hr,rfl⟩:=h;obtain⟨ia,ib,h1,h2,h3,rfl⟩:=vw hr;obtain⟨rfl,e1⟩:=oO h1 hla;obtain⟨rfl,e2⟩:=oO h2 hlb;exact⟨_,(hE.eqN _ _ heq).eq w p q ia ib (by omega) (by omega),.c _ _ (.bool _)⟩
   .simp at h
  .rename_i m heq;split at h
   .rename_i hl;simp only[ζf]at h;obtain⟨r,hr,rfl⟩:=h;obtain⟨ia,ib,h1,h2,h3,rfl⟩:=vw hr;obtain⟨rfl,e1⟩:=oO h1 hla;obtain⟨rfl,e2⟩:=oO h2 hlb;exact⟨_,(hE.eqN _ _ heq).ne w p q ia ib (by omega) (by omega),.c _ _ (.bool _)⟩
   .simp at h
  .simp at h
 .
  split at h
  .rename_i k hk;simp only[ζf]at h;obtain⟨b,hb,rfl⟩:=h;obtain⟨h1,h2,h3,_⟩:=C5 (w:=w) hE hk hb hx hy;exact⟨.bool b,by rw[Sem.run_bind,h2,h3];simp[Result.andThen,h1],.c _ _ (.bool _)⟩
  .rename_i k hk;simp only[ζf]at h;obtain⟨b,hb,rfl⟩:=h;obtain⟨h1,h2,_,h3⟩:=C5 (w:=w) hE hk hb hx hy;exact⟨.bool !b,by rw[Sem.run_bind,h2,h3];simp[Result.andThen,h1],.c _ _ (.bool _)⟩
  .simp at h
end
end Go.VE
namespace Go.VE
variable [aW]
section
variable {P:Program} {E:Env} {I:bl} {μ:Mu} {n:Nat} {F:Frame} {a:Act} {w:World}
theorem Gm (off:Nat):∀(l:List Value) (k:Nat) (cells:Array Value),off+k+l.length<=cells.size ->
 ((l.zipIdx k).foldl (λcs (p:Value×Nat)=>cs.setIfInBounds (off+p.2) p.1) cells).toList=cells.toList.take (off+k)++l++cells.toList.drop (off+k+l.length):=by
 intro l
 induction l with
 | nil=>simp_all
 | cons v l ih=>
  intro k cells h;simp  at h;simp;rw[ih (k+1) _ (by simp;omega)]
  simp;rw[show off+(k+1)=off+k+1 from by omega,List.take_succ_eq_append_getElem (by grind)]
  rw[List.take_set_of_le (by omega),List.getElem_set_self]
  rw[List.drop_set_of_lt (by omega)]
  grind
theorem IL {cs xs:List V} {cells:Array Value} {v:Value} {off:Nat} (h:bF I μ cs cells.toList) (hx:bF I μ xs v.cells.toList) (hl:off+xs.length<=cs.length) :
 bF I μ (cs.take off++xs++cs.drop (off+xs.length)) (v.cells.zipIdx.foldl (λcs (p:Value×Nat)=>cs.setIfInBounds (off+p.2) p.1) cells).toList:=by
 have e:v.cells.zipIdx.foldl (λcs p=>cs.setIfInBounds (off+p.2) p.1) cells=(v.cells.toList.zipIdx 0).foldl (λcs p=>cs.setIfInBounds (off+p.2) p.1) cells:=by
  rw[<-Array.foldl_toList];simp
 have h1:=h.1;have h2:=hx.1;rw[e,Gm off _ 0 _ (by grind)]
 rw[<-h2];exact((h.take off).append hx).append (h.drop _)
theorem Ac {place place':Nat->Option (Nat×Nat)} (hp:∀i p,place i=some p->place' i=some p):∀(vs:List (Nat×V)) (us:List (Nat×Value)) (cs r:List V) (cells:Array Value),
 vs.length=us.length->(∀(j:Nat) x y,vs[j]? = some x->us[j]? = some y->x.1=y.1/\aJ I μ x.2 y.2)->bF I μ cs cells.toList->sw place cs vs=some r ->
 ∃r',Instr.fill place' cells us=some r'/\bF I μ r r'.toList:=by
 intro vs
 induction vs with
 | nil=>
  intro us cs r cells hl _ hc hf
  cases us with
  | nil=>simp[sw]at hf;subst hf;exact⟨cells,rfl,hc⟩
  | cons _ _=>simp_all
 | cons x vs ih=>
  intro us cs r cells hl hr hc hf
  cases us with
  | nil=>simp_all
  | cons y us=>
   obtain⟨i,x⟩:=x;obtain⟨i',y⟩:=y;obtain⟨hii,hxy⟩:=hr 0 (i,x) (i',y) rfl rfl;subst hii;simp only at hxy;simp only[sw]at hf;split at hf
   .simp at hf
   .rename_i off size hpl;split at hf
    .simp at hf
    .rename_i hn;have hcells:=hxy.cells;have hlen:x.cells.length=y.cells.size:=by simpa using hcells.1
     have hsz:cs.length=cells.size:=by simpa using hc.1
     have hn':¬(decide (y.cells.size≠size)||decide (off+y.cells.size>cells.size))=true:=by
      grind
     simp  at hn;obtain⟨r',h1,h2⟩:=ih us _ r _ (by simpa using hl) (λj a b p q=>hr (j+1) a b (by simpa using p) (by simpa using q)) (IL hc hcells (by omega)) hf
     refine⟨r',?_,h2⟩;simp only[Instr.fill,hp _ _ hpl];rw[if_neg hn'];omega
theorem KF (ps:Array (Nat×Operand)) (f:Operand->Value):(ps.map λ(i,x)=>(i,f x)).toList=ps.toList.map λp=>(p.1,f p.2):=by simp
theorem CC {ps:Array (Nat×Operand)} {vs:List (Nat×V)} (r:cZ I μ n F a.tmps) (h:kJ F ps.toList=some vs) :
 vs.length=(ps.map λ(i,x)=>(i,a.eval x)).toList.length/\∀(j:Nat) x y,vs[j]? = some x->(ps.map λ(i,x)=>(i,a.eval x)).toList[j]? = some y->x.1=y.1/\aJ I μ x.2 y.2:=by
 obtain⟨hl,hr⟩:=IT r h;rw[KF]
 grind
theorem J9 (hE:dh P E):∀(fl:List Field) (pl:List (Nat×Nat)),lJ E (fl.map λf=>(f.offset,f.type))=some pl ->
 ((fl.mapM λf=>do pure (f.offset,<-sizeOf f.type)):Sem (List (Nat×Nat))).run P w=.ok pl w:=by
 intro fl
 induction fl with
 | nil=>intro pl h;simp[lJ]at h;simp_all
 | cons f fl ih=>
  intro pl h;simp[lJ]at h;split at h
  .rename_i d ps hd hps;simp  at h;subst h;have:=ih _ hps;simp only[List.mapM_cons,Sem.run_bind,(hE.ty hd).gn,Result.andThen_ok,Sem.run_pure,this]
  grind
theorem HX (hE:dh P E) (fl:Array Field) (pl:List (Nat×Nat)) (h:lJ E (fl.toList.map λf=>(f.offset,f.type))=some pl) :
 ((fl.mapM λf=>do pure (f.offset,<-sizeOf f.type)):Sem (Array (Nat×Nat))).run P w=.ok pl.toArray w:=by
 rw[Array.mapM_eq_mapM_toList];simp only[Sem.run_map,J9 hE _ _ h,Result.andThen_ok]
theorem MT (hE:dh P E) (r:cZ I μ n F a.tmps) {t:TypeId} {ps:Array (Nat×Operand)} {x:V} (h:aO E F (.build t ps)=some x) :
 ∃v,(Instr.build t (ps.map λ(i,x)=>(i,a.eval x))).run P w=.ok v w/\aJ I μ x v:=by
 simp[aO]at h;split at h
 .rename_i d vs hd hvs;obtain⟨hl,hr⟩:=CC r hvs;obtain⟨z,hz,hzr,_⟩:=(hE.ty hd).yh;obtain⟨desc,h1,h2,h3⟩:=(hE.ty hd).ct;unfold Instr.build;simp[Sem.run_bind,hz,h3,Result.andThen_ok];split at h
  .rename_i fs hk;rw[hk]at h2;obtain⟨fl,rfl,rfl⟩:=yw h2;split at h
   .rename_i pl hpl;simp  at h;obtain⟨cs,hf,rfl⟩:=h;obtain⟨r',g1,g2⟩:=Ac (place':=λi=>pl.toArray[i]?) (by grind) vs _ d.zero cs z.cells hl hr (hzr I μ) hf
    refine⟨.agg r',?_,.DT g2⟩;have:=HX (w:=w) hE fl pl hpl;simp_all
   grind
  .rename_i e hk;rw[hk]at h2;have:=An h2;subst this;split at h
   .rename_i de hde;simp  at h;obtain⟨cs,hf,rfl⟩:=h;obtain⟨r',g1,g2⟩:=Ac (place':=λi=>some (i*de.size,de.size)) (by grind) vs _ d.zero cs z.cells hl hr (hzr I μ) hf
    refine⟨.agg r',?_,.DT g2⟩;simp[Sem.run_bind,(hE.ty hde).gn,Result.andThen_ok];simp_all
   grind
  grind
 grind
theorem nS (b o k:Nat):(⟨b,o,none⟩:Addr).add k=⟨b,o+k,none⟩:=by
 unfold Addr.add;grind
theorem Dm {cs:List V} {b o:Nat} {c:Array Value} (k:Nat) (hI:I b=some (.cells c)) (hb:o+cs.length<=c.size)
 (hr:∀(j:Nat) y u,cs[j]? = some y->c[o+j]? = some u->dc I y u) (hk:k<=cs.length):aJ I μ (.fptr (cs.drop k)) (.pointer (some ⟨b,o+k,none⟩)):=
 .c _ _ (.fptr _ b (o+k) c hI (by simp;omega) λj y u h1 h2=>hr (k+j) y u (by grind) (by grind))
theorem IV (hE:dh P E) (r:cZ I μ n F a.tmps) {s:TypeId} {o:Operand} {f:Nat} {x:V} (h:aO E F (.fieldAddr s o f)=some x) :
 ∃v,(Instr.fieldAt s (a.eval o) f).run P w=.ok v w/\aJ I μ x v:=by
 simp[aO]at h;split at h
 .rename_i fs p hk hp;obtain⟨d,hd,hkd⟩:=dR hk;obtain⟨desc,h1,h2,h3⟩:=(hE.ty hd).ct;rw[hkd]at h2;obtain⟨fl,rfl,rfl⟩:=yw h2;have hv:=cm r hp;split at h
  .rename_i off t hf;simp  at hf;obtain⟨fd,hfd,rfl,rfl⟩:=hf;have hfd':fl[f]? = some fd:=by grind
   split at h
   .rename_i dt hdt;split at h
    .simp_all
    .rename_i hsz;have hrun:∀(b oo:Nat),(Instr.fieldAt s (.pointer (some ⟨b,oo,none⟩)) f).run P w=.ok (.pointer (some ⟨b,oo+fd.offset,none⟩)) w:=by
      intro b oo;unfold Instr.fieldAt;simp[Sem.run_bind,h3,Result.andThen_ok,hfd',Instr.sureAddr,Sem.run_pure,fieldPlace,(hE.ty hdt).gn,if_neg hsz,nS]
     split at h
     .split at h
      .rename_i hle;simp  at h;subst h;obtain⟨b,oo,c,e,hI,hb,hr⟩:=hv.kG;rw[e];exact⟨_,hrun b oo,Dm _ hI hb hr hle⟩
      grind
     .rename_i id el oo;simp  at h;obtain⟨p,hm,e⟩:=hv.rJ;rw[e];have:=aJ.hptr (I:=I)  id el (oo+fd.offset) p hm
      grind
     grind
   grind
  grind
 grind
theorem Mh (hE:dh P E) (r:cZ I μ n F a.tmps) {s:TypeId} {o:Operand} {f:Nat} {x:V} (h:aO E F (.field s o f)=some x) :
 ∃v,(Instr.field s (a.eval o) f).run P w=.ok v w/\aJ I μ x v:=by
 simp[aO]at h;split at h
 .rename_i fs cs hk hp;obtain⟨d,hd,hkd⟩:=dR hk;obtain⟨desc,h1,h2,h3⟩:=(hE.ty hd).ct;rw[hkd]at h2;obtain⟨fl,rfl,rfl⟩:=yw h2;obtain⟨vs,e,hvs⟩:=(cm r hp).gq;rw[e];split at h
  .rename_i off t hf;simp  at hf;obtain⟨fd,hfd,rfl,rfl⟩:=hf;have hfd':fl[f]? = some fd:=by grind
   split at h
   .rename_i dt hdt;simp[ζg]at h;obtain⟨q,hq,hm⟩:=h;obtain⟨u,hu,hx⟩:=D1 (w:=w) (hE.ty hdt) hvs hq hm;refine⟨u,?_,hx⟩;unfold Instr.field;simp[Sem.run_bind,h3,Result.andThen_ok,hfd',asAgg,Sem.run_pure,hu]
   grind
  grind
 grind
theorem kj (k:IntKind) (m:Int):(asIntOf (.int k m)).run P w=.ok (k,m) w:=rfl
theorem HJ (hE:dh P E) (r:cZ I μ n F a.tmps) {t:TypeId} {o i:Operand} {x:V} (h:aO E F (.indexAddr t o i)=some x) :
 ∃v,(Instr.indexAt t (a.eval o) (a.eval i)).run P w=.ok v w/\aJ I μ x v:=by
 simp[aO]at h;split at h
 .
  rename_i e s k m hk hs hi;obtain⟨d,hd,hkd⟩:=dR hk;obtain⟨desc,h1,h2,h3⟩:=(hE.ty hd).ct;rw[hkd]at h2;have:=iO h2;subst this;have hv:=cm r hs;have hiv:=(cm r hi).ey;rw[hiv];split at h
  .rename_i de hde;split at h
   .simp_all
   .have hrun:∀(b oo len cap:Nat),m.toNat<len->(Instr.indexAt t (.slice (some ⟨b,oo,none⟩) len cap) (.int k m)).run P w=.ok (.pointer (some ⟨b,oo+m.toNat*de.size,none⟩)) w:=by
     intro b oo len cap hlt;unfold Instr.indexAt;have hc:0<=m/\m<(len):=by omega
     simp[Sem.run_bind,kj,h3,Result.andThen_ok,Sem.run_pure,(hE.ty hde).gn,Sem.run_ite,if_pos hc,nS]
    split at h
    .rename_i es xs;split at h
     .rename_i hes;simp only[ζf]at h;obtain⟨cs,hcs,rfl⟩:=h;have hlt:m.toNat<xs.length:=(ζe.1 hcs).1;have hf:=hv.kB;generalize hg:a.eval o=g at hf
      cases hf with
      | fsl0=>simp_all
      | fsl _ _ b oo cap c hI hc hu ho hb hr=>
       refine⟨_,hrun b oo _ _ hlt,?_⟩;have hmem:cs∈xs:=List.mem_of_getElem? hcs;have hcl:=hu cs hmem;have hbd:(m.toNat+1)*es<=xs.length*es:=Nat.mul_le_mul_right _ hlt;rw[Nat.add_mul]at hbd;rw[<-hes];exact .c _ _ (.fptr cs b _ c hI (by omega) λj y u p q=>hr m.toNat j cs y u hcs p q)
     grind
    .rename_i id es off len;split at h
     .rename_i hes;simp only[ζa]at h;obtain⟨hes,hlt⟩:=hes;rcases hv.kr with⟨p,cap,hm,he,hc,hb,e⟩|⟨h0,_⟩
      .rw[e];have:=aJ.hptr (I:=I) (μ:=μ) id (off+m.toNat) 0 p hm
       grind
      omega
     grind
    grind
  grind
 .
  rename_i len e p k m hk hs hi;obtain⟨d,hd,hkd⟩:=dR hk;obtain⟨desc,h1,h2,h3⟩:=(hE.ty hd).ct;rw[hkd]at h2;have:=An h2;subst this;have hv:=cm r hs;have hiv:=(cm r hi).ey;rw[hiv];split at h
  .rename_i de hde;split at h
   .rename_i hc;have hrun:∀(b oo:Nat),(Instr.indexAt t (.pointer (some ⟨b,oo,none⟩)) (.int k m)).run P w=.ok (.pointer (some ⟨b,oo+m.toNat*de.size,none⟩)) w:=by
     intro b oo;unfold Instr.indexAt;simp only[Sem.run_bind,kj,h3,Result.andThen_ok,Sem.run_pure,Instr.sureAddr,(hE.ty hde).gn,Sem.run_ite,if_pos hc,nS]
    split at h
    .split at h
     .rename_i hle;simp only[ζa]at h;subst h;obtain⟨b,oo,c,e,hI,hb,hr⟩:=hv.kG;rw[e];exact⟨_,hrun b oo,Dm _ hI hb hr hle⟩
     grind
    .rename_i id el oo;simp only[ζa]at h;obtain⟨p,hm,e⟩:=hv.rJ;rw[e];have:=aJ.hptr (I:=I) (μ:=μ) id el (oo+m.toNat*de.size) p hm
     grind
    grind
   grind
  grind
 grind
end
end Go.VE
namespace Go.VE
variable [aW]
section
variable {P:Program} {E:Env} {I:bl} {μ:Mu} {n:Nat} {F:Frame} {a:Act} {w:World}
theorem M4 (hE:dh P E) (r:cZ I μ n F a.tmps) {t:TypeId} {o i:Operand} {x:V} (h:aO E F (.index t o i)=some x) :
 ∃v,(Instr.index t (a.eval o) (a.eval i)).run P w=.ok v w/\aJ I μ x v:=by
 simp[aO]at h;split at h
 .rename_i s k m hk hs hi;obtain⟨d,hd,hkd⟩:=dR hk;obtain⟨desc,h1,h2,h3⟩:=(hE.ty hd).ct;rw[hkd]at h2;have:=BF h2;subst this;rw[(cm r hi).ey,(cm r hs).rj];split at h
  .rename_i hc;simp  at h;obtain⟨b,hb,rfl⟩:=h;refine⟨.int .u8 b.toNat,?_,.c _ _ (.int _ _)⟩;unfold Instr.index;simp[Sem.run_bind,kj,h3,Result.andThen_ok,if_pos hc,hb,Sem.run_pure]
  grind
 .rename_i len e cs k m hk hs hi;obtain⟨d,hd,hkd⟩:=dR hk;obtain⟨desc,h1,h2,h3⟩:=(hE.ty hd).ct;rw[hkd]at h2;have:=An h2;subst this;obtain⟨vs,ev,hvs⟩:=(cm r hs).gq;rw[(cm r hi).ey,ev];split at h
  .rename_i de hde;split at h
   .rename_i hc;simp[ζg]at h;obtain⟨q,hq,hm⟩:=h;obtain⟨u,hu,hx⟩:=D1 (w:=w) (hE.ty hde) hvs hq hm;refine⟨u,?_,hx⟩;unfold Instr.index;simp[Sem.run_bind,kj,h3,Result.andThen_ok,Sem.run_ite,if_pos hc,(hE.ty hde).gn,hu]
   grind
  grind
 grind
theorem HK (hE:dh P E) (r:cZ I μ n F a.tmps) {s d:TypeId} {o:Operand} {x:V} (h:aO E F (.convert s d o)=some x) :
 ∃v,(convert s d (a.eval o)).run P w=.ok v w/\aJ I μ x v:=by
 simp[aO]at h;split at h
 .rename_i ts td k m hs hd ho;split at h
  .rename_i k' hk;simp  at h;subst h;obtain⟨d1,g1,_,g3⟩:=(hE.ty hs).ct;obtain⟨d2,h1,h2,h3⟩:=(hE.ty hd).ct;rw[hk]at h2;have:=Fy h2;subst this;rw[(cm r ho).ey];refine⟨_,?_,.c _ _ (.int _ _)⟩;unfold convert;simp[Sem.run_bind,g3,h3,Result.andThen_ok,Conv.intToInt,Sem.run_pure]
  grind
 grind
theorem oq (r:cZ I μ n F a.tmps) {o:Option Operand} {m:Option Int} (h:iN F o=some m) :
 (m=none/\o.map a.eval=none)\/∃k z,m=some z/\o.map a.eval=some (.int k z):=by
 cases o with
 | none=>simp[iN]at h;grind
 | some x=>
  simp[iN]at h;split at h
  .rename_i k z hx;simp  at h;subst h;exact .inr ⟨k,z,rfl,by simp[(cm r hx).ey]⟩
  grind
theorem kO (k:IntKind) (z:Int) (y:Nat) (code:BoundsCode) (h0:0<=z) (h1:z<=y):(Instr.sliceBound (.int k z) y code).run P w=.ok z.toNat w:=by
 unfold Instr.sliceBound;simp[Sem.run_bind,kj,Result.andThen_ok,if_pos (And.intro h0 h1),Sem.run_pure]
theorem ku (r:cZ I μ n F a.tmps) {lo hi:Option Operand} {l h:Option Int} (e1:iN F lo=some l) (e2:iN F hi=some h) (isS:Bool) (len cap L H:Nat) (hc:len<=cap)
 (hb:cN len l h=some (L,H)):(Instr.sliceBounds isS len cap (lo.map a.eval) (hi.map a.eval) none).run P w=.ok (L,H,cap) w/\L<=H/\H<=len:=by
 unfold cN at hb;simp only at hb;split at hb
 .rename_i hcond;obtain⟨rfl,rfl⟩:=hb;obtain⟨c1,c2,c3,c4⟩:=hcond;refine⟨?_,by omega,by omega⟩
  unfold Instr.sliceBounds;rcases oq r e1 with⟨rfl,q1⟩|⟨k1,z1,rfl,q1⟩ <;> rcases oq r e2 with⟨rfl,q2⟩|⟨k2,z2,rfl,q2⟩ <;>
   simp only[q1,q2,Option.getD_some]at c1 c2 c3 c4 ⊢
  .simp_all
  .simp only[Sem.run_pure,Result.andThen_ok,Sem.run_bind,kO k2 z2 _ _ c1 (show z2<=cap by omega)]
   simp
  .simp only[Sem.run_pure,Result.andThen_ok,Sem.run_bind,kO k1 z1 _ _ c3 (show z1<=len by omega)]
   simp
  .simp[Sem.run_pure,Result.andThen_ok,Sem.run_bind,kO k2 z2 _ _ c1 (show z2<=cap by omega),kO k1 z1 _ _ c3 (show z1<=z2.toNat by omega)]
 grind
theorem B7 {es:Nat} {xs:List (List V)} {v:Value} {L H:Nat} (h:dc I (.fsl es xs) v) (h1:L<=H) (h2:H<=xs.length) :
 ∃ad len cap,v=.slice ad len cap/\len=xs.length/\len<=cap/\dc I (.fsl es ((xs.take H).drop L)) (.slice (if cap=L then ad else ad.map (·.add (L*es))) (H-L) (cap-L)):=by
 cases h with
 | fsl0 _ ad cap=>
  simp at h2;have hL:L=0:=by omega
  subst h2;subst hL;refine⟨some ad,0,cap,rfl,rfl,Nat.zero_le _,?_⟩;have:=dc.fsl0 (I:=I) es ad cap;split
  .grind
  .simpa [Addr.add]using dc.fsl0  es (ad.add (0*es)) cap
 | fsl _ _ b o cap c hI hc hu ho hb hr=>
  refine⟨_,_,cap,rfl,rfl,hc,?_⟩;have hlen:((xs.take H).drop L).length=H-L:=by simp_all
  by_cases hz:H-L=0
  .have:(xs.take H).drop L=[]:=List.eq_nil_of_length_eq_zero (by grind)
   rw[this,hz];split
   .exact .fsl0 es _ _
   .exact .fsl0 es _ _
  .simp[nS];have e:dc I (.fsl es ((xs.take H).drop L)) (.slice (some ⟨b,o+L*es,none⟩) ((xs.take H).drop L).length (cap-L)):=by
    refine .fsl es _ b (o+L*es) (cap-L) c hI (by grind) (λx hx=>hu x (List.mem_of_mem_take (List.mem_of_mem_drop hx))) (λx hx=>ho x (List.mem_of_mem_take (List.mem_of_mem_drop hx))) ?_ ?_
    .rw[hlen];have:L*es+(H-L)*es<=xs.length*es:=by rw[<-Nat.add_mul];exact Nat.mul_le_mul_right _ (by omega)
     omega
    grind
   grind
theorem MB (hE:dh P E) (r:cZ I μ n F a.tmps) {t:TypeId} {o:Operand} {lo hi mx:Option Operand} {x:V} (h:aO E F (.slice t o lo hi mx)=some x) :
 ∃v,(Instr.sliceAt t (a.eval o) (lo.map a.eval) (hi.map a.eval) (mx.map a.eval)).run P w=.ok v w/\aJ I μ x v:=by
 simp[aO]at h;split at h
 .
  rename_i s l hh hk ho hl hhi hmx;obtain⟨d,hd,hkd⟩:=dR hk;obtain⟨desc,h1,h2,h3⟩:=(hE.ty hd).ct;rw[hkd]at h2;have:=BF h2;rw[(cm r ho).rj];simp only[ζf]at h;obtain⟨⟨L,H⟩,hb,rfl⟩:=h;obtain⟨g,_,_⟩:=ku (P:=P) (w:=w) r hl hhi false s.size s.size L H (Nat.le_refl _) hb;have hm:mx.map a.eval=none:=by rcases oq r hmx with⟨_,q⟩|⟨k,z,e,_⟩;exact q;cases e
  refine⟨.string (s.extract L H),?_,.c _ _ (.str _)⟩;unfold Instr.sliceAt Instr.slice;simp_all
 .rename_i e v l hh hk ho hl hhi hmx;obtain⟨d,hd,hkd⟩:=dR hk;obtain⟨desc,h1,h2,h3⟩:=(hE.ty hd).ct;rw[hkd]at h2;have:=iO h2;subst this;have hv:=cm r ho;have hm:mx.map a.eval=none:=by rcases oq r hmx with⟨_,q⟩|⟨k,z,e,_⟩;exact q;cases e
  have hrun:∀(ad:Option Addr) (len cap L H:Nat) (de:TD),E.tt e=some de->len<=cap->cN len l hh=some (L,H) ->
   (Instr.sliceAt t (.slice ad len cap) (lo.map a.eval) (hi.map a.eval) (mx.map a.eval)).run P w=.ok (.slice (if cap=L then ad else ad.map (·.add (L*de.size))) (H-L) (cap-L)) w:=by
   intro ad len cap L H de hde hc hb;obtain⟨g,_,_⟩:=ku (P:=P) (w:=w) r hl hhi true len cap L H hc hb;unfold Instr.sliceAt Instr.slice;simp[Sem.run_bind,h3,Result.andThen_ok,hm,g,(hE.ty hde).gn,Sem.run_pure]
  split at h
  .rename_i de hde;split at h
   .rename_i es xs;split at h
    .rename_i hes;simp only[ζf]at h;obtain⟨⟨L,H⟩,hb,rfl⟩:=h;obtain⟨_,hLH,hHl⟩:=ku (P:=P) (w:=w) r hl hhi true xs.length xs.length L H (Nat.le_refl _) hb;obtain⟨ad,len,cap,e1,e2,e3,e4⟩:=B7 hv.kB hLH hHl;rw[e1];subst e2;refine⟨_,hrun ad _ cap L H de hde e3 hb,?_⟩;rw[<-hes];exact .c _ _ e4
    grind
   .rename_i id es off len;split at h
    .rename_i hes;simp only[ζf]at h;obtain⟨⟨L,H⟩,hb,rfl⟩:=h;obtain⟨_,hLH,hHl⟩:=ku (P:=P) (w:=w) r hl hhi true len len L H (Nat.le_refl _) hb;rcases hv.kr with⟨p,cap,hm',he,hc,hbd,ee⟩|⟨h0,ad,ee⟩
     .rw[ee];refine⟨_,hrun _ _ cap L H de hde hc hb,?_⟩
      by_cases hz:cap=L
      .have:H-L=0:=by omega
       rw[if_pos hz,this,show cap-L=0 by omega]
       exact .hsl0 id es (off+L) _
      .rw[if_neg hz];simp only[Option.map_some,nS];rw[<-hes];subst he;have:=aJ.hsl (I:=I) (μ:=μ) id (off+L) (H-L) (cap-L) p hm' (by omega) (by
        have:off+L+(cap-L)=off+cap:=by omega
        rw[this];exact hbd)
       rwa [Nat.add_mul,<-Nat.add_assoc]at this
     .rw[ee];subst h0;refine⟨_,hrun _ _ 0 L H de hde (Nat.le_refl _) hb,?_⟩;have hL:L=0:=by omega
      have hH:H=0:=by omega
      subst hL;subst hH;simpa using aJ.hsl0   id es (off+0) ad
    grind
   .simp only[ζf]at h;obtain⟨⟨L,H⟩,hb,rfl⟩:=h;obtain⟨_,hLH,hHl⟩:=ku (P:=P) (w:=w) r hl hhi true 0 0 L H (Nat.le_refl _) hb;obtain⟨ad,ee⟩:=hv.qC;rw[ee];refine⟨_,hrun ad 0 0 L H de hde (Nat.le_refl _) hb,?_⟩;have hL:L=0:=by omega
    have hH:H=0:=by omega
    subst hL;subst hH;exact .c _ _ (.ck _)
   .simp only[ζf]at h;obtain⟨⟨L,H⟩,hb,rfl⟩:=h;obtain⟨_,hLH,hHl⟩:=ku (P:=P) (w:=w) r hl hhi true 0 0 L H (Nat.le_refl _) hb;have ee:=hv.kq;rw[ee];refine⟨_,hrun none 0 0 L H de hde (Nat.le_refl _) hb,?_⟩;have hL:L=0:=by omega
    have hH:H=0:=by omega
    subst hL;subst hH;exact .c _ _ .aR
   grind
  grind
 .rename_i e v hk ho hl hhi hmx;obtain⟨d,hd,hkd⟩:=dR hk;obtain⟨desc,h1,h2,h3⟩:=(hE.ty hd).ct;rw[hkd]at h2;have:=iO h2;subst this;have hv:=cm r ho;have q1:lo.map a.eval=none:=by rcases oq r hl with⟨_,q⟩|⟨k,z,e,_⟩;exact q;cases e
  obtain⟨k2,q2⟩:∃k,hi.map a.eval=some (.int k 0):=by
   rcases oq r hhi with⟨q,_⟩|⟨k,z,e,q⟩
   .cases q
   .cases e;exact⟨k,q⟩
  obtain⟨k3,q3⟩:∃k,mx.map a.eval=some (.int k 0):=by
   rcases oq r hmx with⟨q,_⟩|⟨k,z,e,q⟩
   .cases q
   .cases e;exact⟨k,q⟩
  have hrun:∀(ad:Option Addr) (len cap:Nat) (de:TD),E.tt e=some de->∃ad',(Instr.sliceAt t (.slice ad len cap) (lo.map a.eval) (hi.map a.eval) (mx.map a.eval)).run P w=.ok (.slice ad' 0 0) w:=by
   intro ad len cap de hde;refine⟨ad,?_⟩;unfold Instr.sliceAt Instr.slice Instr.sliceBounds;simp only[Sem.run_bind,h3,Result.andThen_ok,q1,q2,q3,kO k3 0 cap _ (Int.le_refl _) (by omega),kO k2 0 _ _ (Int.le_refl _) (by simp),(hE.ty hde).gn]
   simp
  split at h
  .rename_i de es xs hde;simp  at h;subst h;obtain⟨ad,len,cap,e1,_⟩:=B7   hv.kB (Nat.le_refl _) (Nat.zero_le _);rw[e1];obtain⟨ad',g⟩:=hrun ad len cap _ hde;exact⟨_,g,.c _ _ (.ck _)⟩
  .rename_i de id es off len hde;simp  at h;subst h;rcases hv.kr with⟨p,cap,_,_,_,_,ee⟩|⟨_,ad,ee⟩
   .rw[ee];obtain⟨ad',g⟩:=hrun _ _ _ _ hde;exact⟨_,g,.c _ _ (.ck _)⟩
   .rw[ee];obtain⟨ad',g⟩:=hrun _ _ _ _ hde;exact⟨_,g,.c _ _ (.ck _)⟩
  .rename_i de hde;simp  at h;subst h;obtain⟨ad,ee⟩:=hv.qC;rw[ee];obtain⟨ad',g⟩:=hrun _ _ _ _ hde;exact⟨_,g,.c _ _ (.ck _)⟩
  .rename_i de hde;simp only[ζa]at h;subst h;have ee:=hv.kq;rw[ee];obtain⟨ad',g⟩:=hrun _ _ _ _ hde;exact⟨_,g,.c _ _ (.ck _)⟩
  .simp at h
 grind
end
end Go.VE
namespace Go.VE
variable [aW]
section
variable {P:Program} {E:Env} {I:bl} {μ:Mu} {n:Nat} {F:Frame} {a:Act} {w:World}
theorem bF.one {x:V} {vs:List Value} (h:bF I μ [x] vs):∃v,vs=[v]/\aJ I μ x v:=by
 obtain⟨v,r,rfl,hv,hr⟩:=h.cons_inv;exact⟨v,by rw[hr.tZ],hv⟩
theorem bF.two {x y:V} {vs:List Value} (h:bF I μ [x,y] vs):∃u v,vs=[u,v]/\aJ I μ x u/\aJ I μ y v:=by
 obtain⟨u,r,rfl,hu,hr⟩:=h.cons_inv;obtain⟨v,rfl,hv⟩:=hr.one;exact⟨u,v,rfl,hu,hv⟩
theorem bF.four {x y z t:V} {vs:List Value} (h:bF I μ [x,y,z,t] vs):∃u v p q,vs=[u,v,p,q]/\aJ I μ x u/\aJ I μ y v/\aJ I μ z p/\aJ I μ t q:=by
 obtain⟨u,r,rfl,hu,hr⟩:=h.cons_inv;obtain⟨v,r2,rfl,hv,hr⟩:=hr.cons_inv;obtain⟨p,q,rfl,hp,hq⟩:=hr.two;exact⟨u,v,p,q,rfl,hu,hv,hp,hq⟩
theorem qF {args:Array Operand} {l:List Value} (h:args.toList.map a.eval=l):args.map a.eval=l.toArray:=by
 subst h;apply Array.ext';simp
def vC:Option TK->V->Option V
 | some .str,.str s=>some (.int .i64 s.size)
 | some (.slice _),.fsl _ xs=>some (.int .i64 xs.length)
 | some (.slice _),.hsl _ _ _ len=>some (.int .i64 len)
 | some (.slice _),.ck=>some (.int .i64 0)
 | some (.slice _),.aR=>some (.int .i64 0)
 | _,_=>none
theorem RL (hE:dh P E) {t:TypeId} {x z:V} {v:Value} {ty:TypeId} {ats:Array TypeId} (hat:ats[0]? = some t) (hx:aJ I μ x v)
 (h:vC (E.cz t) x=some z):∃u,(Builtin.len_ ats ty #[v]).run P w=.ok u w/\aJ I μ z u:=by
 cases hk:E.cz t with
 | none=>rw[hk]at h;simp[vC]at h
 | some k=>
  rw[hk]at h;obtain⟨d,hd,hkd⟩:=dR hk;obtain⟨desc,h1,h2,h3⟩:=(hE.ty hd).ct;rw[hkd]at h2
  cases k with
  | str=>
   have:=BF h2;subst this
   cases x with
   | str s=>
    simp only[vC,ζa]at h;subst h;rw[hx.rj];refine⟨_,?_,.c _ _ (.int _ _)⟩;unfold Builtin.len_;simp[hat,h3,goInt]
   | _=>simp[vC]at h
  | slice e=>
   have:=iO h2;subst this;have hrun:∀ad (len cap:Nat),(Builtin.len_ ats ty #[.slice ad len cap]).run P w=.ok (.int .i64 len) w:=by
    intro ad len cap;unfold Builtin.len_;simp[hat,h3,goInt]
   cases x with
   | fsl es xs=>
    simp only[vC,ζa]at h;subst h;obtain⟨ad,len,cap,e1,e2,_⟩:=B7 (L:=0) (H:=0) hx.kB (Nat.le_refl _) (Nat.zero_le _);rw[e1,<-e2];exact⟨_,hrun _ _ _,.c _ _ (.int _ _)⟩
   | hsl id es off len=>
    simp only[vC,ζa]at h;subst h;rcases hx.kr with⟨p,cap,_,_,_,_,ee⟩|⟨h0,ad,ee⟩
    .rw[ee];exact⟨_,hrun _ _ _,.c _ _ (.int _ _)⟩
    .rw[ee,h0];exact⟨_,hrun _ _ _,.c _ _ (.int _ _)⟩
   | ck=>
    simp only[vC,ζa]at h;subst h;obtain⟨ad,ee⟩:=hx.qC;rw[ee];exact⟨_,hrun _ _ _,.c _ _ (.int _ _)⟩
   | aR=>
    simp only[vC,ζa]at h;subst h;rw[hx.kq];exact⟨_,hrun _ _ _,.c _ _ (.int _ _)⟩
   | _=>simp[vC]at h
  | _=>simp[vC]at h
def Q2:Option TK->V->Option V
 | some (.slice _),.aR=>some (.int .i64 0)
 | some (.slice _),.ck=>some (.int .i64 0)
 | _,_=>none
theorem Ro (hE:dh P E) {t:TypeId} {x z:V} {v:Value} {ty:TypeId} {ats:Array TypeId} (hat:ats[0]? = some t) (hx:aJ I μ x v)
 (h:Q2 (E.cz t) x=some z):∃u,(Builtin.cap_ ats ty #[v]).run P w=.ok u w/\aJ I μ z u:=by
 have key:∀e ad,E.cz t=some (.slice e)->v=.slice ad 0 0->(Builtin.cap_ ats ty #[v]).run P w=.ok (.int .i64 0) w:=λe ad hk hv=>by
  obtain⟨d,hd,hkd⟩:=dR hk;obtain⟨desc,h1,h2,h3⟩:=(hE.ty hd).ct;rw[hkd]at h2;have:=iO h2;subst this;unfold Builtin.cap_;simp[hat,h3,goInt,hv]
 unfold Q2 at h;split at h
 .rename_i _ _ e hk;cases h;exact⟨_,key _ _ hk hx.kq,.c _ _ (.int _ _)⟩
 .rename_i _ _ e hk;cases h;obtain⟨ad,q⟩:=hx.qC;exact⟨_,key _ _ hk q,.c _ _ (.int _ _)⟩
 .cases h
theorem cH {s:Sem Value} {v:Value} {w':World} (h:s.run P w=.ok v w'):(do pure (Next.value (<-s)):Sem Next).run P w=.ok (.value v) w':=by
 rw[Sem.run_bind,h];rfl
theorem Pb (hE:dh P E) (r:cZ I μ n F a.tmps) (o:Oper) {x:V} (h:aO E F o.op=some x) :
 ∃v,(execOp a.eval o).run P w=.ok (.value v) w/\aJ I μ x v:=by
 obtain⟨dst,op,ty,pos,after,guard⟩:=o;simp only at h
 cases op with
 | move y=>exact⟨_,rfl,cm r (by simpa [aO]using h)⟩
 | assign y=>exact⟨_,rfl,cm r (by simpa [aO]using h)⟩
 | pick c y z=>
  simp only[aO]at h;simp only[execOp];split at h
  .rename_i t hc;have e:=(cm r hc).pX;simp only[e,asBool,Sem.run_bind,Sem.run_pure,Result.andThen_ok]
   cases t with
   | true=>simp only[if_true]at h ⊢;exact⟨_,rfl,cm r h⟩
   | false=>simp only[Bool.false_eq_true,if_false]at h ⊢;exact⟨_,rfl,cm r h⟩
  .simp at h
 | nilCheck y=>
  simp only[aO]at h;simp only[execOp];split at h
  .rename_i id el off hy;simp only[ζa]at h;subst h;have hv:=cm r hy;obtain⟨p,_,e⟩:=hv.rJ;rw[e]at hv ⊢;exact⟨_,rfl,hv⟩
  .rename_i cs hy;simp only[ζa]at h;subst h;have hv:=cm r hy;obtain⟨b,o,c,e,_⟩:=hv.kG;rw[e]at hv ⊢;exact⟨_,rfl,hv⟩
  .rename_i f u v hy;simp only[ζa]at h;subst h;have hv:=cm r hy;obtain⟨b,c,e,_⟩:=hv.jL;rw[e]at hv ⊢;exact⟨_,rfl,hv⟩
  .simp at h
 | binOp op t y z yt=>
  simp only[aO]at h;split at h
  .rename_i u v hu hv;obtain⟨q,hq,hr⟩:=On (w:=w) hE y z h (cm r hu) (cm r hv);exact⟨q,cH hq,hr⟩
  .simp at h
 | unOp op t y=>
  simp only[aO]at h;simp only[execOp];split at h
  .rename_i b hy;simp only[ζa]at h;subst h;rw[(cm r hy).pX];exact⟨_,cH (by simp only[Op.unary];rfl),.c _ _ (.bool _)⟩
  .rename_i k m hy;simp only[ζa]at h;subst h;rw[(cm r hy).ey];exact⟨_,cH (by simp only[Op.unary,Op.intArith];rfl),by simpa using aJ.c _ _ (.int k _)⟩
  .simp at h
 | convert s d y=>
  obtain⟨v,h1,h2⟩:=HK (w:=w) hE r h;exact⟨v,cH h1,h2⟩
 | fieldAddr s y f=>
  obtain⟨v,h1,h2⟩:=IV (w:=w) hE r h;exact⟨v,cH h1,h2⟩
 | field s y f=>
  obtain⟨v,h1,h2⟩:=Mh (w:=w) hE r h;exact⟨v,cH h1,h2⟩
 | indexAddr t y i=>
  obtain⟨v,h1,h2⟩:=HJ (w:=w) hE r h;exact⟨v,cH h1,h2⟩
 | index t y i=>
  obtain⟨v,h1,h2⟩:=M4 (w:=w) hE r h;exact⟨v,cH h1,h2⟩
 | slice t y lo hi mx=>
  obtain⟨v,h1,h2⟩:=MB (w:=w) hE r h;exact⟨v,cH h1,h2⟩
 | build t ps=>
  obtain⟨v,h1,h2⟩:=MT (w:=w) hE r h;exact⟨v,cH h1,h2⟩
 | makeFunc f u v=>
  cases f with
  | func f=>
   simp only[aO]at h;split at h
   .rename_i x1 x2 h1 h2;simp only[ζa]at h;subst h;have r1:=mh r h1;have r2:=mh r h2;refine⟨.func (.func f) (u.map a.eval) (v.map a.eval),rfl,?_⟩;refine .clo f _ _ _ _ (by simpa using r1.1) (by simpa using r2.1) (λj p q s t=>r1.2 j p q s (by simpa using t)) (λj p q s t=>r2.2 j p q s (by simpa using t))
   .simp at h
  | _=>simp[aO]at h
 | extract y i=>
  simp only[aO]at h;simp only[execOp];split at h
  .rename_i vs hy;obtain⟨us,e,hl⟩:=(cm r hy).oP;rw[e];have hlt:=(ζe.1 h).1;have hlt':i<us.size:=by have:=hl.1;simp at this;omega
   refine⟨us[i],cH (by simp[Instr.extract,hlt']),hl.2 i x _ h (by simp[hlt'])⟩
  .simp at h
 | call c=>
  obtain⟨callee,args,ats⟩:=c
  cases callee with
  | builtin b=>
   simp only[aO]at h;simp only[execOp,resolve,Sem.run_bind,Sem.run_pure,Result.andThen_ok,invoke];split at h
   .rename_i v t hargs hat;obtain⟨u,hu,hr⟩:=(mh r hargs).one;rw[qF hu];obtain⟨q,h1,h2⟩:=RL (w:=w) (ty:=ty) hE hat hr (by rw[<-h];rfl)
    exact⟨q,by simp only[builtin];exact cH h1,h2⟩
   .rename_i v t hargs hat;obtain⟨u,hu,hr⟩:=(mh r hargs).one;rw[qF hu];obtain⟨q,h1,h2⟩:=Ro (w:=w) (ty:=ty) hE hat hr (by rw[<-h];rfl)
    exact⟨q,by simp only[builtin];exact cH h1,h2⟩
   .rename_i k x1 k' x2 hargs;split at h
    .rename_i hk;simp only[ζa]at h;subst h;subst hk;obtain⟨u,v,e,hu,hv⟩:=(mh r hargs).two;rw[qF e,hu.ey,hv.ey];exact⟨_,by simp only[builtin];exact cH (by simp[Builtin.max_,Builtin.max2]),.c _ _ (.int _ _)⟩
    .simp at h
   .rename_i k x1 k1 x2 k2 x3 k3 x4 hargs;split at h
    .rename_i hk;simp only[ζa]at h;subst h;obtain⟨rfl,rfl,rfl⟩:=hk;obtain⟨u,v,p,q,e,hu,hv,hp,hq⟩:=(mh r hargs).four;rw[qF e,hu.ey,hv.ey,hp.ey,hq.ey];exact⟨_,by simp only[builtin];exact cH (by simp[Builtin.max_,Builtin.max2,AG]),.c _ _ (.int _ _)⟩
    .simp at h
   .rename_i k x1 k' x2 hargs;split at h
    .rename_i hk;simp only[ζa]at h;subst h;subst hk;obtain⟨u,v,e,hu,hv⟩:=(mh r hargs).two;rw[qF e,hu.ey,hv.ey];exact⟨_,by simp only[builtin];exact cH (by simp[Builtin.min_,Builtin.min2]),.c _ _ (.int _ _)⟩
    .simp at h
   .simp at h
  | _=>simp[aO]at h
 | _=>simp[aO]at h
end
end Go.VE
namespace Go.VE
variable [aW]
structure eP (I:bl) (μ:Mu) (p:Pl) (c:Array Value) (es:Nat) (xs:List (List V)):Prop where
 es_eq:p.es=es
 sz:c.size=p.sz
 nG:∀x∈xs,x.length=es
 one:∀x∈xs,∀y∈x,V.one y=true
 room:p.o+xs.length*es<=c.size
 rel:bF I μ xs.flatten ((c.toList.drop p.o).take (xs.length*es))
def tI (I:bl) (μ:Mu) (kvs:List (V×V)) (es:Array MapEntry):Prop:=
 kvs.length=es.size/\∀(j:Nat) q e,kvs[j]? = some q->es[j]? = some e->aJ I μ q.1 e.key/\aJ I μ q.2 e.val
def zF.is:zF->LoopState->Prop
 | .ready,.ready|.busy,.busy|.done,.done=>True
 | _,_=>False
structure tV (I:bl) (μ:Mu) (r:tW) (l:Loop):Prop where
 st:r.st.is l.state
 pend:l.pending=r.pend.bind jJ
 pendOk:r.pend≠some .norm
 frame:cZ I μ r.nt r.frame l.tmps
 params:l.params.toList=r.params
 assign:l.assign=r.assign
 body:l.body=r.body
def Ob.live:Ob->Bool
 | .row ..|.map _|.loop _=>true
 | _=>false
def qM (I:bl) (μ:Mu) (w:World) (id:Nat):Ob->Prop
 | .free=>μ id=none
 | .dead=>True
 | .row es xs=>∃p c el,μ id=some p/\I p.b=none/\w.heap[p.b]? = some (.cells c el)/\eP I μ p c es xs
 | .frz es xs=>∃p c,μ id=some p/\I p.b=some (.cells c)/\eP I μ p c es xs
 | .map kvs=>∃p es clock,μ id=some p/\I p.b=none/\w.heap[p.b]? = some (.map es clock)/\tI I μ kvs es
 | .loop r=>∃p l,μ id=some p/\I p.b=none/\w.heap[p.b]? = some (.loop l)/\tV I μ r l
structure bO (I:bl) (μ:Mu) (H:ak) (w:World):Prop where
 dom:∀id,H.length<=id->μ id=none
 imm:∀b x,I b=some x->x.at w b
 obs:∀id ob,H[id]? = some ob->qM I μ w id ob
 inj:∀id id' ob ob' p p',H[id]? = some ob->H[id']? = some ob'->ob.live=true->ob'.live=true->μ id=some p->μ id'=some p'->p.b=p'.b->id=id'
 gl:tR I
def fS (μ:Mu) (H:ak) (b:Nat):Prop:=∃id p ob,H[id]? = some ob/\ob.live=true/\μ id=some p/\p.b=b
def Obj.nf (o:Obj):Prop:=∀c t fr,o=.cells c t fr->fr=(0,0)
theorem sn (c:Array Value) (t:TypeId):Obj.nf (.cells c t):=λ_ _ _ h=>by grind
theorem pS {o:Obj} (h:(match o with|.cells ..=>false|_=>true)=true):Obj.nf o:=λc t fr e=>by grind
theorem A_ {w w':World} {o:Obj} {b:Nat} (hz:Obj.nf o) (h1:w'.heap[b]? = some o) (h2:∀k,k≠b->w'.heap[k]? = w.heap[k]?) (a:Addr) (h:w.frozen? a=false):w'.frozen? a=false:=by
 by_cases e:a.block=b
 .unfold World.frozen?;rw[e,h1];split
  .rename_i c t lo hi heq;cases heq;have:=hz _ _ _ rfl
   grind
  .rfl
 .unfold World.frozen? at h ⊢
  grind
structure tD (w w':World):Prop where
 out:w'.output=w.output
 tape:w'.tape=w.tape
 dr:w.drawn<=w'.drawn
theorem tD.refl (w:World):tD w w:=⟨rfl,rfl,Nat.le_refl _⟩
theorem tD.trans {w w' w'':World} (h:tD w w') (h2:tD w' w''):tD w w'':=⟨h2.out.trans h.out,h2.tape.trans h.tape,Nat.le_trans h.dr h2.dr⟩
structure Step (I:bl) (μ:Mu) (H:ak) (w:World) (I':bl) (μ':Mu) (H':ak) (w':World):Prop where
 le:bl.le I I'
 mu:Mu.le μ μ'
 len:H.length<=H'.length
 size:w.heap.size<=w'.heap.size
 frame:∀b,b<w.heap.size->¬fS μ H b->w'.heap[b]? = w.heap[b]?
 terr:∀b,((I' b).isSome=true\/fS μ' H' b)->(I b).isSome=true\/fS μ H b\/w.heap.size<=b
 os:w'.os=w.os
 out:tD w w'
 fz:∀a:Addr,a.block<w.heap.size->w.frozen? a=false->w'.frozen? a=false
section
variable {I I' I'':bl} {μ μ' μ'':Mu} {H H' H'':ak} {w w' w'':World} {P:Program} {E:Env} {n:Nat} {F:Frame} {a:Act}
theorem IC.sF {x:IC} {b:Nat} (h:x.at w b):b<w.heap.size:=by
 cases x with
 | cells c=>obtain⟨_,_,h⟩:=h;grind
 | map es=>obtain⟨_,h⟩:=h;grind
theorem IC.qE {x:IC} {b:Nat} (h:x.at w b) (e:w'.heap[b]? = w.heap[b]?):x.at w' b:=by
 cases x with
 | cells c=>obtain⟨el,fr,h⟩:=h;exact⟨el,fr,by grind⟩
 | map es=>obtain⟨cl,h⟩:=h;exact⟨cl,by grind⟩
theorem Step.refl (I:bl) (μ:Mu) (H:ak) (w:World):Step I μ H w I μ H w:=
 ⟨bl.le_refl _,Mu.le_refl _,Nat.le_refl _,Nat.le_refl _,λ_ _ _=>rfl,λ_ h=>h.elim .inl λh=>.inr (.inl h),rfl,.refl _,λ_ _ h=>h⟩
theorem eG (s:bO I μ H w) {b:Nat} (h:fS μ H b):I b=none:=by
 obtain⟨id,p,ob,h1,h2,h3,rfl⟩:=h;have:=s.obs id ob h1
 cases ob with
 | row es xs=>obtain⟨q,c,el,hq,hI,_⟩:=this;grind
 | map kvs=>obtain⟨q,c,el,hq,hI,_⟩:=this;grind
 | loop r=>obtain⟨q,c,hq,hI,_⟩:=this;grind
 | _=>simp[Ob.live]at h2
theorem lu (s:bO I μ H w) {b:Nat} (h:fS μ H b):b<w.heap.size:=by
 obtain⟨id,p,ob,h1,h2,h3,rfl⟩:=h;have:=s.obs id ob h1
 cases ob with
 | row es xs=>obtain⟨q,c,el,hq,hI,hh,_⟩:=this;grind
 | map kvs=>obtain⟨q,c,el,hq,hI,hh,_⟩:=this;grind
 | loop r=>obtain⟨q,c,hq,hI,hh,_⟩:=this;grind
 | _=>simp[Ob.live]at h2
theorem Step.trans (s':bO I' μ' H' w') (h1:Step I μ H w I' μ' H' w') (h2:Step I' μ' H' w' I'' μ'' H'' w''):Step I μ H w I'' μ'' H'' w'' where
 fz:=λa hb h=>h2.fz a (Nat.lt_of_lt_of_le hb h1.size) (h1.fz a hb h)
 le:=bl.le_trans h1.le h2.le
 mu:=λid p h=>h2.mu id p (h1.mu id p h)
 len:=Nat.le_trans h1.len h2.len
 size:=Nat.le_trans h1.size h2.size
 frame:=by
  intro b hb hn;rw[h2.frame b (Nat.lt_of_lt_of_le hb h1.size) ?_,h1.frame b hb hn];intro ho;rcases h1.terr b (.inr ho)with h|h|h
  .have:=eG s' ho;obtain⟨x,hx⟩:=Option.isSome_iff_exists.1 h;rw[h1.le _ _ hx]at this;simp_all
  .simp_all
  omega
 terr:=by
  intro b h;rcases h2.terr b h with h|h|h
  .exact h1.terr b (.inl h)
  .exact h1.terr b (.inr h)
  .exact .inr (.inr (Nat.le_trans h1.size h))
 os:=h2.os.trans h1.os
 out:=h1.out.trans h2.out
theorem eP.mono (h:bl.le I I') (hm:Mu.le μ μ') {p:Pl} {c:Array Value} {es:Nat} {xs:List (List V)} (r:eP I μ p c es xs):eP I' μ' p c es xs:=
 ⟨r.es_eq,r.sz,r.nG,r.one,r.room,r.rel.mono h hm⟩
theorem tI.mono (h:bl.le I I') (hm:Mu.le μ μ') {kvs:List (V×V)} {es:Array MapEntry} (r:tI I μ kvs es):tI I' μ' kvs es:=
 ⟨r.1,λj q e a b=>⟨(r.2 j q e a b).1.mono h hm,(r.2 j q e a b).2.mono h hm⟩⟩
theorem tV.mono (h:bl.le I I') (hm:Mu.le μ μ') {r:tW} {l:Loop} (x:tV I μ r l):tV I' μ' r l:=
 ⟨x.st,x.pend,x.pendOk,x.frame.mono h hm,x.params,x.assign,x.body⟩
theorem qM.mono (h:bl.le I I') (hm:Mu.le μ μ') {id:Nat} {ob:Ob} (r:qM I μ w id ob)
 (hb:∀p,μ id=some p->ob.live=true->w'.heap[p.b]? = w.heap[p.b]? /\ I' p.b=none) (hf:ob=.free->μ' id=none):qM I' μ' w' id ob:=by
 cases ob with
 | free=>exact hf rfl
 | dead=>trivial
 | row es xs=>
  obtain⟨p,c,el,h1,h2,h3,h4⟩:=r;obtain⟨g1,g2⟩:=hb p h1 rfl;exact⟨p,c,el,hm _ _ h1,g2,by grind,h4.mono h hm⟩
 | frz es xs=>
  obtain⟨p,c,h1,h2,h4⟩:=r;exact⟨p,c,hm _ _ h1,h _ _ h2,h4.mono h hm⟩
 | map kvs=>
  obtain⟨p,es,cl,h1,h2,h3,h4⟩:=r;obtain⟨g1,g2⟩:=hb p h1 rfl;exact⟨p,es,cl,hm _ _ h1,g2,by grind,h4.mono h hm⟩
 | loop x=>
  obtain⟨p,l,h1,h2,h3,h4⟩:=r;obtain⟨g1,g2⟩:=hb p h1 rfl;exact⟨p,l,hm _ _ h1,g2,by grind,h4.mono h hm⟩
theorem bO.nu (s:bO I μ H w) (e:w'.heap=w.heap):bO I μ H w' where
 dom:=s.dom
 imm:=λb x h=>IC.qE (s.imm b x h) (by rw[e])
 obs:=λid ob h=>(s.obs id ob h).mono (bl.le_refl _) (Mu.le_refl _) (λp hp hl=>⟨by rw[e],eG s ⟨id,p,ob,h,hl,hp,rfl⟩⟩) (λhe=>by subst he;exact s.obs id _ h)
 inj:=s.inj
 gl:=s.gl
theorem Step.nu (e:w'.heap=w.heap) (h1:w'.os=w.os) (h2:tD w w'):Step I μ H w I μ H w':=
 ⟨bl.le_refl _,Mu.le_refl _,Nat.le_refl _,by grind,λ_ _ _=>by rw[e],λb h=>h.elim .inl λh=>.inr (.inl h),h1,h2,λa _ h=>by unfold World.frozen? at h ⊢;grind⟩
def Mu.fB (μ:Mu) (k:Nat) (p:Pl):Mu:=λid=>if id=k then some p else μ id
theorem Mu.eN (μ:Mu) (k:Nat) (p:Pl):μ.fB k p k=some p:=by simp[Mu.fB]
theorem Mu.gD (μ:Mu) {k id:Nat} (p:Pl) (h:id≠k):μ.fB k p id=μ id:=by simp[Mu.fB,h]
theorem Mu.o8 {k:Nat} {p:Pl} (h:μ k=none):Mu.le μ (μ.fB k p):=by
 intro id q hq
 by_cases e:id=k
 .grind
 .rw[Mu.gD _ _ e];omega
theorem iu (o:Obj) (b:Nat) (h:b<w.heap.size):(w.alloc o).heap[b]? = w.heap[b]? := by
 show (w.heap.push o)[b]? = _
 grind
theorem jA (o:Obj):(w.alloc o).heap[w.heap.size]? = some o:=by
 show (w.heap.push o)[w.heap.size]? = _;simp
theorem JD {o:Obj} (hz:Obj.nf o) (a:Addr) (h:w.frozen? a=false):(w.alloc o).frozen? a=false:=
 A_  hz (jA o) (λk hk=>by
  by_cases hl:k<w.heap.size
  .exact iu o k hl
  .show (w.heap.push o)[k]? = _
   grind) a h
theorem bO.place (s:bO I μ H w) {k:Nat} {ob:Ob} {o:Obj} {p:Pl} (hk:μ k=none) (hlen:H.length<=H'.length) (hlt:k<H'.length)
 (hne:∀id,id≠k->H'[id]? = some .free\/H'[id]? = H[id]?) (hfree:∀id,id≠k->H'[id]? = some .free->μ id=none) (heq:H'[k]? = some ob) (hp:p.b=w.heap.size)
 (hob:qM I (μ.fB k p) (w.alloc o) k ob) (hz:Obj.nf o):bO I (μ.fB k p) H' (w.alloc o)/\Step I μ H w I (μ.fB k p) H' (w.alloc o):=by
 have hI:∀b x,I b=some x->b<w.heap.size:=λb x h=>IC.sF (s.imm b x h)
 have hget:∀id ob',id≠k->H'[id]? = some ob'->ob'≠.free->H[id]? = some ob':=by
  grind
 have howned:∀b,fS (μ.fB k p) H' b->fS μ H b\/b=w.heap.size:=by
  rintro b ⟨id,q,ob',h1,h2,h3,rfl⟩
  by_cases e:id=k
  .subst e;rw[Mu.eN]at h3;grind
  .rw[Mu.gD _ _ e]at h3;exact .inl ⟨id,q,ob',hget id ob' e h1 (by grind),h2,h3,rfl⟩
 refine⟨⟨?_,?_,?_,?_,s.gl⟩,⟨bl.le_refl _,Mu.o8 hk,hlen,by simp,?_,?_,rfl,⟨rfl,rfl,Nat.le_refl _⟩,λa _=>A_ (b:=w.heap.size) hz (jA o) (λk hk=>?_) a⟩⟩
 .intro id h;rw[Mu.gD _ _ (by omega)]
  exact s.dom id (by omega)
 .intro b x h;exact IC.qE (s.imm b x h) (iu o b (hI b x h))
 .intro id ob' h
  by_cases e:id=k
  .grind
  .by_cases hf:ob'=.free
   .subst hf;show (μ.fB k p) id=none;rw[Mu.gD _ _ e];grind
   .have h':=hget id ob' e h hf;refine(s.obs id ob' h').mono (bl.le_refl _) (Mu.o8 hk) (λq hq hl=>?_) (λhe=>absurd he hf)
    have ho:fS μ H q.b:=⟨id,q,ob',h',hl,hq,rfl⟩;exact⟨iu o _ (lu s ho),eG s ho⟩
 .intro id id' o1 o2 q q' h1 h2 l1 l2 m1 m2 hb
  by_cases e:id=k <;> by_cases e':id'=k
  .simp_all
  .subst e;rw[Mu.eN]at m1;cases m1;rw[Mu.gD _ _ e']at m2;have:=lu s ⟨id',q',o2,hget id' o2 e' h2 (by rintro rfl;simp[Ob.live]at l2),l2,m2,rfl⟩
   omega
  .subst e';rw[Mu.eN]at m2;cases m2;rw[Mu.gD _ _ e]at m1;have:=lu s ⟨id,q,o1,hget id o1 e h1 (by rintro rfl;simp[Ob.live]at l1),l1,m1,rfl⟩
   omega
  .rw[Mu.gD _ _ e]at m1;rw[Mu.gD _ _ e']at m2;exact s.inj id id' o1 o2 q q' (hget id o1 e h1 (by rintro rfl;simp[Ob.live]at l1)) (hget id' o2 e' h2 (by rintro rfl;simp[Ob.live]at l2)) l1 l2 m1 m2 hb
 .intro b hb _;exact iu o b hb
 .intro b h;rcases h with h|h
  .exact .inl h
  .rcases howned b h with h|h
   .exact .inr (.inl h)
   omega
 .by_cases hl:k<w.heap.size
  .exact iu o k hl
  .show (w.heap.push o)[k]? = _;rw[Array.getElem?_eq_none (by simp;omega),Array.getElem?_eq_none (by omega)]
theorem bO.push (s:bO I μ H w) {ob:Ob} {o:Obj} {p:Pl} (hp:p.b=w.heap.size) (hob:qM I (μ.fB H.length p) (w.alloc o) H.length ob) (hz:Obj.nf o:=by first|exact sn _ _|exact pS rfl) :
 bO I (μ.fB H.length p) (H++[ob]) (w.alloc o)/\Step I μ H w I (μ.fB H.length p) (H++[ob]) (w.alloc o):=by
 refine s.place (s.dom _ (Nat.le_refl _)) (by simp) (by simp) (λid h=>.inr ?_) (λid h hf=>?_) (by simp) hp hob hz
 .grind
 .by_cases hlt:id<H.length
  .rw[List.getElem?_append_left hlt]at hf;exact s.obs id _ hf
  grind
theorem bO.fill (s:bO I μ H w) {k:Nat} {ob:Ob} {o:Obj} {p:Pl} (hk:H[k]? = some .free) (hp:p.b=w.heap.size) (hob:qM I (μ.fB k p) (w.alloc o) k ob) (hz:Obj.nf o:=by first|exact sn _ _|exact pS rfl) :
 bO I (μ.fB k p) (H.set k ob) (w.alloc o)/\Step I μ H w I (μ.fB k p) (H.set k ob) (w.alloc o):=by
 have hlt:=(ζe.1 hk).1;refine s.place (s.obs k _ hk) (by simp) (by grind) (λid h=>.inr ?_) (λid h hf=>?_) (by simp_all) hp hob hz
 .grind
 .rw[List.getElem?_set_ne (Ne.symm h)]at hf;exact s.obs id _ hf
def dX (w:World) (b:Nat) (o:Obj):World:={ w with heap:=w.heap.setIfInBounds b o }
theorem dH (o:Obj) {b b':Nat} (h:b'≠b):(dX w b o).heap[b']? = w.heap[b']? := by simp[dX,Array.getElem?_setIfInBounds_ne (Ne.symm h)]
theorem eU (o:Obj) {b:Nat} (h:b<w.heap.size):(dX w b o).heap[b]? = some o:=by simp[dX,h]
theorem qu (b:Nat) (o:Obj):(dX w b o).heap.size=w.heap.size:=by simp[dX]
theorem Ll (b:Nat) (o o':Obj):dX (dX w b o) b o'=dX w b o':=by simp[dX]
theorem Rl {o:Obj} {b:Nat} (hz:Obj.nf o) (a:Addr) (h:w.frozen? a=false):(dX w b o).frozen? a=false:=by
 by_cases hb:b<w.heap.size
 .exact A_  hz (eU o hb) (λk hk=>dH o hk) a h
 .have:(dX w b o).heap=w.heap:=by simp[dX,Array.setIfInBounds,hb]
  unfold World.frozen? at h ⊢
  grind
theorem bO.write (s:bO I μ H w) {id:Nat} {ob ob':Ob} {o:Obj} {p:Pl} (hid:H[id]? = some ob) (hl:ob.live=true) (hp:μ id=some p)
 (hob:qM I μ (dX w p.b o) id ob') (hz:Obj.nf o:=by first|exact sn _ _|exact pS rfl):bO I μ (H.set id ob') (dX w p.b o)/\Step I μ H w I μ (H.set id ob') (dX w p.b o):=by
 have hown:fS μ H p.b:=⟨id,p,ob,hid,hl,hp,rfl⟩;have hback:∀k x,(H.set id ob')[k]? = some x->∃y,H[k]? = some y/\(x.live=true->y.live=true)/\(k≠id->y=x):=by
  grind
 have howned:∀b,fS μ (H.set id ob') b->fS μ H b:=by
  rintro b ⟨k,q,x,h1,h2,h3,rfl⟩;obtain⟨y,hy,hyl,_⟩:=hback k x h1;exact⟨k,q,y,hy,hyl h2,h3,rfl⟩
 refine⟨⟨?_,?_,?_,?_,s.gl⟩,⟨bl.le_refl _,Mu.le_refl _,by simp,by rw[qu];grind,?_,?_,rfl,⟨rfl,rfl,Nat.le_refl _⟩,λa _=>A_  hz (eU o (lu s hown)) (λk hk=>dH o hk) a⟩⟩
 .intro k h;exact s.dom k (by grind)
 .intro b x h;refine IC.qE (s.imm b x h) (dH o ?_);intro hb;rw[hb,eG s hown]at h;cases h
 .intro k x h
  by_cases e:k=id
  .grind
  .rw[List.getElem?_set_ne (Ne.symm e)]at h;refine(s.obs k x h).mono (bl.le_refl _) (Mu.le_refl _) (λq hq hlx=>⟨dH o ?_,eG s ⟨k,q,x,h,hlx,hq,rfl⟩⟩) (λhe=>by subst he;exact s.obs k _ h)
   intro hb;exact e (s.inj k id x ob q p h hid hlx hl hq hp hb)
 .intro k k' x x' q q' h1 h2 l1 l2 m1 m2 hb;obtain⟨y,hy,hyl,_⟩:=hback k x h1;obtain⟨y',hy',hyl',_⟩:=hback k' x' h2;exact s.inj k k' y y' q q' hy hy' (hyl l1) (hyl' l2) m1 m2 hb
 .intro b _ hn;refine dH o ?_
  grind
 grind
theorem bO.kill (s:bO I μ H w) {id:Nat} {ob:Ob} (hid:H[id]? = some ob):bO I μ (H.set id .dead) w/\Step I μ H w I μ (H.set id .dead) w:=by
 have hlt:=(ζe.1 hid).1;have hback:∀k x,(H.set id .dead)[k]? = some x->x.live=true->H[k]? = some x/\k≠id:=by
  intro k x h hx
  by_cases e:k=id
  .subst e;rw[List.getElem?_set_self hlt]at h;cases h;simp[Ob.live]at hx
  grind
 refine⟨⟨?_,s.imm,?_,?_,s.gl⟩,⟨bl.le_refl _,Mu.le_refl _,by simp,Nat.le_refl _,λ_ _ _=>rfl,?_,rfl,.refl _,λ_ _ h=>h⟩⟩
 .intro k h;exact s.dom k (by grind)
 .intro k x h
  by_cases e:k=id
  .subst e;rw[List.getElem?_set_self hlt]at h;cases h;trivial
  .rw[List.getElem?_set_ne (Ne.symm e)]at h;exact s.obs k x h
 .intro k k' x x' q q' h1 h2 l1 l2 m1 m2 hb;exact s.inj k k' x x' q q' (hback k x h1 l1).1 (hback k' x' h2 l2).1 l1 l2 m1 m2 hb
 .rintro b (h|⟨k,q,x,h1,h2,h3,rfl⟩)
  .grind
  .exact .inr (.inl ⟨k,q,x,(hback k x h1 h2).1,h2,h3,rfl⟩)
end
end Go.VE
namespace Go.VE
variable [aW]
section
variable {P:Program} {E:Env} {I:bl} {μ:Mu} {H:ak} {n:Nat} {F:Frame} {a:Act} {w:World}
theorem oL {b:Nat} {c:Array Value} {el:TypeId} {fr:Nat×Nat} (h:w.heap[b]? = some (.cells c el fr)) (k:Nat):w.cell? ⟨b,k,none⟩=c[k]? := by
 simp[World.cell?,h]
theorem F_ {b o:Nat} {c:Array Value} (hc:∀k,w.cell? ⟨b,k,none⟩=c[k]?):∀(m i:Nat) (acc:Array Value),o+i+m<=c.size ->
 (loadCellsFrom ⟨b,o,none⟩ i m acc).run P w=.ok (acc++((c.toList.drop (o+i)).take m).toArray) w:=by
 intro m
 induction m with
 | zero=>intro i acc _;simp[loadCellsFrom]
 | succ m ih=>
  intro i acc h;have hlt:o+i<c.size:=by omega
  have e:w.cell? ⟨b,o+i,none⟩=some c[o+i]:=by rw[hc];simp[hlt]
  simp only[loadCellsFrom,Sem.run_bind,nS,run_load,e,Result.andThen_ok];rw[ih (i+1) _ (by omega)]
  congr 1
  rw[List.drop_eq_getElem_cons (show o+i<c.toList.length by simpa using hlt),List.take_succ_cons]
  apply Array.ext';simp[Nat.add_assoc]
theorem tX {b o m:Nat} {c:Array Value} (hc:∀k,w.cell? ⟨b,k,none⟩=c[k]?) (h:o+m<=c.size\/m=0) :
 (loadCells ⟨b,o,none⟩ m).run P w=.ok ((c.toList.drop o).take m).toArray w:=by
 rcases h with h|h
 .have:=F_ (P:=P) hc m 0 #[] (o:=o) (by omega)
  simpa [loadCells]using this
 .subst h;simp[loadCells,loadCellsFrom]
theorem eo {es:Nat} {xs:List (List V)} (hu:∀x∈xs,x.length=es):xs.flatten.length=xs.length*es:=by
 induction xs with
 | nil=>simp
 | cons x xs ih=>
  simp only[List.flatten_cons,ζi,List.length_cons];rw[ih (λy hy=>hu y (List.mem_cons_of_mem _ hy)),hu x (by simp),Nat.add_mul];omega
theorem Cr {es:Nat}:∀{xs:List (List V)} (_:∀x∈xs,x.length=es) {el:Nat} {cs:List V},xs[el]? = some cs->(xs.flatten.drop (el*es)).take es=cs:=by
 intro xs
 induction xs with
 | nil=>intro _ el cs h;simp at h
 | cons x xs ih=>
  intro hu el cs h;have hx:x.length=es:=hu x (by simp)
  cases el with
  | zero=>simp at h;subst h;simp[hx]
  | succ el=>
   have:=ih (λy hy=>hu y (List.mem_cons_of_mem _ hy)) (el:=el) (cs:=cs) (by simpa using h)
   rw[List.flatten_cons,show (el+1)*es=x.length+el*es by rw[hx,Nat.add_mul];omega,<-List.drop_drop]
   simpa using this
theorem E_ {es:Nat}:∀{xs:List (List V)} (_:∀x∈xs,x.length=es) {el:Nat} (cs:List V),el<xs.length->cs.length=es ->
 (xs.set el cs).flatten=xs.flatten.take (el*es)++cs++xs.flatten.drop (el*es+es):=by
 intro xs
 induction xs with
 | nil=>intro _ el cs h;simp at h
 | cons x xs ih=>
  intro hu el cs h hc;have hx:x.length=es:=hu x (by simp)
  cases el with
  | zero=>simp[hx]
  | succ el=>
   have:=ih (λy hy=>hu y (List.mem_cons_of_mem _ hy)) (el:=el) cs (by simpa using h) hc
   simp only[List.set_cons_succ,List.flatten_cons,this];rw[show (el+1)*es=x.length+el*es by rw[hx,Nat.add_mul];omega]
   rw[show x.length+el*es+es=x.length+(el*es+es)by omega]
   rw[List.take_append,List.drop_append];simp[List.take_of_length_le,List.drop_eq_nil_of_le,Nat.add_sub_cancel_left]
theorem uL {es:Nat} {xs:List (List V)} (hu:∀x∈xs,x.length=es) {i j:Nat} {x:List V} {y:V} (h1:xs[i]? = some x) (h2:x[j]? = some y):xs.flatten[i*es+j]? = some y:=by
 have:=Cr hu h1;have hj:j<es:=by rw[<-hu x (List.mem_of_getElem? h1)];exact(ζe.1 h2).1
 have e:=congrArg (·[j]?) this;simp only[List.getElem?_take,hj,if_true,List.getElem?_drop]at e;rw[e];exact h2
theorem eP.elem {p:Pl} {c:Array Value} {es:Nat} {xs:List (List V)} (r:eP I μ p c es xs) {el:Nat} {cs:List V} (h:xs[el]? = some cs) :
 bF I μ cs ((c.toList.drop (p.o+el*es)).take es)/\cs.length=es/\p.o+el*es+es<=c.size:=by
 have hlt:=(ζe.1 h).1;have hl:=r.nG cs (List.mem_of_getElem? h);have h1:=(r.rel.drop (el*es)).take es;rw[Cr r.nG h]at h1;have hm:el*es+es<=xs.length*es:=by
  have:=Nat.mul_le_mul_right es (show el+1<=xs.length from hlt)
  rwa [Nat.add_mul,Nat.one_mul]at this
 have hroom:=r.room;refine⟨?_,hl,by omega⟩
 have e:(((c.toList.drop p.o).take (xs.length*es)).drop (el*es)).take es=(c.toList.drop (p.o+el*es)).take es:=by
  rw[List.drop_take,List.take_take,List.drop_drop,Nat.min_eq_left (by omega)]
 rw[e]at h1;exact h1
theorem eP.span {p:Pl} {c:Array Value} {es:Nat} {xs:List (List V)} (r:eP I μ p c es xs) {off len:Nat} (h:off+len<=xs.length) :
 bF I μ ((xs.drop off).take len).flatten ((c.toList.drop (p.o+off*es)).take (len*es))/\p.o+off*es+len*es<=c.size:=by
 have hroom:=r.room;have hm:off*es+len*es<=xs.length*es:=by
  rw[<-Nat.add_mul];exact Nat.mul_le_mul_right _ h
 have e1:((xs.drop off).take len).flatten=(xs.flatten.drop (off*es)).take (len*es):=by
  have hx:xs=xs.take off++((xs.drop off).take len++(xs.drop off).drop len):=by rw[List.take_append_drop,List.take_append_drop]
  have g1:(xs.take off).flatten.length=off*es:=by
   rw[eo (λx hx=>r.nG x (List.mem_of_mem_take hx))];rw[List.length_take,Nat.min_eq_left (by omega)]
  have g2:((xs.drop off).take len).flatten.length=len*es:=by
   rw[eo (λx hx=>r.nG x (List.mem_of_mem_drop (List.mem_of_mem_take hx))),List.length_take,List.length_drop,Nat.min_eq_left (by omega)]
  have hf:=congrArg List.flatten hx;simp only[List.flatten_append]at hf;rw[hf,<-g1,List.drop_left,<-g2,List.take_left]
 have h1:=(r.rel.drop (off*es)).take (len*es);rw[e1];refine⟨?_,by omega⟩
 have e:(((c.toList.drop p.o).take (xs.length*es)).drop (off*es)).take (len*es)=(c.toList.drop (p.o+off*es)).take (len*es):=by
  rw[List.drop_take,List.take_take,List.drop_drop,Nat.min_eq_left (by omega)]
 rw[e]at h1;exact h1
theorem Ey {ob:Ob} {es:Nat} {xs:List (List V)} (h:ob.rows=some (es,xs)):ob=.row es xs\/ob=.frz es xs:=by
 cases ob <;> simp_all [Ob.rows]
theorem bO.rows (s:bO I μ H w) {id es:Nat} {xs:List (List V)} (h:(H[id]?).bind Ob.rows=some (es,xs)) :
 ∃p c,μ id=some p/\(∀k,w.cell? ⟨p.b,k,none⟩=c[k]?)/\eP I μ p c es xs:=by
 obtain⟨ob,h1,h2⟩:=ζg.1 h;have:=s.obs id ob h1;rcases Ey h2 with rfl|rfl
 .obtain⟨p,c,el,g1,_,g3,g4⟩:=this;exact⟨p,c,g1,oL g3,g4⟩
 .obtain⟨p,c,g1,g2,g4⟩:=this;obtain⟨el,fr,g3⟩:=s.imm _ _ g2;exact⟨p,c,g1,oL g3,g4⟩
theorem LG (s:bO I μ H w) {p:V} {v:Value} (hv:aJ I μ p v) {m:Nat} {cs:List V} (h:cR H p m=some cs) :
 ∃(b o:Nat) (c:Array Value),v=.pointer (some ⟨b,o,none⟩)/\(∀k,w.cell? ⟨b,k,none⟩=c[k]?)/\(o+m<=c.size\/m=0)/\bF I μ cs ((c.toList.drop o).take m):=by
 unfold cR at h;split at h
 .rename_i xs;obtain⟨b,o,c,e,hI,hb,hr⟩:=hv.kG;obtain⟨el,fr,g⟩:=s.imm _ _ hI;refine⟨b,o,c,e,oL g,?_⟩;have hl:bF I μ xs ((c.toList.drop o).take xs.length):=by
   refine⟨by simp;omega,λj x y h1 h2=>?_⟩
   have hj:=(ζe.1 h1).1;rw[List.getElem?_take,if_pos hj,List.getElem?_drop]at h2;exact .c _ _ (hr j x y h1 (by simpa using h2))
  rcases zy hl h with⟨g1,g2,g3⟩|⟨g1,g2⟩
  .refine⟨.inl (by omega),?_⟩
   rw[List.drop_zero,List.take_take,Nat.min_eq_left (by omega)]at g1
   exact g1
  .refine⟨.inr g1,?_⟩;rw[g2,g1];exact .nil
 .rename_i id el off;split at h
  .rename_i es xs hrow;split at h
   .rename_i ecs hel;obtain⟨p,c,g1,g2,g3⟩:=s.rows hrow;obtain⟨q,hq,e⟩:=hv.rJ;rw[g1]at hq;cases hq;refine⟨_,_,c,e,g2,?_⟩;obtain⟨k1,k2,k3⟩:=g3.elem hel;rw[g3.es_eq];rcases zy k1 h with⟨f1,f2,f3⟩|⟨f1,f2⟩
    .refine⟨.inl (by omega),?_⟩
     rw[List.drop_take,List.take_take,Nat.min_eq_left (by omega),List.drop_drop]at f1
     exact f1
    .refine⟨.inr f1,?_⟩;rw[f2,f1];exact .nil
   .simp at h
  .simp at h
 .simp at h
theorem BL (hE:dh P E) (s:bO I μ H w) {t:TypeId} {d:TD} (hd:E.tt t=some d) {p x:V} {v:Value} (hv:aJ I μ p v) (h:(cR H p d.size).bind (mk d.agg)=some x) :
 ∃u,(Instr.loadAt t v).run P w=.ok u w/\aJ I μ x u/\∃ad,v=.pointer (some ad)/\(loadVar t ad).run P w=.ok u w:=by
 obtain⟨cs,hc,hm⟩:=ζg.1 h;obtain⟨b,o,c,e,g1,g2,g3⟩:=LG s hv hc;have key:∃u,(loadVar t ⟨b,o,none⟩).run P w=.ok u w/\aJ I μ x u:=by
  unfold loadVar;simp only[Sem.run_bind,(hE.ty hd).Bh,Result.andThen_ok]
  cases hagg:d.agg with
  | true=>
   rw[hagg]at hm;refine⟨.agg ((c.toList.drop o).take d.size).toArray,?_,Kj hm (by simpa using g3)⟩
   simp only[if_true,Sem.run_bind,(hE.ty hd).gn,Result.andThen_ok,tX g1 g2,Sem.run_pure]
  | false=>
   rw[hagg]at hm;obtain⟨u,hu,hx⟩:=mk_one hm g3;refine⟨u,?_,hx⟩;have hsz:d.size≠0:=by
    intro h0;rw[h0]at hu;simp at hu
   have hcell:c[o]? = some u:=by
    have:=congrArg (·[0]?) hu;simp only[List.getElem?_take,List.getElem?_drop,List.getElem?_cons_zero]at this;rw[if_pos (by omega)]at this
    simpa using this
   simp only[Bool.false_eq_true,if_false,run_load,g1,hcell]
 obtain⟨u,h1,h2⟩:=key;refine⟨u,?_,h2,_,e,h1⟩;rw[e];unfold Instr.loadAt;simp only[Sem.run_bind,Instr.sureAddr,Sem.run_pure,Result.andThen_ok,h1]
end
end Go.VE
namespace Go.VE
variable [aW]
section
variable {P:Program} {E:Env} {I:bl} {μ:Mu} {H:ak} {n:Nat} {F:Frame} {a:Act} {w:World}
theorem bO.Fa (s:bO I μ H w) {b:Nat} {x:IC} (h:I b=some x):b<w.heap.size:=IC.sF (s.imm b x h)
theorem OJ {b es:Nat} {c:Array Value} {xs:List (List V)} (h:bF I μ xs.flatten c.toList) (hu:∀x∈xs,x.length=es) (ho:∀x∈xs,∀y∈x,V.one y=true) :
 eP I μ ⟨b,0,es,c.size⟩ c es xs:=by
 have hl:xs.length*es=c.size:=by rw[<-eo hu,h.1];simp
 exact⟨rfl,rfl,hu,ho,by simp[hl],by simpa [hl,List.take_of_length_le]using h⟩
structure Oc (I:bl) (μ:Mu) (w:World) (ob:Ob) (m:Mk) (o:Obj) (p:Pl) (u:Value):Prop where
 b:p.b=w.heap.size
 live:ob.live=true
 nf:Obj.nf o
 len:∀es xs,ob=.row es xs->p.sz=xs.length*es
 rel:∀k,μ k=none->qM I (μ.fB k p) (w.alloc o) k ob/\aJ I (μ.fB k p) (m.val k) u
theorem bO.xo (s:bO I μ H w):I w.heap.size=none:=by
 cases h:I w.heap.size with
 | none=>rfl
 | some x=>have:=s.Fa h;omega
theorem ve (s:bO I μ H w) {es:Nat} {xs:List (List V)} {c:Array Value} {el:TypeId} {m:Mk} {u:Value} (h:bF I μ xs.flatten c.toList) (hu:∀x∈xs,x.length=es)
 (ho:∀x∈xs,∀y∈x,V.one y=true) (hv:∀k,aJ I (μ.fB k ⟨w.heap.size,0,es,c.size⟩) (m.val k) u):Oc I μ w (.row es xs) m (.cells c el) ⟨w.heap.size,0,es,c.size⟩ u where
 nf:=sn _ _
 b:=rfl
 live:=rfl
 len:=λes' xs' e=>by cases e;rw[<-eo hu,h.1];simp
 rel:=λk hk=>⟨⟨_,c,el,Mu.eN _ _ _,s.xo,jA _,(OJ h hu ho).mono (bl.le_refl _) (Mu.o8 hk)⟩,hv k⟩
theorem Ct (t:TypeId) (v:Value):(newVar t v).run P w=.ok ⟨w.heap.size,0,none⟩ (w.alloc (.cells v.cells t)):=by
 simp[newVar,newRow]
theorem u_ {z:List V} {zs:Array Value} (h:bF I μ z zs.toList) (m:Nat) :
 bF I μ (List.replicate m z).flatten (((Array.range (m*zs.size)).map (λi=>zs[i % zs.size]!)).toList):=by
 have hz:z.length=zs.size:=by simpa using h.1
 have hu:∀x∈List.replicate m z,x.length=z.length:=λx hx=>by rw[List.eq_of_mem_replicate hx]
 have hfl:=eo hu;simp only[List.length_replicate]at hfl;refine⟨by rw[hfl,hz];simp,λj x y h1 h2=>?_⟩
 have hj:=(ζe.1 h1).1;rw[hfl]at hj;have hpos:0<z.length:=by
  rcases Nat.eq_zero_or_pos z.length with h0|h0
  .rw[h0]at hj;simp at hj
  .exact h0
 have hi:j / z.length<m:=(Nat.div_lt_iff_lt_mul hpos).2 hj;have hr:j % z.length<z.length:=Nat.mod_lt _ hpos;have e1:=uL hu (i:=j / z.length) (j:=j % z.length) (x:=z) (y:=z[j % z.length]) (by simp[hi]) (by simp[hr])
 rw[Nat.mul_comm,Nat.div_add_mod]at e1;rw[e1]at h1;cases h1;have hr':j % zs.size<zs.size:=by rw[<-hz];exact hr
 have e2:y=zs[j % zs.size]:=by
  have hlt:j<(Array.range (m*zs.size)).size:=by simp;rw[<-hz];exact hj
  simp only[Array.toList_map,List.getElem?_map,ζf]at h2;obtain⟨q,hq,rfl⟩:=h2;have:q=j:=by
   have:=(ζe.1 hq).2;simpa using this.symm
  subst this;simp[hr']
 rw[e2];exact h.2 (j % z.length) _ _ (by simp[hr]) (by rw[hz];simp[hr'])
theorem Dy {es:Nat}:∀(vs:List (Nat×V)) (xs ys:List (List V)),(∀x∈xs,x.length=es)->(∀x∈xs,∀y∈x,V.one y=true)->e_ es xs vs=some ys ->
 sw (λi=>some (i*es,es)) xs.flatten vs=some ys.flatten/\(∀x∈ys,x.length=es)/\(∀x∈ys,∀y∈x,V.one y=true)/\ys.length=xs.length:=by
 intro vs
 induction vs with
 | nil=>intro xs ys hu ho h;simp only[e_,ζa]at h;subst h;exact⟨rfl,hu,ho,rfl⟩
 | cons v vs ih=>
  intro xs ys hu ho h;obtain⟨i,v⟩:=v;simp only[e_]at h;split at h
  .rename_i hc;obtain⟨h1,h2,h3⟩:=hc;have hu':∀x∈xs.set i v.cells,x.length=es:=λx hx=>by
    rcases List.mem_or_eq_of_mem_set hx with h|h
    .exact hu x h
    .rw[h];exact h1
   have ho':∀x∈xs.set i v.cells,∀y∈x,V.one y=true:=λx hx=>by
    rcases List.mem_or_eq_of_mem_set hx with h|h
    .exact ho x h
    .rw[h];simpa using h3
   obtain⟨g1,g2,g3,g4⟩:=ih _ ys hu' ho' h;refine⟨?_,g2,g3,by simpa using g4⟩
   rw[E_ hu _ h2 h1]at g1;have hb:i*es+es<=xs.length*es:=by
    have:=Nat.mul_le_mul_right es (show i+1<=xs.length from h2)
    rwa [Nat.add_mul,Nat.one_mul]at this
   have hfl:=eo hu;simp only[sw];rw[if_neg (by simp[h1,hfl];omega),h1]
   exact g1
  .simp at h
theorem Ah (hE:dh P E) (r:cZ I μ n F a.tmps) (s:bO I μ H w) (o:Oper) {ob:Ob} {m:Mk} (h:dz E F o.op=some (ob,m)) :
 ∃x p u,(execOp a.eval o).run P w=.ok (.value u) (w.alloc x)/\Oc I μ w ob m x p u:=by
 obtain⟨dst,op,ty,pos,after,guard⟩:=o;simp only at h
 cases op with
 | alloc t=>
  simp only[dz,ζf,ζc]at h;obtain⟨d,hd,rfl,rfl⟩:=h;obtain⟨z,hz,hr,hl,ho⟩:=(hE.ty hd).yh;refine⟨.cells z.cells t,_,.pointer (some ⟨w.heap.size,0,none⟩),?_,ve s (by simpa using hr I μ) (by simp[hl]) (by simpa using ho) (λk=>?_)⟩
  .simp only[execOp];refine cH ?_;unfold Instr.alloc;simp only[Sem.run_bind,hz,Result.andThen_ok,Ct,Sem.run_pure]
  .have:=aJ.hptr (I:=I) k 0 0 _ (Mu.eN μ k ⟨w.heap.size,0,d.size,z.cells.size⟩);simp only[Nat.zero_mul,Nat.add_zero]at this;exact this
 | box t x=>
  simp only[dz]at h;split at h
  .rename_i v hv;split at h
   .rename_i ho;simp only[ζa,ζc]at h;obtain⟨rfl,rfl⟩:=h;have hr:=cm r hv;refine⟨.cells (a.eval x).cells t,_,.pointer (some ⟨w.heap.size,0,none⟩),?_,ve s (by simpa using hr.cells) (by simp) (by simpa using ho) (λk=>?_)⟩
    .simp only[execOp];refine cH ?_;unfold Instr.box;simp only[Sem.run_bind,Ct,Result.andThen_ok,Sem.run_pure]
    .have:=aJ.hptr (I:=I) k 0 0 _ (Mu.eN μ k ⟨w.heap.size,0,v.cells.length,(a.eval x).cells.size⟩);simp only[Nat.zero_mul,Nat.add_zero]at this;exact this
   .simp at h
  .simp at h
 | makeSlice t l c=>
  simp only[dz]at h;split at h
  .rename_i e k1 ln k2 cn hk hl hc;obtain⟨d,hd,hkd⟩:=dR hk;obtain⟨desc,h1,h2,h3⟩:=(hE.ty hd).ct;rw[hkd]at h2;have:=iO h2;subst this;split at h
   .rename_i de hde;split at h
    .rename_i hcond;obtain⟨rfl,rfl,hn0,hnm,hm,hby⟩:=hcond;simp only[ζa,ζc]at h;obtain⟨rfl,rfl⟩:=h;obtain⟨z,hz,hr,hzl,ho⟩:=(hE.ty hde).yh;obtain⟨i,_,hi,hisz,hib,_⟩:=(hE.ty hde).info;have hzs:z.cells.size=de.size:=by have:=(hr I μ).1;simp at this;omega
     have hcap:(0:Int)<=cn:=by omega
     have w1:IntKind.i64.wrap ln=ln:=by simp[IntKind.wrap,IntKind.signed,IntKind.bits];omega
     have w2:IntKind.i64.wrap cn=cn:=by simp[IntKind.wrap,IntKind.signed,IntKind.bits];omega
     have hbig:∀y:Int,0<=y->y<=2147483648->((i.bytes:Int)*y>2 ^ 48)=False:=by
      intro y hy0 hy;simp only[eq_iff_iff,iff_false,Int.not_lt,gt_iff_lt];have hb':(i.bytes:Int)<=4096:=by omega
      calc (i.bytes:Int)*y<=4096*2147483648:=Int.mul_le_mul hb' hy hy0 (by omega)
       _<=2 ^ 48:=by decide
     have hsem:(Instr.makeSlice t (.int .i64 ln) (.int .i64 cn)).run P w =
      .ok (.slice (some ⟨w.heap.size,0,none⟩) ln.toNat cn.toNat) (w.alloc (.cells ((Array.range (cn.toNat*z.cells.size)).map (λi=>z.cells[i % z.cells.size]!)) e)):=by
      unfold Instr.makeSlice;have t1:(decide (cn<0)||decide ((i.bytes:Int)*cn>2 ^ 48))=false:=by
       rw[Bool.or_eq_false_iff];exact⟨by simp;omega,by simp only[hbig cn hcap hm,decide_false]⟩
      have q1:(((decide (cn<0)||decide ((i.bytes:Int)*cn>2 ^ 48))||decide (ln<0))||decide (ln>cn))=false:=by rw[t1];simp;omega
      simp only[Sem.run_bind,h3,Result.andThen_ok,asInt,kj,Sem.run_pure,mT hi,w1,w2,q1,Bool.false_eq_true,if_false,run_askRoom,(hE.ty hde).gn];rw[hzs]
      by_cases h0:cn.toNat*de.size=0
      .have er:Array.range 0=(#[]:Array Nat):=rfl;simp[h0,newRow,er]
      .simp[h0,hz,hzs,newRow]
     refine⟨.cells ((Array.range (cn.toNat*z.cells.size)).map (λi=>z.cells[i % z.cells.size]!)) e,_,.slice (some ⟨w.heap.size,0,none⟩) ln.toNat cn.toNat,?_,ve s (u_ (hr I μ) cn.toNat) (λx hx=>by rw[List.eq_of_mem_replicate hx,hzl]) (λx hx=>by rw[List.eq_of_mem_replicate hx];simpa using ho) (λk=>?_)⟩
     .simp only[execOp];refine cH ?_;rw[(cm r hl).ey,(cm r hc).ey];exact hsem
     .have:=aJ.hsl (I:=I) (μ:=μ.fB k ⟨w.heap.size,0,de.size,((Array.range (cn.toNat*z.cells.size)).map (λi=>z.cells[i % z.cells.size]!)).size⟩) k 0 ln.toNat cn.toNat _ (Mu.eN _ _ _) (by omega) (by simp[hzs])
      simpa [Mk.val]using this
    .simp at h
   .simp at h
  .simp at h
 | buildSlice t len ps=>
  simp only[dz]at h;split at h
  .rename_i e vs hk hvs;obtain⟨d,hd,hkd⟩:=dR hk;obtain⟨desc,h1,h2,h3⟩:=(hE.ty hd).ct;rw[hkd]at h2;have:=iO h2;subst this;split at h
   .rename_i de hde;split at h
    .rename_i hsize;simp only[ζf,ζc]at h;obtain⟨ys,hys,rfl,rfl⟩:=h;obtain⟨z,hz,hr,hzl,ho⟩:=(hE.ty hde).yh;have hzs:z.cells.size=de.size:=by have:=(hr I μ).1;simp at this;omega
     obtain⟨hl,hrr⟩:=CC r hvs;obtain⟨g1,g2,g3,g4⟩:=Dy vs _ ys (λx hx=>by rw[List.eq_of_mem_replicate hx,hzl]) (λx hx=>by rw[List.eq_of_mem_replicate hx];simpa using ho) hys
     obtain⟨r',f1,f2⟩:=Ac (place':=λi=>some (i*de.size,de.size)) (λi p hp=>hp) vs _ _ _ ((Array.range (len*z.cells.size)).map (λi=>z.cells[i % z.cells.size]!)) hl hrr (u_ (hr I μ) len) g1
     have hlen:r'.size=len*de.size:=by
      have e1:=f2.1;rw[eo g2,g4]at e1;simpa using e1.symm
     refine⟨.cells r' e,_,.slice (some ⟨w.heap.size,0,none⟩) len len,?_,ve s f2 g2 g3 (λk=>?_)⟩
     .simp only[execOp];refine cH ?_;unfold Instr.buildSlice;have hns:¬(len*de.size>2 ^ 24):=by omega
      simp only[Sem.run_bind,h3,Result.andThen_ok,(hE.ty hde).gn,if_neg hns]
      by_cases h0:len*de.size=0
      .have e0:(Array.range (len*z.cells.size)).map (λi=>z.cells[i % z.cells.size]!)=#[]:=by rw[hzs,h0];simp
       rw[e0]at f1;have er:Array.range 0=(#[]:Array Nat):=rfl;simp only[h0,if_true,Sem.run_pure,Result.andThen_ok,er,Array.map_empty];rw[f1];simp[newRow]
      .simp only[if_neg h0,Sem.run_bind,hz,Result.andThen_ok,Sem.run_pure];rw[hzs]at f1;rw[hzs,f1];simp[newRow]
     .have:=aJ.hsl (I:=I) (μ:=μ.fB k ⟨w.heap.size,0,de.size,r'.size⟩) k 0 len len _ (Mu.eN _ _ _) (Nat.le_refl _) (by simp[hlen])
      simpa [Mk.val]using this
    .simp at h
   .simp at h
  .simp at h
 | makeMap t r=>
  cases r with
  | none=>
   simp only[dz,ζa,ζc]at h;obtain⟨rfl,rfl⟩:=h;refine⟨.map #[] 0,⟨w.heap.size,0,0,0⟩,.map (some w.heap.size),?_,⟨rfl,rfl,pS rfl,λ_ _ e=>(nomatch e),λk hk=>⟨⟨_,#[],0,Mu.eN _ _ _,s.xo,jA _,rfl,by simp⟩,?_⟩⟩⟩
   .simp only[execOp];refine cH ?_;unfold Instr.makeMap;simp[run_newObj]
   .exact aJ.hmap (I:=I) k ⟨w.heap.size,0,0,0⟩ (Mu.eN _ _ _)
  | some x=>simp[dz]at h
 | _=>simp[dz]at h
end
end Go.VE
namespace Go.VE
variable [aW]
section
variable {P:Program} {E:Env} {I:bl} {μ:Mu} {H H':ak} {n:Nat} {F:Frame} {a:Act} {w:World}
theorem aJ.one {x:V} {v:Value} (h:aJ I μ x v) (ho:x.one=true):v.oneCell'=true:=by
 cases h with
 | c _ _ h=>cases h <;> first|rfl|simp[V.one]at ho
 | agg=>simp[V.one]at ho
 | tup=>simp[V.one]at ho
 | _=>rfl
theorem bF.M5 {xs:List V} {vs:List Value} (h:bF I μ xs vs) (ho:∀x∈xs,V.one x=true):∀v∈vs,v.oneCell'=true:=by
 intro v hv;obtain⟨j,hj,rfl⟩:=List.mem_iff_getElem.1 hv;have hj':j<xs.length:=by rw[h.1];exact hj
 exact(h.2 j xs[j] vs[j] (by simp[hj']) (by simp[hj])).one (ho _ (List.getElem_mem hj'))
theorem JH {b:Nat} {o:Obj} (h:w.heap[b]? = some o):dX w b o=w:=by
 unfold dX;have:w.heap.setIfInBounds b o=w.heap:=by
  apply Array.ext
  .simp
  .intro i h1 h2;obtain⟨hb,e⟩:=Array.getElem?_eq_some_iff.1 h;rw[Array.getElem_setIfInBounds];split
   .subst_vars;rfl
   .rfl
 rw[this]
theorem EP {b o:Nat} {c:Array Value} {el:TypeId} {v:Value} (h:w.heap[b]? = some (.cells c el)) :
 w.setCell ⟨b,o,none⟩ v=dX w b (.cells (c.setIfInBounds o v) el):=by
 unfold World.setCell dX
 congr 1
 obtain⟨hb,e⟩:=Array.getElem?_eq_some_iff.1 h;apply Array.ext
 .simp
 .intro i h1 h2
  by_cases hi:i=b
  .subst hi;simp[Array.getElem_modify,e]
  .have hi':i<w.heap.size:=by simpa using h2
   rw[Array.getElem_modify_of_ne (Ne.symm hi) _ (by simpa using hi'),Array.getElem_setIfInBounds]
   .simp[Ne.symm hi]
   .exact hi'
theorem mR {b o:Nat} {el:TypeId}:∀(vs:List Value) (i:Nat) (w:World) (c:Array Value),w.heap[b]? = some (.cells c el)->(∀v∈vs,v.oneCell'=true)->o+i+vs.length<=c.size ->
 ∃c',(storeCells ⟨b,o,none⟩ vs i).run P w=.ok () (dX w b (.cells c' el))/\c'.toList=c.toList.take (o+i)++vs++c.toList.drop (o+i+vs.length):=by
 intro vs
 induction vs with
 | nil=>
  intro i w c h _ _;exact⟨c,by simp[storeCells,JH h],by simp⟩
 | cons v vs ih=>
  intro i w c h ho hl;simp only[List.length_cons]at hl;have hlt:o+i<c.size:=by omega
  have hcell:w.cell? ⟨b,o+i,none⟩=some c[o+i]:=by rw[oL h];simp[hlt]
  have hfr:w.frozen? ⟨b,o+i,none⟩=false:=by simp[World.frozen?,h]
  have hb:=(Array.getElem?_eq_some_iff.1 h).1;obtain⟨c',g1,g2⟩:=ih (i+1) (dX w b (.cells (c.setIfInBounds (o+i) v) el)) (c.setIfInBounds (o+i) v) (eU _ hb) (λx hx=>ho x (List.mem_cons_of_mem _ hx)) (by simp;omega)
  refine⟨c',?_,?_⟩
  .simp only[storeCells,Sem.run_bind,nS,run_store P w _ v _ (ho v (by simp)),hcell,hfr,Bool.false_eq_true,if_false,Result.andThen_ok,EP h]
   rw[g1,Ll]
  .rw[g2];have hlt':o+i<c.toList.length:=by simpa using hlt
   simp only[Array.toList_setIfInBounds,List.length_cons];rw[show o+(i+1)=o+i+1 from by omega,List.take_succ_eq_append_getElem (by simpa using hlt'),List.take_set_of_le (by omega),List.getElem_set_self,List.drop_set_of_lt (by omega)]
   simp[List.append_assoc];omega
structure Ar (P:Program) (I:bl) (μ:Mu) (H:ak) (w:World) (s:Sem Next) (x:V) (H':ak):Prop where
 run:∃nx u w' μ',s.run P w=.ok nx w'/\(nx=.value u\/(nx=.skip/\u=undef))/\aJ I μ' x u/\bO I μ' H' w'/\Step I μ H w I μ' H' w'
theorem zJ {α:Type} (L vs:List α) (o m k:Nat) (hm:o+m<=L.length) (hk:k+vs.length<=m) :
 ((L.take (o+k)++vs++L.drop (o+k+vs.length)).drop o).take m=((L.drop o).take m).take k++vs++((L.drop o).take m).drop (k+vs.length):=by
 obtain⟨A,B,C,rfl,hA,hB⟩:∃A B C:List α,L=A++(B++C)/\A.length=o/\B.length=m:=
  ⟨L.take o,(L.drop o).take m,(L.drop o).drop m,by rw[List.take_append_drop,List.take_append_drop],by simp;omega,by simp;omega⟩
 subst hA;subst hB;have e1:(A++(B++C)).take (A.length+k)=A++B.take k:=by
  rw[List.take_append,List.take_of_length_le (by omega),Nat.add_sub_cancel_left,List.take_append_of_le_length (by omega)]
 have e2:(A++(B++C)).drop (A.length+k+vs.length)=B.drop (k+vs.length)++C:=by
  rw[List.drop_append,List.drop_eq_nil_of_le (by omega),List.nil_append,List.drop_append_of_le_length (by omega)]
  congr 2;omega
 have e3:((A++(B++C)).drop A.length).take B.length=B:=by simp
 rw[e1,e2,e3];simp only[List.append_assoc,List.drop_left];have hl:(B.take k++(vs++B.drop (k+vs.length))).length=B.length:=by simp;omega
 have:B.take k++(vs++(B.drop (k+vs.length)++C))=(B.take k++(vs++B.drop (k+vs.length)))++C:=by simp[List.append_assoc]
 rw[this,<-hl,List.take_left]
theorem eP.splice {p:Pl} {c c':Array Value} {es el off:Nat} {xs:List (List V)} {cs ys:List V} {vs:List Value} (r:eP I μ p c es xs) (hel:xs[el]? = some cs) (hy:bF I μ ys vs)
 (ho:∀y∈ys,V.one y=true) (hl:off+ys.length<=cs.length) (hc:c'.toList=c.toList.take (p.o+el*es+off)++vs++c.toList.drop (p.o+el*es+off+vs.length)) :
 eP I μ p c' es (xs.set el (cs.take off++ys++cs.drop (off+ys.length))):=by
 obtain⟨k1,k2,k3⟩:=r.elem hel;have hlt:=(ζe.1 hel).1;have hvl:=hy.1;have hroom:=r.room;have hm:el*es+es<=xs.length*es:=by
  have:=Nat.mul_le_mul_right es (show el+1<=xs.length from hlt)
  rwa [Nat.add_mul,Nat.one_mul]at this
 have hsz:c'.size=c.size:=by
  have:=congrArg List.length hc;simp at this;omega
 have hnl:(cs.take off++ys++cs.drop (off+ys.length)).length=es:=by simp;omega
 have hmem:∀x∈xs.set el (cs.take off++ys++cs.drop (off+ys.length)),x∈xs\/x=cs.take off++ys++cs.drop (off+ys.length):=λx hx=>List.mem_or_eq_of_mem_set hx
 refine⟨r.es_eq,by rw[hsz];exact r.sz,?_,?_,by rw[hsz];simpa using hroom,?_⟩
 .intro x hx;rcases hmem x hx with h|h
  .exact r.nG x h
  .rw[h];exact hnl
 .intro x hx y hyx;rcases hmem x hx with h|h
  .exact r.one x h y hyx
  .rw[h]at hyx;have hcs:=r.one cs (List.mem_of_getElem? hel);simp only[List.mem_append]at hyx;rcases hyx with (h|h)|h
   .exact hcs y (List.mem_of_mem_take h)
   .exact ho y h
   .exact hcs y (List.mem_of_mem_drop h)
 .rw[E_ r.nG _ hlt hnl,hc,List.length_set];have hrel:=r.rel;have hcl:=Cr r.nG hel;have e:List.take (xs.length*es) (List.drop p.o (List.take (p.o+el*es+off) c.toList++vs++List.drop (p.o+el*es+off+vs.length) c.toList)) =
   (((c.toList.drop p.o).take (xs.length*es)).take (el*es+off))++vs++(((c.toList.drop p.o).take (xs.length*es)).drop (el*es+off+vs.length)):=by
   have:=zJ c.toList vs p.o (xs.length*es) (el*es+off) (by simpa using hroom) (by omega)
   simpa only[Nat.add_assoc]using this
  rw[e];have e2:xs.flatten.take (el*es)++(cs.take off++ys++cs.drop (off+ys.length))++xs.flatten.drop (el*es+es) =
   xs.flatten.take (el*es+off)++ys++xs.flatten.drop (el*es+off+ys.length):=by
   have hfl:=eo r.nG;have f1:xs.flatten.take (el*es+off)=xs.flatten.take (el*es)++cs.take off:=by
    rw[<-hcl,List.take_add,List.take_take,Nat.min_eq_left (by omega)]
   have f2:xs.flatten.drop (el*es+off+ys.length)=cs.drop (off+ys.length)++xs.flatten.drop (el*es+es):=by
    rw[<-hcl,List.drop_take];have:xs.flatten.drop (el*es+es)=(xs.flatten.drop (el*es+(off+ys.length))).drop (es-(off+ys.length)):=by rw[List.drop_drop];congr 1;omega
    rw[this,List.drop_drop,List.take_append_drop,Nat.add_assoc]
   rw[f1,f2];simp[List.append_assoc]
  rw[e2,<-hvl];exact((hrel.take _).append hy).append (hrel.drop _)
theorem MR (hE:dh P E) (r:cZ I μ n F a.tmps) (s:bO I μ H w) {t:TypeId} {p q:Operand} {x:V} (h:bR E F H (.store t p q)=some (x,H')) :
 Ar P I μ H w (do Instr.storeAt t (a.eval p) (a.eval q);pure .skip) x H':=by
 simp only[bR]at h;split at h
 .rename_i d id el off v hd hp hq;split at h
  .rename_i es xs hid;split at h
   .rename_i cs hel;split at h
    .rename_i hc;obtain⟨hc1,hc2,hc3⟩:=hc;simp only[ζa,ζc]at h;obtain⟨rfl,rfl⟩:=h;obtain⟨pl,c,ty,g1,g2,g3,g4⟩:=s.obs id _ hid;obtain⟨pl',hm,e⟩:=(cm r hp).rJ;rw[g1]at hm;cases hm;have hcells:=(cm r hq).cells;have ho:∀y∈v.cells,V.one y=true:=by simpa using hc3
     obtain⟨k1,k2,k3⟩:=g4.elem hel;have hlv:=hcells.1;have hb:pl.o+el*es+off+0+(a.eval q).cells.toList.length<=c.size:=by omega
     obtain⟨c',f1,f2⟩:=mR (P:=P) (o:=pl.o+el*es+off) (a.eval q).cells.toList 0 w c g3 (hcells.M5 ho) hb;have hrow:eP I μ pl c' es (xs.set el (cs.take off++v.cells++cs.drop (off+v.cells.length))):=g4.splice hel hcells ho (by omega) (by simpa using f2)
     have hbl:=(Array.getElem?_eq_some_iff.1 g3).1;obtain⟨s1,s2⟩:=s.write (ob':=.row es (xs.set el (cs.take off++v.cells++cs.drop (off+v.cells.length)))) (o:=.cells c' ty) hid rfl g1
      ⟨pl,c',ty,g1,g2,eU _ hbl,hrow⟩
     refine⟨.skip,undef,_,μ,?_,.inr ⟨rfl,rfl⟩,.undef I μ,s1,s2⟩;rw[e];have hsz:¬((a.eval q).cells.size≠d.size):=by simp at hlv;omega
     rw[g4.es_eq];unfold Instr.storeAt storeVar;simp only[Sem.run_bind,Instr.sureAddr,Sem.run_pure,Result.andThen_ok,(hE.ty hd).gn,if_neg hsz,f1]
    .simp at h
   .simp at h
  .simp at h
 .simp at h
end
end Go.VE
namespace Go.VE
variable [aW]
section
variable {P:Program} {E:Env} {I:bl} {μ:Mu} {H H':ak} {n:Nat} {F:Frame} {a:Act} {w:World}
theorem Bj (s:bO I μ H w) {x:V} {v:Value} (hx:aJ I μ x v) {es:Nat} {ys:List (List V)} (h:cW H es x=some ys) :
 ∃ad cap arr,v=.slice ad ys.length cap/\ys.length<=cap/\(∀w2:World,w2.heap=w.heap->(Builtin.firstCells es ys.length v).run P w2=.ok arr w2)/\bF I μ ys.flatten arr.toList/\(∀y∈ys,y.length=es) /\
  (∀y∈ys,∀z∈y,V.one z=true):=by
 have hnil:∀(ad:Option Addr) (cap:Nat) (w2:World),w2.heap=w.heap->(Builtin.firstCells es 0 (.slice ad 0 cap)).run P w2=.ok #[] w2:=by
  intro ad cap w2 _
  cases ad with
  | none=>rfl
  | some ad=>simp[Builtin.firstCells,loadCells,loadCellsFrom]
 cases x with
 | ck=>
  simp only[cW,ζa]at h;subst h;obtain⟨ad,rfl⟩:=hx.qC;exact⟨ad,0,#[],rfl,Nat.le_refl _,hnil ad 0,.nil,by simp,by simp⟩
 | aR=>
  simp only[cW,ζa]at h;subst h;rw[hx.kq];exact⟨none,0,#[],rfl,Nat.le_refl _,hnil none 0,.nil,by simp,by simp⟩
 | fsl es' xs=>
  simp only[cW]at h;split at h
  .rename_i he;simp only[ζa]at h;subst h;subst he;have hf:=hx.kB
   cases hf with
   | fsl0 _ ad cap=>exact⟨some ad,cap,#[],rfl,Nat.zero_le _,hnil (some ad) cap,.nil,by simp,by simp⟩
   | fsl _ _ b o cap c hI hc hu ho hb hr=>
    obtain⟨el,fr,hat⟩:=s.imm _ _ hI;refine⟨_,cap,((c.toList.drop o).take (xs.length*es')).toArray,rfl,hc,?_,?_,hu,ho⟩
    .intro w2 hw2;simp only[Builtin.firstCells];exact tX (oL (w:=w2) (by rw[hw2];exact hat)) (.inl hb)
    .have hfl:=eo hu;refine⟨by simp[hfl];omega,λj p q h1 h2=>?_⟩
     have hj:=(ζe.1 h1).1;rw[hfl]at hj;have hes:0<es':=by
      rcases Nat.eq_zero_or_pos es' with h0|h0
      .rw[h0]at hj;simp at hj
      .exact h0
     have hi:j / es'<xs.length:=(Nat.div_lt_iff_lt_mul hes).2 hj;have hm:j % es'<es':=Nat.mod_lt _ hes;have hxl:=hu _ (List.getElem_mem hi);have e1:=uL hu (i:=j / es') (j:=j % es') (x:=xs[j / es']) (y:=(xs[j / es'])[j % es']) (by simp[hi]) (by simp[hxl,hm])
     have ej:j / es'*es'+j % es'=j:=by rw[Nat.mul_comm,Nat.div_add_mod]
     rw[ej,h1]at e1;cases e1;simp only[List.getElem?_take,if_pos hj,List.getElem?_drop]at h2;refine .c _ _ (hr (j / es') (j % es') xs[j / es'] _ q (by simp[hi]) (by simp[hxl,hm]) ?_)
     rw[Nat.add_assoc,ej];simpa using h2
  .simp at h
 | hsl id es' off len=>
  simp only[cW]at h;split at h
  .rename_i he;subst he;split at h
   .rename_i es2 xs hrow;split at h
    .rename_i hle;simp only[ζa]at h;subst h;obtain⟨p,c,g1,g2,g3⟩:=s.rows hrow;have hlen:((xs.drop off).take len).length=len:=by simp;omega
     rcases hx.kr with⟨q,cap,hm,hq,hc,hb,e⟩|⟨h0,ad,e⟩
     .rw[g1]at hm;cases hm;have hes:es2=es':=by rw[<-g3.es_eq,hq]
      subst hes;obtain⟨k1,k2⟩:=g3.span hle;refine⟨_,cap,((c.toList.drop (p.o+off*es2)).take (len*es2)).toArray,by rw[e,hlen],by omega,?_,by simpa using k1,?_,?_⟩
      .intro w2 hw2;rw[e,hlen];simp only[Builtin.firstCells];exact tX (λk=>by rw[<-g2 k];simp[World.cell?,hw2]) (.inl k2)
      .exact λy hy=>g3.nG y (List.mem_of_mem_drop (List.mem_of_mem_take hy))
      .exact λy hy=>g3.one y (List.mem_of_mem_drop (List.mem_of_mem_take hy))
     .subst h0;simp only[List.take_zero]at hlen ⊢;exact⟨_,0,#[],by rw[e];rfl,Nat.le_refl _,by rw[e];exact hnil _ 0,.nil,by simp,by simp⟩
    .simp at h
   .simp at h
  .simp at h
 | _=>simp[cW]at h
theorem oB (z:Array Value) (k:Nat):(Builtin.zeroCells z k).size=k*z.size:=by simp[Builtin.zeroCells]
theorem bO.drew (s:bO I μ H w):bO I μ H w.drew:=s.nu rfl
theorem y8 (s:bO I μ H w) {es cap':Nat} {xs ys:List (List V)} {old new rest:Array Value} {el:TypeId} (ho:bF I μ xs.flatten old.toList) (hn:bF I μ ys.flatten new.toList)
 (hux:∀x∈xs,x.length=es) (huy:∀x∈ys,x.length=es) (h1x:∀x∈xs,∀y∈x,V.one y=true) (h1y:∀x∈ys,∀y∈x,V.one y=true)
 (hcap:xs.length+ys.length<=cap') (hr:rest.size=(cap'-(xs.length+ys.length))*es) :
 ∃μ',aJ I μ' (.hsl H.length es 0 (xs.length+ys.length)) (.slice (some ⟨w.heap.size,0,none⟩) (xs.length+ys.length) cap')/\bO I μ' (H++[.row es (xs++ys)]) (w.alloc (.cells (old++new++rest) el)) /\
  Step I μ H w I μ' (H++[.row es (xs++ys)]) (w.alloc (.cells (old++new++rest) el)):=by
 have hlx:=eo hux;have hly:=eo huy;have hol:=ho.1;have hnl:=hn.1;simp only[Array.length_toList]at hol hnl;have hsz:(old++new++rest).size=cap'*es:=by
  simp only[Array.size_append];rw[<-hol,<-hnl,hlx,hly,hr,<-Nat.add_mul,<-Nat.add_mul];congr 1;omega
 have hmul:(xs.length+ys.length)*es<=cap'*es:=Nat.mul_le_mul_right _ hcap;rw[Nat.add_mul]at hmul;have hrow:eP I μ ⟨w.heap.size,0,es,(old++new++rest).size⟩ (old++new++rest) es (xs++ys):=by
  refine⟨rfl,rfl,?_,?_,?_,?_⟩
  .intro x hx;rcases List.mem_append.1 hx with h|h;exact hux x h;exact huy x h
  .intro x hx;rcases List.mem_append.1 hx with h|h;exact h1x x h;exact h1y x h
  .rw[hsz];simp only[ζi,Nat.zero_add,Nat.add_mul];exact hmul
  .have e:((old++new++rest).toList.drop 0).take ((xs++ys).length*es)=old.toList++new.toList:=by
    simp only[List.drop_zero,Array.toList_append];rw[List.take_left' (by simp[<-hol,<-hnl,hlx,hly,Nat.add_mul])]
   rw[e,List.flatten_append];exact ho.append hn
 obtain⟨s1,s2⟩:=s.push (ob:=.row es (xs++ys)) (o:=.cells (old++new++rest) el) (p:=⟨w.heap.size,0,es,(old++new++rest).size⟩) rfl
  ⟨_,_,el,Mu.eN _ _ _,s.xo,jA _,hrow.mono (bl.le_refl _) (Mu.o8 (s.dom _ (Nat.le_refl _)))⟩
 refine⟨_,?_,s1,s2⟩;have:=aJ.hsl (I:=I) H.length 0 (xs.length+ys.length) cap' _ (Mu.eN μ H.length ⟨w.heap.size,0,es,(old++new++rest).size⟩) hcap (by simp only[Nat.zero_add];rw[hsz];exact Nat.le_refl _)
 simpa using this
theorem Iw (s:bO I μ H w) {id:Nat} {ob ob':Ob} {p p':Pl} {o:Obj} (hid:H[id]? = some ob) (hl:ob.live=true) (hp:μ id=some p) (hb:p'.b=p.b)
 (hob:qM I (μ.fB H.length p') (dX w p.b o) H.length ob') (hz:Obj.nf o:=by first|exact sn _ _|exact pS rfl):bO I (μ.fB H.length p') (H.set id .dead++[ob']) (dX w p.b o)/\Step I μ H w I (μ.fB H.length p') (H.set id .dead++[ob']) (dX w p.b o):=by
 have hlt:=(ζe.1 hid).1;have hown:fS μ H p.b:=⟨id,p,ob,hid,hl,hp,rfl⟩;have hk:=s.dom H.length (Nat.le_refl _);have hget:∀k x,(H.set id .dead++[ob'])[k]? = some x->(k=H.length/\x=ob')\/(k≠H.length/\k=id/\x=.dead)\/(k≠H.length/\k≠id/\H[k]? = some x):=by
  intro k x h
  by_cases e:k<H.length
  .rw[List.getElem?_append_left (by simpa using e)]at h
   by_cases e':k=id
   .subst e';rw[List.getElem?_set_self hlt]at h;cases h;exact .inr (.inl ⟨by omega,rfl,rfl⟩)
   .rw[List.getElem?_set_ne (Ne.symm e')]at h;exact .inr (.inr ⟨by omega,e',h⟩)
  .have:=(ζe.1 h).1;simp at this;have e2:k=H.length:=by omega
   subst e2;simp at h;exact .inl ⟨rfl,h.symm⟩
 have howned:∀b,fS (μ.fB H.length p') (H.set id .dead++[ob']) b->fS μ H b:=by
  rintro b ⟨k,q,x,h1,h2,h3,rfl⟩;rcases hget k x h1 with⟨rfl,rfl⟩|⟨_,_,rfl⟩|⟨e,e',h⟩
  .rw[Mu.eN]at h3;cases h3;rw[hb];exact hown
  .simp[Ob.live]at h2
  .rw[Mu.gD _ _ e]at h3;exact⟨k,q,x,h,h2,h3,rfl⟩
 refine⟨⟨?_,?_,?_,?_,s.gl⟩,⟨bl.le_refl _,Mu.o8 hk,by simp,by rw[qu];exact Nat.le_refl _,?_,?_,rfl,⟨rfl,rfl,Nat.le_refl _⟩,λa _=>A_ (b:=p.b) hz (eU o (lu s hown)) (λk hk=>dH o hk) a⟩⟩
 .intro k h;simp at h;rw[Mu.gD _ _ (by omega)]
  exact s.dom k (by omega)
 .intro b x h;refine IC.qE (s.imm b x h) (dH o ?_);intro hb';rw[hb',eG s hown]at h;cases h
 .intro k x h;rcases hget k x h with⟨rfl,rfl⟩|⟨_,_,rfl⟩|⟨e,e',h⟩
  .exact hob
  .trivial
  .refine(s.obs k x h).mono (bl.le_refl _) (Mu.o8 hk) (λq hq hlx=>⟨dH o ?_,eG s ⟨k,q,x,h,hlx,hq,rfl⟩⟩) (λhe=>?_)
   .intro hb';exact e' (s.inj k id x ob q p h hid hlx hl hq hp hb')
   .subst he;rw[Mu.gD _ _ e];exact s.obs k _ h
 .intro k k' x x' q q' h1 h2 l1 l2 m1 m2 hbb;rcases hget k x h1 with⟨rfl,rfl⟩|⟨_,_,rfl⟩|⟨e,e',h⟩
  .rcases hget k' x' h2 with⟨rfl,rfl⟩|⟨_,_,rfl⟩|⟨f,f',g⟩
   .rfl
   .simp[Ob.live]at l2
   .rw[Mu.eN]at m1;cases m1;rw[Mu.gD _ _ f]at m2;exact absurd (s.inj k' id x' ob q' p g hid l2 hl m2 hp (by rw[<-hbb,hb])) f'
  .simp[Ob.live]at l1
  .rcases hget k' x' h2 with⟨rfl,rfl⟩|⟨_,_,rfl⟩|⟨f,f',g⟩
   .rw[Mu.eN]at m2;cases m2;rw[Mu.gD _ _ e]at m1;exact absurd (s.inj k id x ob q p h hid l1 hl m1 hp (by rw[hbb,hb])) e'
   .simp[Ob.live]at l2
   .rw[Mu.gD _ _ e]at m1;rw[Mu.gD _ _ f]at m2;exact s.inj k k' x x' q q' h g l1 l2 m1 m2 hbb
 .intro b _ hn;refine dH o ?_;rintro rfl;exact hn hown
 .intro b h;rcases h with h|h
  .exact .inl h
  .exact .inr (.inl (howned b h))
end
end Go.VE
namespace Go.VE
variable [aW]
section
variable {P:Program} {E:Env} {I:bl} {μ:Mu} {H H':ak} {n:Nat} {F:Frame} {a:Act} {w:World}
theorem Bc (hE:dh P E) {t t' e:TypeId} {d:TD} {desc':TypeDesc} (ht:P.underlying t=some (.slice e)) (ht':P.underlying t'=some desc') (hint:∃e',desc'=.slice e') (hd:E.tt e=some d)
 (ad adx:Option Addr) (sl sc xl xc:Nat) (new:Array Value) (hnew:(Builtin.firstCells d.size xl (.slice adx xl xc)).run P w=.ok new w) (ty:TypeId) :
 (sl+xl<=sc->∀w',(match ad with|some b=>(storeCells (b.add (sl*d.size)) new.toList).run P w=.ok () w'|none=>w'=w) ->
  (Builtin.append_ #[t,t'] ty #[.slice ad sl sc,.slice adx xl xc]).run P w=.ok (.slice ad (sl+xl) sc) w') /\
 (sc<sl+xl->sl+xl<=2147483648->d.bytes<=4096->0<d.bytes->∀old,(∀w2,w2.heap=w.heap->(Builtin.firstCells d.size sl (.slice ad sl sc)).run P w2=.ok old w2) ->
  (∀w2,w2.heap=w.heap->(Builtin.firstCells d.size xl (.slice adx xl xc)).run P w2=.ok new w2) ->
  ∃cap' rest,sl+xl<=cap'/\rest.size=(cap'-(sl+xl))*d.size /\
   (Builtin.append_ #[t,t'] ty #[.slice ad sl sc,.slice adx xl xc]).run P w=.ok (.slice (some ⟨w.heap.size,0,none⟩) (sl+xl) cap') (w.drew.alloc (.cells (old++new++rest) e))):=by
 obtain⟨i,z,hi,hisz,hib,hz,hzr,hzl,_⟩:=(hE.ty hd).info;have hzrun:∀w,(zeroValue e).run P w=.ok z w:=λw=>by simp[zeroValue,mT hi,hz]
 have hzs:z.cells.size=d.size:=by have:=(hzr (λ_=>none) (λ_=>none)).1;grind
 obtain⟨e',rfl⟩:=hint;constructor
 .intro hle w' hw';unfold Builtin.append_;simp only[Sem.run_bind,List.getElem?_toArray,List.getElem?_cons_zero,List.getElem?_cons_succ,ct ht,ct ht',Result.andThen_ok,(hE.ty hd).gn,Sem.run_pure,Builtin.lenOf,Bool.false_eq_true,if_false,Bool.not_false,if_true,if_pos hle,hnew]
  cases ad with
  | none=>simp_all
  | some b=>simp_all
 .intro hlt hbig hby hby0 old hold hnew';have hcapb  := nextslicecap_le hlt;have c1:¬(Builtin.nextslicecap (sl+xl) sc*i.bytes>2 ^ 48):=by
   have:Builtin.nextslicecap (sl+xl) sc*i.bytes<=(2*2147483648)*4096:=Nat.mul_le_mul (by omega) (by omega)
   omega
  have hnle:¬(sl+xl<=sc):=by omega
  refine⟨(Question.appendCap (sl+xl) sc e).cut (w.tape w.drawn (Question.appendCap (sl+xl) sc e)),Builtin.zeroCells z.cells (((Question.appendCap (sl+xl) sc e).cut (w.tape w.drawn (Question.appendCap (sl+xl) sc e)))-(sl+xl)),?_,?_,?_⟩
  .simp[Question.cut]
  .rw[oB,hzs]
  .unfold Builtin.append_;simp only[Sem.run_bind,List.getElem?_toArray,List.getElem?_cons_zero,List.getElem?_cons_succ,ct ht,ct ht',Result.andThen_ok,(hE.ty hd).gn,Sem.run_pure,Builtin.lenOf,Bool.false_eq_true,if_false,Bool.not_false,if_true,if_neg hnle,mT hi];rw[if_neg (by grind)]
   simp only[Sem.run_bind,mT hi,if_neg c1,run_choose,Question.forced,Bool.false_eq_true,if_false,Result.andThen_ok,run_askRoom,hzrun,newRow,run_newObj,Sem.run_pure];rw[hold { w with drawn:=w.drawn+1 } rfl];simp only[Result.andThen_ok];rw[hnew' { w with drawn:=w.drawn+1 } rfl];rfl
theorem wrap_small {m:Nat} (h:m<=2147483648):IntKind.i64.wrap (m:Int)=m:=by simp[IntKind.wrap,IntKind.bits];omega
theorem CO (hE:dh P E) {t t' e:TypeId} {d:TD} {kk k:IntKind} (ht:P.underlying t=some (.slice e)) (ht':P.underlying t'=some (.int kk)) (hd:E.tt e=some d) (ty:TypeId) (m:Nat) (hbig:m<=2147483648) :
 (m=0->(Builtin.append_ #[t,t'] ty #[.slice none 0 0,.int k m]).run P w=.ok (.slice none 0 0) w) /\
 (0<m->d.bytes<=4096->0<d.bytes->∃cap' z rest,m<=cap'/\rest.size=(cap'-m)*d.size/\bF I μ d.zero z.toList /\
  (Builtin.append_ #[t,t'] ty #[.slice none 0 0,.int k m]).run P w=.ok (.slice (some ⟨w.heap.size,0,none⟩) m cap') (w.drew.alloc (.cells (#[]++Builtin.zeroCells z m++rest) e))):=by
 obtain⟨i,z,hi,hisz,hib,hz,hzr,hzl,_⟩:=(hE.ty hd).info;have hzrun:∀w,(zeroValue e).run P w=.ok z w:=λw=>by simp[zeroValue,mT hi,hz]
 have hzs:z.cells.size=d.size:=by have:=(hzr (λ_=>none) (λ_=>none)).1;grind
 have hw:=wrap_small hbig;constructor
 .rintro rfl;unfold Builtin.append_;have hw0:IntKind.i64.wrap 0=0:=by omega
  simp[ct ht,ct ht',(hE.ty hd).gn,asInt,mT hi,kj,hw0]
 .intro hpos hby hby0;have hcapb:Builtin.nextslicecap (0+m) 0<=2*(0+m):=nextslicecap_le (by omega)
  have c1:¬(Builtin.nextslicecap (0+m) 0*i.bytes>2 ^ 48):=by
   have:Builtin.nextslicecap (0+m) 0*i.bytes<=(2*2147483648)*4096:=Nat.mul_le_mul (by omega) (by omega)
   omega
  have c0:¬(m*(i.bytes:Int)>2 ^ 48):=by
   have h1:m*i.bytes<=2147483648*4096:=Nat.mul_le_mul hbig (by omega)
   grind
  have c2:¬((0+m:Nat)>IntKind.i64.max):=by
   have:IntKind.i64.max=9223372036854775807:=by rfl
   omega
  have hnle:¬(0+m<=0):=by omega
  have hneg:¬((m:Int)<0):=by omega
  refine⟨(Question.appendCap (0+m) 0 e).cut (w.tape w.drawn (Question.appendCap (0+m) 0 e)),z.cells,Builtin.zeroCells z.cells (((Question.appendCap (0+m) 0 e).cut (w.tape w.drawn (Question.appendCap (0+m) 0 e)))-(0+m)),?_,?_,hzr _ _,?_⟩
  .simp[Question.cut]
  .rw[oB,hzs,Nat.zero_add]
  .unfold Builtin.append_;have hne:(if m*d.size=0 then pure #[]else do pure (Builtin.zeroCells (<-zeroValue e).cells m))=(do pure (Builtin.zeroCells (<-zeroValue e).cells m))\/(m*d.size=0/\Builtin.zeroCells z.cells m=#[]):=by
    by_cases h:m*d.size=0
    .right;exact⟨h,Array.eq_empty_of_size_eq_zero (by rw[oB,hzs,h])⟩
    .left;rw[if_neg h]
   simp only[Sem.run_bind,List.getElem?_toArray,List.getElem?_cons_zero,List.getElem?_cons_succ,ct ht,ct ht',Result.andThen_ok,(hE.ty hd).gn,Sem.run_pure,if_true,asInt,kj,hw,if_neg hneg,mT hi,if_neg c0,Int.toNat_natCast,if_neg hnle,if_false];rw[if_neg (λh=>c2 h.1)]
   simp only[Sem.run_bind,mT hi,if_neg c1,run_choose,Question.forced,Result.andThen_ok,hzrun,newRow,Builtin.firstCells];rcases hne with h|⟨h,h'⟩
   .rw[h];simp[hzrun,run_newObj]
   .rw[if_pos h,h'];simp[run_newObj]
theorem La (hE:dh P E) (r:cZ I μ n F a.tmps) (s:bO I μ H w) {args:Array Operand} {ats:Array TypeId} {x:V} {ty:TypeId}
 (h:bR E F H (.call { callee:=.builtin .append,args,argTypes:=ats })=some (x,H')) :
 Ar P I μ H w (do let d <-resolve a.eval { callee:=.builtin .append,args,argTypes:=ats } ty;invoke d.target d.args) x H':=by
 simp[bR]at h;split at h
 .rename_i t t' vs vx hats hargs;obtain⟨us,ux,eargs,hs,hx⟩:=(mh r hargs).two;split at h
  .rename_i e e' hk hk';obtain⟨d0,hd0,hkd⟩:=dR hk;obtain⟨desc,h1,h2,h3⟩:=(hE.ty hd0).ct;rw[hkd]at h2;have:=iO h2;subst this;obtain⟨d1,CI,hkd1⟩:=dR hk';obtain⟨desc1,g1,g2,g3⟩:=(hE.ty CI).ct;rw[hkd1]at g2;have:=iO g2;subst this;have hrun:∀v w',(Builtin.append_ #[t,t'] ty #[us,ux]).run P w=.ok v w' ->
    (do let d <-resolve a.eval { callee:=.builtin .append,args,argTypes:=ats } ty;invoke d.target d.args).run P w=.ok (.value v) w':=by
    simp[resolve,Sem.run_bind,Sem.run_pure,Result.andThen_ok,invoke,builtin];rw[qF eargs];have ea:ats=#[t,t']:=by grind
    simp_all
   split at h
   .rename_i d hd;split at h
    .
     rename_i xs hxs hys;obtain⟨ad,cap,arr,e1,e2,e3,e4,_⟩:=Bj (P:=P) s hs hxs;obtain⟨adx,capx,arrx,f1,f2,f3,f4,_⟩:=Bj  s hx hys;simp  at f1 f3;have harr:arrx=#[]:=by
      have:=f4.1;grind
     have f3:=f3 w rfl;rw[f1]at f3;have key:=(Bc hE h1 g1 ⟨_,rfl⟩ hd ad adx xs.length cap 0 capx arrx f3 ty).1 (by omega) w
      (by
       cases ad with
       | none=>rfl
       | some b=>simp[harr,storeCells])
     rw[<-f1,<-e1,Nat.add_zero,<-e1]at key;have hsame:x=vs/\H'=H:=by
      grind
     obtain⟨rfl,rfl⟩:=hsame;exact⟨_,us,w,μ,hrun _ _ key,.inl rfl,hs,s,.refl _ _ _ _⟩
    .rename_i xs ys hne hxs hys;obtain⟨ad,cap,arr,e1,e2,e3,e4,e5,e6⟩:=Bj  s hs hxs;obtain⟨adx,capx,arrx,f1,f2,f3,f4,f5,f6⟩:=Bj  s hx hys;split at h
     .rename_i hc;obtain⟨hc1,hc2,hc3⟩:=hc;have hposy:0<ys.length:=by
       rcases Nat.eq_zero_or_pos ys.length with h0|h0
       .exact absurd (List.eq_nil_of_length_eq_zero h0) hne
       .exact h0
      have key:=Bc hE h1 g1 ⟨_,rfl⟩ hd ad adx xs.length cap ys.length capx arrx (by rw[<-f1];exact f3 w rfl) ty
      rw[<-f1,<-e1]at key;have hgrow:cap<xs.length+ys.length->∃cap' rest,xs.length+ys.length<=cap'/\rest.size=(cap'-(xs.length+ys.length))*d.size /\
       (Builtin.append_ #[t,t'] ty #[us,ux]).run P w=.ok (.slice (some ⟨w.heap.size,0,none⟩) (xs.length+ys.length) cap') (w.drew.alloc (.cells (arr++arrx++rest) e)):=by
       intro hlt;refine key.2 hlt hc1 hc2 hc3 arr ?_ ?_
       .intro w2 hw2;exact e3 w2 hw2
       .intro w2 hw2;exact f3 w2 hw2
      simp  at h;obtain⟨H1,hgr,rfl,rfl⟩:=h
      cases vs with
      | ck=>
       simp[fQ]at hgr;subst hgr;simp[cW]at hxs;subst hxs;obtain⟨ad',q⟩:=hs.qC;have hcap:cap=0:=by rw[q]at e1;cases e1;rfl
       obtain⟨cap',rest,k1,k2,k3⟩:=hgrow (by simp;omega)
       obtain⟨μ',m1,m2,m3⟩:=y8  s.drew e4 f4 e5 f5 e6 f6 k1 k2;refine⟨_,_,_,μ',hrun _ _ k3,.inl rfl,m1,m2,?_⟩;exact Step.trans s.drew (Step.nu rfl rfl ⟨rfl,rfl,Nat.le_succ _⟩) m3
      | aR=>
       simp[fQ]at hgr;subst hgr;simp[cW]at hxs;subst hxs;have q:=hs.kq;have hcap:cap=0:=by rw[q]at e1;cases e1;rfl
       obtain⟨cap',rest,k1,k2,k3⟩:=hgrow (by simp;omega)
       obtain⟨μ',m1,m2,m3⟩:=y8  s.drew e4 f4 e5 f5 e6 f6 k1 k2;refine⟨_,_,_,μ',hrun _ _ k3,.inl rfl,m1,m2,?_⟩;exact Step.trans s.drew (Step.nu rfl rfl ⟨rfl,rfl,Nat.le_succ _⟩) m3
      | hsl id es off len=>
       simp[fQ]at hgr;split at hgr
       .rename_i es2 rws hid;simp  at hgr;subst hgr;have hrow:(H[id]?).bind Ob.rows=some (es2,rws):=by rw[hid];rfl
        have hxs':=hxs;simp only[cW]at hxs;split at hxs
        .rename_i hes;rw[hrow]at hxs;simp only at hxs;split at hxs
         .rename_i hle;simp  at hxs;obtain⟨p,c,ety,q1,q2,q3,q4⟩:=s.obs id _ hid;have hlen:xs.length=len:=by rw[<-hxs];simp;omega
          have hnewblock:cap<xs.length+ys.length->Ar P I μ H w (do let d <-resolve a.eval { callee:=.builtin .append,args,argTypes:=ats } ty;invoke d.target d.args)
           (.hsl H.length d.size 0 (xs.length+ys.length)) (H.set id .dead++[.row d.size (xs++ys)]):=by
           intro hlt;obtain⟨cap',rest,k1,k2,k3⟩:=hgrow hlt;obtain⟨s1,s2⟩:=s.drew.kill hid;obtain⟨μ',m1,m2,m3⟩:=y8  s1 e4 f4 e5 f5 e6 f6 k1 k2;rw[List.length_set]at m1;exact⟨_,_,_,μ',hrun _ _ k3,.inl rfl,m1,m2,Step.trans s.drew (Step.nu rfl rfl ⟨rfl,rfl,Nat.le_succ _⟩) (Step.trans s1 s2 m3)⟩
          rcases hs.kr with⟨p',cap2,hm,hp',hcc,hbd,ee⟩|⟨h0,ad',ee⟩
          .rw[q1]at hm;cases hm;have hcap2:cap2=cap/\ad=some ⟨p.b,p.o+off*es,none⟩:=by rw[ee]at e1;cases e1;exact⟨rfl,rfl⟩
           obtain⟨rfl,rfl⟩:=hcap2
           by_cases hfit:xs.length+ys.length<=cap2
           .have hes2:es2=es:=by rw[<-q4.es_eq,hp']
            subst hes2;have hdes  := hes;obtain⟨r1,r2⟩:=q4.span hle;rw[hxs]at r1;have hnl:=f4.1;simp only[Array.length_toList]at hnl;rw[eo f5]at hnl;have hb1:(len+ys.length)*es2<=cap2*es2:=Nat.mul_le_mul_right _ (by omega)
            rw[Nat.add_mul]at hb1;rw[Nat.add_mul]at hbd;have hsz:=q4.sz;rw[<-hdes]at hnl;have hroom:p.o+off*es2+len*es2+0+arrx.toList.length<=c.size:=by simp;omega
            obtain⟨c',u1,u2⟩:=mR   arrx.toList 0 w c q3 (f4.M5 (λx hx=>by
             obtain⟨l,hl,hxl⟩:=List.mem_flatten.1 hx;exact f6 l hl x hxl)) hroom
            have hcs:c'.size=c.size:=by
             have:=congrArg List.length u2;simp at this hroom;omega
            have key1:=key.1 hfit (dX w p.b (.cells c' ety)) (by
             simp[nS,hlen];rw[<-hdes];exact u1)
            have hrowrel:eP I μ ⟨p.b,p.o+off*es2,es2,p.sz⟩ c' es2 (xs++ys):=by
             refine⟨rfl,by rw[hcs];exact hsz,?_,?_,?_,?_⟩
             .intro x hx;rcases List.mem_append.1 hx with h|h;exact(e5 x h).trans hdes.symm;exact(f5 x h).trans hdes.symm
             .intro x hx;rcases List.mem_append.1 hx with h|h;exact e6 x h;exact f6 x h
             .rw[hcs,ζi,hlen,Nat.add_mul];simp only;omega
             .have e:(c'.toList.drop (p.o+off*es2)).take ((xs++ys).length*es2)=(c.toList.drop (p.o+off*es2)).take (len*es2)++arrx.toList:=by
               rw[u2,ζi,hlen,Nat.add_mul,hnl];simp only[Nat.add_zero];have hl1:(List.take (p.o+off*es2+len*es2) c.toList).length=p.o+off*es2+len*es2:=by simp;omega
               rw[List.append_assoc,List.drop_append_of_le_length (by rw[hl1];omega),List.drop_take,show p.o+off*es2+len*es2-(p.o+off*es2)=len*es2 by omega]
               have hl2:(List.take (len*es2) (List.drop (p.o+off*es2) c.toList)).length=len*es2:=by simp;omega
               rw[<-List.append_assoc,List.take_left' (by rw[ζi,hl2];simp)]
              rw[e,List.flatten_append];exact r1.append f4
            obtain⟨s1,s2⟩:=Iw (ob':=.row es2 (xs++ys)) (p':=⟨p.b,p.o+off*es2,es2,p.sz⟩)  s hid rfl q1 rfl
             ⟨_,c',ety,Mu.eN _ _ _,q2,eU _ (Array.getElem?_eq_some_iff.1 q3).1,hrowrel.mono (bl.le_refl _) (Mu.o8 (s.dom _ (Nat.le_refl _)))⟩
            rw[<-hdes];refine⟨_,_,_,_,hrun _ _ key1,.inl rfl,?_,s1,s2⟩;have:=aJ.hsl (I:=I) H.length 0 (xs.length+ys.length) cap2 _ (Mu.eN μ H.length ⟨p.b,p.o+off*es2,es2,p.sz⟩) hfit (by simp ;omega)
            simpa using this
           .exact hnewblock (by omega)
          .have hcap  := by rw[ee]at e1;simp[Value.slice.injEq]at e1;exact e1.2.2.symm
           exact hnewblock (by omega)
         .simp at hxs
        .simp at hxs
       .simp at hgr
      | _=>simp[fQ]at hgr
     grind
    grind
   grind
  .
   rename_i e kk hk hk';obtain⟨d0,hd0,hkd⟩:=dR hk;obtain⟨desc,h1,h2,h3⟩:=(hE.ty hd0).ct;rw[hkd]at h2;have:=iO h2;subst this;obtain⟨d1,CI,hkd1⟩:=dR hk';obtain⟨desc1,g1,g2,g3⟩:=(hE.ty CI).ct;rw[hkd1]at g2;have:=Fy g2;subst this;have hrun:∀v w',(Builtin.append_ #[t,t'] ty #[us,ux]).run P w=.ok v w' ->
    (do let d <-resolve a.eval { callee:=.builtin .append,args,argTypes:=ats } ty;invoke d.target d.args).run P w=.ok (.value v) w':=by
    intro v w' hv;simp[resolve,Sem.run_bind,Sem.run_pure,Result.andThen_ok,invoke,builtin];rw[qF eargs];have ea:ats=#[t,t']:=by apply Array.ext';simpa using hats
    rw[ea,hv];rfl
   split at h
   .rename_i d hd;unfold mkApp at h;split at h
    .rename_i k m;have q:=hs.kq;subst q;have q:=hx.ey;subst q;split at h
     .rename_i h0;subst h0;cases h;have key:=(CO (μ:=μ) (I:=I) (w:=w) (k:=k) hE h1 g1 hd ty 0 (by omega)).1 rfl
      exact⟨_,_,w,μ,hrun _ _ key,.inl rfl,hs,s,.refl _ _ _ _⟩
     .split at h
      .rename_i hc;obtain⟨hc0,hc1,hc2,hc3⟩:=hc;cases h;obtain⟨m,rfl⟩:=Int.eq_ofNat_of_zero_le (Int.le_of_lt hc0);obtain⟨cap',z,rest,k1,k2,k3,k4⟩:=(CO     hE h1 g1 hd ty m (by omega)).2 (by omega) hc2 hc3
       have hzl  := (hE.ty hd).info.choose_spec.choose_spec.2.2.2.2.2.1;have hzo  := (hE.ty hd).info.choose_spec.choose_spec.2.2.2.2.2.2.1;have hu:∀x∈List.replicate m d.zero,x.length=d.size:=λx hx=>by rw[List.eq_of_mem_replicate hx];exact hzl
       have ho:∀x∈List.replicate m d.zero,∀y∈x,V.one y=true:=λx hx y hy=>by rw[List.eq_of_mem_replicate hx]at hy;exact List.all_eq_true.1 hzo y hy
       obtain⟨μ',m1,m2,m3⟩:=y8  (xs:=[]) (ys:=List.replicate m d.zero) (old:=#[]) (new:=Builtin.zeroCells z m) (rest:=rest) s.drew .nil (u_ k3 m) (by simp) hu (by simp) ho (by simpa using k1) (by simpa using k2)
       simp  at m1 m2 m3;refine⟨_,_,_,μ',hrun _ _ k4,.inl rfl,by simpa using m1,by simpa using m2,?_⟩
       exact Step.trans s.drew (Step.nu rfl rfl ⟨rfl,rfl,Nat.le_succ _⟩) (by simpa using m3)
      .cases h
    .cases h
   .cases h
  grind
 grind
theorem yE {es:Nat} {xs:List (List V)} (hu:∀x∈xs,x.length=es) (k:Nat) (hk:k<=xs.length):(xs.take k).flatten=xs.flatten.take (k*es)/\(xs.drop k).flatten=xs.flatten.drop (k*es):=by
 have hx:xs.flatten=(xs.take k).flatten++(xs.drop k).flatten:=by rw[<-List.flatten_append,List.take_append_drop]
 have g1:(xs.take k).flatten.length=k*es:=by
  rw[eo (λx hx=>hu x (List.mem_of_mem_take hx)),List.length_take,Nat.min_eq_left hk]
 grind
theorem L6 (hE:dh P E) (r:cZ I μ n F a.tmps) (s:bO I μ H w) {args:Array Operand} {ats:Array TypeId} {x:V} {ty:TypeId}
 (h:bR E F H (.call { callee:=.builtin .clear,args,argTypes:=ats })=some (x,H')) :
 Ar P I μ H w (do let d <-resolve a.eval { callee:=.builtin .clear,args,argTypes:=ats } ty;invoke d.target d.args) x H':=by
 simp[bR]at h;split at h
 .rename_i t v hat hargs;obtain⟨u,hu,hr⟩:=(mh r hargs).one;split at h
  .rename_i e hk;obtain⟨d0,hd0,hkd⟩:=dR hk;obtain⟨desc,h1,h2,h3⟩:=(hE.ty hd0).ct;rw[hkd]at h2;have:=iO h2;split at h
   .rename_i d hd;obtain⟨i,z,hi,hisz,hib,hz,hzr,hzl,hzo,_⟩:=(hE.ty hd).info;have hzrun:∀w,(zeroValue e).run P w=.ok z w:=λw=>by simp[zeroValue,mT hi,hz]
    have hzs:z.cells.size=d.size:=by have:=(hzr (λ_=>none) (λ_=>none)).1;grind
    have hrun:∀v w',(Builtin.clear_ ats ty #[u]).run P w=.ok v w' ->
     (do let d <-resolve a.eval { callee:=.builtin .clear,args,argTypes:=ats } ty;invoke d.target d.args).run P w=.ok (.value v) w':=by
     intro v w' hv;simp[resolve,Sem.run_bind,Sem.run_pure,Result.andThen_ok,invoke,builtin];rw[qF hu,hv];rfl
    have triv:∀ad cap,u=.slice ad 0 cap->Ar P I μ H w (do let d <-resolve a.eval { callee:=.builtin .clear,args,argTypes:=ats } ty;invoke d.target d.args) .undef H:=λad cap q=>by
     subst q;refine⟨_,.tuple #[],w,μ,hrun (.tuple #[]) w ?_,.inl rfl,aJ.undef _ _,s,.refl _ _ _ _⟩;unfold Builtin.clear_;cases ad <;> simp[hat,h3]
    unfold A4 at h;split at h
    .cases h;exact triv _ _ hr.kq
    .obtain⟨ad,q⟩:=hr.qC;grind
    .rename_i id es off len;split at h
     .rename_i hes;subst hes;split at h
      .rcases hr.kr with⟨p,cap,_,_,_,_,q⟩|⟨_,ad,q⟩
       .grind
       grind
      .rename_i len;split at h
       .rename_i es' xs hid;split at h
        .rename_i hle;cases h;obtain⟨p,c,el,hp,hI,hcell,hrr⟩:=s.obs id _ hid;rcases hr.kr with⟨q,cap,hq,hqe,hcap,hroom,rfl⟩|⟨h0,_⟩
         .rw[hp]at hq;cases hq;have hes:es'=d.size:=by rw[<-hrr.es_eq,hqe]
          subst hes;have hzc:(Builtin.zeroCells z.cells (len+1)).size=(len+1)*d.size:=by rw[oB,hzs]
          have hrm:=hrr.room;have hmul:(off+(len+1))*d.size<=xs.length*d.size:=Nat.mul_le_mul_right _ hle;rw[Nat.add_mul]at hmul;have hzrel:=u_   (hzr I μ) (len+1);have huz:∀x∈List.replicate (len+1) d.zero,x.length=d.size:=λx hx=>by rw[List.eq_of_mem_replicate hx];exact hzl
          have hoz:∀x∈List.replicate (len+1) d.zero,∀y∈x,V.one y=true:=λx hx y hy=>by rw[List.eq_of_mem_replicate hx]at hy;exact List.all_eq_true.1 hzo y hy
          obtain⟨c',u1,u2⟩:=mR (P:=P) (o:=p.o+off*d.size) (Builtin.zeroCells z.cells (len+1)).toList 0 w c hcell (bF.M5 hzrel (λx hx=>by
           obtain⟨l,hl,hxl⟩:=List.mem_flatten.1 hx;exact hoz l hl x hxl)) (by simp[hzc];omega)
          rw[Nat.add_zero]at u2;have hcs:c'.size=c.size:=by
           have:=congrArg List.length u2;simp[hzc]at this;omega
          obtain⟨s2,st2⟩:=s.write  (ob':=.row d.size (xs.take off++List.replicate (len+1) d.zero++xs.drop (off+(len+1)))) hid rfl hp
           ⟨p,c',el,hp,hI,eU _ (Array.getElem?_eq_some_iff.1 hcell).1,by
            have hnl:(xs.take off++List.replicate (len+1) d.zero++xs.drop (off+(len+1))).length=xs.length:=by simp;omega
            refine⟨hrr.es_eq,by rw[hcs];exact hrr.sz,?_,?_,by rw[hnl,hcs];exact hrr.room,?_⟩
            .intro x hx;rcases List.mem_append.1 hx with hx|hx
             .rcases List.mem_append.1 hx with hx|hx
              .exact hrr.nG x (List.mem_of_mem_take hx)
              .exact huz x hx
             .exact hrr.nG x (List.mem_of_mem_drop hx)
            .intro x hx;rcases List.mem_append.1 hx with hx|hx
             .rcases List.mem_append.1 hx with hx|hx
              .exact hrr.one x (List.mem_of_mem_take hx)
              .exact hoz x hx
             .exact hrr.one x (List.mem_of_mem_drop hx)
            .rw[hnl,u2];have hL:=zJ c.toList (Builtin.zeroCells z.cells (len+1)).toList p.o (xs.length*d.size) (off*d.size) (by simp;omega) (by simp[hzc];omega)
             rw[hL,List.flatten_append,List.flatten_append,(yE hrr.nG off (by omega)).1,(yE hrr.nG _ hle).2]
             have e:off*d.size+(Builtin.zeroCells z.cells (len+1)).toList.length=(off+(len+1))*d.size:=by simp[hzc,Nat.add_mul]
             rw[e];exact((hrr.rel.take _).append hzrel).append (hrr.rel.drop _)⟩
          refine⟨_,.tuple #[],_,μ,hrun (.tuple #[]) (dX w p.b (.cells c' el)) ?_,.inl rfl,aJ.undef _ _,s2,st2⟩;unfold Builtin.clear_;simp_all
         simp_all
        simp_all
       simp_all
     simp_all
    simp_all
   simp_all
  simp_all
 simp_all
end
end Go.VE
namespace Go.VE
variable [aW]
section
variable {P:Program} {E:Env} {I:bl} {μ:Mu} {H H':ak} {n:Nat} {F:Frame} {a:Act} {w:World}
theorem SC (s t:ByteArray) (h:(s==t)=true):s=t:=by
 cases s with|mk a=>cases t with|mk b=>
 have h':(a==b)=true:=h
 grind
inductive wY (P:Program) (E:Env) (t:TypeId):V->Value->Prop
 | int (k:IntKind) (m:Int) (h:P.underlying t=some (.int k)):wY P E t (.int k m) (.int k m)
 | str (s:ByteArray) (h:P.underlying t=some .string):wY P E t (.str s) (.string s)
 | agg (m:Nat) (cs:List V) (l:List Int) (h:rY P t m) (hl:l.length=m) (hi:gj cs=some l):wY P E t (.agg cs) (.agg (ic l))
theorem Kq (hE:dh P E) {t:TypeId} {k:V} {v:Value} (h:vn E t k=true) (hv:aJ I μ k v):wY P E t k v:=by
 unfold vn at h;split at h
 .rename_i k1 k2 m hk;obtain⟨d,hd,hkd⟩:=dR hk;obtain⟨desc,h1,h2,h3⟩:=(hE.ty hd).ct;rw[hkd]at h2;have:=Fy h2;subst this;have e:k1=k2:=by grind
  subst e;rw[hv.ey];exact .int _ _ h1
 .rename_i s hk;obtain⟨d,hd,hkd⟩:=dR hk;obtain⟨desc,h1,h2,h3⟩:=(hE.ty hd).ct;rw[hkd]at h2;have:=BF h2;subst this;rw[hv.rj];exact .str _ h1
 .rename_i cs _;split at h
  .rename_i m heq;simp[Option.isSome_iff_exists]at h;obtain⟨hl,l,hi⟩:=h;obtain⟨va,rfl,hla⟩:=hv.gq;obtain⟨rfl,e⟩:=oO hi hla;exact .agg m cs l (hE.eqN _ _ heq) (by omega) hi
  grind
 grind
theorem Kl (d:Nat) (e:Bool) {t:TypeId} {k:IntKind} {m:Int} (h:P.underlying t=some (.int k)):(Instr.checkKey e (d+1) t (.int k m)).run P w=.ok () w:=by
 simp[Instr.checkKey,Sem.run_bind,ct h,Result.andThen_ok,Sem.run_pure]
theorem K0 (d:Nat) (e:Bool) {t:TypeId} {m:ByteArray} (h:P.underlying t=some .string):(Instr.checkKey e (d+1) t (.string m)).run P w=.ok () w:=by
 simp[Instr.checkKey,Sem.run_bind,ct h,Result.andThen_ok,Sem.run_pure]
theorem xd {t:TypeId} {k:V} {v:Value} (h:wY P E t k v) (e:Bool):(Instr.checkKey e 10000 t v).run P w=.ok () w:=by
 cases h with
 | int k m h=>exact Kl 9999 e h
 | str s h=>exact K0 9999 e h
 | agg m cs l h hl hi=>exact h.check w e l hl
def kz (I:bl) (μ:Mu) (es:List MapEntry) (i:Nat):Option (Nat×V)->Option (Nat×Value)->Prop
 | none,none=>True
 | some (j,x),some (j',v)=>j=j'/\aJ I μ x v/\i<=j/\∃e,es[j-i]? = some e/\e.val=v
 | _,_=>False
theorem Be {d:TypeDesc} {k:V} {v:Value} (hd:(∃kk m,d=.int kk/\k=.int kk m/\v=.int kk m)\/(∃s,d=.string/\k=.str s/\v=.string s)) :
 ∀(kvs:List (V×V)) (es:List MapEntry) (i:Nat) (r:Option (Nat×V)),kvs.length=es.length->(∀(j:Nat) q e,kvs[j]? = some q->es[j]? = some e->aJ I μ q.1 e.key/\aJ I μ q.2 e.val) ->
 fT k kvs i=some r->∃r',Instr.findNow d v es i=some r'/\kz I μ es i r r'/\∀j x,r=some (j,x)->∃e,es[j-i]? = some e/\e.key=v:=by
 intro kvs
 induction kvs with
 | nil=>
  intro es i r hl _ h
  cases es with
  | nil=>simp only[fT,ζa]at h;subst h;exact⟨none,rfl,trivial,by simp⟩
  | cons _ _=>simp_all
 | cons q kvs ih=>
  intro es i r hl hr h
  cases es with
  | nil=>simp_all
  | cons e es=>
   obtain⟨q1,q2⟩:=q;obtain⟨g1,g2⟩:=hr 0 (q1,q2) e rfl rfl;simp only[fT]at h;have hsame:∀b,vk k q1=some b->Instr.sameNow d v e.key=some b/\(b=true->e.key=v):=by
    intro b hb;rcases hd with⟨kk,m,rfl,rfl,rfl⟩|⟨s,rfl,rfl,rfl⟩
    .cases q1 <;> simp only[vk]at hb <;> (try grind)
     rename_i k2 m2;split at hb
     .rename_i hkk;simp only[ζa]at hb;subst hb;subst hkk;rw[g1.ey];exact⟨by simp[Instr.sameNow],by simp;grind⟩
     grind
    .cases q1 <;> simp only[vk]at hb <;> (try (simp at hb;done))
     simp only[ζa]at hb;subst hb;rw[g1.rj];exact⟨by simp[Instr.sameNow],λhe=>by rw[SC _ _ he]⟩
   split at h
   .rename_i hk;obtain⟨f1,f2⟩:=hsame true hk;simp only[ζa]at h;subst h;refine⟨some (i,e.val),by simp[Instr.findNow,f1],⟨rfl,g2,Nat.le_refl _,e,by simp,rfl⟩,?_⟩
    intro j x hj;simp only[ζa,ζc]at hj;obtain⟨rfl,_⟩:=hj;exact⟨e,by simp,f2 rfl⟩
   .rename_i hk;obtain⟨f1,_⟩:=hsame false hk;obtain⟨r',p1,p2,p3⟩:=ih es (i+1) r (by simpa using hl) (λj a b x y=>hr (j+1) a b (by simpa using x) (by simpa using y)) h
    refine⟨r',by simp[Instr.findNow,f1,p1],?_,?_⟩
    .cases r with
     | none=>cases r' <;> simp_all [kz]
     | some z=>
      cases r' with
      | none=>simp[kz]at p2
      | some z'=>
       obtain⟨c1,c2,c3,e',c4,c5⟩:=p2;exact⟨c1,c2,by omega,e',by rw[show z.1-i=(z.1-(i+1))+1 by omega];simpa using c4,c5⟩
    .intro j x hj;obtain⟨e',u1,u2⟩:=p3 j x hj;subst hj;have:i+1<=j:=by
      cases r' with
      | none=>simp[kz]at p2
      | some z'=>exact p2.2.2.1
     exact⟨e',by rw[show j-i=(j-(i+1))+1 by omega];simpa using u1,u2⟩
   grind
theorem Iq {t:TypeId} {m:Nat} (hq:rY P t m) {cs:List V} {l:List Int} (hl:l.length=m) (hi:gj cs=some l) :
 ∀(kvs:List (V×V)) (es:List MapEntry) (i:Nat) (r:Option (Nat×V)),kvs.length=es.length->(∀(j:Nat) q e,kvs[j]? = some q->es[j]? = some e->aJ I μ q.1 e.key/\aJ I μ q.2 e.val) ->
 fT (.agg cs) kvs i=some r->∃r',(Instr.findAsking t (.agg (ic l)) es i).run P w=.ok r' w/\kz I μ es i r r'/\∀j x,r=some (j,x)->∃e,es[j-i]? = some e/\e.key=.agg (ic l):=by
 intro kvs
 induction kvs with
 | nil=>
  intro es i r hle _ h
  cases es with
  | nil=>simp[fT]at h;subst h;exact⟨none,rfl,trivial,by simp⟩
  | cons _ _=>simp_all
 | cons q kvs ih=>
  intro es i r hle hr h
  cases es with
  | nil=>simp_all
  | cons e es=>
   obtain⟨q1,q2⟩:=q;obtain⟨g1,g2⟩:=hr 0 (q1,q2) e rfl rfl;simp[fT]at h;have hsame:∀b,vk (.agg cs) q1=some b->(Op.equal t (.agg (ic l)) e.key).run P w=.ok b w/\(b=true->e.key=.agg (ic l)):=by
    intro b hb;cases q1 <;> simp[vk]at hb <;> (try (simp at hb))
    obtain⟨ia,ib,x1,x2,x3,rfl⟩:=vw hb;rw[hi]at x1;cases x1;obtain⟨vb,ev,hlb⟩:=g1.gq;obtain⟨rfl,e2⟩:=oO x2 hlb;rw[ev];refine⟨hq.key w l ib hl (by omega),?_⟩
    grind
   split at h
   .rename_i hk;obtain⟨f1,f2⟩:=hsame true hk;simp  at h;subst h;refine⟨some (i,e.val),by simp[Instr.findAsking,f1],⟨rfl,g2,Nat.le_refl _,e,by simp,rfl⟩,?_⟩
    grind
   .rename_i hk;obtain⟨f1,_⟩:=hsame false hk;obtain⟨r',p1,p2,p3⟩:=ih es (i+1) r (by grind) (λj a b x y=>hr (j+1) a b (by grind) (by simpa using y)) h
    refine⟨r',by simp[Instr.findAsking,f1,p1],?_,?_⟩
    .cases r with
     | none=>cases r' <;> simp_all [kz]
     | some z=>
      cases r' with
      | none=>simp[kz]at p2
      | some z'=>
       obtain⟨c1,c2,c3,e',c4,c5⟩:=p2;exact⟨c1,c2,by omega,e',by rw[show z.1-i=(z.1-(i+1))+1 by omega];simpa using c4,c5⟩
    .intro j x hj;obtain⟨e',u1,u2⟩:=p3 j x hj;subst hj;have  := by
      cases r' with
      | none=>simp[kz]at p2
      | some z'=>exact p2.2.2.1
     exact⟨e',by rw[show j-i=(j-(i+1))+1 by omega];simpa using u1,u2⟩
   grind
theorem tL {t:TypeId} {k:V} {v:Value} (h:wY P E t k v) {kvs:List (V×V)} {es:Array MapEntry} (hr:tI I μ kvs es) {r:Option (Nat×V)} (hf:fT k kvs 0=some r) :
 ∃r',(Instr.findKey t v es.toList).run P w=.ok r' w/\kz I μ es.toList 0 r r'/\∀j x,r=some (j,x)->∃e,es[j]? = some e/\e.key=v:=by
 have hlen  := by simpa using hr.1
 have hrel:∀(j:Nat) q e,kvs[j]? = some q->es.toList[j]? = some e->aJ I μ q.1 e.key/\aJ I μ q.2 e.val:=λj q e x y=>hr.2 j q e x (by grind)
 have fin:∀(r':Option (Nat×Value)),(∀j x,r=some (j,x)->∃e,es.toList[j-0]? = some e/\e.key=v)->∀j x,r=some (j,x)->∃e,es[j]? = some e/\e.key=v:=by
  grind
 cases h with
 | int kk m h=>
  obtain⟨r',g1,g2,g3⟩:=Be (.inl ⟨kk,m,rfl,rfl,rfl⟩) kvs es.toList 0 r hlen hrel hf;exact⟨r',by simp[Instr.findKey,Sem.run_bind,ct h,Result.andThen_ok,g1,Sem.run_pure],g2,fin r' g3⟩
 | str s h=>
  obtain⟨r',g1,g2,g3⟩:=Be (.inr ⟨s,rfl,rfl,rfl⟩) kvs es.toList 0 r hlen hrel hf;exact⟨r',by simp[Instr.findKey,Sem.run_bind,ct h,Result.andThen_ok,g1,Sem.run_pure],g2,fin r' g3⟩
 | agg m cs l h hl hi=>
  obtain⟨r',g1,g2,g3⟩:=Iq (w:=w) h hl hi kvs es.toList 0 r hlen hrel hf;obtain⟨d,hd,hdk⟩:=h.kind;refine⟨r',?_,g2,fin r' g3⟩;simp[Instr.findKey,Sem.run_bind,ct hd,Result.andThen_ok]
  cases hes:es.toList with
  | nil=>
   rw[hes]at g1;simp[Instr.findNow,Sem.run_pure];simpa [Instr.findAsking]using g1
  | cons e rest=>
   have:Instr.findNow d (.agg (ic l)) (e::rest) 0=none:=by
    rcases hdk with⟨_,_,rfl⟩|⟨_,rfl⟩ <;> simp[Instr.findNow,Instr.sameNow]
   grind
theorem yb {b:Nat} {o:Obj} (h:w.heap[b]? = some o) (hn:∀c e f,o≠.cells c e f):(getObj b).run P w=.ok o w:=by
 simp[getObj,Sem.run,h]
theorem MD (s:bO I μ H w) {m:V} {v:Value} (hv:aJ I μ m v) {kvs:List (V×V)} (h:kU H m=some kvs) :
 (v=.map none/\kvs=[])\/∃b es clock,v=.map (some b)/\w.heap[b]? = some (.map es clock)/\tI I μ kvs es:=by
 cases m with
 | eX=>simp only[kU,ζa]at h;exact .inl ⟨hv.LQ,h.symm⟩
 | fmap k=>
  simp[kU]at h;subst h
  cases hv with
  | c _ _ hv=>cases hv with
   | fmap _ b es hI hl hk hvv=>
    obtain⟨cl,g⟩:=s.imm _ _ hI;exact .inr ⟨b,es,cl,rfl,g,hl,λj q e x y=>⟨.c _ _ (hk j q e x y),.c _ _ (hvv j q e x y)⟩⟩
 | hmap id=>
  simp[kU]at h;split at h
  .rename_i kv hid;simp  at h;obtain⟨p,es,cl,g1,g2,g3,g4⟩:=s.obs id _ hid;obtain⟨q,hq,e⟩:=hv.Aw
   grind
  grind
 | _=>simp[kU]at h
theorem JY (hE:dh P E) (r:cZ I μ n F a.tmps) (s:bO I μ H w) {t:TypeId} {m k:Operand} {ok:Bool} {x:V} (h:cK E F H (.lookup t m k ok)=some x) :
 ∃v,(Instr.lookup t (a.eval m) (a.eval k) ok).run P w=.ok v w/\aJ I μ x v:=by
 simp[cK]at h;split at h
 .rename_i kt et mv kv hk hm hkk;obtain⟨d,hd,hkd⟩:=dR hk;obtain⟨desc,h1,h2,h3⟩:=(hE.ty hd).ct;rw[hkd]at h2;have:=yq h2;subst this;split at h
  .rename_i de kvs hde hkvs;split at h
   .rename_i hok;have hki:=Kq hE hok (cm r hkk);obtain⟨z,hz,hzr⟩:=(hE.ty hde).Pa;obtain⟨es,hkv,hrun⟩:∃es:Array MapEntry,tI I μ kvs es/\∀res,(Instr.findKey kt (a.eval k) es.toList).run P w=.ok res w->(Instr.lookup t (a.eval m) (a.eval k) ok).run P w =
     .ok (if ok then .tuple #[(res.map (·.2)).getD z,.bool res.isSome]else(res.map (·.2)).getD z) w:=by
     rcases MD s (cm r hm) hkvs with⟨e1,rfl⟩|⟨b,es,cl,e1,e2,e3⟩
     .refine⟨#[],⟨rfl,by simp⟩,λres hres=>?_⟩
      unfold Instr.lookup;rw[e1];simp[Sem.run_bind,h3,Result.andThen_ok,Sem.run_pure,xd hki,hres];cases res <;> cases ok <;> simp[hz]
     .refine⟨es,e3,λres hres=>?_⟩
      unfold Instr.lookup;rw[e1];simp[Sem.run_bind,h3,Result.andThen_ok,Sem.run_pure,yb e2 (by simp),xd hki,hres]
      cases res <;> cases ok <;> simp[hz]
    split at h
    .rename_i j y _ hfind;simp  at h;obtain⟨res,q1,q2,_⟩:=tL  hki hkv hfind
     cases res with
     | none=>simp[kz]at q2
     | some q=>
      obtain⟨_,hv,_⟩:=q2;refine⟨_,hrun _ q1,?_⟩;subst h
      cases ok with
      | true=>exact .NJ (.cons hv (.cons (.c _ _ (.bool _)) .nil))
      | false=>exact hv
    .rename_i y hfind hy;simp  at h;obtain⟨res,q1,q2,_⟩:=tL  hki hkv hfind
     cases res with
     | some q=>simp[kz]at q2
     | none=>
      refine⟨_,hrun _ q1,?_⟩;subst h
      cases ok with
      | true=>exact .NJ (.cons (hzr _ _ _ hy) (.cons (.c _ _ (.bool _)) .nil))
      | false=>grind
    grind
   grind
  grind
 grind
end
end Go.VE
namespace Go.VE
variable [aW]
section
variable {P:Program} {E:Env} {I:bl} {μ:Mu} {H H':ak} {n:Nat} {F:Frame} {a:Act} {w:World}
theorem Ga (l:List Int) (d:Nat):Instr.sameBits (d+2) (.agg (ic l)) (.agg (ic l))=true:=by
 simp only[Instr.sameBits,beq_self_eq_true,Bool.true_and,List.all_eq_true];intro p hp;obtain⟨j,hj,rfl⟩:=List.mem_iff_getElem.1 hp;simp[ic,Instr.sameBits]
theorem M3 {t:TypeId} {k:V} {v:Value} (h:wY P E t k v):(Instr.keyThatStays v v).run P w=.ok v w:=by
 have:Instr.sameBits 10000 v v=true:=by
  cases h with
  | int k m h=>simp[Instr.sameBits]
  | str s h=>simp[Instr.sameBits];exact(by cases s;exact beq_self_eq_true (α:=Array UInt8) _)
  | agg m cs l h hl hi=>exact Ga l 9998
 unfold Instr.keyThatStays;rw[this];rfl
theorem CG {b:Nat} {es:Array MapEntry} {clock:Nat} (o:Obj) (h:w.heap[b]? = some (.map es clock)):(setObj b o).run P w=.ok () (dX w b o):=by
 simp only[setObj,Sem.run,h];rfl
theorem yO (hE:dh P E) (r:cZ I μ n F a.tmps) (s:bO I μ H w) {t:TypeId} {m k y:Operand} {x:V} (h:bR E F H (.mapUpdate t m k y)=some (x,H')) :
 Ar P I μ H w (do Instr.mapUpdate t (a.eval m) (a.eval k) (a.eval y);pure .skip) x H':=by
 simp only[bR]at h;split at h
 .rename_i kt et id kv yv hk hm hkk hy;obtain⟨d,hd,hkd⟩:=dR hk;obtain⟨desc,h1,h2,h3⟩:=(hE.ty hd).ct;rw[hkd]at h2;have:=yq h2;subst this;split at h
  .rename_i kvs hid;split at h
   .rename_i hok;simp only[ζf,ζc]at h;obtain⟨kvs',hput,rfl,rfl⟩:=h;have hki:=Kq hE hok (cm r hkk);obtain⟨p,es,cl,g1,g2,g3,g4⟩:=s.obs id _ hid;obtain⟨q,hq,em⟩:=(cm r hm).Aw;rw[g1]at hq;cases hq;have hblt:=(Array.getElem?_eq_some_iff.1 g3).1;have hpre:∀(f:Unit->Sem Next) ,True:=λ_=>trivial
    unfold od at hput;have hkrel:=cm r hkk;have hyrel:=cm r hy;split at hput
    .rename_i j z hfind;simp only[ζa]at hput;subst hput;obtain⟨res,q1,q2,q3⟩:=tL (w:=w) hki g4 hfind
     cases res with
     | none=>simp[kz]at q2
     | some res=>
      obtain⟨j',zv⟩:=res;obtain⟨rfl,_,_,e',he',_⟩:=q2;obtain⟨e2,he2,hek⟩:=q3 j z rfl;have hj:=(Array.getElem?_eq_some_iff.1 he2).1;have hrel:tI I μ (kvs.set j (kv,yv)) (es.modify j λe=>{ e with key:=a.eval k,val:=a.eval y }):=by
       refine⟨by simpa using g4.1,λi q e h1 h2=>?_⟩
       by_cases hij:i=j
       .subst hij;rw[List.getElem?_set_self (by rw[g4.1];exact hj)]at h1
        cases h1;rw[Array.getElem?_modify]at h2;simp only[if_true,ζf]at h2;obtain⟨_,_,rfl⟩:=h2;exact⟨hkrel,hyrel⟩
       .rw[List.getElem?_set_ne (Ne.symm hij)]at h1;rw[Array.getElem?_modify]at h2;rw[if_neg (Ne.symm hij)]at h2;exact g4.2 i q e h1 h2
      obtain⟨s1,s2⟩:=s.write (ob':=.map (kvs.set j (kv,yv))) (o:=.map (es.modify j λe=>{ e with key:=a.eval k,val:=a.eval y }) cl) hid rfl g1
       ⟨p,_,cl,g1,g2,eU _ hblt,hrel⟩
      refine⟨.skip,undef,_,μ,?_,.inr ⟨rfl,rfl⟩,.undef I μ,s1,s2⟩;unfold Instr.mapUpdate;rw[em];have hkey:((es[j]?).map (·.key)).getD (a.eval k)=a.eval k:=by rw[he2];simpa using hek
      simp only[Sem.run_bind,h3,Result.andThen_ok,yb g3 (by simp),xd hki,q1,hkey,M3 hki,CG _ g3,Sem.run_pure]
    .rename_i hfind;simp only[ζa]at hput;subst hput;obtain⟨res,q1,q2,q3⟩:=tL (w:=w) hki g4 hfind
     cases res with
     | some q=>simp[kz]at q2
     | none=>
      have hrel:tI I μ (kvs++[(kv,yv)]) (es.push { key:=a.eval k,val:=a.eval y,born:=cl }):=by
       refine⟨by simp[g4.1],λi q e h1 h2=>?_⟩
       by_cases hij:i<kvs.length
       .rw[List.getElem?_append_left hij]at h1;rw[Array.getElem?_push]at h2;rw[if_neg (by rw[<-g4.1];omega)]at h2
        exact g4.2 i q e h1 h2
       .have hlt:=(ζe.1 h1).1;simp at hlt;have:i=kvs.length:=by omega
        subst this;simp at h1;subst h1;rw[Array.getElem?_push,if_pos g4.1]at h2;cases h2;exact⟨hkrel,hyrel⟩
      obtain⟨s1,s2⟩:=s.write (ob':=.map (kvs++[(kv,yv)])) (o:=.map (es.push { key:=a.eval k,val:=a.eval y,born:=cl }) (cl+1)) hid rfl g1
       ⟨p,_,_,g1,g2,eU _ hblt,hrel⟩
      refine⟨.skip,undef,_,μ,?_,.inr ⟨rfl,rfl⟩,.undef I μ,s1,s2⟩;unfold Instr.mapUpdate;rw[em];simp only[Sem.run_bind,h3,Result.andThen_ok,yb g3 (by simp),xd hki,q1,CG _ g3,Sem.run_pure]
    .simp at hput
   .simp at h
  .simp at h
 .simp at h
theorem O3 (hE:dh P E) (r:cZ I μ n F a.tmps) (s:bO I μ H w) (o:Oper) {x:V} (h:cK E F H o.op=some x) :
 ∃v,(execOp a.eval o).run P w=.ok (.value v) w/\aJ I μ x v:=by
 obtain⟨dst,op,ty,pos,after,guard⟩:=o;simp only at h
 cases op with
 | load t p=>
  simp only[cK]at h;split at h
  .rename_i d pv hd hp;obtain⟨u,h1,h2,_⟩:=BL hE s hd (cm r hp) h;exact⟨u,cH h1,h2⟩
  .simp at h
 | lookup t m k ok=>
  obtain⟨u,h1,h2⟩:=JY hE r s h;exact⟨u,cH h1,h2⟩
 | _=>simp[cK]at h
theorem OG (hE:dh P E) (r:cZ I μ n F a.tmps) (s:bO I μ H w) (o:Oper) {x:V} (h:bR E F H o.op=some (x,H')):Ar P I μ H w (execOp a.eval o) x H':=by
 obtain⟨dst,op,ty,pos,after,guard⟩:=o;simp only at h
 cases op with
 | store t p q=>exact MR hE r s h
 | mapUpdate t m k y=>exact yO hE r s h
 | insert t m k y=>exact yO (t:=t) (m:=m) (k:=k) (y:=y) hE r s h
 | call c=>
  obtain⟨callee,args,ats⟩:=c
  cases callee with
  | builtin b=>
   cases b with
   | append=>exact La hE r s h
   | clear=>exact L6 hE r s h
   | _=>simp[bR]at h
  | _=>simp[bR]at h
 | _=>simp[bR]at h
end
end Go.VE
namespace Go.VE
variable [aW]
theorem sE {xs:List V} (h:V.jP xs=true):∀x∈xs,V.closed x=true:=by
 induction xs with
 | nil=>simp
 | cons x r ih=>
  simp[V.jP]at h
  grind
theorem sD {xs:List V} (h:V.bQ xs=true):∀x∈xs,V.scalar x=true:=by
 induction xs with
 | nil=>simp
 | cons x r ih=>
  simp[V.bQ]at h
  grind
section
variable {I I':bl} {μ:Mu} {H H':ak} {w:World}
theorem aJ.closed {x:V} {v:Value} (h:aJ I μ x v) (hc:x.closed=true):dc I x v:=by
 induction h with
 | c x v h=>omega
 | hsl id off len cap p hm h1 h2=>simp[V.closed]at hc
 | hsl0 id es off a=>simp[V.closed]at hc
 | hptr id el off p hm=>simp[V.closed]at hc
 | yld id p hm=>simp[V.closed]at hc
 | hmap id p hm=>simp[V.closed]at hc
 | clo f x y u v hx hy _ _ ih1 ih2=>
  simp[V.closed]at hc;exact .clo f x y u v hx hy (λj a b p q=>ih1 j a b p q (sE hc.1 a (List.mem_of_getElem? p))) (λj a b p q=>ih2 j a b p q (sE hc.2 a (List.mem_of_getElem? p)))
 | agg cs vs hl _ ih=>
  exact .agg cs vs hl λj a b p q=>ih j a b p q (sE hc a (List.mem_of_getElem? p))
 | tup cs vs hl _ ih=>
  exact .tup cs vs hl λj a b p q=>ih j a b p q (sE hc a (List.mem_of_getElem? p))
theorem dc.scalar {x:V} {v:Value} (h:dc I x v) (hs:x.scalar=true):dc I' x v:=by
 induction h with
 | bool b=>exact .bool b
 | int k n=>exact .int k n
 | str s=>exact .str s
 | ck a=>exact .ck a
 | aR=>exact .aR
 | fI=>exact .fI
 | eX=>exact .eX
 | ql=>exact .ql
 | agg cs vs hl _ ih=>
  exact .agg cs vs hl λj a b p q=>ih j a b p q (sD hs a (List.mem_of_getElem? p))
 | tup cs vs hl _ ih=>
  exact .tup cs vs hl λj a b p q=>ih j a b p q (sD hs a (List.mem_of_getElem? p))
 | _=>simp[V.scalar]at hs
theorem gK {f:V->Option V}:∀{xs ys:List V},jS f xs=some ys->ys.length=xs.length/\∀(j:Nat) y,ys[j]? = some y->∃x,xs[j]? = some x/\f x=some y:=by
 intro xs
 induction xs with
 | nil=>intro ys h;simp[jS]at h;grind
 | cons x xs ih=>
  intro ys h;simp[jS]at h;split at h
  .grind
  grind
theorem Ij {f:V->Option V}:∀{xs ys:List (List V)},sN f xs=some ys->ys.length=xs.length/\∀(j:Nat) y,ys[j]? = some y->∃x,xs[j]? = some x/\jS f x=some y:=by
 intro xs
 induction xs with
 | nil=>intro ys h;simp[sN]at h;grind
 | cons x xs ih=>
  intro ys h;simp[sN]at h
  grind
theorem I4 {f:V->Option V}:∀{xs ys:List (V×V)},sH f xs=some ys->ys.length=xs.length/\∀(j:Nat) y,ys[j]? = some y->∃x,xs[j]? = some x/\f x.1=some y.1/\f x.2=some y.2:=by
 intro xs
 induction xs with
 | nil=>intro ys h;simp only[sH]at h;grind
 | cons x xs ih=>
  intro ys h;simp only[sH]at h
  grind
def Obj.ic:Obj->Option IC
 | .cells c _ _=>some (.cells c)
 | .map es _=>some (.map es)
 | _=>none
def zl (μ:Mu) (H:ak) (T:List Nat) (b:Nat):Prop:=∃id p ob,id∈T/\H[id]? = some ob/\ob.live=true/\μ id=some p/\p.b=b
open Classical in
noncomputable def plus (I:bl) (μ:Mu) (H:ak) (w:World) (T:List Nat):bl:=λb=>
 match I b with
 | some x=>some x
 | none=>if zl μ H T b then(w.heap[b]?).bind Obj.ic else none
theorem ni (I:bl) (μ:Mu) (H:ak) (w:World) (T:List Nat):bl.le I (plus I μ H w T):=by
 intro b x h;simp[plus,h]
theorem rS (s:bO I μ H w) (T:List Nat):∀b x,plus I μ H w T b=some x->x.at w b:=by
 intro b x h;unfold plus at h;split at h
 .rename_i y hy;cases h;exact s.imm b _ hy
 .split at h
  .obtain⟨o,ho,hx⟩:=ζg.1 h;cases o <;> simp[Obj.ic]at hx
   .subst hx;exact⟨_,_,ho⟩
   .subst hx;exact⟨_,ho⟩
  grind
theorem xq {T:List Nat} {b:Nat} (h:(plus I μ H w T b).isSome=true):(I b).isSome=true\/zl μ H T b:=by
 unfold plus at h
 grind
theorem zD {T:List Nat} {b:Nat} (h:zl μ H T b):fS μ H b:=by
 obtain⟨id,p,ob,_,h1,h2,h3,h4⟩:=h;exact⟨id,p,ob,h1,h2,h3,h4⟩
theorem Ap (s:bO I μ H w) {T:List Nat} {id es:Nat} {xs:List (List V)} (hT:id∈T) (h:(H[id]?).bind Ob.rows=some (es,xs)) :
 ∃p c,μ id=some p/\plus I μ H w T p.b=some (.cells c)/\eP I μ p c es xs:=by
 obtain⟨ob,h1,h2⟩:=ζg.1 h;have hob:=s.obs id ob h1;rcases Ey h2 with rfl|rfl
 .obtain⟨p,c,el,g1,g2,g3,g4⟩:=hob;refine⟨p,c,g1,?_,g4⟩;have ht:zl μ H T p.b:=⟨id,p,_,hT,h1,rfl,g1,rfl⟩;unfold plus;rw[g2];simp[ht,g3,Obj.ic]
 .obtain⟨p,c,g1,g2,g4⟩:=hob;exact⟨p,c,g1,ni _ _ _ _ _ _ _ g2,g4⟩
theorem eP.idx {p:Pl} {c:Array Value} {es:Nat} {xs:List (List V)} (r:eP I μ p c es xs) {i j:Nat} {x:List V} {y:V} {v:Value} (h1:xs[i]? = some x) (h2:x[j]? = some y)
 (h3:c[p.o+i*es+j]? = some v):aJ I μ y v:=by
 have hf:=uL r.nG h1 h2;refine r.rel.2 (i*es+j) y v hf ?_;have hlt:=(ζe.1 hf).1;rw[eo r.nG]at hlt
 grind
theorem jd {f:V->List Nat} {xs:List V} {x:V} {k:Nat} (hx:x∈xs) (hk:k∈f x):k∈cq f xs:=by
 induction xs with
 | nil=>simp_all
 | cons y r ih=>
  simp[cq]
  grind
theorem s7 (s:bO I μ H w) (T:List Nat):∀(n:Nat) (x y:V) (v:Value),borrow n H x=some y->(∀k∈bz n H x,k∈T)->aJ I μ x v ->
 dc (plus I μ H w T) y v/\(x.one=true->y.one=true):=by
 intro n
 induction n with
 | zero=>
  intro x y v h _ hv;simp only[borrow]at h;split at h
  .rename_i hc;simp  at h;subst h;exact⟨(hv.closed hc).mono (ni _ _ _ _ _),id⟩
  grind
 | succ n ih=>
  intro x y v h hT hv;simp[borrow]at h;split at h
  .rename_i hc;simp  at h;subst h;exact⟨(hv.closed hc).mono (ni _ _ _ _ _),id⟩
  .rename_i hnc;simp[bz,if_neg hnc]at hT;split at h
   .
    rename_i id es off len;split at h
    .rename_i es' xs hrow;split at h
     .rename_i hc;obtain⟨rfl,hle⟩:=hc;simp only[hrow]at hT;simp  at h;obtain⟨zs,hz,rfl⟩:=h;obtain⟨hzl,hzs⟩:=Ij hz;refine⟨?_,λ_=>rfl⟩
      have hlen:zs.length=len:=by grind
      rcases hv.kr with⟨p,cap,hm,hp,hcap,hb,rfl⟩|⟨h0,a,rfl⟩
      .obtain⟨p',c,g1,g2,g3⟩:=Ap s  (hT id (by simp)) hrow
       rw[hm]at g1;cases g1;have hget:∀i z,zs[i]? = some z->∃x',xs[off+i]? = some x'/\jS (borrow n H) x'=some z:=by
        grind
       have hTx:∀x'∈xs,∀q∈x',∀k∈bz n H q,k∈T:=by
        intro x' hx' q hq k hk;refine hT k ?_;exact List.mem_cons_of_mem _ (jd (List.mem_flatten.2 ⟨x',hx',hq⟩) hk)
       have hrel:dc (plus I μ H w T) (.fsl es' zs) (.slice (some ⟨p.b,p.o+off*es',none⟩) zs.length cap):=by
        refine .fsl es' zs p.b (p.o+off*es') cap c g2 (by omega) ?_ ?_ ?_ ?_
        .intro z hz';obtain⟨i,hi⟩:=List.mem_iff_getElem?.1 hz';obtain⟨x',hx1,hx2⟩:=hget i z hi;rw[(gK hx2).1];exact g3.nG x' (List.mem_of_getElem? hx1)
        .intro z hz' q hq;obtain⟨i,hi⟩:=List.mem_iff_getElem?.1 hz';obtain⟨x',hx1,hx2⟩:=hget i z hi;obtain⟨j,hj⟩:=List.mem_iff_getElem?.1 hq;obtain⟨q0,hq0,hq1⟩:=(gK hx2).2 j q hj;have hx'm:=List.mem_of_getElem? hx1;have hq0m:=List.mem_of_getElem? hq0;have hroom:=g3.room;have hxl:=g3.nG x' hx'm;have hjl:=(ζe.1 hq0).1;have hil:=(ζe.1 hx1).1;have hmul:(off+i)*es'+es'<=xs.length*es':=by
          have:=Nat.mul_le_mul_right es' (hil)
          grind
         have hlt  := by omega
         have hvr:=g3.idx hx1 hq0 (v:=c[p.o+(off+i)*es'+j]) (by simp[hlt])
         exact(ih q0 q _ hq1 (hTx x' hx'm q0 hq0m) hvr).2 (g3.one x' hx'm q0 hq0m)
        .have h1:=(g3.span hle).2
         grind
        .intro i j z q u hi hj hu;obtain⟨x',hx1,hx2⟩:=hget i z hi;obtain⟨q0,hq0,hq1⟩:=(gK hx2).2 j q hj;have hvr:=g3.idx hx1 hq0 (v:=u) (by grind)
         exact(ih q0 q u hq1 (hTx x' (List.mem_of_getElem? hx1) q0 (List.mem_of_getElem? hq0)) hvr).1
       grind
      .subst h0;have  := List.eq_nil_of_length_eq_zero hlen;subst this;exact .fsl0 es' _ _
     grind
    grind
   .
    rename_i id el off;split at h
    .rename_i es' xs hrow;split at h
     .rename_i cs hcs;split at h
      .simp only[hrow]at hT;simp  at h;obtain⟨zs,hz,rfl⟩:=h;obtain⟨hzl,hzs⟩:=gK hz;refine⟨?_,λ_=>rfl⟩
       obtain⟨p,hm,rfl⟩:=hv.rJ;obtain⟨p',c,g1,g2,g3⟩:=Ap s  (hT id (by simp)) hrow
       rw[hm]at g1;cases g1;obtain⟨k1,k2,k3⟩:=g3.elem hcs;rw[g3.es_eq];refine .fptr zs p.b _ c g2 ?_ ?_
       .rw[hzl,List.length_drop];omega
       .intro j q u hj hu;obtain⟨q0,hq0,hq1⟩:=hzs j q hj;rw[List.getElem?_drop]at hq0;have hvr:=g3.idx hcs hq0  (by rw[<-Nat.add_assoc];exact hu)
        refine(ih q0 q u hq1 (λk hk=>hT k ?_) hvr).1
        exact List.mem_cons_of_mem _ (jd (List.mem_flatten.2 ⟨cs,List.mem_of_getElem? hcs,List.mem_of_getElem? hq0⟩) hk)
      .simp at h
     .simp at h
    .simp at h
   .
    rename_i id;split at h
    .rename_i kvs hid;simp  at h;obtain⟨zs,hz,rfl⟩:=h;simp only[hid]at hT;obtain⟨hzl,hzs⟩:=I4 hz;refine⟨?_,λ_=>rfl⟩
     obtain⟨p,hm,rfl⟩:=hv.Aw;obtain⟨p',es,cl,g1,g2,g3,g4⟩:=s.obs id _ hid;rw[hm]at g1;cases g1;have ht:zl μ H T p.b:=⟨id,p,_,hT id (by simp),hid,rfl,hm,rfl⟩
     have hI:plus I μ H w T p.b=some (.map es):=by
      unfold plus;rw[g2];simp[ht,g3,Obj.ic]
     refine .fmap zs p.b es hI (by rw[hzl];exact g4.1) ?_ ?_
     .intro j q e hj he;obtain⟨q0,h1,h2,h3⟩:=hzs j q hj;refine(ih q0.1 q.1 e.key h2 (λk hk=>hT k ?_) (g4.2 j q0 e h1 he).1).1
      exact List.mem_cons_of_mem _ (List.mem_append.2 (.inl (jd (List.mem_map.2 ⟨q0,List.mem_of_getElem? h1,rfl⟩) hk)))
     .intro j q e hj he;obtain⟨q0,h1,h2,h3⟩:=hzs j q hj;refine(ih q0.2 q.2 e.val h3 (λk hk=>hT k ?_) (g4.2 j q0 e h1 he).2).1
      exact List.mem_cons_of_mem _ (List.mem_append.2 (.inr (jd (List.mem_map.2 ⟨q0,List.mem_of_getElem? h1,rfl⟩) hk)))
    .simp at h
   .rename_i f p q;split at h
    .rename_i p' q' hp hq;simp  at h;subst h;obtain⟨u1,u2,rfl,r1,r2⟩:=hv.jL;obtain⟨l1,m1⟩:=gK hp;obtain⟨l2,m2⟩:=gK hq;refine⟨.clo f p' q' u1 u2 (by rw[l1];simpa using r1.1) (by rw[l2];simpa using r2.1) ?_ ?_,λ_=>rfl⟩
     .intro j a b ha hb;obtain⟨a0,ha0,ha1⟩:=m1 j a ha;exact(ih a0 a b ha1 (λk hk=>hT k (List.mem_append.2 (.inl (jd (List.mem_of_getElem? ha0) hk)))) (r1.2 j a0 b ha0 (by simpa using hb))).1
     .intro j a b ha hb;obtain⟨a0,ha0,ha1⟩:=m2 j a ha;exact(ih a0 a b ha1 (λk hk=>hT k (List.mem_append.2 (.inr (jd (List.mem_of_getElem? ha0) hk)))) (r2.2 j a0 b ha0 (by simpa using hb))).1
    .simp at h
   .rename_i cs;simp  at h;obtain⟨zs,hz,rfl⟩:=h;obtain⟨l1,m1⟩:=gK hz;obtain⟨u1,rfl,r1⟩:=hv.gq;refine⟨.agg zs u1 (by rw[l1];simpa using r1.1) ?_,λh=>by simp[V.one]at h⟩
    intro j a b ha hb;obtain⟨a0,ha0,ha1⟩:=m1 j a ha;exact(ih a0 a b ha1 (λk hk=>hT k (jd (List.mem_of_getElem? ha0) hk)) (r1.2 j a0 b ha0 (by simpa using hb))).1
   .rename_i cs;simp  at h;obtain⟨zs,hz,rfl⟩:=h;obtain⟨l1,m1⟩:=gK hz;obtain⟨u1,rfl,r1⟩:=hv.oP;refine⟨.tup zs u1 (by rw[l1];simpa using r1.1) ?_,λh=>by simp[V.one]at h⟩
    intro j a b ha hb;obtain⟨a0,ha0,ha1⟩:=m1 j a ha;exact(ih a0 a b ha1 (λk hk=>hT k (jd (List.mem_of_getElem? ha0) hk)) (r1.2 j a0 b ha0 (by simpa using hb))).1
   grind
end
end Go.VE
namespace Go.VE
variable [aW]
def fr (ro:Option Nat):Fence:={ fn:=λ_=>True,depth:=none,alive:=false,round:=ro }
def uB (I:bl) (μ:Mu) (H:ak) (w:World) (r:V) (H':ak):Ending->World->Prop:=
 λe w'=>∃u I' μ',e=.returned u/\aJ I' μ' r u/\bO I' μ' H' w'/\Step I μ H w I' μ' H' w'
def wK (P:Program) (f:FuncId):Prop:=∃fn,P.funcs[f]? = some fn/\fn.body.isSome=true/\(fn.name == "runtime.NumGoroutine")=false
structure jH (P:Program) (call:cu):Prop where
 fn:∀f args H r H',call (.fn f) args H=some (r,H')->wK P f/\∀I μ w vs,bO I μ H w->bF I μ args vs->CallsIn (fr none) 0 P f vs.toArray w (uB I μ H w r H')
 yld:∀id args H r H',call (.yld id) args H=some (r,H')->∀I μ w vs p,bO I μ H w->bF I μ args vs->μ id=some p ->
  ∃l f tmps assign body,(Instr.yield p.b vs.toArray).run P w=.ok (.round l f tmps assign body) w/\RoundIn (fr none) 0 P l f tmps assign body w (uB I μ H w r H')
def qJ:Ob->Ob
 | .row es xs=>.frz es xs
 | .map _=>.dead
 | o=>o
theorem DC (H:ak) (k id:Nat):(sX H k)[id]? = (H[id]?).map λob=>if id=k then qJ ob else ob:=by
 unfold sX
 by_cases e:id=k
 .subst e
  cases h:H[id]? with
  | none=>simp[h]
  | some ob=>
   have hlt:=(ζe.1 h).1;cases ob <;> simp[qJ,hlt] <;> exact(ζe.1 h).2
 grind
theorem zM (o:Ob):qJ (qJ o)=qJ o:=by cases o <;> rfl
theorem gx:∀(T:List Nat) (H:ak) (id:Nat),(bu H T)[id]? = (H[id]?).map λob=>if id∈T then qJ ob else ob:=by
 intro T
 induction T with
 | nil=>simp[bu]
 | cons k T ih=>
  intro H id;have:=ih (sX H k) id;simp[bu]at this ⊢;rw[this,DC]
  cases h:H[id]? with
  | none=>simp
  | some ob=>
   by_cases e:id=k <;> by_cases e':id∈T <;> simp[zM] <;> (simp_all) <;> simp_all [zM]
theorem ja (T:List Nat) (H:ak):(bu H T).length=H.length:=by
 induction T generalizing H with
 | nil=>rfl
 | cons k T ih=>
  simp[bu]at ih ⊢;rw[ih];unfold sX
  grind
section
variable {P:Program} {I I':bl} {μ μ':Mu} {H H':ak} {w w':World}
theorem bO.kept (s:bO I μ H w) (hk:∀b,b<w.heap.size->w'.heap[b]? = w.heap[b]?):bO I μ H w' where
 dom:=s.dom
 imm:=λb x h=>IC.qE (s.imm b x h) (hk b (s.Fa h))
 obs:=λid ob h=>(s.obs id ob h).mono (bl.le_refl _) (Mu.le_refl _) (λp hp hl=>by
  have ho:fS μ H p.b:=⟨id,p,ob,h,hl,hp,rfl⟩;exact⟨hk _ (lu s ho),eG s ho⟩) (λhe=>by subst he;exact s.obs id _ h)
 inj:=s.inj
 gl:=s.gl
theorem pN (μ:Mu) (b:Nat):¬fS μ [] b:=by
 rintro⟨id,p,ob,h,_⟩;simp_all
theorem Bo {call:cu} (hc:jH P call) {f:FuncId} {args:List V} {y:V} (h:bG call f args H=some y) (s:bO I μ H w) {vs:List Value} (hv:bF I μ args vs) :
 wK P f/\CallsIn (fr none) 0 P f vs.toArray w (uB I μ H w y (if y.scalar then H else bu H (cq (bz 8 H) args))):=by
 unfold bG at h;split at h
 .rename_i az has;split at h
  .rename_i r H1 hcall;split at h
   .rename_i y' hy;split at h
    .rename_i hclosed;simp  at h;subst h;generalize hT:cq (bz 8 H) args=T;obtain⟨hlen,hb⟩:=gK has;have s0:bO (plus I μ H w T) (λ_=>none) [] w:=⟨λ_ _=>rfl,rS s T,by simp,by simp,s.gl.mono (ni I μ H w T)⟩
     have hargs:bF (plus I μ H w T) (λ_=>none) az vs:=by
      refine⟨hlen.trans hv.1,λj a b h1 h2=>?_⟩
      obtain⟨x,hx,hxa⟩:=hb j a h1;refine .c _ _ (s7 s T 8 x a b hxa (λk hk=>?_) (hv.2 j x b hx h2)).1
      rw[<-hT];exact jd (List.mem_of_getElem? hx) hk
     obtain⟨hf,hcalls⟩:=hc.fn f az [] r H1 hcall;refine⟨hf,(hcalls _ _ w vs s0 hargs).mono ?_⟩;rintro e w' ⟨u,I1,μ1,rfl,hr,s1,st⟩;have hkept  := λb hb=>st.frame b hb (pN _ _)
     generalize hT1:bz 8 H1 r=T1;have hy1:=(s7 s1 T1 8 r y' u hy (λk hk=>by grind) hr).1
     cases hsc:y'.scalar with
     | true=>
      exact⟨u,I,μ,rfl,.c _ _ (hy1.scalar hsc),s.kept hkept,⟨bl.le_refl _,Mu.le_refl _,Nat.le_refl _,st.size,λb hb _=>hkept b hb,λ_ h=>h.elim .inl λh=>.inr (.inl h),st.os,st.out,st.fz⟩⟩
     | false=>
      simp only[Bool.false_eq_true,if_false]
      let I2:=plus I1 μ1 H1 w' T1
      have hle:bl.le I I2:=bl.le_trans (ni I μ H w T) (bl.le_trans st.le (ni _ _ _ _ _));have hterr:∀b,(I2 b).isSome=true->(I b).isSome=true\/zl μ H T b\/w.heap.size<=b:=by
       intro b hb;have h1:(I1 b).isSome=true\/fS μ1 H1 b:=by
        rcases xq hb with h|h
        .grind
        .exact .inr (zD h)
       rcases st.terr b h1 with h|h|h
       .rcases xq h with h|h
        .grind
        grind
       .exact absurd h (pN _ _)
       grind
      have hlive:∀id ob p,H[id]? = some ob->ob.live=true->id∉T->μ id=some p->I2 p.b=none:=by
       intro id ob p h1 h2 h3 h4
       cases hI:I2 p.b with
       | none=>rfl
       | some x=>
        have ho:fS μ H p.b:=⟨id,p,ob,h1,h2,h4,rfl⟩;rcases hterr p.b (by grind)with h|⟨id',p',ob',g0,g1,g2,g3,g4⟩|h
        .rw[eG s ho]at h;cases h
        .have:=s.inj id' id ob' ob p' p g1 h1 g2 h2 g3 h4 g4;simp_all
        .have:=lu s ho;omega
      have hget:∀id x,(bu H T)[id]? = some x->∃ob,H[id]? = some ob/\x=(if id∈T then qJ ob else ob):=by
       intro id x hx;rw[gx]at hx;obtain⟨ob,h1,h2⟩:=ζf.1 hx;exact⟨ob,h1,h2.symm⟩
      have hlive':∀id x,(bu H T)[id]? = some x->x.live=true->H[id]? = some x/\(id∉T\/∃r,x=.loop r):=by
       intro id x hx hl;obtain⟨ob,h1,h2⟩:=hget id x hx
       by_cases hm:id∈T
       .rw[if_pos hm]at h2;cases ob <;> simp[qJ]at h2 <;> subst h2 <;> simp[Ob.live]at hl;exact⟨h1,.inr ⟨_,rfl⟩⟩
       .rw[if_neg hm]at h2;subst h2;exact⟨h1,.inl hm⟩
      refine⟨u,I2,μ,rfl,.c _ _ hy1,⟨?_,?_,?_,?_,s.gl.mono hle⟩,⟨hle,Mu.le_refl _,by rw[ja];exact Nat.le_refl _,st.size,λb hb _=>hkept b hb,?_,st.os,st.out,st.fz⟩⟩
      .intro id h;rw[ja]at h;exact s.dom id h
      .exact rS s1 T1
      .intro id x hx;obtain⟨ob,h1,h2⟩:=hget id x hx;have hob:=s.obs id ob h1
       by_cases hm:id∈T
       .rw[if_pos hm]at h2
        cases ob with
        | row es xs=>
         subst h2;obtain⟨p,c,g1,g2,g3⟩:=Ap s  hm    (by rw[h1];rfl)
         exact⟨p,c,g1,ni _ _ _ _ _ _ _ (st.le _ _ g2),g3.mono hle (Mu.le_refl _)⟩
        | frz es xs=>
         subst h2;exact hob.mono hle (Mu.le_refl _) (λp _ hl=>by simp[Ob.live]at hl) (λhe=>by cases he)
        | map kvs=>subst h2;trivial
        | free=>simp[qJ]at h2;subst h2;exact hob
        | dead=>subst h2;trivial
        | loop r=>
         simp[qJ]at h2;subst h2;obtain⟨p,l,g1,g2,g3,g4⟩:=hob;refine⟨p,l,g1,?_,?_,g4.mono hle (Mu.le_refl _)⟩
         .
          cases hI:I2 p.b with
          | none=>rfl
          | some x=>
           have hat:=rS s1 T1 p.b x hI;have hbl  := (Array.getElem?_eq_some_iff.1 g3).1;have hh:=hkept p.b hbl;rw[g3]at hh
           cases x with
           | cells c=>obtain⟨_,_,q⟩:=hat;rw[hh]at q;cases q
           | map es=>obtain⟨_,q⟩:=hat;rw[hh]at q;cases q
         .rw[hkept p.b (Array.getElem?_eq_some_iff.1 g3).1];omega
       .rw[if_neg hm]at h2;subst h2;refine hob.mono hle (Mu.le_refl _) (λp hp hl=>⟨hkept _ (lu s ⟨id,p,x,h1,hl,hp,rfl⟩),hlive id x p h1 hl hm hp⟩) (λhe=>by subst he;exact hob)
      .intro id id' o1 o2 p p' h1 h2 l1 l2 m1 m2 hb;exact s.inj id id' o1 o2 p p' (hlive' id o1 h1 l1).1 (hlive' id' o2 h2 l2).1 l1 l2 m1 m2 hb
      .intro b hb;rcases hb with h|⟨id,p,x,h1,h2,h3,rfl⟩
       .rcases hterr b h with h|h|h
        .exact .inl h
        .exact .inr (.inl (zD h))
        .exact .inr (.inr h)
       .exact .inr (.inl ⟨id,p,x,(hlive' id x h1 h2).1,h2,h3,rfl⟩)
    grind
   grind
  grind
 grind
theorem aJ.scalar {x:V} {v:Value} (h:aJ I μ x v) (hs:x.scalar=true):aJ I' μ' x v:=by
 have key:∀(l:List V) (vs:List Value),(∀x∈l,∀v,aJ I μ x v->x.scalar=true->aJ I' μ' x v)->V.bQ l=true->(∀(j:Nat) a b,l[j]? = some a->vs[j]? = some b->aJ I μ a b) ->
  ∀(j:Nat) a b,l[j]? = some a->vs[j]? = some b->aJ I' μ' a b:=by
  intro l
  induction l with
  | nil=>grind
  | cons x l ih=>
   intro vs h1 h2 h3 j a b ha hb;simp only[V.bQ,ζh]at h2
   cases j with
   | zero=>
    grind
   | succ j=>
    cases vs with
    | nil=>simp at hb
    | cons v vs=>exact ih vs (λy hy=>h1 y (List.mem_cons_of_mem _ hy)) h2.2 (λj a b p q=>h3 (j+1) a b (by grind) (by grind)) j a b (by grind) (by simpa using hb)
 have main:∀(k:Nat) (x:V) (v:Value),SizeOf.sizeOf x<k->aJ I μ x v->x.scalar=true->aJ I' μ' x v:=by
  intro k
  induction k with
  | zero=>grind
  | succ k ih=>
   intro x v hk h hs
   cases h with
   | c _ _ h=>exact .c _ _ (h.scalar hs)
   | agg cs vs hl h=>
    refine .agg cs vs hl (λj a b ha hb=>key cs vs.toList (λy hy v hv hs=>ih y v ?_ hv hs) hs (λj a b p q=>h j a b p (by simpa using q)) j a b ha (by simpa using hb))
    have:=List.sizeOf_lt_of_mem hy;simp at hk;omega
   | tup cs vs hl h=>
    refine .tup cs vs hl (λj a b ha hb=>key cs vs.toList (λy hy v hv hs=>ih y v ?_ hv hs) hs (λj a b p q=>h j a b p (by simpa using q)) j a b ha (by simpa using hb))
    have:=List.sizeOf_lt_of_mem hy;simp at hk;omega
   | _=>simp[V.scalar]at hs
 exact main (SizeOf.sizeOf x+1) x v (by omega) h hs
theorem bO.Iw (s:bO I μ H w) {ob:Ob} {p:Pl} (hne:ob≠.free) (hI:I p.b=none) (hn:¬fS μ H p.b) (hob:qM I (μ.fB H.length p) w H.length ob) :
 bO I (μ.fB H.length p) (H++[ob]) w:=by
 have hk  := s.dom _ (Nat.le_refl _);have hget:∀id x,(H++[ob])[id]? = some x->(id≠H.length/\H[id]? = some x)\/(id=H.length/\x=ob):=by
  grind
 refine⟨?_,s.imm,?_,?_,s.gl⟩
 .intro id h;simp at h;rw[Mu.gD _ _ (by omega)];exact s.dom id (by omega)
 .intro id x h;rcases hget id x h with⟨e,h⟩|⟨rfl,rfl⟩
  .refine(s.obs id x h).mono (bl.le_refl _) (Mu.o8 hk) (λq hq hl=>?_) (λhe=>by subst he;rw[Mu.gD _ _ e];exact s.obs id _ h)
   exact⟨rfl,eG s ⟨id,q,x,h,hl,hq,rfl⟩⟩
  grind
 .intro id id' o1 o2 q q' h1 h2 l1 l2 m1 m2 hb;rcases hget id o1 h1 with⟨e1,k1⟩|⟨a1,b1⟩ <;> rcases hget id' o2 h2 with⟨e2,k2⟩|⟨a2,b2⟩
  .rw[Mu.gD _ _ e1]at m1;rw[Mu.gD _ _ e2]at m2;exact s.inj id id' o1 o2 q q' k1 k2 l1 l2 m1 m2 hb
  .subst a2;rw[Mu.gD _ _ e1]at m1;rw[Mu.eN]at m2;cases m2;exact absurd ⟨id,q,o1,k1,l1,m1,hb⟩ hn
  .subst a1;rw[Mu.gD _ _ e2]at m2;rw[Mu.eN]at m1;cases m1;exact absurd ⟨id',q',o2,k2,l2,m2,hb.symm⟩ hn
  grind
theorem Q5 {call:cu} (hc:jH P call) {f:FuncId} {args:List V} {y:V} (h:kP call f args H=some (y,H')) (s:bO I μ H w) {vs:List Value} (hv:bF I μ args vs) :
 wK P f/\CallsIn (fr none) 0 P f vs.toArray w (uB I μ H w y H'):=by
 unfold kP at h;split at h
 .rename_i az has;split at h
  .rename_i r H1 hcall;generalize hT:cq (bz 8 H) args=T;obtain⟨hlen,hb⟩:=gK has;have s0:bO (plus I μ H w T) (λ_=>none) [] w:=⟨λ_ _=>rfl,rS s T,by simp,by simp,s.gl.mono (ni I μ H w T)⟩
   have hargs:bF (plus I μ H w T) (λ_=>none) az vs:=by
    refine⟨hlen.trans hv.1,λj a b h1 h2=>?_⟩
    obtain⟨x,hx,hxa⟩:=hb j a h1;refine .c _ _ (s7 s T 8 x a b hxa (λk hk=>?_) (hv.2 j x b hx h2)).1
    rw[<-hT];exact jd (List.mem_of_getElem? hx) hk
   obtain⟨hf,hcalls⟩:=hc.fn f az [] r H1 hcall;refine⟨hf,(hcalls _ _ w vs s0 hargs).mono ?_⟩;rintro e w' ⟨u,I1,μ1,rfl,hr,s1,st⟩;have hkept:∀b,b<w.heap.size->w'.heap[b]? = w.heap[b]? := λb hb=>st.frame b hb (pN _ _)
   have sk:bO I μ H w':=s.kept hkept;have stk:Step I μ H w I μ H w':=⟨bl.le_refl _,Mu.le_refl _,Nat.le_refl _,st.size,λb hb _=>hkept b hb,λ_ h=>h.elim .inl λh=>.inr (.inl h),st.os,st.out,st.fz⟩
   split at h
   .rename_i hsc;simp only[ζa,ζc]at h;obtain⟨rfl,rfl⟩:=h;exact⟨u,I,μ,rfl,hr.scalar hsc,sk,stk⟩
   .
    have key:∀(id es off len:Nat) (v:V) (ob:Ob) (u:Value),qV H.length H1 id es off len=some (v,ob)->aJ I1 μ1 (.hsl id es off len) u ->
     ∃p,aJ I (μ.fB H.length p) v u/\bO I (μ.fB H.length p) (H++[ob]) w'/\Step I μ H w I (μ.fB H.length p) (H++[ob]) w':=by
     intro id es off len v ob u ha hu;unfold qV at ha;split at ha
     .rename_i es' xs hrow;split at ha
      .rename_i hcond;obtain⟨rfl,hall⟩:=hcond;obtain⟨rfl,rfl⟩:=ha;obtain⟨p,c,el,g1,g2,g3,g4⟩:=s1.obs id _ hrow;have hbig:w.heap.size<=p.b:=by
        rcases st.terr p.b (.inr ⟨id,p,_,hrow,rfl,g1,rfl⟩)with h|h|h
        .obtain⟨x,hx⟩:=Option.isSome_iff_exists.1 h;have:=st.le _ _ hx
         grind
        .exact absurd h (pN _ _)
        simp_all
       have hI:I p.b=none:=by
        cases hx:I p.b with
        | none=>rfl
        | some x=>have:=s.Fa hx;omega
       have hn:¬fS μ H p.b:=λho=>by have:=lu s ho;omega
       have hrr:eP I (μ.fB H.length p) p c es' xs:=by
        refine⟨g4.es_eq,g4.sz,g4.nG,g4.one,g4.room,g4.rel.1,λj a b ha hb=>(g4.rel.2 j a b ha hb).scalar ?_⟩
        have hm:=List.mem_of_getElem? ha;rw[List.mem_flatten]at hm
        grind
       have sa:=sk.Iw (ob:=.row es' xs)  (by simp) hI hn ⟨p,c,el,Mu.eN _ _ _,hI,g3,hrr⟩
       refine⟨p,?_,sa,⟨bl.le_refl _,Mu.o8 (s.dom _ (Nat.le_refl _)),by simp,st.size,λb hb _=>hkept b hb,?_,st.os,st.out,st.fz⟩⟩
       .rcases hu.kr with⟨p',cap,hm,hp',hcc,hbd,ee⟩|⟨h0,ad,ee⟩
        .rw[g1]at hm;cases hm;rw[ee];subst hp';exact .hsl _ off len cap p (Mu.eN _ _ _) hcc hbd
        .rw[ee,h0];exact .hsl0 _ _ _ _
       .rintro b (h|⟨k,q,x,h1,h2,h3,rfl⟩)
        .exact .inl h
        .by_cases e:k=H.length
         .subst e;rw[Mu.eN]at h3;cases h3;exact .inr (.inr hbig)
         .rw[Mu.gD _ _ e]at h3;have hlt:k<H.length:=by
           have:=(ζe.1 h1).1;simp at this;omega
          rw[List.getElem?_append_left hlt]at h1;exact .inr (.inl ⟨k,q,x,h1,h2,h3,rfl⟩)
      grind
     grind
    split at h
    .rename_i id es off len _;simp only[ζf]at h;obtain⟨⟨v,ob⟩,ha,rfl,rfl⟩:=h;obtain⟨p,k1,k2,k3⟩:=key id es off len v ob u ha hr;exact⟨u,I,_,rfl,k1,k2,k3⟩
    .rename_i id es off len rest _;split at h
     .rename_i hrest;simp only[ζf,ζc]at h;obtain⟨⟨v,ob⟩,ha,rfl,rfl⟩:=h;obtain⟨us,rfl,hus⟩:=hr.oP;have hlu:0<us.toList.length:=by have:=hus.1;simp at this ⊢;omega
      obtain⟨u0,ur,hur⟩:∃u0 ur,us.toList=u0::ur:=by
       cases hl:us.toList with
       | nil=>rw[hl]at hlu;simp at hlu
       | cons a b=>exact⟨a,b,rfl⟩
      rw[hur]at hus;obtain⟨p,k1,k2,k3⟩:=key id es off len v ob u0 ha (hus.2 0 _ _ rfl rfl);refine⟨_,I,_,rfl,.tup _ _ ?_ ?_,k2,k3⟩
      .have:=hus.1;simp at this;have h2:us.toList.length=ur.length+1:=by rw[hur];rfl
       simp at h2 ⊢;omega
      .intro j a b hj hb;have hb':(u0::ur)[j]? = some b:=by rw[<-hur];simpa using hb
       cases j with
       | zero=>simp at hj hb';subst hj;subst hb';exact k1
       | succ j=>
        simp at hj hb';refine(hus.2 (j+1) a b (by simpa using hj) (by simpa using hb')).scalar ?_
        have:∀(l:List V),V.bQ l=true->∀x∈l,x.scalar=true:=by
         intro l
         induction l with
         | nil=>intro _ x hx;simp at hx
         | cons y l ih=>
          intro hl x hx;simp[V.bQ]at hl;rcases List.mem_cons.1 hx with rfl|hx
          .exact hl.1
          .exact ih hl.2 x hx
        exact this rest hrest a (List.mem_of_getElem? hj)
     .simp at h
    grind
  grind
 grind
theorem RP {E:Env} {call:cu} (hc:jH P call) {f:FuncId} {args:List V} {y:V} (h:eH E call f args H=some (y,H')) (s:bO I μ H w) {vs:List Value} (hv:bF I μ args vs) :
 wK P f/\CallsIn (fr none) 0 P f vs.toArray w (uB I μ H w y H'):=by
 unfold eH at h;split at h
 .exact Q5 hc h s hv
 .obtain⟨k1,k2⟩:=hc.fn f args H y H' h
  grind
end
end Go.VE
namespace Go.VE
variable [aW]
def Ob.mp:Ob->Option (List (V×V))
 | .map kvs=>some kvs
 | _=>none
def kT (H H2:ak):Prop:=∀id:Nat,(H[id]?).bind Ob.rows=(H2[id]?).bind Ob.rows/\(H[id]?).bind Ob.mp=(H2[id]?).bind Ob.mp
theorem kT.refl (H:ak):kT H H:=λ_=>⟨rfl,rfl⟩
theorem kT.symm {H H2:ak} (h:kT H H2):kT H2 H:=λid=>⟨(h id).1.symm,(h id).2.symm⟩
theorem kT.trans {H H2 H3:ak} (h:kT H H2) (k:kT H2 H3):kT H H3:=λid=>⟨(h id).1.trans (k id).1,(h id).2.trans (k id).2⟩
theorem kT.of_eq {H H2:ak} (h:H=H2):kT H H2:=by subst h;exact .refl _
theorem Gq {H H2:ak} (h:kT H H2):∀n,borrow n H=borrow n H2:=by
 intro n
 induction n with
 | zero=>funext x;rfl
 | succ n ih=>
  funext x
  cases x with
  | hsl id es off len=>simp only[borrow,(h id).1,ih]
  | hptr id el off=>simp only[borrow,(h id).1,ih]
  | hmap id=>
   have:=(h id).2;simp only[borrow,ih];split
   .rfl
   .cases h1:H[id]? with
    | none=>
     cases h2:H2[id]? with
     | none=>rfl
     | some o2=>rw[h1,h2]at this;cases o2 <;> simp[Ob.mp]at this <;> rfl
    | some o=>
     cases h2:H2[id]? with
     | none=>rw[h1,h2]at this;cases o <;> simp[Ob.mp]at this <;> rfl
     | some o2=>rw[h1,h2]at this;cases o <;> cases o2 <;> simp[Ob.mp]at this <;> first|rfl|(subst this;rfl)
  | _=>simp only[borrow,ih]
theorem Jc {H H2:ak} (h:kT H H2):∀n,bz n H=bz n H2:=by
 intro n
 induction n with
 | zero=>funext x;rfl
 | succ n ih=>
  funext x
  cases x with
  | hsl id es off len=>simp only[bz,(h id).1,ih]
  | hptr id el off=>simp only[bz,(h id).1,ih]
  | hmap id=>
   have:=(h id).2;simp only[bz,ih];split
   .rfl
   .cases h1:H[id]? with
    | none=>
     cases h2:H2[id]? with
     | none=>rfl
     | some o2=>rw[h1,h2]at this;cases o2 <;> simp[Ob.mp]at this <;> rfl
    | some o=>
     cases h2:H2[id]? with
     | none=>rw[h1,h2]at this;cases o <;> simp[Ob.mp]at this <;> rfl
     | some o2=>rw[h1,h2]at this;cases o <;> cases o2 <;> simp[Ob.mp]at this <;> first|rfl|(subst this;rfl)
  | _=>simp only[bz,ih]
theorem xY {H H2:ak} (h:kT H H2) (call:cu) (f:FuncId) (args:List V):bG call f args H=bG call f args H2:=by
 unfold bG borrows;rw[Gq h]
theorem E4 {H H2:ak} (h:kT H H2) (p:V) (n:Nat):cR H p n=cR H2 p n:=by
 cases p with
 | hptr id el off=>simp only[cR,(h id).1]
 | _=>rfl
theorem HZ {H H2:ak} (h:kT H H2) (p:V):kU H p=kU H2 p:=by
 cases p with
 | hmap id=>
  have:=(h id).2;simp only[kU]
  cases h1:H[id]? with
  | none=>
   cases h2:H2[id]? with
   | none=>rfl
   | some o2=>rw[h1,h2]at this;cases o2 <;> simp[Ob.mp]at this <;> rfl
  | some o=>
   cases h2:H2[id]? with
   | none=>rw[h1,h2]at this;cases o <;> simp[Ob.mp]at this <;> rfl
   | some o2=>rw[h1,h2]at this;cases o <;> cases o2 <;> simp[Ob.mp]at this <;> first|rfl|(subst this;rfl)
 | _=>rfl
theorem xD {E:Env} {F:Frame} {H H2:ak} (h:kT H H2) (op:Op):cK E F H op=cK E F H2 op:=by
 cases op <;> simp only[cK,E4 h,HZ h]
theorem tq {H H2:ak} (h:kT H H2) (T:List Nat):gG H T=gG H2 T:=by
 unfold gG
 congr 1
 funext id
 rw[(h id).1]
theorem yX {H:ak} {T:List Nat} (h:gG H T=true) {id:Nat} (hi:id∈T):∃es xs,H[id]? = some (.row es xs)\/H[id]? = some (.frz es xs):=by
 unfold gG at h;rw[List.all_eq_true]at h;have:=h id hi
 cases h1:H[id]? with
 | none=>rw[h1]at this;simp at this
 | some o=>rw[h1]at this;cases o <;> simp[Ob.rows]at this <;> exact⟨_,_,by first|exact .inl rfl|exact .inr rfl⟩
theorem nR {H:ak} {b id:Nat}:(H.take b)[id]? = if id<b then H[id]? else none:=by
 rw[List.getElem?_take]
theorem pq {H:ak} {T:List Nat} {b:Nat} (h:gG (H.take b) T=true):kT (bu H T) H:=by
 intro id;rw[gx]
 by_cases hi:id∈T
 .obtain⟨es,xs,hx⟩:=yX h hi;rw[nR]at hx
  by_cases hb:id<b
  .rw[if_pos hb]at hx;rcases hx with hx|hx <;> simp[hx,hi,qJ,Ob.rows,Ob.mp]
  .rw[if_neg hb]at hx;rcases hx with hx|hx <;> cases hx
 .cases H[id]? <;> simp[hi]
theorem kT.take {H H2:ak} (h:kT H H2) (b:Nat):kT (H.take b) (H2.take b):=by
 intro id;rw[nR,nR]
 by_cases hb:id<b
 .rw[if_pos hb,if_pos hb];exact h id
 .rw[if_neg hb,if_neg hb];exact⟨rfl,rfl⟩
theorem yg {H:ak} {T:List Nat} {b:Nat} (h:gG (H.take b) T=true) {id:Nat} (hi:id∈T):id<b:=by
 obtain⟨es,xs,hx⟩:=yX h hi;rw[nR]at hx
 by_cases hb:id<b
 .exact hb
 .rw[if_neg hb]at hx;rcases hx with hx|hx <;> cases hx
theorem Br {H:ak} {T:List Nat} {k:Nat} {ob:Ob} (h:k∉T):bu (H.set k ob) T=(bu H T).set k ob:=by
 apply List.ext_getElem?;intro i;rw[gx]
 by_cases e:i=k
 .subst e
  by_cases hl:i<H.length
  .rw[List.getElem?_set_self hl,List.getElem?_set_self (by rw[ja];exact hl)];simp[h]
  .rw[List.getElem?_eq_none (by simp;omega),List.getElem?_eq_none (by rw[List.length_set,ja];omega)];rfl
 .rw[List.getElem?_set_ne (Ne.symm e),List.getElem?_set_ne (Ne.symm e),gx]
theorem Gn (H:ak) (T T':List Nat):bu (bu H T) T'=bu (bu H T') T:=by
 apply List.ext_getElem?;intro i;simp only[gx]
 cases H[i]? with
 | none=>rfl
 | some o=>by_cases h1:i∈T <;> by_cases h2:i∈T' <;> simp[h1,h2]
theorem H_ {H:ak} {b:Nat}:∀(n:Nat) (x:V),(∀id∈bz n (H.take b) x,id<b)->bz n H x=bz n (H.take b) x:=by
 intro n
 induction n with
 | zero=>intro x _;rfl
 | succ n ih=>
  have ihL:∀l:List V,(∀id∈cq (bz n (H.take b)) l,id<b)->cq (bz n H) l=cq (bz n (H.take b)) l:=by
   intro l
   induction l with
   | nil=>intro _;rfl
   | cons x r ihr=>
    intro h;simp only[cq,List.mem_append]at h ⊢;rw[ih x λid hi=>h id (.inl hi),ihr λid hi=>h id (.inr hi)]
  intro x h;simp only[bz]at h ⊢;split
  .rfl
  .rename_i hc;rw[if_neg hc]at h
   cases x with
   | hsl id es off len=>
    simp only at h ⊢;have hb:id<b:=h id (List.mem_cons_self ..);rw[nR,if_pos hb]at h ⊢
    cases hr:(H[id]?).bind Ob.rows with
    | none=>rfl
    | some q=>
     rw[hr]at h;simp only at h ⊢;rw[ihL _ λi hi=>h i (List.mem_cons_of_mem _ hi)]
   | hptr id el off=>
    simp only at h ⊢;have hb:id<b:=h id (List.mem_cons_self ..);rw[nR,if_pos hb]at h ⊢
    cases hr:(H[id]?).bind Ob.rows with
    | none=>rfl
    | some q=>
     rw[hr]at h;simp only at h ⊢;rw[ihL _ λi hi=>h i (List.mem_cons_of_mem _ hi)]
   | hmap id=>
    simp only at h ⊢;have hb:id<b:=h id (List.mem_cons_self ..);rw[nR,if_pos hb]at h ⊢;split
    .rename_i kvs hk;rw[hk]at h;simp only[List.mem_cons,List.mem_append]at h;rw[ihL _ λi hi=>h i (.inr (.inl hi)),ihL _ λi hi=>h i (.inr (.inr hi))]
    .rfl
   | clo f a c=>
    simp only[List.mem_append]at h ⊢;rw[ihL _ λi hi=>h i (.inl hi),ihL _ λi hi=>h i (.inr hi)]
   | agg cs=>simp only at h ⊢;exact ihL _ h
   | tup cs=>simp only at h ⊢;exact ihL _ h
   | _=>rfl
theorem sy {H:ak} {b n:Nat}:∀(l:List V),(∀id∈cq (bz n (H.take b)) l,id<b)->cq (bz n H) l=cq (bz n (H.take b)) l
 | [],_=>rfl
 | x::r,h=>by
  simp only[cq,List.mem_append]at h ⊢;rw[H_ n x λid hi=>h id (.inl hi),sy r λid hi=>h id (.inr hi)]
end Go.VE
namespace Go.VE
variable [aW]
theorem AL {H:ak} {b id:Nat} {ob:Ob} (h:(H.take b)[id]? = some ob):H[id]? = some ob:=by
 rw[List.getElem?_take]at h;split at h
 .exact h
 .simp at h
theorem yG {H:ak} {b id es:Nat} {xs:List (List V)} (h:((H.take b)[id]?).bind Ob.rows=some (es,xs)):(H[id]?).bind Ob.rows=some (es,xs):=by
 obtain⟨ob,h1,h2⟩:=ζg.1 h;rw[AL h1];exact h2
theorem EU {H:ak} {b:Nat} {p:V} {n:Nat} {cs:List V} (h:cR (H.take b) p n=some cs):cR H p n=some cs:=by
 unfold cR at h ⊢;split at h
 .exact h
 .split at h
  .rename_i hr;simp only[yG hr];exact h
  .simp at h
 .simp at h
theorem IF {H:ak} {b:Nat} {m:V} {kvs:List (V×V)} (h:kU (H.take b) m=some kvs):kU H m=some kvs:=by
 unfold kU at h ⊢;split at h
 .exact h
 .exact h
 .split at h
  .rename_i hr;rw[AL hr];exact h
  .simp at h
 .simp at h
theorem xC {E:Env} {F:Frame} {H:ak} {b:Nat} {op:Op} {x:V} (h:cK E F (H.take b) op=some x):cK E F H op=some x:=by
 cases op with
 | load t a=>
  simp only[cK]at h ⊢;split at h
  .rename_i d p hd hp;obtain⟨cs,h1,h2⟩:=ζg.1 h;rw[EU h1];exact h2
  .simp at h
 | lookup t m k ok=>
  simp only[cK]at h ⊢;split at h
  .split at h
   .rename_i hd hkv;rw[hd,IF hkv];exact h
   .simp at h
  .simp at h
 | _=>simp[cK]at h
theorem kZ {f g:V->Option V} (hfg:∀x y,f x=some y->g x=some y):∀{xs ys:List V},jS f xs=some ys->jS g xs=some ys:=by
 intro xs
 induction xs with
 | nil=>intro ys h;exact h
 | cons x xs ih=>
  intro ys h;simp only[jS]at h ⊢;split at h
  .rename_i y s hy hs;rw[hfg _ _ hy,ih hs];exact h
  .simp at h
theorem Gy {f g:V->Option V} (hfg:∀x y,f x=some y->g x=some y):∀{xs ys:List (List V)},sN f xs=some ys->sN g xs=some ys:=by
 intro xs
 induction xs with
 | nil=>intro ys h;exact h
 | cons x xs ih=>
  intro ys h;simp only[sN]at h ⊢;split at h
  .rename_i y s hy hs;rw[kZ hfg hy,ih hs];exact h
  .simp at h
theorem Gk {f g:V->Option V} (hfg:∀x y,f x=some y->g x=some y):∀{xs ys:List (V×V)},sH f xs=some ys->sH g xs=some ys:=by
 intro xs
 induction xs with
 | nil=>intro ys h;exact h
 | cons x xs ih=>
  intro ys h;obtain⟨k,x⟩:=x;simp only[sH]at h ⊢;split at h
  .rename_i y s hk hy hs;rw[hfg _ _ hk,hfg _ _ hy,ih hs];exact h
  .simp at h
theorem z6 {H:ak} {b:Nat}:∀(n:Nat) (x y:V),borrow n (H.take b) x=some y->borrow n H x=some y:=by
 intro n
 induction n with
 | zero=>intro x y h;exact h
 | succ n ih=>
  intro x y h;simp only[borrow]at h ⊢;split at h
  .rename_i hc;rw[if_pos hc];exact h
  .rename_i hc;rw[if_neg hc];split at h
   .split at h
    .rename_i hr;simp only[yG hr];split at h
     .rename_i hcond;rw[if_pos hcond];obtain⟨zs,hz,hzy⟩:=ζf.1 h;rw[Gy ih hz,<-hzy];rfl
     .simp at h
    .simp at h
   .split at h
    .rename_i hr;simp only[yG hr];split at h
     .rename_i hcs;split at h
      .rename_i hle;rw[if_pos hle];obtain⟨zs,hz,hzy⟩:=ζf.1 h;rw[kZ ih hz,<-hzy];rfl
      .simp at h
     .simp at h
    .simp at h
   .split at h
    .rename_i hr;simp only[AL hr];obtain⟨zs,hz,hzy⟩:=ζf.1 h;rw[Gk ih hz,<-hzy];rfl
    .simp at h
   .split at h
    .rename_i h1 h2;rw[kZ ih h1,kZ ih h2];exact h
    .simp at h
   .obtain⟨zs,hz,hzy⟩:=ζf.1 h;rw[kZ ih hz,<-hzy];rfl
   .obtain⟨zs,hz,hzy⟩:=ζf.1 h;rw[kZ ih hz,<-hzy];rfl
   .simp at h
theorem nT {call:cu} {f:FuncId} {args:List V} {H:ak} {b:Nat} {y:V} (h:bG call f args (H.take b)=some y):bG call f args H=some y:=by
 unfold bG borrows at h ⊢;split at h
 .rename_i az has;rw[kZ (z6 8) has];exact h
 .simp at h
theorem FH (n:Nat) (H:ak) {x:V} (h:x.closed=true):bz n H x=[]:=by
 cases n with
 | zero=>rfl
 | succ n=>simp[bz,h]
section
variable {P:Program} {E:Env} {I I':bl} {μ μ':Mu} {H H':ak} {n:Nat} {F:Frame} {a:Act} {w w':World}
theorem vJ {f:FuncId} (h:wK P f) (args:Array Value):(callFunc f args).run P w=.ok (.enter f args) w:=by
 obtain⟨fn,h1,h2,h3⟩:=h;unfold callFunc;have hb:fn.body.isNone=false:=by cases hb:fn.body <;> simp_all
 simp only[Sem.run_bind,run_program,Result.andThen_ok,h1,h3,hb,Bool.false_eq_true,if_false,Sem.run_pure]
theorem AS {o:Oper} {ro:Option Nat} {K:Act->World->Prop} {Q:Exit->Act->World->Prop} {f:FuncId} {args:Array Value} {r:V}
 (hcall:CallsIn (fr none) 0 P f args w (uB I μ H w r H')) (hK:∀u I' μ' w',aJ I' μ' r u->bO I' μ' H' w'->Step I μ H w I' μ' H' w'->K (a.put o.dst u) w') :
 o.uponIn (fr ro) 0 P a K Q (.ok (.enter f args) w):=by
 rw[Oper.uponIn_enter];refine⟨λh=>by simp[fr]at h,?_⟩
 have h2:CallsIn (fr ro) 0 P f args w (uB I μ H w r H'):=hcall;refine h2.mono ?_;rintro e w' ⟨u,I',μ',rfl,h1,h2,h3⟩;exact hK u I' μ' w' h1 h2 h3
theorem DE {x:V} (h:x.scalar=true) {I:bl} {μ:Mu} {v:Value} (r:aJ I μ x v):dc I x v:=by
 induction r with
 | c x v h'=>exact h'
 | agg cs vs hl _ ih=>
  simp only[V.scalar]at h;exact .agg cs vs hl λj a b p q=>ih j a b p q (sD h a (List.mem_of_getElem? p))
 | tup cs vs hl _ ih=>
  simp only[V.scalar]at h;exact .tup cs vs hl λj a b p q=>ih j a b p q (sD h a (List.mem_of_getElem? p))
 | _=>simp[V.scalar]at h
theorem Oh (hE:dh P E) (r:cZ I μ n F a.tmps) (s:bO I μ H w) (o:Oper) {x:V} (h:pE E F o.op=some x) :
 ∃u I' w',(execOp a.eval o).run P w=.ok (.value u) w'/\aJ I' μ x u/\bO I' μ H w'/\Step I μ H w I' μ H w':=by
 unfold pE at h;split at h
 rotate_left
 .cases h
 rename_i es xs es' n hal;split at h
 rotate_left
 .cases h
 rename_i hc;obtain⟨rfl,rfl,hsc⟩:=hc;obtain⟨obj,p,u,h1,h2⟩:=Ah hE r s o hal;have hsz:=h2.len _ _ rfl;obtain⟨⟨q,c,el,g1,g2,g3,g4⟩,gv⟩:=h2.rel _ (s.dom _ (Nat.le_refl _));rw[Mu.eN]at g1;cases g1;have hpb:=h2.b;have hobj:obj=.cells c el:=by
  rw[hpb,jA]at g3;cases g3;rfl
 subst hobj
 let I':bl:=λb=>if b=w.heap.size then some (.cells c)else I b
 have hle:bl.le I I':=λb y hy=>by
  show (if b=w.heap.size then some (IC.cells c)else I b)=some y;rw[if_neg (λe=>by have:=IC.sF (s.imm b y hy);omega)];exact hy
 have hnew:I' p.b=some (.cells c):=by show (if p.b=w.heap.size then some (IC.cells c)else I p.b)=_;rw[if_pos hpb]
 have hxs:∀y∈xs,∀z∈y,z.scalar=true:=λy hy z hz=>List.all_eq_true.1 (List.all_eq_true.1 hsc y hy) z hz
 have hw:∀b,b<w.heap.size->(w.alloc (.cells c el)).heap[b]? = w.heap[b]? := λb hb=>iu _ b hb
 have hne:∀b,b<w.heap.size->I' b=I b:=λb hb=>by show (if b=w.heap.size then some (IC.cells c)else I b)=_;rw[if_neg (by omega)]
 refine⟨u,I',_,h1,?_,⟨s.dom,?_,?_,s.inj,s.gl.mono hle⟩,⟨hle,Mu.le_refl _,Nat.le_refl _,by simp,λb hb _=>hw b hb,?_,rfl,⟨rfl,rfl,Nat.le_refl _⟩,λa hb=>JD h2.nf a⟩⟩
 .refine .c _ _ ?_;have big:∀cap,xs.length<=cap->p.o+(0+cap)*es'<=p.sz->u=.slice (some ⟨p.b,p.o+0*es',none⟩) xs.length cap->dc I' x u:=by
   rintro cap k1 k2 rfl;rw[Nat.zero_mul,Nat.add_zero];split at h
   .split at h
    .rename_i hx;simp only[ζa]at h;subst h;simp only[ζh,List.isEmpty_iff,bne_iff_ne,ne_eq]at hx;obtain⟨hx,hes⟩:=hx;subst hx;have:cap=0:=by
      simp only[List.length_nil,Nat.zero_mul]at hsz;rcases Nat.eq_zero_or_pos cap with k|k
      .exact k
      .have:=Nat.mul_pos k (Nat.pos_of_ne_zero hes);rw[Nat.zero_add]at k2;omega
     subst this;exact .ck _
    .cases h
   .simp only[ζa]at h;subst h;refine .fsl es' xs p.b p.o cap c hnew k1 g4.nG g4.one g4.room λi j y z v m1 m2 m3=>?_
    exact dc.mono hle (DE (hxs y (List.mem_of_getElem? m1) z (List.mem_of_getElem? m2)) (g4.idx m1 m2 m3))
  have hp:p.es=es':=g4.es_eq;change aJ I _ (.hsl H.length es' 0 xs.length) u at gv;generalize hln:xs.length=ln at gv
  cases gv with
  | c _ _ hcr=>cases hcr
  | hsl id off len cap p' hm k1 k2=>
   rw[Mu.eN]at hm;cases hm;rw[hp]at *;subst hln;exact big cap k1 k2 rfl
  | hsl0 id es off a=>
   have hx:xs=[]:=List.length_eq_zero_iff.1 hln;subst hx;split at h
   .split at h
    .simp only[ζa]at h;subst h;exact .ck _
    .cases h
   .simp only[ζa]at h;subst h;exact .fsl0 _ _ _
 .intro b y hy
  by_cases e:b=w.heap.size
  .subst e;have:y=.cells c:=by have:=hnew;rw[hpb]at this;rw[this]at hy;cases hy;rfl
   subst this;exact⟨el,_,jA _⟩
  .have hy':I b=some y:=by have:(if b=w.heap.size then some (IC.cells c)else I b)=some y:=hy;rw[if_neg e]at this;exact this
   exact IC.qE (s.imm b y hy') (hw b (IC.sF (s.imm b y hy')))
 .intro id ob hob;refine(s.obs id ob hob).mono hle (Mu.le_refl _) (λq hq hl=>?_) (λe=>by subst e;exact s.obs id _ hob)
  have ho:fS μ H q.b:=⟨id,q,ob,hob,hl,hq,rfl⟩;have hlt:=lu s ho;exact⟨hw _ hlt,by rw[hne _ hlt];exact eG s ho⟩
 .intro b hb;rcases hb with hb|hb
  .by_cases e:b=w.heap.size
   .exact .inr (.inr (by omega))
   .have:(if b=w.heap.size then some (IC.cells c)else I b).isSome=true:=hb;rw[if_neg e]at this;exact .inl this
  .exact .inr (.inl hb)
theorem Nd (hE:dh P E) {call:cu} (hc:jH P call) {ops:List Oper} {place:Option (Nat×Nat)} {o:Oper} {x:V} (h:cg E call ops place F H o.op=some (x,H'))
 (r:cZ I μ n F a.tmps) (s:bO I μ H w) (ro:Option Nat) {K:Act->World->Prop} {Q:Exit->Act->World->Prop}
 (hK:∀u I' μ' w',aJ I' μ' x u->bO I' μ' H' w'->Step I μ H w I' μ' H' w'->K (a.put o.dst u) w'):o.wpIn (fr ro) 0 P a w K Q:=by
 refine⟨λ_ _=>trivial,?_⟩
 have hnd:∀c,o.op≠.defer c:=by
  intro c hc';rw[hc']at h;simp[cg,bX,aO]at h
 show o.uponIn (fr ro) 0 P a K Q ((o.semAt ro a.eval).run P w);rw[Oper.semAt_eq ro a.eval o hnd];have hval:∀v,(execOp a.eval o).run P w=.ok (.value v) w->aJ I μ x v->H'=H->o.uponIn (fr ro) 0 P a K Q ((execOp a.eval o).run P w):=by
  intro v e hv hH;rw[e,Oper.uponIn_value];subst hH;exact hK v I μ w hv s (.refl _ _ _ _)
 unfold cg at h;split at h
 .
  simp only[ζf,ζc]at h;obtain⟨v,hv,rfl,rfl⟩:=h;obtain⟨u,h1,h2⟩:=Pb (w:=w) hE r o hv;exact hval u h1 h2 rfl
 .
  have hr:cK E F H o.op=some x/\H'=H:=by
   split at h
   .simp only[ζf,ζc]at h;obtain⟨v,hv,rfl,rfl⟩:=h;exact⟨hv,rfl⟩
   .split at h
    .split at h
     .rename_i v hv;simp only[ζa,ζc]at h;obtain⟨rfl,rfl⟩:=h;exact⟨xC hv,rfl⟩
     .split at h
      .simp only[ζf,ζc]at h;obtain⟨v,hv,rfl,rfl⟩:=h;exact⟨hv,rfl⟩
      .simp at h
    .simp at h
  obtain⟨u,h1,h2⟩:=O3 hE r s o hr.1;exact hval u h1 h2 hr.2
 .
  by_cases hcold:pI ops place=true
  .rw[if_pos hcold]at h;obtain⟨v,hv,e⟩:=ζf.1 h;simp only[ζc]at e;obtain⟨rfl,rfl⟩:=e;obtain⟨u,I',w',k1,k2,k3,k4⟩:=Oh hE r s o hv;rw[k1,Oper.uponIn_value];exact hK u _ _ _ k2 k3 k4
  rw[if_neg hcold]at h;split at h
  .rename_i ob m hal;simp only[ζa,ζc]at h;obtain⟨rfl,rfl⟩:=h;obtain⟨obj,p,u,h1,h2⟩:=Ah hE r s o hal;rw[h1,Oper.uponIn_value];obtain⟨g1,g2⟩:=h2.rel _ (s.dom _ (Nat.le_refl _));obtain⟨s1,s2⟩:=s.push h2.b g1 h2.nf;exact hK u _ _ _ g2 s1 s2
  .rename_i ob m b i hal;split at h
   .rename_i hfree;simp only[ζa,ζc]at h;obtain⟨rfl,rfl⟩:=h;obtain⟨obj,p,u,h1,h2⟩:=Ah hE r s o hal;rw[h1,Oper.uponIn_value];obtain⟨g1,g2⟩:=h2.rel _ (s.obs _ _ hfree);obtain⟨s1,s2⟩:=s.fill hfree h2.b g1 h2.nf;exact hK u _ _ _ g2 s1 s2
   .simp at h
  .simp at h
 .
  have hl:bR E F H o.op=some (x,H'):=by
   split at h
   .exact h
   .split at h
    .exact h
    .simp at h
  obtain⟨nx,u,w',μ',h1,h2,h3,h4,h5⟩:=(OG hE r s o hl).run;rw[h1];rcases h2 with rfl|⟨rfl,rfl⟩
  .rw[Oper.uponIn_value];exact hK u I μ' w' h3 h4 h5
  .rw[Oper.uponIn_skip];exact hK _ I μ' w' h3 h4 h5
 .
  have hcallee:∀c args,iP F o.op=some (c,args)->∃vs:List Value,bF I μ args vs /\
   (∀f,c=.fn f->wK P f->(execOp a.eval o).run P w=.ok (.enter f vs.toArray) w) /\
   (∀id,c=.yld id->∃p,μ id=some p/\(execOp a.eval o).run P w=(Instr.yield p.b vs.toArray).run P w):=by
   intro c args hca;obtain⟨dst,op,ty,pos,after,guard⟩:=o
   cases op with
   | call cl=>
    obtain⟨callee,args0,ats⟩:=cl
    cases callee with
    | value f=>
     simp only[iP]at hca;split at hca
     .rename_i g p q vs hf hvs;simp only[ζa,ζc]at hca;obtain⟨rfl,rfl⟩:=hca;obtain⟨u,v,ef,hu,hv⟩:=(cm r hf).jL;have hargs:=mh r hvs;refine⟨u.toList++args0.toList.map a.eval++v.toList,(hu.append hargs).append hv,?_,by simp⟩
      intro f' hf' hok;cases hf';simp only[execOp,resolve,Sem.run_bind];rw[ef];simp only[Deferred.ofValue,Sem.run_pure,Result.andThen_ok,invoke,vJ hok]
      congr 2
      apply Array.ext';simp
     .rename_i id vs hf hvs;simp only[ζa,ζc]at hca;obtain⟨rfl,rfl⟩:=hca;obtain⟨p,hm,ef⟩:=(cm r hf).PF;have hargs:=mh r hvs;refine⟨args0.toList.map a.eval,hargs,by simp,?_⟩
      intro id' hid';cases hid';refine⟨p,hm,?_⟩;simp only[execOp,resolve,Sem.run_bind];rw[ef];simp only[Deferred.ofValue,Sem.run_pure,Result.andThen_ok,invoke]
      congr 1
      congr 1
      apply Array.ext';simp
     .simp at hca
    | _=>simp[iP]at hca
   | _=>simp[iP]at hca
  have hiso:∀f args y,iP F o.op=some (.fn f,args)->bG call f args H=some y->x=y->H'=(if y.scalar then H else bu H (cq (bz 8 H) args)) ->
   o.uponIn (fr ro) 0 P a K Q ((execOp a.eval o).run P w):=by
   intro f args y h1 h2 h3 h4;obtain⟨vs,g1,g2,_⟩:=hcallee _ _ h1;obtain⟨k1,k2⟩:=Bo hc h2 s g1;rw[g2 f rfl k1];subst h3;subst h4;exact AS k2 hK
  have hdir:∀f args,iP F o.op=some (.fn f,args)->eH E call f args H=some (x,H')->o.uponIn (fr ro) 0 P a K Q ((execOp a.eval o).run P w):=by
   intro f args h1 h2;obtain⟨vs,g1,g2,_⟩:=hcallee _ _ h1;obtain⟨k1,k2⟩:=RP hc h2 s g1;rw[g2 f rfl k1];exact AS k2 hK
  have hyld:∀id args,iP F o.op=some (.yld id,args)->call (.yld id) args H=some (x,H')->o.uponIn (fr ro) 0 P a K Q ((execOp a.eval o).run P w):=by
   intro id args h1 h2;obtain⟨vs,g1,_,g3⟩:=hcallee _ _ h1;obtain⟨p,hm,e⟩:=g3 id rfl;obtain⟨l,f,tmps,assign,body,k1,k2⟩:=hc.yld id args H x H' h2 I μ w vs p s g1 hm;rw[e,k1,Oper.uponIn_round];refine⟨λh=>by simp[fr]at h,?_⟩
   have h2:RoundIn (fr ro) 0 P l f tmps assign body w (uB I μ H w x H'):=k2;refine h2.mono ?_;rintro e w' ⟨u,I',μ',rfl,h1,h2,h3⟩;exact hK u I' μ' w' h1 h2 h3
  split at h
  .rename_i f args hca;split at h
   .split at h
    .exact hdir f args hca h
    .split at h
     .exact hdir f args hca h
     .simp at h
   .split at h
    .split at h
     .rename_i y hy;simp only[ζa,ζc]at h;exact hiso f args y hca hy h.1.symm h.2.symm
     .simp at h
    .split at h
     .rename_i y hy;split at h
      .rename_i hsc;simp only[ζa,ζc]at h;refine hiso f args y hca (nT hy) h.1.symm ?_;rw[<-h.2,if_pos hsc]
      .rename_i hsc;split at h
       .rename_i hro;simp only[ζa,ζc]at h;refine hiso f args y hca (nT hy) h.1.symm ?_;rw[<-h.2,if_neg hsc,sy _ λid hi=>yg hro hi]
       .simp at h
     .split at h
      .split at h
       .rename_i y hy;simp only[ζa,ζc]at h;exact hiso f args y hca hy h.1.symm h.2.symm
       .simp at h
      .simp at h
  .rename_i id args hca;split at h
   .exact hyld id args hca h
   .split at h
    .exact hyld id args hca h
    .simp at h
  .simp at h
end
end Go.VE
namespace Go.VE
variable [aW]
structure iE (B:Nat) (ds:List Deferred) (w:World):Prop where
 all:∀d∈ds,∃r,d.target=.collected r/\B<=r/\w.heap[r]? = some (.deferred (some []))
 apart:ds.Pairwise λd d'=>∀r,d.target=.collected r->d'.target≠.collected r
section
variable {P:Program} {E:Env} {I I' I'':bl} {μ μ' μ'':Mu} {H H' H'':ak} {n B:Nat} {F F':Frame} {a:Act} {w w' w'':World}
theorem sZ (s:bO I μ H w) {r:Nat} {c:Option (List Deferred)} (h:w.heap[r]? = some (.deferred c)):¬fS μ H r:=by
 rintro⟨id,p,ob,h1,h2,h3,rfl⟩;have:=s.obs id ob h1
 cases ob with
 | row es xs=>obtain⟨q,c,el,hq,_,hh,_⟩:=this;rw[h3]at hq;cases hq;rw[h]at hh;cases hh
 | map kvs=>obtain⟨q,c,el,hq,_,hh,_⟩:=this;rw[h3]at hq;cases hq;rw[h]at hh;cases hh
 | loop x=>obtain⟨q,c,hq,_,hh,_⟩:=this;rw[h3]at hq;cases hq;rw[h]at hh;cases hh
 | _=>simp[Ob.live]at h2
theorem iE.step {ds:List Deferred} (h:iE B ds w) (s:bO I μ H w) (st:Step I μ H w I' μ' H' w'):iE B ds w' where
 all:=by
  intro d hd;obtain⟨r,h1,h2,h3⟩:=h.all d hd;refine⟨r,h1,h2,?_⟩;rw[st.frame r (Array.getElem?_eq_some_iff.1 h3).1 (sZ s h3)];exact h3
 apart:=h.apart
structure At (B n:Nat) (I0:bl) (μ0:Mu) (H0:ak) (w0:World) (F:Frame) (H:ak) (ds:List Deferred) (a:Act) (w:World):Prop where
 rel:∃I μ,cZ I μ n F a.tmps/\bO I μ H w/\Step I0 μ0 H0 w0 I μ H w
 defers:a.defers=ds
 marks:iE B ds w
theorem KR (r:cZ I μ n F a.tmps) (ops:Array Oper) (o:Oper):ez ops.toList F o=Region.wanted o (yielded ops a.tmps):=by
 unfold ez Region.wanted
 cases hg:o.guard with
 | none=>rfl
 | some g=>
  obtain⟨j,b⟩:=g;simp only;unfold yielded;have e:ops.toList[j]? = ops[j]? := by simp
  rw[e]
  cases hd:(ops[j]?).bind (·.dst)with
  | none=>simp
  | some d=>
   simp only[ζb];have hr:=r.2 d
   by_cases hlt:d<a.tmps.size
   .have hget:a.tmps[d]? = some a.tmps[d]:=by simp[hlt]
    have hgd:a.tmps.getD d undef=a.tmps[d]:=by simp[hlt]
    rw[hgd]at hr;rw[hget]
    cases hx:get F d with
    | bool c=>rw[hx]at hr;rw[hr.pX];cases c <;> cases b <;> rfl
    | _=>
     cases hv:a.tmps[d]with
     | bool c=>rw[hv]at hr;have:=hr.of_bool;rw[hx]at this;cases this
     | _=>rfl
   .have hget:a.tmps[d]? = none:=Array.getElem?_eq_none (Nat.le_of_not_lt hlt);have hgd:a.tmps.getD d undef=undef:=by simp[hlt]
    rw[hgd]at hr;rw[hget]
    cases hx:get F d with
    | bool c=>rw[hx]at hr;have:=hr.pX;simp[undef]at this
    | _=>rfl
theorem AR (hE:dh P E) {call:cu} (hc:jH P call) {ops:Array Oper} {place:Option (Nat×Nat)} {o:Oper} (h:eW E call n ops.toList place o F H=some (F',H'))
 (r:cZ I μ n F a.tmps) (s:bO I μ H w) (ro:Option Nat) {K:Act->World->Prop} {Q:Exit->Act->World->Prop}
 (hK:∀a' I' μ' w',cZ I' μ' n F' a'.tmps->a'.defers=a.defers->bO I' μ' H' w'->Step I μ H w I' μ' H' w'->K a' w') :
 if Region.wanted o (yielded ops a.tmps)then o.wpIn (fr ro) 0 P a w K Q else(∀f,o.about P w a.eval=some f->(fr ro).fn f)/\K (a.put o.dst undef) w:=by
 unfold eW at h;rw[<-KR r];have hdef:∀v,(a.put o.dst v).defers=a.defers:=λv=>by cases o.dst <;> rfl
 split at h
 .rename_i hw;rw[if_pos hw];split at h
  .rename_i x H2 hdo;simp only[ζf,ζc]at h;obtain⟨F2,hp,rfl,rfl⟩:=h;refine Nd hE hc hdo r s ro (λu I' μ' w' hx hs hst=>?_)
   exact hK _ I' μ' w' ((r.mono hst.le hst.mu).put hx hp) (hdef u) hs hst
  .simp at h
 .rename_i hw;rw[if_neg hw];simp only[ζf,ζc]at h;obtain⟨F2,hp,rfl,rfl⟩:=h;exact⟨λ_ _=>trivial,hK _ I μ w (r.put (.undef I μ) hp) (hdef _) s (.refl _ _ _ _)⟩
theorem KY (hE:dh P E) {call:cu} (hc:jH P call) {ops:Array Oper} (ro:Option Nat) {Q:Exit->Act->World->Prop}:∀(rest:List Oper) (k:Nat) (I:bl) (μ:Mu) (F:Frame) (H:ak) (a:Act) (w:World),
 (∀j,rest[j]? = ops[k+j]?)->kC E call n ops.toList rest F H=some (F',H')->cZ I μ n F a.tmps->bO I μ H w ->
 (∀a' I' μ' w',cZ I' μ' n F' a'.tmps->a'.defers=a.defers->bO I' μ' H' w'->Step I μ H w I' μ' H' w'->Q .normal a' w') ->
 wpOpsIn (fr ro) 0 P ops Q (List.range' k rest.length) a w:=by
 intro rest
 induction rest with
 | nil=>
  intro k I μ F H a w _ h r s hQ;simp only[kC,ζa,ζc]at h;obtain⟨rfl,rfl⟩:=h;exact hQ a I μ w r rfl s (.refl _ _ _ _)
 | cons o rest ih=>
  intro k I μ F H a w hidx h r s hQ;simp only[kC]at h;split at h
  .rename_i F1 H1 hstep;have h0:ops[k]? = some o:=by simpa using (hidx 0).symm
   simp only[List.length_cons,List.range'_succ,wpOpsIn,h0];refine AR hE hc hstep r s ro (λa' I' μ' w' hr hd hs hst=>?_)
   refine ih (k+1) I' μ' F1 H1 a' w' (λj=>by have:=hidx (j+1);simpa [Nat.add_assoc,Nat.add_comm 1 j]using this) h hr hs ?_
   intro a2 I2 μ2 w2 hr2 hd2 hs2 hst2;exact hQ a2 I2 μ2 w2 hr2 (hd2.trans hd) hs2 (Step.trans hs hst hst2)
  .simp at h
end
end Go.VE
namespace Go.VE
variable [aW]
def mV (F F':Frame) (op:Op):Prop:=∀x∈op.operands,ev F x=ev F' x
theorem qj {F F':Frame}:∀{l:List Operand},(∀x∈l,ev F x=ev F' x)->d_ F l=d_ F' l:=by
 intro l
 induction l with
 | nil=>intro _;rfl
 | cons x l ih=>
  intro h;simp only[d_];rw[h x (by simp),ih (λy hy=>h y (List.mem_cons_of_mem _ hy))]
theorem yM {F F':Frame}:∀{l:List (Nat×Operand)},(∀x∈l,ev F x.2=ev F' x.2)->kJ F l=kJ F' l:=by
 intro l
 induction l with
 | nil=>intro _;rfl
 | cons x l ih=>
  intro h;obtain⟨i,x⟩:=x;simp only[kJ];rw[h (i,x) (by simp),ih (λy hy=>h y (List.mem_cons_of_mem _ hy))]
theorem vA {F F':Frame} {o:Option Operand} (h:∀x∈o.toArray,ev F x=ev F' x):iN F o=iN F' o:=by
 cases o with
 | none=>rfl
 | some x=>simp only[iN];rw[h x (by simp)]
theorem Cu {E:Env} {F F':Frame} {op:Op} (h:mV F F' op):aO E F op=aO E F' op:=by
 cases op with
 | move x=>exact h x (by simp[Op.operands])
 | assign x=>exact h x (by simp[Op.operands])
 | pick c a b=>
  simp only[aO];rw[h c (by simp[Op.operands]),h a (by simp[Op.operands]),h b (by simp[Op.operands])]
 | nilCheck x=>simp only[aO];rw[h x (by simp[Op.operands])]
 | binOp op t x y yt=>simp only[aO];rw[h x (by simp[Op.operands]),h y (by simp[Op.operands])]
 | unOp op t x=>simp only[aO];rw[h x (by simp[Op.operands])]
 | convert s d x=>simp only[aO];rw[h x (by simp[Op.operands])]
 | fieldAddr s x f=>simp only[aO];rw[h x (by simp[Op.operands])]
 | field s x f=>simp only[aO];rw[h x (by simp[Op.operands])]
 | indexAddr t x i=>simp only[aO];rw[h x (by simp[Op.operands]),h i (by simp[Op.operands])]
 | index t x i=>simp only[aO];rw[h x (by simp[Op.operands]),h i (by simp[Op.operands])]
 | slice t x lo hi mx=>
  simp only[aO];rw[h x (by simp[Op.operands]),vA (o:=lo) (λy hy=>h y (by simp[Op.operands]at hy ⊢;simp[hy])),vA (o:=hi) (λy hy=>h y (by simp[Op.operands]at hy ⊢;simp[hy])),
   vA (o:=mx) (λy hy=>h y (by simp[Op.operands]at hy ⊢;simp[hy]))]
 | build t ps=>
  simp only[aO];rw[yM (l:=ps.toList) (λx hx=>h x.2 (by simp only[Op.operands,List.mem_toArray,List.mem_map];exact⟨x,hx,rfl⟩))]
 | makeFunc f a b=>
  cases f with
  | func f=>
   simp only[aO];rw[qj (l:=a.toList) (λx hx=>h x (by simp only[Op.operands,Array.mem_append];left;simpa using hx)),qj (l:=b.toList) (λx hx=>h x (by simp only[Op.operands,Array.mem_append];right;simpa using hx))]
  | _=>rfl
 | extract x i=>simp only[aO];rw[h x (by simp[Op.operands])]
 | call c=>
  obtain⟨callee,args,ats⟩:=c
  cases callee with
  | builtin b=>
   simp only[aO];rw[qj (l:=args.toList) (λx hx=>h x (by simp only[Op.operands,Call.operands,Array.mem_append];right;simpa using hx))]
  | _=>rfl
 | _=>rfl
theorem vV {E:Env} {F F':Frame} {H:ak} {op:Op} (h:mV F F' op):cK E F H op=cK E F' H op:=by
 cases op with
 | load t x=>simp only[cK];rw[h x (by simp[Op.operands])]
 | lookup t m k ok=>simp only[cK];rw[h m (by simp[Op.operands]),h k (by simp[Op.operands])]
 | _=>rfl
theorem uV {E:Env} {F F':Frame} {op:Op} (h:mV F F' op):dz E F op=dz E F' op:=by
 cases op with
 | alloc t=>rfl
 | box t x=>simp only[dz];rw[h x (by simp[Op.operands])]
 | makeSlice t l c=>simp only[dz];rw[h l (by simp[Op.operands]),h c (by simp[Op.operands])]
 | buildSlice t len ps=>
  simp only[dz];rw[yM (l:=ps.toList) (λx hx=>h x.2 (by simp only[Op.operands,List.mem_toArray,List.mem_map];exact⟨x,hx,rfl⟩))]
 | makeMap t r=>cases r <;> rfl
 | _=>rfl
theorem B_ {E:Env} {F F':Frame} {H:ak} {op:Op} (h:mV F F' op):bR E F H op=bR E F' H op:=by
 cases op with
 | store t p x=>simp only[bR];rw[h p (by simp[Op.operands]),h x (by simp[Op.operands])]
 | mapUpdate t m k x=>simp only[bR];rw[h m (by simp[Op.operands]),h k (by simp[Op.operands]),h x (by simp[Op.operands])]
 | insert t m k x=>simp only[bR];rw[h m (by simp[Op.operands]),h k (by simp[Op.operands]),h x (by simp[Op.operands])]
 | call c=>
  obtain⟨callee,args,ats⟩:=c
  cases callee with
  | builtin b=>
   cases b with
   | append=>
    simp only[bR];rw[qj (l:=args.toList) (λx hx=>h x (by simp only[Op.operands,Call.operands,Array.mem_append];right;simpa using hx))]
   | clear=>
    simp only[bR];rw[qj (l:=args.toList) (λx hx=>h x (by simp only[Op.operands,Call.operands,Array.mem_append];right;simpa using hx))]
   | _=>rfl
  | _=>rfl
 | _=>rfl
theorem Cn {F F':Frame} {op:Op} (h:mV F F' op):iP F op=iP F' op:=by
 cases op with
 | call c=>
  obtain⟨callee,args,ats⟩:=c
  cases callee with
  | value f=>
   simp only[iP];rw[h f (by simp[Op.operands,Call.operands]),qj (l:=args.toList) (λx hx=>h x (by simp only[Op.operands,Call.operands,Array.mem_append];right;simpa using hx))]
  | _=>rfl
 | _=>rfl
theorem Gg {E:Env} {F F':Frame} {op:Op} (h:mV F F' op):pE E F op=pE E F' op:=by unfold pE;rw[uV h]
theorem Iy {F F':Frame} {ops:List Oper} {i b:Nat} {H:ak} {op:Op} (h:mV F F' op):xx ops i b F H op=xx ops i b F' H op:=by
 have:nP F op=nP F' op:=by
  unfold nP;split
  .rename_i args _;split
   .rename_i x r hx;rw[h x (by
     have:x∈args.toList:=by rw[hx];simp
     simp only[Op.operands,Call.operands,Array.mem_append];right;simpa using this)]
   .rfl
  .rfl
 unfold xx;rw[this]
theorem Bk {E:Env} {call:cu} {ops:List Oper} {place:Option (Nat×Nat)} {F F':Frame} {H:ak} {op:Op} (h:mV F F' op) (hf:∀b i,place=some (b,i)->pY ops i F=pY ops i F'/\lV ops i F op=lV ops i F' op):cg E call ops place F H op=cg E call ops place F' H op:=by
 unfold cg;rw[Cu h,uV h,B_ h,Cn h,vV (H:=H) h,Gg h];split <;> (try rfl)
 .split <;> (try rfl)
  rename_i i;rw[vV h,(hf _ i rfl).2]
 .split <;> (try rfl)
  rename_i b i;rw[(hf _ i rfl).1,Iy h]
section
variable {E:Env} {call:cu} {n:Nat} {ops:List Oper} {base:Nat}
theorem Jb {o:Oper} {t:Nat} (h:.tmp t∈o.op.operands):t∈tmpsOf o ops:=by
 unfold tmpsOf;refine List.mem_append.2 (.inl (List.mem_filterMap.2 ⟨.tmp t,by simpa using h,rfl⟩))
theorem Dk {F F':Frame} {o:Oper} {dst:Option Nat} {v:V} (hp:iZ n F dst v=some F') (h:∀d,dst=some d->d∉tmpsOf o ops):mV F' F o.op:=by
 intro x hx
 cases x with
 | tmp t=>
  cases dst with
  | none=>simp only[iZ,ζa]at hp;subst hp;rfl
  | some d=>
   simp only[iZ]at hp;split at hp
   .simp only[ζa]at hp;subst hp;have hne:d≠t:=λe=>h d rfl (by rw[e];exact Jb hx)
    simp only[ev];rw[gX _ _ hne]
   .simp at hp
 | const v=>rfl
 | func f=>rfl
 | global g=>rfl
theorem zX {F F':Frame} {o:Oper} {dst:Option Nat} {v:V} (hp:iZ n F dst v=some F') (h:∀d,dst=some d->d∉tmpsOf o ops):ez ops F' o=ez ops F o:=by
 unfold ez
 cases hg:o.guard with
 | none=>rfl
 | some g=>
  obtain⟨j,b⟩:=g;simp only
  cases hd:(ops[j]?).bind (·.dst)with
  | none=>rfl
  | some t=>
   simp only
   cases dst with
   | none=>simp only[iZ,ζa]at hp;subst hp;rfl
   | some d=>
    simp only[iZ]at hp;split at hp
    .simp only[ζa]at hp;subst hp;have hne:d≠t:=λe=>h d rfl (by
      rw[e];unfold tmpsOf;refine List.mem_append.2 (.inr ?_);rw[hg];simp only[hd,Option.toList_some,List.mem_singleton])
     rw[gX _ _ hne]
    .simp at hp
theorem KP {F F1 F2:Frame} {d d':Option Nat} {u v:V} (h1:iZ n F d u=some F1) (h2:iZ n F1 d' v=some F2) (hne:∀x,d=some x->d'≠some x) :
 ∃F1',iZ n F d' v=some F1'/\iZ n F1' d u=some F2:=by
 cases d with
 | none=>
  simp only[iZ,ζa]at h1;subst h1;exact⟨F2,h2,rfl⟩
 | some x=>
  cases d' with
  | none=>
   simp only[iZ,ζa]at h2;subst h2;exact⟨F,rfl,h1⟩
  | some y=>
   simp only[iZ]at h1 h2 ⊢;split at h1
   .rename_i hx;split at h2
    .rename_i hy;simp only[ζa]at h1 h2;subst h1;subst h2;have:x≠y:=λe=>hne x rfl (by rw[e])
     exact⟨set F y v,by rw[if_pos hy],by rw[if_pos hx,Ed _ _ _ (Ne.symm this)]⟩
    .simp at h2
   .simp at h1
theorem vI {i k:Nat} {oi ok:Oper} (h:cA ops i=true) (hi:ops[i]? = some oi) (hk:ops[k]? = some ok) (hne:k≠i):bX ok.op=.pure\/(if k<i then before ops i k else before ops k i)=true\/(isApp oi.op=true/\bX ok.op=.alloc/\i<k):=by
 unfold cA at h;rw[hi]at h;simp only[List.all_eq_true,List.mem_range]at h;have hlt:=(ζe.1 hk).1;have:=h k hlt;rw[hk]at this;simp only[Bool.or_eq_true,beq_iff_eq,ζh,decide_eq_true_eq]at this;rcases this with ((h|h)|h)|h
 .exact absurd h hne
 .exact .inl h
 .exact .inr (.inl h)
 .exact .inr (.inr ⟨h.1.1,h.1.2,h.2⟩)
theorem vm {H:ak} {j es:Nat} {ob:Ob} {x:V} {xs:List (List V)} (hj:H[j]? = some .free) (h:cW H es x=some xs):cW (H.set j ob) es x=some xs:=by
 unfold cW at h ⊢;split at h <;> first|exact h|skip
 rename_i id es' off len
 by_cases e:j=id
 .subst e;rw[hj]at h;simp only[ζb,Ob.rows]at h;split at h <;> simp at h
 .rw[List.getElem?_set_ne e];exact h
theorem Lu {H H1:ak} {j:Nat} {ob:Ob} {x:V} (h:fQ H x=some H1):H1.length=H.length/\(H1[j]? = some .free->H[j]? = some .free)/\(H[j]? = some .free->fQ (H.set j ob) x=some (H1.set j ob)):=by
 unfold fQ at h ⊢;split at h
 .cases h;exact⟨rfl,λh=>h,λ_=>rfl⟩
 .cases h;exact⟨rfl,λh=>h,λ_=>rfl⟩
 .rename_i id a b c;split at h
  .rename_i hr;cases h;refine⟨by simp,λh=>?_,λh=>?_⟩
   .by_cases e:id=j
    .subst e;have hlt:=(ζe.1 hr).1;rw[List.getElem?_set_self hlt]at h;cases h
    .rw[List.getElem?_set_ne e]at h;exact h
   .have e:id≠j:=λe=>by subst e;rw[h]at hr;cases hr
    rw[List.getElem?_set_ne (Ne.symm e),hr];simp only;rw[List.set_comm _ _ e]
  .cases h
 .cases h
theorem Fg {H:ak} {o:Ob} {j:Nat} (ho:o≠.free) (h:(H++[o])[j]? = some .free):j<H.length/\H[j]? = some .free:=by
 by_cases hj:j<H.length
 .rw[List.getElem?_append_left hj]at h;exact⟨hj,h⟩
 .rw[List.getElem?_append_right (by omega)]at h
  cases hd:j-H.length with
  | zero=>rw[hd]at h;simp at h;exact absurd h ho
  | succ m=>rw[hd]at h;simp at h
theorem OO {F:Frame} {H H1:ak} {op:Op} {v:V} {j:Nat} {ob:Ob} (ha:isApp op=true) (h:bR E F H op=some (v,H1)) (hf:H1[j]? = some .free):H[j]? = some .free/\bR E F (H.set j ob) op=some (v,H1.set j ob):=by
 unfold isApp at ha;split at ha
 .rename_i args ats;simp only[bR]at h ⊢;split at h
  .rename_i t t' s x hev;split at h
   .rename_i e _ hk1 hk2;split at h
    .rename_i d hd;split at h
     .rename_i hs hx;simp only[ζa,ζc]at h;obtain⟨rfl,rfl⟩:=h;refine⟨hf,?_⟩;simp only[hk1,hk2,hd,vm (ob:=ob) hf hs,vm (ob:=ob) hf hx]
     .rename_i xs ys hne hs hx;split at h
      .rename_i hc;obtain⟨H0,hg,he⟩:=ζf.1 h;simp only[ζc]at he;obtain⟨rfl,rfl⟩:=he;obtain⟨hlt,hf0⟩:=Fg (by simp) hf
       obtain⟨g1,g2,g3⟩:=Lu (j:=j) (ob:=ob) hg;have hfH:=g2 hf0;refine⟨hfH,?_⟩;simp only[hk1,hk2,hd,vm (ob:=ob) hfH hs,vm (ob:=ob) hfH hx];rw[if_pos hc,g3 hfH];simp only[Option.map_some,List.length_set];rw[List.set_append_left _ _ hlt]
      .cases h
     .cases h
    .cases h
   .rename_i e _ hk1 hk2;split at h
    .rename_i d hd;unfold mkApp at h;split at h
     .split at h
      .simp only[ζa,ζc]at h;obtain⟨rfl,rfl⟩:=h;refine⟨hf,?_⟩;simp only[hk1,hk2,hd,mkApp];rename_i hn;rw[if_pos hn]
      .split at h
       .simp only[ζa,ζc]at h;obtain⟨rfl,rfl⟩:=h;obtain⟨hlt,hf0⟩:=Fg (by simp) hf
        refine⟨hf0,?_⟩;rename_i hn hc;simp only[hk1,hk2,hd,mkApp];rw[if_neg hn,if_pos hc,List.length_set,List.set_append_left _ _ hlt]
       .cases h
     .cases h
    .cases h
   .cases h
  .cases h
 .cases ha
theorem sG {i:Nat} {F:Frame} {H H':ak} {op:Op} {v:V} (h:cg E call ops (some (base,i)) F H op=some (v,H')) (hnl:cA ops i=false) (hcl:bX op≠.loud) :
 (H'=H/\∀H2:ak,kT (H2.take base) (H.take base)->cg E call ops (some (base,i)) F H2 op=some (v,H2)) \/
 (∃ob,H[base+i]? = some .free/\H'=H.set (base+i) ob/\∀H2:ak,H2[base+i]? = some .free->cg E call ops (some (base,i)) F H2 op=some (v,H2.set (base+i) ob)) \/
 (∃T,gG (H.take base) T=true/\H'=bu H T/\∀H2:ak,kT (H2.take base) (H.take base)->cg E call ops (some (base,i)) F H2 op=some (v,bu H2 T)):=by
 unfold cg at h;split at h
 .rename_i hcl;simp only[ζf,ζc]at h;obtain⟨x,hx,rfl,rfl⟩:=h;refine .inl ⟨rfl,λH2 _=>?_⟩
  unfold cg;rw[hcl];simp[hx]
 .rename_i hcl;simp only at h;split at h
  .rename_i hfr;split at h
   .rename_i x hx;simp only[ζa,ζc]at h;obtain⟨rfl,rfl⟩:=h;refine .inl ⟨rfl,λH2 h2=>?_⟩
    unfold cg;rw[hcl];simp only[xD h2,hx,hfr,if_true]
   .rw[hnl]at h;simp at h
  .simp at h
 .rename_i hcl;split at h
  .rename_i hco;obtain⟨x,hx,e⟩:=ζf.1 h;simp only[ζc]at e;obtain⟨rfl,rfl⟩:=e;refine .inl ⟨rfl,λH2 _=>?_⟩
   unfold cg;rw[hcl];simp only[hco,if_true,hx,Option.map_some]
  rename_i hco;split at h
  .rename_i heq;simp at heq
  .rename_i ob m b' i' hal heq;simp only[ζa,ζc]at heq;obtain⟨rfl,rfl⟩:=heq;split at h
   .rename_i hfree;simp only[ζa,ζc]at h;obtain⟨rfl,rfl⟩:=h;refine .inr (.inl ⟨ob,hfree,rfl,λH2 h2=>?_⟩)
    unfold cg;rw[hcl];simp only[if_neg hco,hal,h2]
   .simp at h
  .simp at h
 .rename_i hl;exact absurd hl hcl
 .rename_i hcl;split at h
  .rename_i f args hca;split at h
   .simp only at h;rw[hnl]at h;simp at h
   .rename_i hkeep;simp only at h;split at h
    .rename_i y hy;split at h
     .rename_i hcond;simp only[ζa,ζc]at h;obtain⟨rfl,rfl⟩:=h;refine .inl ⟨rfl,λH2 h2=>?_⟩
      unfold cg;rw[hcl];simp only[hca];rw[if_neg hkeep];simp only[xY h2,hy,hcond,if_true]
     .rename_i hcond;split at h
      .rename_i hro;simp only[ζa,ζc]at h;obtain⟨rfl,rfl⟩:=h;refine .inr (.inr ⟨_,hro,rfl,λH2 h2=>?_⟩)
       unfold cg;rw[hcl];simp only[hca];rw[if_neg hkeep];simp only[xY h2,hy,Jc h2,tq h2,hro,if_true];rw[if_neg hcond]
      .simp at h
    .rw[hnl]at h;simp at h
  .simp only at h;rw[hnl]at h;simp at h
  .simp at h
theorem C4 {i:Nat}:∀{r l:List Nat},Ai ops i r=some l->∀k∈r,∃a,DP ops i k=some a/\∀s∈a,s∈l
 | [],l,h,k,hk=>by simp at hk
 | q::r,l,h,k,hk=>by
  simp only[Ai]at h;split at h
  .rename_i a b h1 h2;simp only[ζa]at h;subst h;rcases List.mem_cons.1 hk with rfl|hk
   .exact⟨a,h1,λs hs=>List.mem_append_left _ hs⟩
   .obtain⟨a',g1,g2⟩:=C4 h2 k hk;exact⟨a',g1,λs hs=>List.mem_append_right _ (g2 s hs)⟩
  .simp at h
theorem Es {i:Nat}:∀{r l:List Nat},Ai ops i r=some l->∀s∈l,s∉dstsOf ops
 | [],l,h,s,hs=>by simp only[Ai,ζa]at h;subst h;simp at hs
 | q::r,l,h,s,hs=>by
  simp only[Ai]at h;split at h
  .rename_i a b h1 h2;simp only[ζa]at h;subst h;rcases List.mem_append.1 hs with hs|hs
   .unfold DP at h1;split at h1
    .split at h1
     .simp only[ζa]at h1;subst h1;simp at hs
     .split at h1
      .split at h1
       .simp only[ζa]at h1;subst h1;simp at hs
       .rename_i hc;simp only[ζa]at h1;subst h1;simp only[List.mem_singleton]at hs;subst hs;simpa using hc
      .simp at h1
    .simp only[ζa]at h1;subst h1;simp at hs
   .exact Es h2 s hs
  .simp at h
theorem Da {i a:Nat} {l:List Nat} {oi:Oper} (hi:ops[i]? = some oi) (h:yI ops i=some (a,l)):(∃t x,oi.op=.store t (.tmp a) x)/\a∉dstsOf ops/\(∀s∈l,s∉dstsOf ops) /\
 ∀k ok,ops[k]? = some ok->k≠i->bX ok.op=.pure\/(if k<i then before ops i k else before ops k i)=true\/∃t' a',ok.op=.load t' (.tmp a')/\(a'∈l\/a'∈dstsOf ops):=by
 unfold yI at h;rw[hi]at h;simp only[Option.map_some]at h;split at h
 .rename_i t a0 x heq;simp only[ζa]at heq;split at h
  .simp at h
  .rename_i hc;obtain⟨l0,hl,e⟩:=ζf.1 h;simp only[ζc]at e;obtain⟨rfl,rfl⟩:=e;refine⟨⟨t,x,heq⟩,by simpa using hc,Es hl,λk ok hk hne=>?_⟩
   obtain⟨b,h1,h2⟩:=C4 hl k (List.mem_range.2 (ζe.1 hk).1);unfold DP at h1;rw[hk]at h1;simp only at h1;split at h1
   .rename_i hcond;simp only[Bool.or_eq_true,beq_iff_eq]at hcond;rcases hcond with (hcond|hcond)|hcond
    .exact absurd hcond hne
    .exact .inl hcond
    .exact .inr (.inl hcond)
   .split at h1
    .rename_i t' a' hop;split at h1
     .rename_i hc;exact .inr (.inr ⟨t',a',hop,.inr (by simpa using hc)⟩)
     .simp only[ζa]at h1;subst h1;exact .inr (.inr ⟨t',a',hop,.inl (h2 a' (by simp))⟩)
    .simp at h1
 .simp at h
theorem D7 {F F':Frame} {dst:Option Nat} {v:V} {s:Nat} (hp:iZ n F dst v=some F') (h:∀d,dst=some d->s≠d):get F' s=get F s:=by
 unfold iZ at hp;split at hp
 .simp only[ζa]at hp;rw[hp]
 .rename_i d;split at hp
  .simp only[ζa]at hp;subst hp;exact gX _ _ (Ne.symm (h d rfl))
  .simp at hp
theorem FN {k d:Nat} {ok:Oper} (hk:ops[k]? = some ok) (hd:ok.dst=some d):d∈dstsOf ops:=
 List.mem_filterMap.2 ⟨ok,List.mem_of_getElem? hk,hd⟩
theorem Dt {F F':Frame} {k i:Nat} {ok oi:Oper} {v:V} (hk:ops[k]? = some ok) (hi:ops[i]? = some oi) (hp:iZ n F ok.dst v=some F'):pY ops i F'=pY ops i F:=by
 unfold pY
 cases hf:yI ops i with
 | none=>rfl
 | some al=>
  obtain⟨a,l⟩:=al;obtain⟨_,h2,h3,_⟩:=Da hi hf;have hg:∀s,s∉dstsOf ops->get F' s=get F s:=λs hs=>D7 hp λd hd e=>hs (e▸FN hk hd)
  simp only;rw[hg a h2];split
  .rw[Bool.eq_iff_iff];simp only[List.all_eq_true];exact⟨λh s hs=>by rw[<-hg s (h3 s hs)];exact h s hs,λh s hs=>by rw[hg s (h3 s hs)];exact h s hs⟩
  .rfl
theorem Ks {i k a a':Nat} {t:TypeId} {x:Operand} {oi:Oper} (hi:ops[i]? = some oi) (e1:oi.op=.store t (.tmp a) x) (h1:a'∈dstsOf ops) (h2:a∉dstsOf ops) (h3:uA ops i k=false):a∈nF ops k a':=by
 unfold nF;rw[if_pos (by simpa using h1)]
 refine List.mem_filterMap.2 ⟨i,List.mem_range.2 (ζe.1 hi).1,?_⟩;simp only[hi,Option.map_some,e1,h3,Bool.false_or];rw[if_neg (by simpa using h2)]
theorem wB {k a' s:Nat} (h:s∈nF ops k a'):s∉dstsOf ops/\∃i oi t x,ops[i]? = some oi/\oi.op=.store t (.tmp s) x/\uA ops i k=false:=by
 unfold nF at h;split at h
 .obtain⟨i,_,h⟩:=List.mem_filterMap.1 h;split at h
  .rename_i e;split at h
   .simp at h
   .rename_i hc;simp only[ζa]at h;subst h;simp only[Bool.or_eq_true,not_or]at hc;obtain⟨oi,h1,h2⟩:=ζf.1 e;exact⟨by simpa using hc.2,i,oi,_,_,h1,h2,by simpa using hc.1⟩
  .simp at h
 .simp at h
theorem CZ {F F':Frame} {k i:Nat} {ok:Oper} {op:Op} {v:V} (hk:ops[k]? = some ok) (hp:iZ n F ok.dst v=some F') (hs:mV F' F op):lV ops i F' op=lV ops i F op:=by
 have hg:∀s,s∉dstsOf ops->get F' s=get F s:=λs h=>D7 hp λd hd e=>h (e▸FN hk hd)
 unfold lV;split
 .rename_i t a';have ha:get F' a'=get F a':=by
   have:=hs (.tmp a') (by simp[Op.operands])
   simpa [ev]using this
  rw[ha,Bool.eq_iff_iff];simp only[List.all_eq_true];exact⟨λh s hs=>by rw[<-hg s (wB hs).1];exact h s hs,λh s hs=>by rw[hg s (wB hs).1];exact h s hs⟩
 .rfl
theorem Bq {k a':Nat} {ok:Oper} {t:TypeId} (hk:ops[k]? = some ok) (e:ok.op=.load t (.tmp a')) (h:cA ops k=true):nF ops k a'=[]:=by
 refine List.eq_nil_iff_forall_not_mem.2 λs hs=>?_
 obtain⟨_,i,oi,t',x,h1,h2,h3⟩:=wB hs;have hne:i≠k:=λe2=>by subst e2;rw[hk]at h1;cases h1;rw[e]at h2;cases h2
 rcases vI h hk h1 hne with g|g|g
 .rw[h2]at g;cases g
 .unfold uA at h3
  by_cases e2:k<i
  .rw[if_pos e2]at h3;rw[if_neg (by omega)]at g;rw[h3]at g;cases g
  .rw[if_neg e2]at h3;rw[if_pos (by omega)]at g;rw[h3]at g;cases g
 .rw[e]at g;exact absurd g.1 (by simp[isApp])
theorem Gr {F:Frame} {H H':ak} {t:TypeId} {a:Nat} {x:Operand} {id el off:Nat} {u:V} (ha:get F a=.hptr id el off) (h:bR E F H (.store t (.tmp a) x)=some (u,H')):∃r,H'=H.set id r:=by
 simp only[bR,ev,ha]at h;split at h
 .rename_i h1 h2 h3;simp only[ζa,V.hptr.injEq]at h2;obtain⟨rfl,rfl,rfl⟩:=h2;split at h
  .split at h
   .split at h
    .simp only[ζa,ζc]at h;exact⟨_,h.2.symm⟩
    .simp at h
   .simp at h
  .simp at h
 .simp at h
theorem I7 {F:Frame} {H:ak} {t:TypeId} {a id b:Nat} {r:Ob} (ha:o7 id (get F a)=true):cK E F ((H.set id r).take b) (.load t (.tmp a))=cK E F (H.take b) (.load t (.tmp a)):=by
 have:∀m,cR ((H.set id r).take b) (get F a) m=cR (H.take b) (get F a) m:=λm=>by
  unfold o7 at ha;split at ha
  .rename_i id' el off hg;rw[hg];simp only[cR];have hne:id≠id':=λe=>by simp[e]at ha
   have:((H.set id r).take b)[id']? = (H.take b)[id']? := by
    rw[List.getElem?_take,List.getElem?_take,List.getElem?_set_ne hne]
   rw[this]
  .rename_i cs hg;rw[hg];rfl
  .simp at ha
 unfold cK;simp only[ev]
 cases E.tt t with
 | none=>rfl
 | some d=>simp only[this]
theorem EY {k i:Nat} {ok oi:Oper} (hk:ops[k]? = some ok) (hi:ops[i]? = some oi) (hne:k≠i) (hb:(if k<i then before ops i k else before ops k i)=false) (lk:cA ops k=false) (pk:bX ok.op≠.pure) (hl:bX oi.op=.loud) (li:cA ops i=false) (hna:isApp oi.op=false)
 {F:Frame} {H0 H1 H2 Hs Hs':ak} {u v:V} (hs:cg E call ops (some (base,i)) F Hs oi.op=some (u,Hs')) (hld:cg E call ops (some (base,k)) F H0 ok.op=some (v,H1)) :
 H1=H0/\∃id,(∀(H:ak) (r:Ob),cK E F ((H.set id r).take base) ok.op=cK E F (H.take base) ok.op)/\(∃r,Hs'=Hs.set id r)/\bX ok.op=.read/\cK E F (H0.take base) ok.op=some v/\lV ops k F ok.op=true:=by
 unfold cg at hs;rw[hl]at hs;simp only[li,Bool.false_or,show ∀F b H,xx ops i b F H oi.op=false from λF b H=>by unfold xx;rw[hna];simp,Bool.or_false]at hs
 split at hs
 .rename_i hf;unfold pY at hf;split at hf
  .rename_i a l hfs;split at hf
   .rename_i id el off hg;obtain⟨⟨t,x,hop⟩,h2,h3,h4⟩:=Da hi hfs;rcases h4 k ok hk hne with h|h|⟨t',a',hlo,hmem⟩
    .exact absurd h pk
    .rw[hb]at h;cases h
    .unfold cg at hld;rw[hlo]at hld;simp only[bX]at hld;split at hld
     rotate_left
     .simp at hld
     rename_i hfr;have hap:o7 id (get F a')=true:=by
      rcases hmem with hmem|hmem
      .exact List.all_eq_true.1 hf a' hmem
      .have hb':uA ops i k=false:=by
        unfold uA
        by_cases e:k<i
        .rw[if_pos e]at hb ⊢;exact hb
        .rw[if_neg e]at hb ⊢;exact hb
       have hm:=Ks hi hop hmem h2 hb';unfold lV at hfr;simp only[List.all_eq_true]at hfr;have:=hfr a hm;rw[hg]at this;exact this
     rw[hop]at hs;obtain⟨r,hr⟩:=Gr hg hs;split at hld
     .rename_i v' hv;simp only[ζa,ζc]at hld;obtain⟨rfl,rfl⟩:=hld;refine⟨rfl,id,λH r=>by rw[hlo];exact I7 hap,⟨r,hr⟩,by rw[hlo];rfl,by rw[hlo];exact hv,by rw[hlo];exact hfr⟩
     .rw[lk]at hld;simp at hld
   .simp at hf
  .simp at hf
 .simp at hs
theorem A8 {place:Option (Nat×Nat)} {F:Frame} {H H':ak} {op:Op} {v:V} (hcl:bX op=.pure\/bX op=.alloc/\pI ops place=true) (h:cg E call ops place F H op=some (v,H')) :
 H'=H/\∀H2:ak,cg E call ops place F H2 op=some (v,H2):=by
 rcases hcl with hcl|⟨hcl,hco⟩
 rotate_left
 .unfold cg at h;rw[hcl]at h;simp only[hco,if_true]at h;obtain⟨x,hx,e⟩:=ζf.1 h;simp only[ζc]at e;obtain⟨rfl,rfl⟩:=e;refine⟨rfl,λH2=>?_⟩
  unfold cg;rw[hcl];simp only[hco,if_true,hx,Option.map_some]
 unfold cg at h;rw[hcl]at h;simp only[ζf,ζc]at h;obtain⟨x,hx,rfl,rfl⟩:=h;refine⟨rfl,λH2=>?_⟩
 unfold cg;rw[hcl];simp[hx]
theorem take_set_of_le {H:ak} {b k:Nat} {x:Ob} (h:b<=k):(H.set k x).take b=H.take b:=List.take_set_of_le h
theorem apart_spec {a b:Oper} (h:wh ops a b=true):(∀d,a.dst=some d->d∉tmpsOf b ops/\b.dst≠some d)/\(∀d,b.dst=some d->d∉tmpsOf a ops):=by
 unfold wh at h;simp only[ζh]at h;obtain⟨h1,h2⟩:=h;refine⟨λd hd=>?_,λd hd=>?_⟩
 .rw[hd]at h1;simpa using h1
 .rw[hd]at h2;simpa using h2
theorem BE {i k:Nat} {ok:Oper} (h:vh ops i=true) (hk:ops[k]? = some ok) (hne:k≠i) (hb:uA ops i k=false):bX ok.op=.pure\/bX ok.op=.read\/bX ok.op=.alloc/\(v_ ops k=true\/i<k):=by
 unfold vh at h;split at h
 .simp only[ζh,List.all_eq_true,List.mem_range]at h;have:=h.2 k (ζe.1 hk).1;rw[hk]at this;simp only[Bool.or_eq_true,beq_iff_eq,ζh,decide_eq_true_eq,hb,Bool.false_eq_true,or_false]at this;rcases this with ((h|h)|h)|h
  .exact absurd h hne
  .exact .inl h
  .exact .inr (.inl h)
  .exact .inr (.inr h)
 .cases h
theorem yZ {op:Op} (h:isApp op=true):bX op=.loud:=by
 unfold isApp at h;split at h
 .rfl
 .cases h
theorem Fs {F:Frame} {H H1:ak} {op:Op} {v:V} {b:Nat} (ha:isApp op=true) (he:nP F op=true) (hb:b<=H.length) (h:bR E F H op=some (v,H1)):H1.take b=H.take b:=by
 unfold isApp at ha;split at ha
 rotate_left
 .cases ha
 rename_i args ats;simp only[bR]at h;split at h
 rotate_left
 .cases h
 rename_i t t' s x hat hev;have hs:s=.ck\/s=.aR:=by
  simp only[nP]at he;split at he
  .rename_i y r hy;rw[hy]at hev;have h1:ev F y=some s:=by
    simp only[d_]at hev;split at hev
    .rename_i a b h1 h2;simp only[ζa,List.cons.injEq]at hev;rw[h1,hev.1]
    .cases hev
   rw[h1]at he;cases s <;> simp at he <;> simp
  .cases he
 have hg:∀H2,fQ H s=some H2->H2=H:=λH2 h=>by rcases hs with rfl|rfl <;> (simp only[fQ,ζa]at h;exact h.symm)
 split at h
 .split at h
  .split at h
   .simp only[ζa,ζc]at h;rw[h.2]
   .split at h
    .obtain⟨H0,h1,h2⟩:=ζf.1 h;simp only[ζc]at h2;rw[<-h2.2,hg H0 h1,List.take_append_of_le_length hb]
    .cases h
   .cases h
  .cases h
 .split at h
  .unfold mkApp at h;split at h
   .split at h
    .simp only[ζa,ζc]at h;rw[h.2]
    .split at h
     .simp only[ζa,ζc]at h;rw[<-h.2,List.take_append_of_le_length hb]
     .cases h
   .cases h
  .cases h
 .cases h
theorem Cs {i:Nat} {F:Frame} {H H':ak} {op:Op} {u:V} (ha:isApp op=true) (hl:cA ops i=false) (hi:(ops[i]?).map Oper.op=some op) (h:cg E call ops (some (base,i)) F H op=some (u,H')) :
 vh ops i=true/\nP F op=true/\base<=H.length/\bR E F H op=some (u,H'):=by
 unfold cg at h;rw[yZ ha]at h;have hfv:pY ops i F=false:=by
  unfold pY yI;rw[hi];unfold isApp at ha;split at ha
  .rfl
  .cases ha
 simp only[hl,hfv,Bool.false_or]at h;split at h
 .rename_i hc;unfold xx at hc;simp only[ζh,decide_eq_true_eq]at hc;exact⟨hc.1,hc.2.1.2,hc.2.2,h⟩
 .cases h
theorem KL {i:Nat} {F:Frame} {H H':ak} {op:Op} {u:V} (ha:isApp op=true) (h:bR E F H op=some (u,H')) (hc:cA ops i=true\/vh ops i=true/\nP F op=true/\base<=H.length):cg E call ops (some (base,i)) F H op=some (u,H'):=by
 unfold cg;rw[yZ ha];rcases hc with hc|⟨h1,h2,h3⟩
 .simp only[hc,Bool.true_or,if_true,h]
 .have:xx ops i base F H op=true:=by unfold xx;simp[h1,ha,h2,h3]
  simp only[this,Bool.or_true,if_true,h]
theorem A5 {i:Nat} {F:Frame} {H H':ak} {op:Op} {v:V} (hcl:bX op=.read) (hnl:cA ops i=false) (h:cg E call ops (some (base,i)) F H op=some (v,H')) :
 H'=H/\∀H2:ak,kT (H2.take base) (H.take base)->cg E call ops (some (base,i)) F H2 op=some (v,H2):=by
 unfold cg at h;rw[hcl]at h;simp only at h;split at h
 .rename_i hfr;split at h
  .rename_i x hx;simp only[ζa,ζc]at h;obtain⟨rfl,rfl⟩:=h;refine⟨rfl,λH2 h2=>?_⟩
   unfold cg;rw[hcl];simp only[xD h2,hx,hfr,if_true]
  .rw[hnl]at h;simp at h
 .simp at h
theorem swap {k i:Nat} {ok oi:Oper} (hk:ops[k]? = some ok) (hi:ops[i]? = some oi) (hki:k<i) (hne:before ops i k=false) (hap:wh ops ok oi=true) {F F1 F2:Frame} {H H1 H2:ak}
 (h1:eW E call n ops (some (base,k)) ok F H=some (F1,H1)) (h2:eW E call n ops (some (base,i)) oi F1 H1=some (F2,H2)) :
 ∃F1' H1',eW E call n ops (some (base,i)) oi F H=some (F1',H1')/\eW E call n ops (some (base,k)) ok F1' H1'=some (F2,H2):=by
 obtain⟨a1,a2⟩:=apart_spec hap;have hput1:∃v,iZ n F ok.dst v=some F1/\((ez ops F ok=true/\cg E call ops (some (base,k)) F H ok.op=some (v,H1))\/(ez ops F ok=false/\v=.undef/\H1=H)):=by
  unfold eW at h1;split at h1
  .rename_i hw;split at h1
   .rename_i v H' hd;simp only[ζf,ζc]at h1;obtain⟨Fx,hp,rfl,rfl⟩:=h1;exact⟨v,hp,.inl ⟨hw,hd⟩⟩
   .simp at h1
  .rename_i hw;simp only[ζf,ζc]at h1;obtain⟨Fx,hp,rfl,rfl⟩:=h1;exact⟨_,hp,.inr ⟨by simpa using hw,rfl,rfl⟩⟩
 have hput2:∃v,iZ n F1 oi.dst v=some F2/\((ez ops F1 oi=true/\cg E call ops (some (base,i)) F1 H1 oi.op=some (v,H2))\/(ez ops F1 oi=false/\v=.undef/\H2=H1)):=by
  unfold eW at h2;split at h2
  .rename_i hw;split at h2
   .rename_i v H' hd;simp only[ζf,ζc]at h2;obtain⟨Fx,hp,rfl,rfl⟩:=h2;exact⟨v,hp,.inl ⟨hw,hd⟩⟩
   .simp at h2
  .rename_i hw;simp only[ζf,ζc]at h2;obtain⟨Fx,hp,rfl,rfl⟩:=h2;exact⟨_,hp,.inr ⟨by simpa using hw,rfl,rfl⟩⟩
 obtain⟨v,hp1,CI⟩:=hput1;obtain⟨u,hp2,hd2⟩:=hput2;have hw2:ez ops F1 oi=ez ops F oi:=zX hp1 λd hd=>(a1 d hd).1
 have hs2:mV F1 F oi.op:=Dk hp1 λd hd=>(a1 d hd).1
 have hf2:∀(b j:Nat),(some (base,i):Option (Nat×Nat))=some (b,j)->pY ops j F1=pY ops j F/\lV ops j F1 oi.op=lV ops j F oi.op:=λb j e=>by cases e;exact⟨Dt hk hi hp1,CZ hk hp1 hs2⟩
 rw[hw2,Bk hs2 hf2]at hd2;obtain⟨F1',hq1,hq2⟩:=KP hp1 hp2 λx hx=>(a1 x hx).2
 have hw1:ez ops F1' ok=ez ops F ok:=zX hq1 λd hd=>a2 d hd
 have hs1:mV F1' F ok.op:=Dk hq1 λd hd=>a2 d hd
 have hf1:∀(b j:Nat),(some (base,k):Option (Nat×Nat))=some (b,j)->pY ops j F1'=pY ops j F/\lV ops j F1' ok.op=lV ops j F ok.op:=λb j e=>by cases e;exact⟨Dt hi hk hq1,CZ hi hq1 hs1⟩
 have fin:∀H1',((ez ops F oi=true/\cg E call ops (some (base,i)) F H oi.op=some (u,H1'))\/(ez ops F oi=false/\u=.undef/\H1'=H)) ->
  ((ez ops F ok=true/\cg E call ops (some (base,k)) F H1' ok.op=some (v,H2))\/(ez ops F ok=false/\v=.undef/\H2=H1')) ->
  ∃F1' H1',eW E call n ops (some (base,i)) oi F H=some (F1',H1')/\eW E call n ops (some (base,k)) ok F1' H1'=some (F2,H2):=by
  intro H1' e1 e2;refine⟨F1',H1',?_,?_⟩
  .unfold eW;rcases e1 with⟨x1,x2⟩|⟨x1,x2,x3⟩
   .rw[if_pos x1,x2];simp[hq1]
   .rw[if_neg (by simp[x1])];subst x2;subst x3;simp[hq1]
  .unfold eW;rw[hw1];rcases e2 with⟨x1,x2⟩|⟨x1,x2,x3⟩
   .rw[if_pos x1,Bk hs1 hf1,x2];simp[hq2]
   .rw[if_neg (by simp[x1])];subst x2;subst x3;simp[hq2]
 rcases CI with⟨w1,d1⟩|⟨w1,rfl,rfl⟩
 .rcases hd2 with⟨w2,d2⟩|⟨w2,rfl,rfl⟩
  .by_cases pk:bX ok.op=.pure\/bX ok.op=.alloc/\pI ops (some (base,k))=true
   .obtain⟨rfl,q⟩:=A8 pk d1;exact fin H2 (.inl ⟨w2,d2⟩) (.inl ⟨w1,q H2⟩)
   .by_cases pi:bX oi.op=.pure\/bX oi.op=.alloc/\pI ops (some (base,i))=true
    .obtain⟨rfl,q⟩:=A8 pi d2;exact fin H (.inl ⟨w2,q H⟩) (.inl ⟨w1,d1⟩)
    .by_cases hap:isApp ok.op=true/\bX oi.op=.alloc
     .
      obtain⟨hap,hoi⟩:=hap;have hcl:=yZ hap;have hlk:(cA ops k=true\/vh ops k=true/\nP F ok.op=true/\base<=H.length)/\bR E F H ok.op=some (v,H1):=by
       cases hl:cA ops k with
       | true=>
        refine⟨.inl rfl,?_⟩;unfold cg at d1;rw[hcl]at d1;simpa only[hl,Bool.true_or,if_true]using d1
       | false=>
        obtain⟨a,b,c,d⟩:=Cs hap hl (by rw[hk];rfl) d1
        exact⟨.inr ⟨a,b,c⟩,d⟩
      obtain⟨hlk,e1⟩:=hlk;have hco:pI ops (some (base,i))=false:=by
       cases hc:pI ops (some (base,i))with
       | false=>rfl
       | true=>exact absurd (.inr ⟨hoi,hc⟩) pi
      have e2:∃ob m,dz E F oi.op=some (ob,m)/\H1[base+i]? = some .free/\u=m.val (base+i)/\H2=H1.set (base+i) ob:=by
       unfold cg at d2;rw[hoi]at d2;simp only[hco,Bool.false_eq_true,if_false]at d2;split at d2
       .rename_i heq;cases heq
       .rename_i ob m b' i' hal heq;cases heq;split at d2
        .rename_i hfree;simp only[ζa,ζc]at d2;exact⟨ob,m,hal,hfree,d2.1.symm,d2.2.symm⟩
        .cases d2
       .cases d2
      obtain⟨ob,m,hal,hfree,rfl,rfl⟩:=e2;obtain⟨f0,f1⟩:=OO (ob:=ob) hap e1 hfree;refine fin (H.set (base+i) ob) (.inl ⟨w2,?_⟩) (.inl ⟨w1,?_⟩)
      .unfold cg;rw[hoi];simp only[hco,Bool.false_eq_true,if_false,hal,f0]
      .exact KL hap f1 (hlk.imp id λ⟨a,b,c⟩=>⟨a,b,by rw[List.length_set];exact c⟩)
     have lk:cA ops k=false:=by
      cases hl:cA ops k with
      | false=>rfl
      | true=>
       rcases vI hl hk hi (by omega)with h|h|h
       .exact absurd (.inl h) pi
       .rw[if_neg (by omega)]at h;rw[hne]at h;cases h
       .exact absurd ⟨h.1,h.2.1⟩ hap
     have li:cA ops i=false:=by
      cases hl:cA ops i with
      | false=>rfl
      | true=>
       rcases vI hl hi hk (by omega)with h|h|h
       .exact absurd (.inl h) pk
       .rw[if_pos hki]at h;rw[hne]at h;cases h
       .exact absurd h.2.2 (by omega)
     by_cases ha1:isApp oi.op=true
     .obtain⟨g1,g2,g3,g4⟩:=Cs ha1 li (by rw[hi];rfl) d2
      rcases BE g1 hk (by omega) (by unfold uA;rw[if_pos hki];exact hne)with h|h|⟨h,h2⟩
      .exact absurd (.inl h) pk
      .obtain⟨rfl,q⟩:=A5 h lk d1;exact fin H2 (.inl ⟨w2,d2⟩) (.inl ⟨w1,q H2 (kT.of_eq (Fs ha1 g2 g3 g4))⟩)
      .rcases h2 with h2|h2
       .exact absurd (.inr ⟨h,h2⟩) pk
       .omega
     by_cases ha2:isApp ok.op=true
     .obtain⟨g1,g2,g3,g4⟩:=Cs ha2 lk (by rw[hk];rfl) d1
      rcases BE g1 hi (by omega) (by unfold uA;rw[if_neg (by omega)];exact hne)with h|h|⟨h,h2⟩
      .exact absurd (.inl h) pi
      .obtain⟨rfl,q⟩:=A5 h li d2;exact fin H (.inl ⟨w2,q H (kT.of_eq (Fs ha2 g2 g3 g4).symm)⟩) (.inl ⟨w1,d1⟩)
      .exact absurd ⟨ha2,h⟩ hap
     by_cases hki1:bX oi.op=.loud
     .obtain⟨rfl,id,q1,⟨r,hr⟩,q3,q4,q5⟩:=EY (H2:=H2) hk hi (by omega) (by rw[if_pos hki];exact hne) lk (λh=>pk (.inl h)) hki1 li (by simpa using ha1) d2 d1
      refine fin H2 (.inl ⟨w2,d2⟩) (.inl ⟨w1,?_⟩);unfold cg;rw[q3];subst hr;simp only[q1,q4,q5,if_true]
     by_cases hki2:bX ok.op=.loud
     .obtain⟨rfl,id,q1,⟨r,hr⟩,q3,q4,q5⟩:=EY (H2:=H2) hi hk (by omega) (by rw[if_neg (by omega)];exact hne) li (λh=>pi (.inl h)) hki2 lk (by simpa using ha2) d1 d2
      refine fin H (.inl ⟨w2,?_⟩) (.inl ⟨w1,d1⟩);unfold cg;rw[q3];subst hr;rw[q1]at q4;simp only[q4,q5,if_true]
     have tk:∀(X:ak) (k:Nat) (o:Ob),kT ((X.set (base+k) o).take base) (X.take base):=λX k o=>kT.of_eq (take_set_of_le (by omega))
     rcases sG d1 lk hki2 with⟨rfl,qk⟩|⟨ob,fk,rfl,qk⟩|⟨T,tr,rfl,qk⟩
     .rcases sG d2 li hki1 with⟨rfl,qi⟩|⟨ob2,fi,rfl,qi⟩|⟨T2,tr2,rfl,qi⟩
      .exact fin H2 (.inl ⟨w2,d2⟩) (.inl ⟨w1,d1⟩)
      .exact fin _ (.inl ⟨w2,d2⟩) (.inl ⟨w1,qk _ (tk _ _ _)⟩)
      .exact fin _ (.inl ⟨w2,d2⟩) (.inl ⟨w1,qk _ ((pq tr2).take base)⟩)
     .rcases sG d2 li hki1 with⟨rfl,qi⟩|⟨ob2,fi,rfl,qi⟩|⟨T2,tr2,rfl,qi⟩
      .refine fin H (.inl ⟨w2,qi H (tk _ _ _).symm⟩) (.inl ⟨w1,d1⟩)
      .have fi':H[base+i]? = some .free:=by rw[List.getElem?_set_ne (by omega)]at fi;exact fi
       refine fin (H.set (base+i) ob2) (.inl ⟨w2,qi H fi'⟩) (.inl ⟨w1,?_⟩);rw[qk _ (by rw[List.getElem?_set_ne (by omega)];exact fk)]
       rw[List.set_comm _ _ (by omega)]
      .have tr2':gG (H.take base) T2=true:=by rw[<-tq (tk H k ob)];exact tr2
       have hk2:base+k∉T2:=λhm=>absurd (yg tr2' hm) (by omega)
       refine fin (bu H T2) (.inl ⟨w2,qi H (tk _ _ _).symm⟩) (.inl ⟨w1,?_⟩);rw[qk _ (by rw[gx,fk];simp[hk2]),Br hk2]
     .rcases sG d2 li hki1 with⟨rfl,qi⟩|⟨ob2,fi,rfl,qi⟩|⟨T2,tr2,rfl,qi⟩
      .refine fin H (.inl ⟨w2,qi H ((pq tr).take base).symm⟩) (.inl ⟨w1,d1⟩)
      .have hi2:base+i∉T:=λhm=>absurd (yg tr hm) (by omega)
       have fi':H[base+i]? = some .free:=by
        rw[gx]at fi;obtain⟨o,ho,hf⟩:=ζf.1 fi;rw[if_neg hi2]at hf;rw[ho,hf]
       refine fin (H.set (base+i) ob2) (.inl ⟨w2,qi H fi'⟩) (.inl ⟨w1,?_⟩);rw[qk _ (tk _ _ _),Br hi2]
      .have tr2':gG (H.take base) T2=true:=by rw[<-tq ((pq tr).take base)];exact tr2
       refine fin (bu H T2) (.inl ⟨w2,qi H ((pq tr).take base).symm⟩) (.inl ⟨w1,?_⟩);rw[qk _ ((pq tr2').take base),Gn]
  .exact fin H (.inr ⟨w2,rfl,rfl⟩) (.inl ⟨w1,d1⟩)
 .rcases hd2 with⟨w2,d2⟩|⟨w2,rfl,rfl⟩
  .exact fin H2 (.inl ⟨w2,d2⟩) (.inr ⟨w1,rfl,rfl⟩)
  .exact fin _ (.inr ⟨w2,rfl,rfl⟩) (.inr ⟨w1,rfl,rfl⟩)
theorem FW (h:uu ops=true) {k i:Nat} {ok oi:Oper} (hk:ops[k]? = some ok) (hi:ops[i]? = some oi) (hki:k<i):B9 oi k=true\/wh ops ok oi=true:=by
 unfold uu at h;simp only[List.all_eq_true,List.mem_range]at h;have hlt:=(ζe.1 hi).1;have:=h i hlt k hki;rw[hk,hi]at this;simpa using this
theorem L0 (hd:uu ops=true) {i:Nat} {oi:Oper} (hi:ops[i]? = some oi):∀(l r:List Nat),(∀k∈l,k<i/\B9 oi k=false/\before ops i k=false)->∀{F F':Frame} {H H':ak},
 iM E call n ops base (l++i::r) F H=some (F',H')->iM E call n ops base (i::(l++r)) F H=some (F',H'):=by
 intro l
 induction l with
 | nil=>intro r _ F F' H H' h;exact h
 | cons k l ih=>
  intro r hl F F' H H' h;obtain⟨hki,hke,hkb⟩:=hl k (by simp)
  simp only[List.cons_append,iM]at h;split at h
  .rename_i ok hk;split at h
   .rename_i F1 H1 h1;have:=ih r (λx hx=>hl x (List.mem_cons_of_mem _ hx)) h
    simp only[iM,hi]at this;split at this
    .rename_i F2 H2 h2;have hap:wh ops ok oi=true:=by
      rcases FW hd hk hi hki with h|h
      .rw[hke]at h;cases h
      .exact h
     obtain⟨F1',H1',g1,g2⟩:=swap hk hi hki hkb hap h1 h2;simp only[List.cons_append,iM,hi,g1,hk,g2];exact this
    .simp at this
   .simp at h
  .simp at h
inductive Reach (ops:List Oper):Nat->Nat->Prop
 | one (i k:Nat) (o:Oper) (e:Edge) (hi:ops[i]? = some o) (he:e∈o.after) (hb:jT e=true) (hk:e.on=k):Reach ops i k
 | more (i j k:Nat) (o:Oper) (e:Edge) (hi:ops[i]? = some o) (he:e∈o.after) (hb:jT e=true) (hk:e.on=j) (h:Reach ops j k):Reach ops i k
theorem A6:∀(ks l:List Nat) (k:Nat),k∈ks.foldl (λl k=>if l.contains k then l else k::l) l->k∈ks\/k∈l
 | [],_,_,h=>.inr h
 | x::ks,l,k,h=>by
  rcases A6 ks _ k h with h|h
  .exact .inl (List.mem_cons_of_mem _ h)
  .simp only at h;split at h
   .exact .inr h
   .rcases List.mem_cons.1 h with h|h
    .exact .inl (by simp[h])
    .exact .inr h
theorem HP {acc:List (List Nat)} {o:Oper} {k:Nat} (h:k∈Bg acc o):∃e∈o.after,jT e=true/\(k=e.on\/∃S,acc[e.on]? = some S/\k∈S):=by
 unfold Bg at h;have key:∀(es:List Edge) (l:List Nat),k∈es.foldl (λl e=>(e.on::(acc[e.on]?).getD []).foldl (λl k=>if l.contains k then l else k::l) l) l->k∈l\/∃e∈es,k=e.on\/∃S,acc[e.on]? = some S/\k∈S:=by
  intro es
  induction es with
  | nil=>intro l h;exact .inl h
  | cons e es ih=>
   intro l h;rw[List.foldl_cons]at h;rcases ih _ h with h|⟨e',h1,h2⟩
   .rcases A6 _ _ _ h with h|h
    .refine .inr ⟨e,by simp,?_⟩
     rcases List.mem_cons.1 h with h|h
     .exact .inl h
     .cases hS:acc[e.on]? with
      | none=>rw[hS]at h;simp at h
      | some S=>rw[hS]at h;exact .inr ⟨S,rfl,h⟩
    .exact .inl h
   .exact .inr ⟨e',List.mem_cons_of_mem _ h1,h2⟩
 rcases key _ _ h with h|⟨e,h1,h2⟩
 .simp at h
 .rw[List.mem_filter]at h1;exact⟨e,by simpa using h1.1,h1.2,h2⟩
theorem vT (ops:List Oper):∀(l:List Oper) (acc:List (List Nat)) (pre:List Oper),ops=pre++l->acc.length=pre.length->(∀(i:Nat) S,acc[i]? = some S->∀k∈S,Reach ops i k) ->
 ∀(i:Nat) S,(l.foldl (λacc o=>acc++[Bg acc o]) acc)[i]? = some S->∀k∈S,Reach ops i k
 | [],_,_,_,_,h=>h
 | o::l,acc,pre,hops,hlen,h=>by
  rw[List.foldl_cons];refine vT ops l _ (pre++[o]) (by simp[hops]) (by simp[hlen]) ?_
  intro i S hS k hk
  by_cases hi:i<acc.length
  .rw[List.getElem?_append_left hi]at hS;exact h i S hS k hk
  .rw[List.getElem?_append_right (by omega)]at hS
   have hi2:i=acc.length:=by
    have:=(ζe.1 hS).1;simp at this;omega
   subst hi2;simp at hS;subst hS;have ho:ops[acc.length]? = some o:=by rw[hops,hlen];simp
   obtain⟨e,he,hb,hk⟩:=HP hk;rcases hk with hk|⟨S,hS,hk⟩
   .exact .one _ _ o e ho he hb hk.symm
   .exact .more _ e.on _ o e ho he hb rfl (h _ S hS k hk)
theorem Fq {i k:Nat} (h:before ops i k=true):Reach ops i k:=by
 unfold before at h
 cases hS:(FC ops)[i]? with
 | none=>rw[hS]at h;simp at h
 | some S=>
  rw[hS]at h;exact vT ops ops [] [] rfl rfl (by simp) i S hS k (by simpa using h)
end
end Go.VE
namespace Go.VE
variable [aW]
section
variable {P:Program} {E:Env} {I I':bl} {μ μ':Mu} {H H':ak} {n B:Nat} {F F':Frame} {a:Act} {w w':World}
theorem C2 (e:Edge):Region.binds .any e=jT e:=by
 unfold Region.binds jT
 grind
def todo (ops:Array Oper) (listed:Array Bool):List Nat:=(List.range ops.size).filter λi => !listed.getD i true
theorem vv (ops:Array Oper) (listed:Array Bool):(todo ops listed).Pairwise (·<·):=List.pairwise_lt_range.filter _
theorem Nh {ops:Array Oper} {listed:Array Bool} {i:Nat} (hsz:listed.size=ops.size) (hi:i<ops.size) {l1 l2:List Nat} (h:todo ops listed=l1++i::l2) :
 todo ops (listed.setIfInBounds i true)=l1++l2:=by
 have hp:∀j∈List.range ops.size,(!(listed.setIfInBounds i true).getD j true)=((!listed.getD j true)&&(j != i)):=by
  intro j _
  by_cases e:j=i
  .simp_all
  .have:(listed.setIfInBounds i true).getD j true=listed.getD j true:=by simp[Array.getElem?_setIfInBounds_ne (Ne.symm e)]
   grind
 have:todo ops (listed.setIfInBounds i true)=(todo ops listed).filter (· != i):=by
  unfold todo;rw[List.filter_filter]
  grind
 rw[this,h];have hs:=vv ops listed;rw[h]at hs;rw[List.pairwise_append]at hs;obtain⟨_,h2,h3⟩:=hs;rw[List.pairwise_cons]at h2;rw[List.filter_append,List.filter_cons];simp;rw[List.filter_eq_self.2 (λx hx=>by have:=h3 x hx i (by simp);simp;omega),List.filter_eq_self.2 (λx hx=>by grind)]
def Down (ops:Array Oper) (listed:Array Bool):Prop:=∀j o,listed.getD j false=true->ops[j]? = some o->∀e∈o.after,jT e=true->listed.getD e.on false=true
theorem H7 {ops:Array Oper} {listed:Array Bool} (hd:Down ops listed) {i k:Nat} (h:Reach ops.toList i k) (hi:∀o,ops[i]? = some o->∀e∈o.after,jT e=true->listed.getD e.on false=true):listed.getD k false=true:=by
 induction h with
 | one i k o e ho he hb hk=>grind
 | more i j k o e ho he hb hk _ ih=>
  subst hk;exact ih λo' ho'=>hd _ _ (hi o (by grind) e he hb) ho'
theorem CJ (hE:dh P E) {call:cu} (hc:jH P call) {ops:Array Oper} (hd:uu ops.toList=true) (hb:xW ops.toList=true) (ro:Option Nat) {Q:Exit->Act->World->Prop} (base:Nat) :
 ∀(fuel:Nat) (listed:Array Bool) (I:bl) (μ:Mu) (F:Frame) (H:ak) (a:Act) (w:World),listed.size=ops.size->Down ops listed->(todo ops listed).length=fuel ->
 iM E call n ops.toList base (todo ops listed) F H=some (F',H')->cZ I μ n F a.tmps->bO I μ H w ->
 (∀a' I' μ' w',cZ I' μ' n F' a'.tmps->a'.defers=a.defers->bO I' μ' H' w'->Step I μ H w I' μ' H' w'->Q .normal a' w') ->
 wpAnyIn (fr ro) 0 P .any ops Q fuel listed a w:=by
 intro fuel
 induction fuel with
 | zero=>
  intro listed I μ F H a w hsz hdown hl h r s hQ;have hnil:todo ops listed=[]:=List.eq_nil_of_length_eq_zero hl;rw[hnil]at h;obtain⟨rfl,rfl⟩:=h;refine⟨?_,hQ a I μ w r rfl s (.refl _ _ _ _)⟩;unfold Region.ready;rw[List.filter_eq_nil_iff];intro i hi;have:i∉todo ops listed:=by grind
  unfold todo at this
  grind
 | succ fuel ih=>
  intro listed I μ F H a w hsz hdown hl h r s hQ;have hready:∀i,i∈Region.ready .any ops listed->i<ops.size/\i∈todo ops listed/\∃o,ops[i]? = some o/\∀e∈o.after,jT e=true->listed.getD e.on false=true:=by
   intro i hi;unfold Region.ready at hi;rw[List.mem_filter]at hi;obtain⟨h1,h2⟩:=hi;simp only[ζh]at h2;have hlt:i<ops.size:=by grind
   refine⟨hlt,by unfold todo;grind,ops[i],by simp_all,?_⟩
   have h5:(ops[i].after.all λe => !Region.binds .any e||listed.getD e.on false)=true:=by
    grind
   rw[Array.all_eq_true_iff_forall_mem]at h5;intro e he hb';have:=h5 e he;rw[C2,hb']at this
   grind
  refine⟨?_,?_⟩
  .
   intro hnil
   cases hl':todo ops listed with
   | nil=>rw[hl']at hl;simp at hl
   | cons i0 rest=>
    have hmem:i0∈todo ops listed:=by rw[hl'];simp
    have hs:=vv ops listed;rw[hl',List.pairwise_cons]at hs;unfold todo at hmem;rw[List.mem_filter]at hmem;have hlt:i0<ops.size:=by simpa using hmem.1
    have:i0∈Region.ready .any ops listed:=by
     unfold Region.ready;rw[List.mem_filter];refine⟨hmem.1,?_⟩;simp only[ζh];refine⟨hmem.2,?_⟩;have e0:ops[i0]? = some ops[i0]:=by simp[hlt]
     rw[e0];simp only[Option.map_some,Option.getD_some];rw[Array.all_eq_true_iff_forall_mem];intro e he;rw[C2]
     cases hbe:jT e with
     | false=>simp
     | true=>
      simp only[Bool.not_true];have hback:e.on<i0:=by
       unfold xW at hb;simp only[List.all_eq_true]at hb;have:=hb i0 (by simpa using hlt)
       have e1:ops.toList[i0]? = some ops[i0]:=by simp[hlt]
       rw[e1]at this;simp only[Array.all_eq_true_iff_forall_mem]at this;have:=this e he;rw[hbe]at this;simpa using this
      cases hon:listed.getD e.on false with
      | true=>rfl
      | false=>
       exfalso;have hin:e.on∈todo ops listed:=by
        unfold todo;rw[List.mem_filter];refine⟨by simp;omega,?_⟩
        have hlt2:e.on<listed.size:=by omega
        have:listed.getD e.on true=listed.getD e.on false:=by simp[hlt2]
        rw[this,hon];rfl
       rw[hl']at hin;rcases List.mem_cons.1 hin with h|h
       .omega
       .have:=hs.1 _ h;omega
    rw[hnil]at this;simp at this
  .intro i hi;obtain⟨hlt,hmem,o,ho,hedges⟩:=hready i hi;obtain⟨l1,l2,hsplit⟩:=List.append_of_mem hmem;have hsorted:=vv ops listed;rw[hsplit,List.pairwise_append]at hsorted;have hfront:∀k∈l1,k<i/\B9 o k=false/\before ops.toList i k=false:=by
    intro k hk;have hun:listed.getD k false=false:=by
     have hkm:k∈todo ops listed:=by rw[hsplit];simp[hk]
     unfold todo at hkm;rw[List.mem_filter]at hkm;have hk2:k<listed.size:=by rw[hsz];simpa using hkm.1
     have:listed.getD k true=listed.getD k false:=by simp[hk2]
     rw[this]at hkm;simpa using hkm.2
    refine⟨hsorted.2.2 k hk i (by simp),?_,?_⟩
    rotate_left
    .cases hbf:before ops.toList i k with
     | false=>rfl
     | true=>
      have:=H7 hdown (Fq hbf) (λo' ho'=>by rw[ho]at ho';cases ho';exact hedges)
      rw[hun]at this;cases this
    cases he:B9 o k with
    | false=>rfl
    | true=>
     exfalso;unfold B9 at he;rw[Array.any_eq_true]at he;obtain⟨ix,hix,he2⟩:=he;have he1:o.after[ix]∈o.after:=Array.getElem_mem hix;generalize o.after[ix]=e at he1 he2;simp only[ζh,beq_iff_eq]at he2;have h1:=hedges e he1 he2.2;rw[he2.1]at h1;have hkm:k∈todo ops listed:=by rw[hsplit];simp[hk]
     unfold todo at hkm;rw[List.mem_filter]at hkm;have hk2:k<listed.size:=by rw[hsz];simpa using hkm.1
     have:listed.getD k true=listed.getD k false:=by simp[hk2]
     rw[this,h1]at hkm;simp at hkm
   rw[hsplit]at h;have h':=L0 hd (by simpa using ho) l1 l2 hfront h
   simp only[iM]at h';have ho':ops.toList[i]? = some o:=by simpa using ho
   rw[ho']at h';simp only at h';split at h'
   .rename_i F1 H1 hstep;unfold wpOpIn;rw[ho];simp only;refine AR hE hc hstep r s ro (λa' I' μ' w' hr hdf hs hst=>?_)
    have ht:=Nh hsz hlt hsplit;refine ih (listed.setIfInBounds i true) I' μ' F1 H1 a' w' (by simpa using hsz) ?_ ?_ (by rw[ht];exact h') hr hs ?_
    .have hgrow:∀j,listed.getD j false=true->(listed.setIfInBounds i true).getD j false=true:=by
      intro j hj
      by_cases e:i=j
      .subst e;simp[hsz,hlt]
      .simpa [Array.getD_eq_getD_getElem?,Array.getElem?_setIfInBounds_ne e]using hj
     intro j oj hj hoj e he hb'
     by_cases e':i=j
     .subst e';rw[ho]at hoj;cases hoj;exact hgrow _ (hedges e he hb')
     .refine hgrow _ (hdown j oj ?_ hoj e he hb');simpa [Array.getD_eq_getD_getElem?,Array.getElem?_setIfInBounds_ne e']using hj
    .rw[ht];rw[hsplit]at hl;simp at hl ⊢;omega
    .intro a2 I2 μ2 w2 hr2 hd2 hs2 hst2;exact hQ a2 I2 μ2 w2 hr2 (hd2.trans hdf) hs2 (Step.trans hs hst hst2)
   .simp at h'
theorem bO.D0 (s:bO I μ H w) (k:Nat):bO I μ (H++List.replicate k .free) w:=by
 have hget:∀id ob,(H++List.replicate k Ob.free)[id]? = some ob->H[id]? = some ob\/(ob=.free/\H.length<=id):=by
  grind
 refine⟨λid h=>s.dom id (by grind),s.imm,?_,?_,s.gl⟩
 .intro id ob h;rcases hget id ob h with h|⟨rfl,h2⟩
  .exact s.obs id ob h
  .exact s.dom id h2
 .intro id id' ob ob' p p' h1 h2 l1 l2;rcases hget id ob h1 with h1|⟨rfl,_⟩
  .rcases hget id' ob' h2 with h2|⟨rfl,_⟩
   .exact s.inj id id' ob ob' p p' h1 h2 l1 l2
   .simp[Ob.live]at l2
  .simp[Ob.live]at l1
theorem FV (k:Nat) (b:Nat):fS μ (H++List.replicate k .free) b↔fS μ H b:=by
 constructor
 .rintro⟨id,p,ob,h1,h2,h3,h4⟩
  by_cases hlt:id<H.length
  .rw[List.getElem?_append_left hlt]at h1;exact⟨id,p,ob,h1,h2,h3,h4⟩
  .rw[List.getElem?_append_right (by omega),List.getElem?_replicate]at h1
   split at h1
   .simp at h1;subst h1;simp[Ob.live]at h2
   grind
 .rintro⟨id,p,ob,h1,h2,h3,h4⟩;exact⟨id,p,ob,by grind,h2,h3,h4⟩
theorem Step.D0 (k:Nat):Step I μ H w I μ (H++List.replicate k .free) w:=
 ⟨bl.le_refl _,Mu.le_refl _,by simp,Nat.le_refl _,λ_ _ _=>rfl,λb h=>h.elim .inl λh=>.inr (.inl ((FV k b).1 h)),rfl,.refl _,λ_ _ h=>h⟩
theorem E8 (hE:dh P E) (hm:P.follows .mixedOrders=true) {call:cu} (hc:jH P call) {id:Nat} {ops:Array Oper} {draw:Bool} (ro:Option Nat) {Q:Exit->Act->World->Prop}
 (h:iB E call n ops.toList draw F H=some (F',H')) (r:cZ I μ n F a.tmps) (s:bO I μ H w)
 (hQ:∀a' I' μ' w',cZ I' μ' n F' a'.tmps->a'.defers=a.defers->bO I' μ' H' w'->Step I μ H w I' μ' H' w'->Q .normal a' w') :
 (Code.region id ops draw).wpIn (fr ro) 0 P Q a w:=by
 unfold iB at h
 cases draw with
 | false=>
  refine wpIn_region ?_;rw[List.range_eq_range',<-Array.length_toList];exact KY hE hc ro ops.toList 0 I μ F H a w (by simp) h r s hQ
 | true=>
  simp only[if_true]at h;split at h
  .rename_i hok;simp  at hok;refine wpIn_region_draw λt=>?_
   simp[Region.schedule,hm];have s0:bO I μ H { w with drawn:=w.drawn+1 }:=s.nu rfl;have st0:Step I μ H w I μ H { w with drawn:=w.drawn+1 }:=Step.nu rfl rfl ⟨rfl,rfl,Nat.le_succ _⟩;have htodo:todo ops (Array.replicate ops.size false)=List.range ops.toList.length:=by
    unfold todo;simp_all
   have hdown:Down ops (Array.replicate ops.size false):=by
    intro j o hj;simp[Array.getElem?_replicate]at hj
    grind
   refine wpAnyIn_sound ops.size t _ a _ ?_;split at h
   .refine CJ hE hc hok.1 hok.2 ro H.length ops.size _ I μ F (H++List.replicate ops.toList.length .free) a _ (by simp) hdown (by grind) (by rw[htodo];omega) r (s0.D0 _) ?_
    intro a' I' μ' w' h1 h2 h3 h4;exact hQ a' I' μ' w' h1 h2 h3 (Step.trans s0 st0 (Step.trans (s0.D0 _) (Step.D0 _) h4))
   .refine CJ hE hc hok.1 hok.2 ro H.length ops.size _ I μ F H a _ (by simp) hdown (by grind) (by rw[htodo];omega) r s0 ?_
    intro a' I' μ' w' h1 h2 h3 h4;exact hQ a' I' μ' w' h1 h2 h3 (Step.trans s0 st0 h4)
  grind
end
end Go.VE
