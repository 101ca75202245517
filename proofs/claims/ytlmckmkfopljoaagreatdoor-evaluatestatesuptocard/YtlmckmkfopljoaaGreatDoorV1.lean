/-
 The engine: operations of the loaded code on values without a heap; a run of it is a run of the program.
-/
import Derived.RangeFuncLeaves
import Derived.Sort.Defs
import Derived.Lib.BitFns
import Derived.Laws.Sem
import Derived.Laws.World
import Derived.Laws.Append
import Derived.Laws.BytesString
import Derived.OrdersIn
set_option linter.all false
namespace Go.VE
theorem ζa{α:Type _}(a b:α):(some a=some b)=(a=b):=Option.some.injEq a b
theorem ζb{α β:Type _}(a:α)(f:α->Option β):(some a).bind f=f a:=rfl
theorem ζc{α β:Type _}(a:α)(b:β)(c:α)(d:β):((a,b)=(c,d))=(a=c/\b=d):=Prod.mk.injEq a b c d
theorem ζd{α:Type _}{l:List α}{i:Nat}(h:i<l.length):l[i]?=some l[i]:=List.getElem?_eq_getElem h
theorem ζe{α:Type _}{l:List α}{i:Nat}{a:α}:l[i]?=some a↔∃h:i<l.length,l[i]=a:=List.getElem?_eq_some_iff
theorem ζf{α β:Type _}{b:β}{x:Option α}{f:α->β}:x.map f=some b↔∃a,x=some a/\f a=b:=Option.map_eq_some_iff
theorem ζg{α β:Type _}{b:β}{x:Option α}{f:α->Option β}:x.bind f=some b↔∃a,x=some a/\f a=some b:=Option.bind_eq_some_iff
theorem ζh(a b:Bool):((a&&b)=true)=(a=true/\b=true):=Bool.and_eq_true a b
theorem ζi{α:Type _}{a b:List α}:(a++b).length=a.length+b.length:=List.length_append
inductive V where
 | bool (b:Bool)
 | int (k:IntKind) (n:Int)
 | str (s:ByteArray)
 | dA
 | bW
 | fsl (es:Nat) (xs:List (List V))
 | hsl (id es off len:Nat)
 | gZ
 | fptr (cs:List V)
 | hptr (id el off:Nat)
 | clo (f:FuncId) (first cap:List V)
 | yld (id:Nat)
 | gA
 | rU
 | fmap (kvs:List (V×V))
 | hmap (id:Nat)
 | agg (cs:List V)
 | tup (vs:List V)
 deriving Inhabited
def V.undef:V:=.tup []
def V.one:V->Bool
 | .agg _|.tup _=>false
 | _=>true
def V.cells:V->List V
 | .agg cs=>cs
 | v=>[v]
mutual
def V.scalar:V->Bool
 | .bool _|.int ..|.str _|.gZ|.gA|.rU|.dA|.bW=>true
 | .agg cs=>V.cO cs
 | .tup cs=>V.cO cs
 | _=>false
def V.cO:List V->Bool
 | []=>true
 | v::r=>V.scalar v&&V.cO r
end
mutual
def V.closed:V->Bool
 | .hsl ..|.hptr ..|.yld ..|.hmap ..=>false
 | .clo _ a b=>V.kS a&&V.kS b
 | .agg cs=>V.kS cs
 | .tup cs=>V.kS cs
 | _=>true
def V.kS:List V->Bool
 | []=>true
 | v::r=>V.closed v&&V.kS r
end
inductive TK where
 | bool|int (k:IntKind)|str|ptr (e:TypeId)|slice (e:TypeId)
 | struct (fs:List (Nat×TypeId))|array (n:Nat) (e:TypeId)|map (k e:TypeId)|other
 deriving Inhabited
structure TD where
 size:Nat
 bytes:Nat
 zero:List V
 kind:TK
 deriving Inhabited
def TD.agg (d:TD):Bool:=match d.kind with|.struct _|.array _ _=>true|_=>false
abbrev Frame:=List V
def get:Frame->Nat->V
 | [],_=>.undef
 | x::_,0=>x
 | _::r,i+1=>get r i
def set:Frame->Nat->V->Frame
 | [],0,v=>[v]
 | [],i+1,v=>.undef::set [] i v
 | _::r,0,v=>v::r
 | x::r,i+1,v=>x::set r i v
inductive Bb where
 | ready|busy|done
inductive Out where
 | norm
 | exit (id:Nat)
 | ret
 deriving DecidableEq,Inhabited
structure vn where
 st:Bb
 pend:Option Out
 frame:Frame
 nt:Nat
 params:List Nat
 assign:Code
 body:Code
inductive Ob where
 | free
 | dead
 | row (es:Nat) (xs:List (List V))
 | frz (es:Nat) (xs:List (List V))
 | map (kvs:List (V×V))
 | loop (r:vn)
def Ob.rows:Ob->Option (Nat×List (List V))
 | .row es xs|.frz es xs=>some (es,xs)
 | _=>none
abbrev bg:=List Ob
structure FI where
 ntmps:Nat
 results:List ResultVar
 body:Code
structure Env where
 tt:TypeId->Option TD
 ft:FuncId->Option FI
 keep:FuncId->Bool
 own:FuncId->Bool
 eqN:TypeId->Option Nat
 sort:FuncId->Bool
 known:FuncId->List V->Option V:=λ_ _=>none
def Env.kindOf (E:Env) (t:TypeId):Option TK:=(E.tt t).map TD.kind
def ofValue:Nat->Value->Option V
 | 0,_=>none
 | n+1,v=>
  match v with
  | .bool b=>some (.bool b)
  | .int k n=>some (.int k n)
  | .string s=>some (.str s)
  | .pointer none=>some .gZ
  | .slice none 0 0=>some .bW
  | .map none=>some .gA
  | .nilFunc=>some .rU
  | .agg cs=>(cs.toList.mapM (ofValue n)).map .agg
  | _=>none
class bS where
 gl:Nat->Option (List V)
 sc:∀g cs,gl g=some cs->∃(k:IntKind) (l:List Int),cs=l.map (V.int k)
variable [bS]
def ev (F:Frame):Operand->Option V
 | .tmp t=>some (get F t)
 | .const v=>ofValue 4 v
 | .func f=>some (.clo f [] [])
 | .global g=>(bS.gl g).map .fptr
def eZ (F:Frame):List Operand->Option (List V)
 | []=>some []
 | x::r=>match ev F x,eZ F r with
  | some v,some vs=>some (v::vs)
  | _,_=>none
def mk (agg:Bool) (cs:List V):Option V:=
 if agg then some (.agg cs)else match cs with|[v]=>some v|_=>none
def cut (cs:List V) (off n:Nat):Option (List V):=
 let r:=(cs.drop off).take n
 if r.length=n then some r else none
def ir:List V->Option (List Int)
 | []=>some []
 | .int .i64 a::r=>(ir r).map (a::·)
 | _=>none
def kG (az B:List V):Option Bool:=
 match ir az,ir B with
 | some a,some b=>if a.length=b.length then some (a==b)else none
 | _,_=>none
def qG (op:BinOp) (x y:Int):Option Bool:=
 match op with
 | .eql=>some (x==y)|.neq=>some (x != y)|.lss=>some (decide (x<y))|.leq=>some (decide (x<=y))
 | .gtr=>some (decide (x>y))|.geq=>some (decide (x>=y))|_=>none
def uD (k:TK) (x y:V):Option Bool:=
 match k,x,y with
 | .slice _,.bW,.bW=>some true
 | .slice _,.fsl ..,.bW=>some false
 | .slice _,.hsl ..,.bW=>some false
 | .ptr _,.gZ,.gZ=>some true
 | .ptr _,.fptr _,.gZ=>some false
 | .ptr _,.hptr ..,.gZ=>some false
 | .map ..,.gA,.gA=>some true
 | .map ..,.fmap _,.gA=>some false
 | .map ..,.hmap _,.gA=>some false
 | _,_,_=>none
def G3 (E:Env) (op:BinOp) (t:TypeId) (x y:V):Option V:=
 match x,y with
 | .int k a,.int u b=>
  match op with
  | .shl=>if b<0 then none else some (.int k (k.wrap (a*2 ^ (min b.toNat k.bits))))
  | .shr=>if b<0 then none else some (.int k (a.fdiv (2 ^ (min b.toNat k.bits))))
  | _=>if k=u then
   match op with
   | .add=>some (.int k (k.wrap (a+b)))
   | .sub=>some (.int k (k.wrap (a-b)))
   | .mul=>some (.int k (k.wrap (a*b)))
   | .quo=>if b=0 then none else some (.int k (k.wrap (a.tdiv b)))
   | .rem=>if b=0 then none else some (.int k (a.tmod b))
   | .and=>some (.int k (k.wrap (BitVec.ofInt k.bits a &&& BitVec.ofInt k.bits b).toNat))
   | .or=>some (.int k (k.wrap (BitVec.ofInt k.bits a ||| BitVec.ofInt k.bits b).toNat))
   | .xor=>some (.int k (k.wrap (BitVec.ofInt k.bits a ^^^ BitVec.ofInt k.bits b).toNat))
   | .andNot=>some (.int k (k.wrap (BitVec.ofInt k.bits a &&& ~~~ BitVec.ofInt k.bits b).toNat))
   | op=>(qG op a b).map .bool
   else none
 | .str a,.str b=>
  match op with
  | .add=>if((a.size+b.size:Nat):Int)>IntKind.i64.max then none else some (.str (a++b))
  | .eql=>some (.bool (a.toList==b.toList))
  | .neq=>some (.bool !(a.toList==b.toList))
  | .lss=>some (.bool (Op.bytesLess a.toList b.toList))
  | .leq=>some (.bool (Op.bytesLess a.toList b.toList||a.toList==b.toList))
  | .gtr=>some (.bool !(Op.bytesLess a.toList b.toList||a.toList==b.toList))
  | .geq=>some (.bool !(Op.bytesLess a.toList b.toList))
  | _=>none
 | .bool a,.bool b=>
  match E.kindOf t,op with
  | some .bool,.eql=>some (.bool (a==b))
  | some .bool,.neq=>some (.bool !(a==b))
  | _,_=>none
 | .agg a,.agg b=>
  match E.eqN t,op with
  | some n,.eql=>if a.length=n then(kG a b).map .bool else none
  | some n,.neq=>if a.length=n then(kG a b).map (λt=>.bool !t)else none
  | _,_=>none
 | x,y=>
  match E.kindOf t,op with
  | some k,.eql=>(uD k x y).map .bool
  | some k,.neq=>(uD k x y).map λt=>.bool !t
  | _,_=>none
def tV (place:Nat->Option (Nat×Nat)) (cells:List V):List (Nat×V)->Option (List V)
 | []=>some cells
 | (i,v)::rest=>
  match place i with
  | none=>none
  | some (off,size)=>
   if v.cells.length≠size||off+v.cells.length>cells.length then none
   else tV place (cells.take off++v.cells++cells.drop (off+v.cells.length)) rest
def mg (F:Frame):List (Nat×Operand)->Option (List (Nat×V))
 | []=>some []
 | (i,x)::r=>match ev F x,mg F r with
  | some v,some vs=>some ((i,v)::vs)
  | _,_=>none
def m_ (E:Env):List (Nat×TypeId)->Option (List (Nat×Nat))
 | []=>some []
 | (off,t)::r=>match E.tt t,m_ E r with
  | some d,some ps=>some ((off,d.size)::ps)
  | _,_=>none
def jG (F:Frame):Option Operand->Option (Option Int)
 | none=>some none
 | some x=>match ev F x with
  | some (.int _ n)=>some (some n)
  | _=>none
def dQ (len:Nat) (lo hi:Option Int):Option (Nat×Nat):=
 let h:=hi.getD len
 let l:=lo.getD 0
 if 0<=h/\h<=len/\0<=l/\l<=h then some (l.toNat,h.toNat)else none
def BD (a b:Int):Int:=if b>a then b else a
def bJ (E:Env) (F:Frame) (op:Op):Option V:=
 match op with
 | .move x|.assign x=>ev F x
 | .pick c a b=>match ev F c with
  | some (.bool t)=>if t then ev F a else ev F b
  | _=>none
 | .nilCheck x=>match ev F x with
  | some (.hptr id el off)=>some (.hptr id el off)
  | some (.fptr cs)=>some (.fptr cs)
  | some (.clo f a b)=>some (.clo f a b)
  | _=>none
 | .binOp op t x y _=>match ev F x,ev F y with
  | some a,some b=>G3 E op t a b
  | _,_=>none
 | .unOp op _ x=>match op,ev F x with
  | .not,some (.bool b)=>some (.bool !b)
  | .neg,some (.int k n)=>some (.int k (k.wrap (0-n)))
  | _,_=>none
 | .convert s d x=>match E.tt s,E.tt d,ev F x with
  | some _,some B,some (.int _ n)=>match B.kind with
   | .int k=>some (.int k (k.wrap n))
   | _=>none
  | _,_,_=>none
 | .fieldAddr s x f=>match E.kindOf s,ev F x with
  | some (.struct fs),some p=>match fs[f]? with
   | some (off,t)=>match E.tt t with
    | some d=>if d.size=0 then none else match p with
     | .fptr cs=>if off<=cs.length then some (.fptr (cs.drop off))else none
     | .hptr id el o=>some (.hptr id el (o+off))
     | _=>none
    | none=>none
   | none=>none
  | _,_=>none
 | .field s x f=>match E.kindOf s,ev F x with
  | some (.struct fs),some (.agg cs)=>match fs[f]? with
   | some (off,t)=>match E.tt t with
    | some d=>(cut cs off d.size).bind (mk d.agg)
    | none=>none
   | none=>none
  | _,_=>none
 | .indexAddr t x i=>match E.kindOf t,ev F x,ev F i with
  | some (.slice e),some s,some (.int _ n)=>match E.tt e with
   | some d=>if n<0 then none else match s with
    | .fsl es u=>if es=d.size then(u[n.toNat]?).map .fptr else none
    | .hsl id es off len=>if es=d.size/\n.toNat<len then some (.hptr id (off+n.toNat) 0)else none
    | _=>none
   | none=>none
  | some (.array len e),some p,some (.int _ n)=>match E.tt e with
   | some d=>if 0<=n/\n<len then match p with
    | .fptr cs=>if n.toNat*d.size<=cs.length then some (.fptr (cs.drop (n.toNat*d.size)))else none
    | .hptr id el o=>some (.hptr id el (o+n.toNat*d.size))
    | _=>none
    else none
   | none=>none
  | _,_,_=>none
 | .index t x i=>match E.kindOf t,ev F x,ev F i with
  | some .str,some (.str s),some (.int _ n)=>if 0<=n then(s[n.toNat]?).map (λb=>.int .u8 b.toNat)else none
  | some (.array len e),some (.agg cs),some (.int _ n)=>match E.tt e with
   | some d=>if 0<=n/\n<len then(cut cs (n.toNat*d.size) d.size).bind (mk d.agg)else none
   | none=>none
  | _,_,_=>none
 | .slice t x lo hi C=>match E.kindOf t,ev F x,jG F lo,jG F hi,jG F C with
  | some .str,some (.str s),some l,some h,some none=>(dQ s.size l h).map λ(l,h)=>.str (s.extract l h)
  | some (.slice e),some v,some l,some h,some none=>match E.tt e with
   | some d=>match v with
    | .fsl es u=>if es=d.size then(dQ u.length l h).map λ(l,h)=>.fsl es ((u.take h).drop l)else none
    | .hsl id es off len=>if es=d.size then(dQ len l h).map λ(l,h)=>.hsl id es (off+l) (h-l)else none
    | .dA=>(dQ 0 l h).map λ_=>.dA
    | .bW=>(dQ 0 l h).map λ_=>.bW
    | _=>none
   | none=>none
  | some (.slice e),some v,some none,some (some 0),some (some 0)=>match E.tt e,v with
   | some _,.fsl ..|some _,.hsl ..|some _,.dA|some _,.bW=>some .dA
   | _,_=>none
  | _,_,_,_,_=>none
 | .build t D=>match E.tt t,mg F D.toList with
  | some d,some w=>match d.kind with
   | .struct fs=>match m_ E fs with
    | some pl=>(tV (λi=>pl[i]?) d.zero w).map .agg
    | none=>none
   | .array _ e=>match E.tt e with
    | some A=>(tV (λi=>some (i*A.size,A.size)) d.zero w).map .agg
    | none=>none
   | _=>none
  | _,_=>none
 | .makeFunc (.func f) a b=>match eZ F a.toList,eZ F b.toList with
  | some a,some b=>some (.clo f a b)
  | _,_=>none
 | .extract x i=>match ev F x with
  | some (.tup w)=>w[i]?
  | _=>none
 | .call { callee:=.builtin b,args,argTypes }=>match b,eZ F args.toList,argTypes[0]? with
  | .len,some [v],some t=>match E.kindOf t,v with
   | some .str,.str s=>some (.int .i64 s.size)
   | some (.slice _),.fsl _ u=>some (.int .i64 u.length)
   | some (.slice _),.hsl _ _ _ len=>some (.int .i64 len)
   | some (.slice _),.dA=>some (.int .i64 0)
   | some (.slice _),.bW=>some (.int .i64 0)
   | _,_=>none
  | .cap,some [v],some t=>match E.kindOf t,v with
   | some (.slice _),.bW=>some (.int .i64 0)
   | some (.slice _),.dA=>some (.int .i64 0)
   | _,_=>none
  | .max,some [.int k a,.int z b],_=>if k=z then some (.int k (if b>a then b else a))else none
  | .max,some [.int k a,.int k1 b,.int G c,.int I d],_=>if k=k1/\k=G/\k=I then some (.int k (BD (BD (BD a b) c) d))else none
  | .min,some [.int k a,.int z b],_=>if k=z then some (.int k (if b<a then b else a))else none
  | _,_,_=>none
 | _=>none
def dS (H:bg) (p:V) (n:Nat):Option (List V):=
 match p with
 | .fptr cs=>cut cs 0 n
 | .hptr id el off=>match (H[id]?).bind Ob.rows with
  | some (_,u)=>match u[el]? with
   | some cs=>cut cs off n
   | none=>none
  | none=>none
 | _=>none
def wP:V->V->Option Bool
 | .int k a,.int B b=>if k=B then some (a==b)else none
 | .str a,.str b=>some (a==b)
 | .agg a,.agg b=>kG a b
 | _,_=>none
def iD (k:V):List (V×V)->Nat->Option (Option (Nat×V))
 | [],_=>some none
 | (B,v)::r,i=>match wP k B with
  | some true=>some (some (i,v))
  | some false=>iD k r (i+1)
  | none=>none
def AI (E:Env) (t:TypeId) (k:V):Bool:=
 match E.kindOf t,k with
 | some (.int k),.int u _=>k==u
 | some .str,.str _=>true
 | some _,.agg cs=>match E.eqN t with|some n=>cs.length==n&&(ir cs).isSome|none=>false
 | _,_=>false
def mM (H:bg):V->Option (List (V×V))
 | .gA=>some []
 | .fmap B=>some B
 | .hmap id=>match H[id]? with
  | some (.map B)=>some B
  | _=>none
 | _=>none
def dM (E:Env) (F:Frame) (H:bg) (op:Op):Option V:=
 match op with
 | .load t a=>match E.tt t,ev F a with
  | some d,some p=>(dS H p d.size).bind (mk d.agg)
  | _,_=>none
 | .lookup t m k ok=>match E.kindOf t,ev F m,ev F k with
  | some (.map w A),some m,some k=>match E.tt A,mM H m with
   | some d,some u=>if AI E w k then match iD k u 0,mk d.agg d.zero with
    | some (some (_,v)),_=>some (if ok then .tup [v,.bool true]else v)
    | some none,some z=>some (if ok then .tup [z,.bool false]else z)
    | _,_=>none
    else none
   | _,_=>none
  | _,_,_=>none
 | _=>none
inductive Mk where
 | ptr|sl (es len:Nat)|map
def Mk.val (id:Nat):Mk->V
 | .ptr=>.hptr id 0 0
 | .sl es len=>.hsl id es 0 len
 | .map=>.hmap id
def gJ (es:Nat) (xs:List (List V)):List (Nat×V)->Option (List (List V))
 | []=>some xs
 | (i,v)::r=>if v.cells.length=es/\i<xs.length/\v.cells.all V.one=true then gJ es (xs.set i v.cells) r else none
def eO (E:Env) (F:Frame) (op:Op):Option (Ob×Mk):=
 match op with
 | .alloc t=>(E.tt t).map λd=>(.row d.size [d.zero],.ptr)
 | .box _ x=>match ev F x with
  | some v=>if v.cells.all V.one then some (.row v.cells.length [v.cells],.ptr)else none
  | none=>none
 | .makeSlice t l c=>match E.kindOf t,ev F l,ev F c with
  | some (.slice e),some (.int k n),some (.int u m)=>match E.tt e with
   | some d=>if k=.i64/\u=.i64/\0<=n/\n<=m/\m<=2147483648/\d.bytes<=4096 then some (.row d.size (List.replicate m.toNat d.zero),.sl d.size n.toNat)else none
   | none=>none
  | _,_,_=>none
 | .buildSlice t len w=>match E.kindOf t,mg F w.toList with
  | some (.slice e),some z=>match E.tt e with
   | some d=>if len*d.size<=16777216 then(gJ d.size (List.replicate len d.zero) z).map λA=>(.row d.size A,.sl d.size len)else none
   | none=>none
  | _,_=>none
 | .makeMap _ none=>some (.map [],.map)
 | _=>none
def qU (E:Env) (F:Frame) (op:Op):Option V:=
 match eO E F op with
 | some (.row es u,.sl w n)=>if w=es/\n=u.length/\(u.all λx=>x.all V.scalar)=true then match op with
  | .buildSlice ..=>if u.isEmpty&&es != 0 then some .dA else none
  | _=>some (.fsl es u)
  else none
 | _=>none
def dN (H:bg) (es:Nat):V->Option (List (List V))
 | .dA=>some []
 | .bW=>some []
 | .fsl B xs=>if B=es then some xs else none
 | .hsl id B off len=>if B=es then match (H[id]?).bind Ob.rows with
  | some (_,xs)=>if off+len<=xs.length then some ((xs.drop off).take len)else none
  | none=>none
  else none
 | _=>none
def pE (k v:V) (B:List (V×V)):Option (List (V×V)):=
 match iD k B 0 with
 | some (some (j,_))=>some (B.set j (k,v))
 | some none=>some (B++[(k,v)])
 | none=>none
def hU (H:bg):V->Option bg
 | .dA=>some H
 | .bW=>some H
 | .hsl id _ _ _=>match H[id]? with
  | some (.row _ _)=>some (H.set id .dead)
  | _=>none
 | _=>none
def mkApp (H:bg) (size bytes:Nat) (zero:List V) (s x:V):Option (V×bg):=
 match s,x with
 | .bW,.int _ n=>if n=0 then some (.bW,H)else if 0<n/\n<=2147483648/\bytes<=4096/\0<bytes then some (.hsl H.length size 0 n.toNat,H++[.row size (List.replicate n.toNat zero)])else none
 | _,_=>none
def Dr (H:bg) (size:Nat) (zero:List V):V->Option (V×bg)
 | .bW|.dA=>some (.undef,H)
 | .hsl id es off len=>if es=size then match len with
  | 0=>some (.undef,H)
  | len+1=>match H[id]? with
   | some (.row B xs)=>if off+(len+1)<=xs.length then some (.undef,H.set id (.row B (xs.take off++List.replicate (len+1) zero++xs.drop (off+(len+1)))))else none
   | _=>none
  else none
 | _=>none
def cT (E:Env) (F:Frame) (H:bg) (op:Op):Option (V×bg):=
 match op with
 | .store t a x=>match E.tt t,ev F a,ev F x with
  | some d,some (.hptr id el off),some v=>match H[id]? with
   | some (.row es w)=>match w[el]? with
    | some cs=>if v.cells.length=d.size/\off+d.size<=cs.length/\v.cells.all V.one=true then
     some (.undef,H.set id (.row es (w.set el (cs.take off++v.cells++cs.drop (off+v.cells.length)))))else none
    | none=>none
   | _=>none
  | _,_,_=>none
 | .mapUpdate t m k x|.insert t m k x=>match E.kindOf t,ev F m,ev F k,ev F x with
  | some (.map A _),some (.hmap id),some k,some v=>match H[id]? with
   | some (.map u)=>if AI E A k then(pE k v u).map λu=>(.undef,H.set id (.map u))else none
   | _=>none
  | _,_,_,_=>none
 | .call { callee:=.builtin .append,args,argTypes }=>match argTypes.toList,eZ F args.toList with
  | [t,B],some [s,x]=>match E.kindOf t,E.kindOf B with
   | some (.slice e),some (.slice _)=>match E.tt e with
    | some d=>match dN H d.size s,dN H d.size x with
     | some _,some []=>some (s,H)
     | some w,some z=>
      if w.length+z.length<=2147483648/\d.bytes<=4096/\0<d.bytes then
       (hU H s).map λH1=>(.hsl H.length d.size 0 (w.length+z.length),H1++[.row d.size (w++z)])
      else none
     | _,_=>none
    | none=>none
   | some (.slice e),some (.int _)=>match E.tt e with
    | some d=>mkApp H d.size d.bytes d.zero s x
    | none=>none
   | _,_=>none
  | _,_=>none
 | .call { callee:=.builtin .clear,args,argTypes }=>match argTypes[0]?,eZ F args.toList with
  | some t,some [v]=>match E.kindOf t with
   | some (.slice e)=>match E.tt e with
    | some d=>Dr H d.size d.zero v
    | none=>none
   | _=>none
  | _,_=>none
 | _=>none
def qb:List (List V)->Option (List Int)
 | []=>some []
 | [.int .u8 n]::r=>(qb r).map (n::·)
 | _=>none
def K1 (l:List Int):ByteArray:=l.foldl (λr n=>r.push (UInt8.ofNat n.toNat)) ByteArray.empty
def evalConv (E:Env) (F:Frame) (H:bg) (op:Op):Option V:=
 match op with
 | .convert s d x=>match E.kindOf s,E.kindOf d,ev F x with
  | some (.slice e),some .str,some v=>match E.kindOf e with
   | some (.int .u8)=>(dN H 1 v).bind λu=>(qb u).map λl=>.str (K1 l)
   | _=>none
  | _,_,_=>none
 | _=>none
def sx (E:Env) (F:Frame) (H:bg) (place:Option (Nat×Nat)) (op:Op):Option V:=
 match bJ E F op with
 | some v=>some v
 | none=>match place with
  | none=>evalConv E F H op
  | some _=>none
inductive Callee where
 | fn (f:FuncId)
 | yld (id:Nat)
def jH (F:Frame) (op:Op):Option (Callee×List V):=
 match op with
 | .call { callee:=.value f,args,.. }=>match ev F f,eZ F args.toList with
  | some (.clo g a b),some u=>some (.fn g,a++u++b)
  | some (.yld id),some u=>some (.yld id,u)
  | _,_=>none
 | _=>none
inductive SY where
 | pure|read|alloc|loud|call
 deriving DecidableEq
def c6:Op->SY
 | .load ..|.lookup ..=>.read
 | .alloc ..|.box ..|.makeSlice ..|.buildSlice ..|.makeMap ..=>.alloc
 | .store ..|.mapUpdate ..|.insert ..=>.loud
 | .call { callee:=.builtin .append,.. }=>.loud
 | .call { callee:=.builtin .clear,.. }=>.loud
 | .call { callee:=.value _,.. }=>.call
 | _=>.pure
def iR (f:V->Option V):List V->Option (List V)
 | []=>some []
 | x::r=>match f x,iR f r with
  | some y,some s=>some (y::s)
  | _,_=>none
def lz (f:V->Option V):List (List V)->Option (List (List V))
 | []=>some []
 | x::r=>match iR f x,lz f r with
  | some y,some s=>some (y::s)
  | _,_=>none
def k_ (f:V->Option V):List (V×V)->Option (List (V×V))
 | []=>some []
 | (k,x)::r=>match f k,f x,k_ f r with
  | some k,some y,some s=>some ((k,y)::s)
  | _,_,_=>none
def borrow:Nat->bg->V->Option V
 | 0,_,x=>if x.closed then some x else none
 | n+1,H,x=>
  if x.closed then some x else
  match x with
  | .hsl id es off len=>match (H[id]?).bind Ob.rows with
   | some (B,xs)=>if B=es/\off+len<=xs.length then(lz (borrow n H) ((xs.drop off).take len)).map (.fsl es)else none
   | none=>none
  | .hptr id el off=>match (H[id]?).bind Ob.rows with
   | some (_,xs)=>match xs[el]? with
    | some cs=>if off<=cs.length then(iR (borrow n H) (cs.drop off)).map .fptr else none
    | none=>none
   | none=>none
  | .hmap id=>match H[id]? with
   | some (.map D)=>(k_ (borrow n H) D).map .fmap
   | _=>none
  | .clo f a b=>match iR (borrow n H) a,iR (borrow n H) b with
   | some a,some b=>some (.clo f a b)
   | _,_=>none
  | .agg cs=>(iR (borrow n H) cs).map .agg
  | .tup cs=>(iR (borrow n H) cs).map .tup
  | _=>none
def borrows (n:Nat) (H:bg) (l:List V):Option (List V):=iR (borrow n H) l
def cK (f:V->List Nat):List V->List Nat
 | []=>[]
 | x::r=>f x++cK f r
def b_:Nat->bg->V->List Nat
 | 0,_,_=>[]
 | n+1,H,x=>
  if x.closed then []else
  match x with
  | .hsl id _ off len=>id::(match (H[id]?).bind Ob.rows with|some (_,xs)=>cK (b_ n H) ((xs.drop off).take len).flatten|none=>[])
  | .hptr id el off=>id::(match (H[id]?).bind Ob.rows with|some (_,xs)=>cK (b_ n H) (((xs[el]?).getD []).drop off)|none=>[])
  | .hmap id=>id::(match H[id]? with|some (.map B)=>cK (b_ n H) (B.map (·.1))++cK (b_ n H) (B.map (·.2))|_=>[])
  | .clo _ a b=>cK (b_ n H) a++cK (b_ n H) b
  | .agg cs=>cK (b_ n H) cs
  | .tup cs=>cK (b_ n H) cs
  | _=>[]
def uj (H:bg) (id:Nat):bg:=
 match H[id]? with
 | some (.row es u)=>H.set id (.frz es u)
 | some (.map _)=>H.set id .dead
 | _=>H
def cE (H:bg) (l:List Nat):bg:=l.foldl uj H
structure dn where
 lv:Nat
 go:Callee->List V->bg->Option (V×bg)
instance:CoeFun dn λ_=>Callee->List V->bg->Option (V×bg):=⟨dn.go⟩
def iP (H:bg) (T:List Nat):Bool:=T.all λid=>((H[id]?).bind Ob.rows).isSome
def cz (call:dn) (f:FuncId) (args:List V) (H:bg):Option V:=
 match borrows call.lv H args with
 | some az=>match call (.fn f) az []with
  | some (r,H1)=>match borrow call.lv H1 r with
   | some y=>if y.closed then some y else none
   | none=>none
  | none=>none
 | none=>none
def sP (k:Nat) (H1:bg) (id es off len:Nat):Option (V×Ob):=
 match H1[id]? with
 | some (.row u w)=>if u=es/\(w.all λx=>x.all V.scalar)=true then some (.hsl k es off len,.row es w)else none
 | _=>none
def lT (call:dn) (f:FuncId) (args:List V) (H:bg):Option (V×bg):=
 match borrows call.lv H args with
 | some az=>match call (.fn f) az []with
  | some (r,H1)=>
   if r.scalar then some (r,H)else
   match r with
   | .hsl id es off len=>(sP H.length H1 id es off len).map λ(v,ob)=>(v,H++[ob])
   | .tup (.hsl id es off len::rest)=>if V.cO rest then(sP H.length H1 id es off len).map λ(v,ob)=>(.tup (v::rest),H++[ob])else none
   | _=>none
  | none=>none
 | none=>none
def fA (E:Env) (call:dn) (f:FuncId) (args:List V) (H:bg):Option (V×bg):=
 if E.own f then lT call f args H else call (.fn f) args H
def kW (e:Edge):Bool:=match e.ground with|.textOnly _|.gcOnly _=>false|_=>true
def D3 (o:Oper) (i:Nat):Bool:=o.after.any λe=>e.on==i&&kW e
def Gi (acc:List (List Nat)) (o:Oper):List Nat:=
 (o.after.toList.filter kW).foldl (λl e=>(e.on::(acc[e.on]?).getD []).foldl (λl k=>if l.contains k then l else k::l) l) []
def Hu (ops:List Oper):List (List Nat):=ops.foldl (λacc o=>acc++[Gi acc o]) []
def before (ops:List Oper) (i k:Nat):Bool:=(((Hu ops)[i]?).getD []).contains k
def isApp:Op->Bool
 | .call { callee:=.builtin .append,.. }=>true
 | _=>false
def dD (ops:List Oper) (i:Nat):Bool:=
 match ops[i]? with
 | some o=>(List.range ops.length).all λk=>match ops[k]? with
  | some p=>k==i||c6 p.op==.pure||(if k<i then before ops i k else before ops k i)||(isApp o.op&&c6 p.op==.alloc&&decide (i<k))
  | none=>true
 | none=>false
def dstsOf (ops:List Oper):List Nat:=ops.filterMap (·.dst)
def vR (ops:List Oper) (i k:Nat):Bool:=if k<i then before ops i k else before ops k i
def FF (ops:List Oper) (i k:Nat):Option (List Nat):=
 match ops[k]? with
 | some p=>
  if k==i||c6 p.op==.pure||vR ops i k then some []else
  match p.op with
  | .load _ (.tmp a)=>if(dstsOf ops).contains a then some []else some [a]
  | _=>none
 | none=>some []
def B0 (ops:List Oper) (i:Nat):List Nat->Option (List Nat)
 | []=>some []
 | k::r=>match FF ops i k,B0 ops i r with
  | some a,some b=>some (a++b)
  | _,_=>none
def zK (ops:List Oper) (i:Nat):Option (Nat×List Nat):=
 match (ops[i]?).map Oper.op with
 | some (.store _ (.tmp a) _)=>if(dstsOf ops).contains a then none else(B0 ops i (List.range ops.length)).map λl=>(a,l)
 | _=>none
def qL (id:Nat):V->Bool
 | .hptr B _ _=>B != id
 | .fptr _=>true
 | _=>false
def rB (ops:List Oper) (i:Nat) (F:Frame):Bool:=
 match zK ops i with
 | some (a,l)=>match get F a with
  | .hptr id _ _=>l.all λs=>qL id (get F s)
  | _=>false
 | none=>false
def pz (ops:List Oper) (k a':Nat):List Nat:=
 if(dstsOf ops).contains a' then(List.range ops.length).filterMap λi=>match (ops[i]?).map Oper.op with
  | some (.store _ (.tmp a) _)=>if vR ops i k||(dstsOf ops).contains a then none else some a
  | _=>none
 else []
def nH (ops:List Oper) (k:Nat) (F:Frame) (op:Op):Bool:=
 match op with
 | .load _ (.tmp u)=>(pz ops k u).all λa=>match get F a with
  | .hptr id _ _=>qL id (get F u)
  | _=>true
 | _=>true
def FQ (d:Nat) (op:Op):Bool:=op.operands.any λx=>match x with|.tmp t=>t==d|_=>false
def Oj (d:Nat):Op->Bool
 | .call { callee:=.builtin .append,args,.. }=>match args.toList with
  | .tmp t::r=>t==d&&r.all λx=>match x with|.tmp t=>t != d|_=>true
  | _=>false
 | _=>false
def xB (ops:List Oper) (i:Nat):Bool:=
 match ops[i]? with
 | some o=>match o.op,o.dst with
  | .makeSlice ..,some d=>(ops.any λp=>FQ d p.op)&&ops.all λp => !FQ d p.op||c6 p.op==.call
  | .buildSlice _ len u,some d=>len==0&&u.size==0&&((List.range ops.length).any λk=>match ops[k]? with|some p=>FQ d p.op && !dD ops k|none=>false)&&ops.all λp => !FQ d p.op||Oj d p.op
  | _,_=>false
 | none=>false
def qS (ops:List Oper):Option (Nat×Nat)->Bool
 | some (_,i)=>xB ops i
 | none=>false
def kI (E:Env) (ops:List Oper) (place:Option (Nat×Nat)) (f:FuncId):Bool:=E.keep f&&(match place with|none=>true|some (_,i)=>dD ops i || !E.own f)
def wO (ops:List Oper) (i:Nat):Bool:=
 match ops[i]? with
 | some o=>isApp o.op&&(List.range ops.length).all λk=>match ops[k]? with
  | some p=>k==i||c6 p.op==.pure||vR ops i k||c6 p.op==.read||(c6 p.op==.alloc&&(xB ops k||decide (i<k)))
  | none=>true
 | none=>false
def pU (F:Frame):Op->Bool
 | .call { callee:=.builtin .append,args,.. }=>match args.toList with
  | x::_=>match ev F x with|some .dA|some .bW=>true|_=>false
  | _=>false
 | _=>false
def ym (ops:List Oper) (i b:Nat) (F:Frame) (H:bg) (op:Op):Bool:=wO ops i&&(isApp op&&pU F op&&decide (b<=H.length))
def dg (E:Env) (call:dn) (ops:List Oper) (place:Option (Nat×Nat)) (F:Frame) (H:bg) (op:Op):Option (V×bg):=
 match c6 op with
 | .pure=>(sx E F H place op).map λv=>(v,H)
 | .read=>match place with
  | none=>(dM E F H op).map λv=>(v,H)
  | some (b,i)=>if nH ops i F op then match dM E F (H.take b) op with
   | some v=>some (v,H)
   | none=>if dD ops i then(dM E F H op).map λv=>(v,H)else none
   else none
 | .alloc=>if qS ops place then(qU E F op).map λv=>(v,H)else match eO E F op,place with
  | some (ob,m),none=>some (m.val H.length,H++[ob])
  | some (ob,m),some (b,i)=>match H[b+i]? with
   | some .free=>some (m.val (b+i),H.set (b+i) ob)
   | _=>none
  | none,_=>none
 | .loud=>match place with
  | none=>cT E F H op
  | some (b,i)=>if dD ops i||rB ops i F||ym ops i b F H op then cT E F H op else none
 | .call=>match jH F op with
  | some (.fn f,args)=>
   if kI E ops place f then
    match place with
    | none=>fA E call f args H
    | some (_,i)=>if dD ops i then fA E call f args H else none
   else match place with
    | none=>match cz call f args H with
     | some y=>some (y,if y.scalar then H else cE H (cK (b_ call.lv H) args))
     | none=>none
    | some (b,i)=>match cz call f args (H.take b)with
     | some y=>if y.scalar then some (y,H)else if iP (H.take b) (cK (b_ call.lv (H.take b)) args)then some (y,cE H (cK (b_ call.lv (H.take b)) args))else none
     | none=>if dD ops i then match cz call f args H with
      | some y=>some (y,if y.scalar then H else cE H (cK (b_ call.lv H) args))
      | none=>none
      else none
  | some (.yld id,args)=>match place with
   | none=>call (.yld id) args H
   | some (_,i)=>if dD ops i then call (.yld id) args H else none
  | none=>none
def jK (n:Nat) (F:Frame) (dst:Option Nat) (v:V):Option Frame:=
 match dst with
 | none=>some F
 | some d=>if d<n then some (set F d v)else none
def fR (ops:List Oper) (F:Frame) (o:Oper):Bool:=
 match o.guard with
 | none=>true
 | some (j,b)=>match (ops[j]?).bind (·.dst)with
  | some d=>match get F d with
   | .bool c=>c==b
   | _=>false
  | none=>false
def gw (E:Env) (call:dn) (n:Nat) (ops:List Oper) (place:Option (Nat×Nat)) (o:Oper) (F:Frame) (H:bg):Option (Frame×bg):=
 if fR ops F o then
  match dg E call ops place F H o.op with
  | some (v,H')=>(jK n F o.dst v).map λF'=>(F',H')
  | none=>none
 else(jK n F o.dst .undef).map λF'=>(F',H)
def lZ (E:Env) (call:dn) (n:Nat) (ops:List Oper):List Oper->Frame->bg->Option (Frame×bg)
 | [],F,H=>some (F,H)
 | o::r,F,H=>match gw E call n ops none o F H with
  | some (F',H')=>lZ E call n ops r F' H'
  | none=>none
def jF (E:Env) (call:dn) (n:Nat) (ops:List Oper) (base:Nat):List Nat->Frame->bg->Option (Frame×bg)
 | [],F,H=>some (F,H)
 | i::r,F,H=>match ops[i]? with
  | some o=>match gw E call n ops (some (base,i)) o F H with
   | some (F',H')=>jF E call n ops base r F' H'
   | none=>none
  | none=>none
def tmpsOf (o:Oper) (ops:List Oper):List Nat:=
 (o.op.operands.toList.filterMap λ|.tmp t=>some t|_=>none) ++
 (match o.guard with|some (g,_)=>((ops[g]?).bind (·.dst)).toList|none=>[])
def xL (ops:List Oper) (a b:Oper):Bool:=
 (match a.dst with|some d => !(tmpsOf b ops).contains d&&b.dst != some d|none=>true) &&
 (match b.dst with|some d => !(tmpsOf a ops).contains d|none=>true)
def vX (ops:List Oper):Bool:=
 (List.range ops.length).all λj=>(List.range j).all λi=>
  match ops[i]?,ops[j]? with
  | some a,some b=>D3 b i||xL ops a b
  | _,_=>false
def zo (ops:List Oper):Bool:=
 (List.range ops.length).all λj=>match ops[j]? with
  | some o=>o.after.all λe => !kW e||decide (e.on<j)
  | none=>true
def rq (ops:List Oper):Bool:=ops.any λo=>c6 o.op==.alloc
def jx (E:Env) (call:dn) (n:Nat) (ops:List Oper) (B:Bool) (F:Frame) (H:bg):Option (Frame×bg):=
 if B then
  if vX ops&&zo ops then
   jF E call n ops H.length (List.range ops.length) F (if rq ops then H++List.replicate ops.length .free else H)
  else none
 else lZ E call n ops ops F H
def kA (step:Frame->bg->Option (Out×Frame×bg)):Nat->Frame->bg->Option (Out×Frame×bg)
 | 0,_,_=>none
 | k+1,F,H=>match step F H with
  | some (.norm,F',H')=>kA step k F' H'
  | r=>r
def kU:Out->Option Code
 | .norm=>none
 | .ret=>some .ret
 | .exit id=>some (.exit id)
def exec (E:Env) (call:dn) (lf:Nat) (ro:Bool) (n:Nat):Code->Frame->bg->Option (Out×Frame×bg)
 | .skip,F,H=>some (.norm,F,H)
 | .label _,F,H=>some (.norm,F,H)
 | .region _ ops B,F,H=>(jx E call n ops.toList B F H).map λ(F',H')=>(.norm,F',H')
 | .seq a b,F,H=>match exec E call lf ro n a F H with
  | some (.norm,F',H')=>exec E call lf ro n b F' H'
  | r=>r
 | .cond c x y,F,H=>match ev F c with
  | some (.bool t)=>if t then exec E call lf ro n x F H else exec E call lf ro n y F H
  | _=>none
 | .block id c,F,H=>match exec E call lf ro n c F H with
  | some (.exit D,F',H')=>if D=id then some (.norm,F',H')else some (.exit D,F',H')
  | r=>r
 | .loop c,F,H=>kA (exec E call lf ro n c) lf F H
 | .rangeFunc g ps assign body,F,H=>match ro,ev F g with
  | false,some (.clo f a b)=>
   match call (.fn f) (a++.yld H.length::b) (H++[.loop ⟨.ready,none,F,n,ps.toList,assign,body⟩])with
   | some (_,H')=>match H'[H.length]? with
    | some (.loop r)=>match r.st with
     | .busy=>none
     | _=>some (r.pend.getD .norm,F,H'.set H.length .dead)
    | _=>none
   | none=>none
  | _,_=>none
 | .exit id,F,H=>some (.exit id,F,H)
 | .ret,F,H=>some (.ret,F,H)
 | _,_,_=>none
def jI (E:Env) (F:Frame) (H:bg):List ResultVar->Option (List V)
 | []=>some []
 | .tmp t::r=>(jI E F H r).map (get F t::·)
 | .cell a t::r=>match E.tt t,jI E F H r with
  | some d,some vs=>((dS H (get F a) d.size).bind (mk d.agg)).map (·::vs)
  | _,_=>none
def result:List V->V
 | [v]=>v
 | vs=>.tup vs
def xC:List Nat->List V->Frame->Frame
 | t::B,v::vs,F=>xC B vs (set F t v)
 | _,_,F=>F
def Io {α:Type} [Inhabited α] (lt:α->α->Bool):Nat->Nat->Array α->Array α
 | 0,_,d=>d
 | k+1,i,d=>Io lt k (i+1) (Sort.insInner lt 0 i d)
def Kq (n:Nat) (lt:Fin (n+1)->Fin (n+1)->Bool):Array (Fin (n+1)):=
 if n<12 then Io lt n 1 (List.finRange (n+1)).toArray else Sort.pdq lt (List.finRange (n+1)).toArray 0 (n+1) (Lib.bitLen (n+1)) true true
def jU (call:dn) (g:FuncId) (D B:List V) (n:Nat) (i j:Fin (n+1)):Option Int:=
 match D[i.1]?,D[j.1]? with
 | some a,some b=>match cz call g (a::b::B) []with
  | some (.int .i64 c)=>some c
  | _=>none
 | _,_=>none
def xP {n:Nat} (t:Fin (n+1)->Fin (n+1)->Option Int) (i j:Fin (n+1)):Bool:=decide ((t i j).getD 0<0)
def Rg {n:Nat} (t:Fin (n+1)->Fin (n+1)->Option Int):Bool:=
 let l:=List.finRange (n+1)
 l.all λi => !xP t i i&&l.all λj=>(t i j).isSome&&l.all λk=>(!(xP t i j&&xP t j k)||xP t i k)&&((xP t i j||xP t j k) || !xP t i k)
def y7 (xs:List (List V)) (off n:Nat) (l:List (Fin (n+1))):List (List V):=xs.take off++l.map (λi=>(xs[off+i.1]?).getD [])++xs.drop (off+(n+1))
def vr (keep:FuncId->Bool) (call:dn) (args:List V) (H:bg):Option (V×bg):=
 match args with
 | [s,c]=>match s with
  | .bW|.dA=>some (.undef,H)
  | .hsl id es off len=>match len,c with
   | 0,_=>some (.undef,H)
   | n+1,.clo g [] cb=>match H[id]? with
    | some (.row w z)=>if es=1/\w=1/\off+(n+1)<=z.length/\n<2147483648/\keep g=false then
     match borrows call.lv (H.set id .dead) ((z.drop off).take (n+1)).flatten,borrows call.lv (H.set id .dead) cb with
     | some A,some u=>if Rg (jU call g A u n)then some (.undef,H.set id (.row 1 (y7 z off n (Kq n (xP (jU call g A u n))).toList)))else none
     | _,_=>none
     else none
    | _=>none
   | _,_=>none
  | _=>none
 | _=>none
def kT (E:Env) (c:dn) (n:Nat):Callee->List V->bg->Option (V×bg)
 | .fn f,args,H=>match E.ft f with
  | some fi=>if args.length<=fi.ntmps then
   match exec E c n false fi.ntmps fi.body args H with
   | some (.exit _,_,_)=>none
   | some (_,F',H')=>(jI E F' H' fi.results).map λvs=>(result vs,H')
   | none=>none
   else none
  | none=>if E.sort f then vr E.keep c args H else(E.known f args).map λy=>(y,H)
 | .yld id,args,H=>match H[id]? with
  | some (.loop r)=>match r.st with
   | .ready=>if args.length=r.params.length/\r.params.all (·<r.nt)then
    match exec E c n true r.nt r.assign (xC r.params args r.frame) H with
    | some (.norm,D,H2)=>match H2[id]? with
     | some (.loop r2)=>match r2.st with
      | .ready=>match exec E c n true r.nt r.body D (H2.set id (.loop { r2 with st:=.busy }))with
       | some (o,_,B)=>match B[id]? with
        | some (.loop r4)=>some (.bool (o==.norm),B.set id (.loop { r4 with st:=(if o==.norm then .ready else .done),pend:=(if o==.norm then none else some o) }))
        | _=>none
       | none=>none
      | _=>none
     | _=>none
    | _=>none
    else none
   | _=>none
  | _=>none
def run (E:Env):Nat->dn
 | 0=>⟨0,λ_ _ _=>none⟩
 | n+1=>⟨n+1,kT E (run E n) n⟩
theorem FD {E:Env} {n:Nat} {x:Callee} {a:List V} {H:bg}:run E (n+1) x a H=kT E (run E n) n x a H:=rfl
end Go.VE
namespace Go.VE
variable [bS]
@[simp] theorem get_nil (i:Nat):get [] i=.undef:=by cases i <;> rfl
@[simp] theorem uX (F:Frame) (i:Nat) (v:V):get (set F i v) i=v:=by
 induction F generalizing i with
 | nil=>induction i with
  | zero=>rfl
  | succ i u=>simpa [set,get]using u
 | cons x r u=>cases i with
  | zero=>rfl
  | succ i=>simpa [set,get]using u i
theorem ji (F:Frame) {i j:Nat} (v:V) (h:i≠j):get (set F i v) j=get F j:=by
 induction F generalizing i j with
 | nil=>
  induction i generalizing j with
  | zero=>cases j with
   | zero=>grind
   | succ j=>simp[set,get]
  | succ i u=>cases j with
   | zero=>simp[set,get]
   | succ j=>simpa [set,get]using u  (by omega)
 | cons x r u=>cases i with
  | zero=>cases j with
   | zero=>grind
   | succ j=>simp[set,get]
  | succ i=>cases j with
   | zero=>simp[set,get]
   | succ j=>simpa [set,get]using u   (by omega)
theorem Ic (F:Frame) {i j:Nat} (u v:V) (h:i≠j):set (set F i u) j v=set (set F j v) i u:=by
 induction F generalizing i j with
 | nil=>
  induction i generalizing j with
  | zero=>cases j with
   | zero=>grind
   | succ j=>simp[set]
  | succ i w=>cases j with
   | zero=>simp[set]
   | succ j=>simpa [set]using w  (by omega)
 | cons x r w=>cases i with
  | zero=>cases j with
   | zero=>grind
   | succ j=>simp[set]
  | succ i=>cases j with
   | zero=>simp[set]
   | succ j=>simpa [set]using w   (by omega)
inductive IC where
 | cells (c:Array Value)
 | map (es:Array MapEntry)
abbrev ct:=Nat->Option IC
def IC.at (x:IC) (w:World) (b:Nat):Prop:=
 match x with
 | .cells c=>∃el fr,w.heap[b]? = some (.cells c el fr)
 | .map es=>∃clock,w.heap[b]? = some (.map es clock)
def ct.le (I I':ct):Prop:=∀b x,I b=some x->I' b=some x
theorem ct.le_refl (I:ct):ct.le I I:=λ_ _ h=>h
theorem ct.le_trans {I J K:ct} (h:ct.le I J) (B:ct.le J K):ct.le I K:=λb x e=>B b x (h b x e)
inductive eu (I:ct):V->Value->Prop
 | bool (b:Bool):eu I (.bool b) (.bool b)
 | int (k:IntKind) (n:Int):eu I (.int k n) (.int k n)
 | str (s:ByteArray):eu I (.str s) (.string s)
 | dA (a:Option Addr):eu I .dA (.slice a 0 0)
 | bW:eu I .bW (.slice none 0 0)
 | fsl0 (es:Nat) (a:Addr) (cap:Nat):eu I (.fsl es []) (.slice (some a) 0 cap)
 | fsl (es:Nat) (xs:List (List V)) (b o cap:Nat) (c:Array Value) (hI:I b=some (.cells c)) (hc:xs.length<=cap)
  (hu:∀x∈xs,x.length=es) (ho:∀x∈xs,∀y∈x,V.one y=true) (hb:o+xs.length*es<=c.size)
  (hr:∀(i j:Nat) x y v,xs[i]? = some x->x[j]? = some y->c[o+i*es+j]? = some v->eu I y v) :
  eu I (.fsl es xs) (.slice (some ⟨b,o,none⟩) xs.length cap)
 | gZ:eu I .gZ (.pointer none)
 | fptr (cs:List V) (b o:Nat) (c:Array Value) (hI:I b=some (.cells c)) (hb:o+cs.length<=c.size)
  (hr:∀(j:Nat) y v,cs[j]? = some y->c[o+j]? = some v->eu I y v):eu I (.fptr cs) (.pointer (some ⟨b,o,none⟩))
 | clo (f:FuncId) (x y:List V) (u v:Array Value) (hx:x.length=u.size) (hy:y.length=v.size)
  (h1:∀(j:Nat) a b,x[j]? = some a->u[j]? = some b->eu I a b) (h2:∀(j:Nat) a b,y[j]? = some a->v[j]? = some b->eu I a b) :
  eu I (.clo f x y) (.func (.func f) u v)
 | gA:eu I .gA (.map none)
 | rU:eu I .rU .nilFunc
 | fmap (kvs:List (V×V)) (b:Nat) (es:Array MapEntry) (hI:I b=some (.map es)) (hl:kvs.length=es.size)
  (hk:∀(j:Nat) p e,kvs[j]? = some p->es[j]? = some e->eu I p.1 e.key)
  (hv:∀(j:Nat) p e,kvs[j]? = some p->es[j]? = some e->eu I p.2 e.val):eu I (.fmap kvs) (.map (some b))
 | agg (cs:List V) (vs:Array Value) (hl:cs.length=vs.size) (h:∀(j:Nat) a b,cs[j]? = some a->vs[j]? = some b->eu I a b) :
  eu I (.agg cs) (.agg vs)
 | tup (cs:List V) (vs:Array Value) (hl:cs.length=vs.size) (h:∀(j:Nat) a b,cs[j]? = some a->vs[j]? = some b->eu I a b) :
  eu I (.tup cs) (.tuple vs)
structure Pl where
 b:Nat
 o:Nat
 es:Nat
 sz:Nat
abbrev Mu:=Nat->Option Pl
inductive bF (I:ct) (μ:Mu):V->Value->Prop
 | c (x:V) (v:Value) (h:eu I x v):bF I μ x v
 | hsl (id off len cap:Nat) (p:Pl) (hm:μ id=some p) (hc:len<=cap) (hb:p.o+(off+cap)*p.es<=p.sz) :
  bF I μ (.hsl id p.es off len) (.slice (some ⟨p.b,p.o+off*p.es,none⟩) len cap)
 | hsl0 (id es off:Nat) (a:Addr):bF I μ (.hsl id es off 0) (.slice (some a) 0 0)
 | hptr (id el off:Nat) (p:Pl) (hm:μ id=some p):bF I μ (.hptr id el off) (.pointer (some ⟨p.b,p.o+el*p.es+off,none⟩))
 | yld (id:Nat) (p:Pl) (hm:μ id=some p):bF I μ (.yld id) (.func (.yield p.b) #[] #[])
 | hmap (id:Nat) (p:Pl) (hm:μ id=some p):bF I μ (.hmap id) (.map (some p.b))
 | clo (f:FuncId) (x y:List V) (u v:Array Value) (hx:x.length=u.size) (hy:y.length=v.size)
  (h1:∀(j:Nat) a b,x[j]? = some a->u[j]? = some b->bF I μ a b) (h2:∀(j:Nat) a b,y[j]? = some a->v[j]? = some b->bF I μ a b) :
  bF I μ (.clo f x y) (.func (.func f) u v)
 | agg (cs:List V) (vs:Array Value) (hl:cs.length=vs.size) (h:∀(j:Nat) a b,cs[j]? = some a->vs[j]? = some b->bF I μ a b) :
  bF I μ (.agg cs) (.agg vs)
 | tup (cs:List V) (vs:Array Value) (hl:cs.length=vs.size) (h:∀(j:Nat) a b,cs[j]? = some a->vs[j]? = some b->bF I μ a b) :
  bF I μ (.tup cs) (.tuple vs)
def Mu.le (μ μ':Mu):Prop:=∀id p,μ id=some p->μ' id=some p
theorem Mu.le_refl (μ:Mu):Mu.le μ μ:=λ_ _ h=>h
theorem eu.mono {I I':ct} (h:ct.le I I') {x:V} {v:Value} (r:eu I x v):eu I' x v:=by
 induction r with
 | bool b=>exact .bool b
 | int k n=>exact .int k n
 | str s=>exact .str s
 | dA a=>exact .dA a
 | bW=>exact .bW
 | fsl0 es a cap=>exact .fsl0 es a cap
 | fsl es L b o cap c B hc hu O D _ w=>exact .fsl es L b o cap c (h _ _ B) hc hu O D w
 | gZ=>exact .gZ
 | fptr cs b o c B D _ w=>exact .fptr cs b o c (h _ _ B) D w
 | clo f x y u v Q S _ _ z A=>exact .clo f x y u v Q S z A
 | gA=>exact .gA
 | rU=>exact .rU
 | fmap G b es B C _ _ z A=>exact .fmap G b es (h _ _ B) C z A
 | agg cs J C _ w=>exact .agg cs J C w
 | tup cs J C _ w=>exact .tup cs J C w
theorem bF.mono {I I':ct} {μ μ':Mu} (h:ct.le I I') (B:Mu.le μ μ') {x:V} {v:Value} (r:bF I μ x v):bF I' μ' x v:=by
 induction r with
 | c x v r=>exact .c _ _ (r.mono h)
 | hsl id off len cap p w hc J=>exact .hsl id off len cap p (B _ _ w) hc J
 | hsl0 id es off a=>exact .hsl0 id es off a
 | hptr id el off p w=>exact .hptr id el off p (B _ _ w)
 | yld id p w=>exact .yld id p (B _ _ w)
 | hmap id p w=>exact .hmap id p (B _ _ w)
 | clo f x y u v L O _ _ z A=>exact .clo f x y u v L O z A
 | agg cs C D _ G=>exact .agg cs C D G
 | tup cs C D _ G=>exact .tup cs C D G
def cF (I:ct) (μ:Mu) (xs:List V) (vs:List Value):Prop:=
 xs.length=vs.length/\∀(j:Nat) a b,xs[j]? = some a->vs[j]? = some b->bF I μ a b
theorem cF.nil {I:ct} {μ:Mu}:cF I μ [] []:=⟨rfl,by simp⟩
theorem cF.cons {I:ct} {μ:Mu} {x:V} {v:Value} {xs:List V} {vs:List Value} (h:bF I μ x v) (r:cF I μ xs vs):cF I μ (x::xs) (v::vs):=by
 refine⟨by simp[r.1],?_⟩
 intro j a b h1 u
 cases j with
 | zero=>grind
 | succ j=>exact r.2 j a b (by grind) (by grind)
theorem cF.cons_inv {I:ct} {μ:Mu} {x:V} {xs:List V} {B:List Value} (r:cF I μ (x::xs) B):∃v vs,B=v::vs/\bF I μ x v/\cF I μ xs vs:=by
 obtain⟨u,h⟩:=r
 cases B with
 | nil=>simp_all
 | cons v vs=>
  refine⟨v,vs,rfl,h 0 x v (by simp) (by simp),by grind,?_⟩
  intro j a b h1 w;exact h (j+1) a b (by grind) (by grind)
theorem cF.vu {I:ct} {μ:Mu} {B:List Value} (r:cF I μ [] B):B=[]:=by
 have:=r.1;grind
theorem cF.append {I:ct} {μ:Mu} {xs ys:List V} {B vs:List Value} (h:cF I μ xs B) (D:cF I μ ys vs):cF I μ (xs++ys) (B++vs):=by
 induction xs generalizing B with
 | nil=>rw[cF.vu h];exact D
 | cons x xs u=>
  obtain⟨v,B,rfl,hv,hr⟩:=h.cons_inv;exact .cons hv (u hr)
theorem cF.mono {I I':ct} {μ μ':Mu} (h:ct.le I I') (B:Mu.le μ μ') {xs:List V} {vs:List Value} (r:cF I μ xs vs):cF I' μ' xs vs:=
 ⟨r.1,λj a b h1 u=>(r.2 j a b h1 u).mono h B⟩
theorem cF.take {I:ct} {μ:Mu} {xs:List V} {vs:List Value} (r:cF I μ xs vs) (n:Nat):cF I μ (xs.take n) (vs.take n):=by
 refine⟨by simp[r.1],λj a b h1 u=>?_⟩
 rw[List.getElem?_take]at h1 u;split at h1 <;> simp_all;exact r.2 j a b h1 u
theorem cF.drop {I:ct} {μ:Mu} {xs:List V} {vs:List Value} (r:cF I μ xs vs) (n:Nat):cF I μ (xs.drop n) (vs.drop n):=by
 refine⟨by simp[r.1],λj a b h1 u=>?_⟩
 rw[List.getElem?_drop]at h1 u;exact r.2 _ a b h1 u
theorem bF.cells {I:ct} {μ:Mu} {x:V} {v:Value} (r:bF I μ x v):cF I μ x.cells v.cells.toList:=by
 cases r with
 | c x v h=>
  cases h with
  | agg cs B w h=>exact⟨by simpa [V.cells,Value.cells]using w,λj a b h1 z=>.c _ _ (h j a b h1 (by simpa [Value.cells]using z))⟩
  | bool b=>exact .cons (.c _ _ (.bool b)) .nil
  | int k n=>exact .cons (.c _ _ (.int k n)) .nil
  | str s=>exact .cons (.c _ _ (.str s)) .nil
  | dA a=>exact .cons (.c _ _ (.dA a)) .nil
  | bW=>exact .cons (.c _ _ .bW) .nil
  | fsl0 es a cap=>exact .cons (.c _ _ (.fsl0 es a cap)) .nil
  | fsl es O b o cap c C hc hu Q D hr=>exact .cons (.c _ _ (.fsl es O b o cap c C hc hu Q D hr)) .nil
  | gZ=>exact .cons (.c _ _ .gZ) .nil
  | fptr cs b o c C D hr=>exact .cons (.c _ _ (.fptr cs b o c C D hr)) .nil
  | clo f x y u v G J h1 z=>exact .cons (.c _ _ (.clo f x y u v G J h1 z)) .nil
  | gA=>exact .cons (.c _ _ .gA) .nil
  | rU=>exact .cons (.c _ _ .rU) .nil
  | fmap L b es C w hk hv=>exact .cons (.c _ _ (.fmap L b es C w hk hv)) .nil
  | tup cs B w h=>exact .cons (.c _ _ (.tup cs B w h)) .nil
 | hsl id off len cap p A hc D=>exact .cons (.hsl id off len cap p A hc D) .nil
 | hsl0 id es off a=>exact .cons (.hsl0 id es off a) .nil
 | hptr id el off p A=>exact .cons (.hptr id el off p A) .nil
 | yld id p A=>exact .cons (.yld id p A) .nil
 | hmap id p A=>exact .cons (.hmap id p A) .nil
 | clo f x y u v G J h1 z=>exact .cons (.clo f x y u v G J h1 z) .nil
 | agg cs B w h=>exact⟨by simpa [V.cells,Value.cells]using w,λj a b h1 z=>h j a b h1 (by simpa [Value.cells]using z)⟩
 | tup cs B w h=>exact .cons (.tup cs B w h) .nil
theorem bF.FV {I:ct} {μ:Mu} {cs:List V} {vs:Array Value} (h:cF I μ cs vs.toList):bF I μ (.agg cs) (.agg vs):=
 .agg cs vs (by simpa using h.1) λj a b h1 u=>h.2 j a b h1 (by grind)
theorem bF.Qp {I:ct} {μ:Mu} {cs:List V} {vs:Array Value} (h:cF I μ cs vs.toList):bF I μ (.tup cs) (.tuple vs):=
 .tup cs vs (by simpa using h.1) λj a b h1 u=>h.2 j a b h1 (by grind)
section inv
variable {I:ct} {μ:Mu}
theorem bF.rm {b:Bool} {v:Value} (h:bF I μ (.bool b) v):v=.bool b:=by cases h with|c _ _ h=>cases h;rfl
theorem bF.fu {k:IntKind} {n:Int} {v:Value} (h:bF I μ (.int k n) v):v=.int k n:=by cases h with|c _ _ h=>cases h;rfl
theorem bF.tj {s:ByteArray} {v:Value} (h:bF I μ (.str s) v):v=.string s:=by cases h with|c _ _ h=>cases h;rfl
theorem bF.rO {v:Value} (h:bF I μ .dA v):∃a,v=.slice a 0 0:=by cases h with|c _ _ h=>cases h;grind
theorem bF.lW {es:Nat} {xs:List (List V)} {v:Value} (h:bF I μ (.fsl es xs) v):eu I (.fsl es xs) v:=by cases h with|c _ _ h=>omega
theorem bF.mh {cs:List V} {v:Value} (h:bF I μ (.fptr cs) v):∃b o c,v=.pointer (some ⟨b,o,none⟩)/\I b=some (.cells c)/\o+cs.length<=c.size /\
 (∀(j:Nat) y u,cs[j]? = some y->c[o+j]? = some u->eu I y u):=by
 cases h with|c _ _ h=>cases h with|fptr cs b o c w z hr=>grind
theorem bF.lU {v:Value} (h:bF I μ .bW v):v=.slice none 0 0:=by cases h with|c _ _ h=>cases h;rfl
theorem bF.Pd {v:Value} (h:bF I μ .gA v):v=.map none:=by cases h with|c _ _ h=>cases h;rfl
theorem bF.sZ {id el off:Nat} {v:Value} (h:bF I μ (.hptr id el off) v):∃p,μ id=some p/\v=.pointer (some ⟨p.b,p.o+el*p.es+off,none⟩):=by
 cases h with
 | c _ _ h=>cases h
 | hptr _ _ _ p u=>grind
theorem bF.Sn {id:Nat} {v:Value} (h:bF I μ (.yld id) v):∃p,μ id=some p/\v=.func (.yield p.b) #[] #[]:=by
 cases h with
 | c _ _ h=>cases h
 | yld _ p u=>grind
theorem bF.BE {id:Nat} {v:Value} (h:bF I μ (.hmap id) v):∃p,μ id=some p/\v=.map (some p.b):=by
 cases h with
 | c _ _ h=>cases h
 | hmap _ p u=>grind
theorem bF.lQ {id es off len:Nat} {v:Value} (h:bF I μ (.hsl id es off len) v) :
 (∃p cap,μ id=some p/\p.es=es/\len<=cap/\p.o+(off+cap)*es<=p.sz/\v=.slice (some ⟨p.b,p.o+off*es,none⟩) len cap)\/(len=0/\∃a,v=.slice (some a) 0 0):=by
 cases h with
 | c _ _ h=>cases h
 | hsl _ _ _ cap p u hc w=>simp_all
 | hsl0 _ _ _ a=>grind
theorem bF.iB {cs:List V} {v:Value} (h:bF I μ (.agg cs) v):∃vs,v=.agg vs/\cF I μ cs vs.toList:=by
 cases h with
 | c _ _ h=>cases h with|agg _ vs u h=>exact⟨vs,rfl,by grind,λj a b h1 w=>.c _ _ (h j a b h1 (by grind))⟩
 | agg _ vs u h=>exact⟨vs,rfl,by grind,λj a b h1 w=>h j a b h1 (by grind)⟩
theorem bF.qm {cs:List V} {v:Value} (h:bF I μ (.tup cs) v):∃vs,v=.tuple vs/\cF I μ cs vs.toList:=by
 cases h with
 | c _ _ h=>cases h with|tup _ vs u h=>exact⟨vs,rfl,by grind,λj a b h1 w=>.c _ _ (h j a b h1 (by grind))⟩
 | tup _ vs u h=>exact⟨vs,rfl,by grind,λj a b h1 w=>h j a b h1 (by grind)⟩
theorem bF.kN {f:FuncId} {x y:List V} {v:Value} (h:bF I μ (.clo f x y) v):∃a b,v=.func (.func f) a b/\cF I μ x a.toList/\cF I μ y b.toList:=by
 cases h with
 | c _ _ h=>cases h with
  | clo _ _ _ u v z A h1 w=>exact⟨u,v,rfl,⟨by grind,λj a b p q=>.c _ _ (h1 j a b p (by grind))⟩,⟨by grind,λj a b p q=>.c _ _ (w j a b p (by grind))⟩⟩
 | clo _ _ _ u v z A h1 w=>exact⟨u,v,rfl,⟨by grind,λj a b p q=>h1 j a b p (by grind)⟩,⟨by grind,λj a b p q=>w j a b p (by grind)⟩⟩
theorem bF.of_bool {x:V} {b:Bool} (h:bF I μ x (.bool b)):x=.bool b:=by
 cases h with|c _ _ h=>cases h;rfl
end inv
def tU (I:ct):Prop:=∀g cs,bS.gl g=some cs->eu I (.fptr cs) (.pointer (some ⟨g,0,none⟩))
theorem tU.mono {I I':ct} (h:ct.le I I') (r:tU I):tU I':=λg cs hg=>(r g cs hg).mono h
structure dV (I:ct) (μ:Mu) (n:Nat) (F:Frame) (tmps:Array Value):Prop where
 size:tmps.size=n
 rel:∀t,bF I μ (get F t) (tmps.getD t undef)
 gl:tU I
theorem bF.undef (I:ct) (μ:Mu):bF I μ .undef Go.undef:=.c _ _ (.tup [] #[] rfl (by simp))
theorem dV.mono {I I':ct} {μ μ':Mu} {n:Nat} {F:Frame} {tmps:Array Value} (h:ct.le I I') (B:Mu.le μ μ') (r:dV I μ n F tmps):dV I' μ' n F tmps:=
 ⟨r.1,λt=>(r.2 t).mono h B,r.gl.mono h⟩
theorem dV.put {I:ct} {μ:Mu} {n:Nat} {F F':Frame} {a:Act} {dst:Option Nat} {x:V} {v:Value} (r:dV I μ n F a.tmps) (h:bF I μ x v)
 (hp:jK n F dst x=some F'):dV I μ n F' (a.put dst v).tmps:=by
 cases dst with
 | none=>simp[jK]at hp;subst hp;exact r
 | some d=>
  simp only[jK]at hp;split at hp
  .simp  at hp;subst hp;refine⟨by simp[Act.put,r.1],λt=>?_,r.gl⟩
   by_cases u:d=t
   .subst u;have:d<a.tmps.size:=by rw[r.1];omega
    simpa [Act.put,Array.getD_eq_getD_getElem?,Array.getElem?_setIfInBounds,this]using h
   .have:=r.2 t;rw[ji _ _ u];simpa [Act.put,Array.getD_eq_getD_getElem?,Array.getElem?_setIfInBounds,u]using this
  grind
theorem A9 {I:ct}:∀(n:Nat) (v:Value) (x:V),ofValue n v=some x->eu I x v:=by
 intro n
 induction n with
 | zero=>intro v x h;simp[ofValue]at h
 | succ n A=>
  intro v x h;unfold ofValue at h;split at h <;> (try (simp  at h;subst h;constructor)) <;> (try grind)
  simp  at h;obtain⟨B,w,rfl⟩:=h;have key:∀(l:List Value) (u:List V),l.mapM (ofValue n)=some u->u.length=l.length/\∀(j:Nat) a b,u[j]? = some a->l[j]? = some b->eu I a b:=by
   intro l
   induction l with
   | nil=>grind
   | cons v l z=>
    intro u h;simp[ζg]at h
    grind
  obtain⟨C,hr⟩:=key _ _ w;exact .agg _ _ (by grind) λj a b h1 D=>hr j a b h1 (by grind)
theorem di {I:ct} {μ:Mu} {n:Nat} {F:Frame} {a:Act} (r:dV I μ n F a.tmps) {o:Operand} {x:V} (h:ev F o=some x):bF I μ x (a.eval o):=by
 cases o with
 | tmp t=>simp[ev]at h;subst h;exact r.2 t
 | const v=>exact .c _ _ (A9 4 _ _ h)
 | func f=>simp[ev]at h;subst h;exact .c _ _ (.clo f [] [] #[] #[] rfl rfl (by simp) (by simp))
 | global g=>
  obtain⟨cs,h1,rfl⟩:=ζf.1 h;exact .c _ _ (r.gl g cs h1)
theorem nD {I:ct} {μ:Mu} {n:Nat} {F:Frame} {a:Act} (r:dV I μ n F a.tmps):∀{l:List Operand} {xs:List V},eZ F l=some xs->cF I μ xs (l.map a.eval):=by
 intro l
 induction l with
 | nil=>intro xs h;simp[eZ]at h;subst h;exact .nil
 | cons o l u=>
  intro xs h;simp[eZ]at h;split at h
  .rename_i v z h1 w;simp  at h;subst h;exact .cons (di r h1) (u w)
  grind
theorem Kx {I:ct} {μ:Mu} {n:Nat} {F:Frame} {a:Act} (r:dV I μ n F a.tmps):∀{l:List (Nat×Operand)} {xs:List (Nat×V)},mg F l=some xs ->
 xs.length=l.length/\∀(j:Nat) x y,xs[j]? = some x->l[j]? = some y->x.1=y.1/\bF I μ x.2 (a.eval y.2):=by
 intro l
 induction l with
 | nil=>intro xs h;simp[mg]at h;grind
 | cons o l z=>
  intro xs h;simp[mg]at h;split at h
  .rename_i v C h1 A;simp  at h;subst h;obtain⟨B,hr⟩:=z A;refine⟨by simp[B],λj x y u w=>?_⟩
   cases j with
   | zero=>simp at u w;subst u;subst w;exact⟨rfl,di r h1⟩
   | succ j=>grind
  grind
end Go.VE
namespace Go.VE
variable [bS]
def lY:TypeDesc->TK
 | .bool=>.bool
 | .int k=>.int k
 | .string=>.str
 | .pointer e=>.ptr e
 | .slice e=>.slice e
 | .struct fs=>.struct (fs.toList.map λf=>(f.offset,f.type))
 | .array n e=>.array n e
 | .map k e=>.map k e
 | _=>.other
def C9:Value->Bool
 | .agg _=>true
 | _=>false
def vN (P:Program) (t:TypeId):Option TD:=
 match P.info? t,P.underlying t with
 | some i,some d=>match i.zero with
  | some z=>match z.cells.toList.mapM (ofValue 4)with
   | some cs=>if cs.length=i.size/\cs.all V.one=true/\C9 z=(TD.mk i.size i.bytes cs (lY d)).agg then some ⟨i.size,i.bytes,cs,lY d⟩else none
   | none=>none
  | none=>none
 | _,_=>none
def ic (a:List Int):Array Value:=(a.map (Value.int .i64)).toArray
structure vZ (P:Program) (t:TypeId) (n:Nat):Prop where
 eq:∀(w:World) (x y:Operand) (a b:List Int),a.length=n->b.length=n ->
  (do eqGuard .eql t x y (.agg (ic a)) (.agg (ic b));binOp .eql t (.agg (ic a)) (.agg (ic b))).run P w=.ok (.bool (a==b)) w
 ne:∀(w:World) (x y:Operand) (a b:List Int),a.length=n->b.length=n ->
  (do eqGuard .neq t x y (.agg (ic a)) (.agg (ic b));binOp .neq t (.agg (ic a)) (.agg (ic b))).run P w=.ok (.bool !(a==b)) w
 key:∀(w:World) (a b:List Int),a.length=n->b.length=n->(Op.equal t (.agg (ic a)) (.agg (ic b))).run P w=.ok (a==b) w
 check:∀(w:World) (e:Bool) (a:List Int),a.length=n->(Instr.checkKey e 10000 t (.agg (ic a))).run P w=.ok () w
 kind:∃d,P.underlying t=some d/\((∃n e,d=.array n e)\/(∃fs,d=.struct fs))
structure ey (P:Program) (E:Env):Prop where
 tt:∀t d,E.tt t=some d->vN P t=some d
 ft:∀f fi,E.ft f=some fi->∃fn,P.funcs[f]? = some fn/\fn.body=some fi.body/\fn.ntmps=fi.ntmps/\fn.results.toList=fi.results/\(fn.name == "runtime.NumGoroutine")=false
 eqN:∀t n,E.eqN t=some n->vZ P t n
structure pG (P:Program) (t:TypeId) (d:TD):Prop where
 info:∃i z,P.info? t=some i/\i.size=d.size/\i.bytes=d.bytes/\i.zero=some z/\(∀I μ,cF I μ d.zero z.cells.toList)/\d.zero.length=d.size/\d.zero.all V.one=true/\C9 z=d.agg
 und:∃desc,P.underlying t=some desc/\lY desc=d.kind
theorem PD {I:ct} {μ:Mu}:∀(l:List Value) (ys:List V),l.mapM (ofValue 4)=some ys->cF I μ ys l:=by
 intro l
 induction l with
 | nil=>intro ys h;simp at h;subst h;exact .nil
 | cons v l u=>
  intro ys h;simp only[List.mapM_cons,Option.pure_def,Option.bind_eq_bind,ζg,ζa]at h;obtain⟨y,w,z,A,rfl⟩:=h;exact .cons (.c _ _ (A9 4 _ _ w)) (u z A)
theorem ey.ty {P:Program} {E:Env} (h:ey P E) {t:TypeId} {d:TD} (B:E.tt t=some d):pG P t d:=by
 have:=h.tt t d B;unfold vN at this;split at this
 .rename_i i desc hi hd;split at this
  .rename_i z u;split at this
   .rename_i cs hc;split at this
    .rename_i w;simp only[ζa]at this;subst this;exact⟨⟨i,z,hi,rfl,rfl,u,λI μ=>PD _ _ hc,w⟩,⟨desc,hd,rfl⟩⟩
    .simp at this
   .simp at this
  .simp at this
 .simp at this
section runs
variable {P:Program} {w:World} {t:TypeId} {d:TD}
theorem dF {desc:TypeDesc} (h:P.underlying t=some desc):(underlying t).run P w=.ok desc w:=by simp[underlying,h]
theorem oD {i:TypeInfo} (h:P.info? t=some i):(typeInfo t).run P w=.ok i w:=by simp[typeInfo,h]
theorem pG.kg (h:pG P t d):(sizeOf t).run P w=.ok d.size w:=by
 obtain⟨i,z,hi,u,_⟩:=h.info;simp[sizeOf,oD hi,u]
theorem pG.dF (h:pG P t d):∃desc,P.underlying t=some desc/\lY desc=d.kind/\∀w,(underlying t).run P w=.ok desc w:=by
 obtain⟨desc,h1,u⟩:=h.und;exact⟨desc,h1,u,λw=>VE.dF h1⟩
theorem pG.Kd (h:pG P t d):(isAgg t).run P w=.ok d.agg w:=by
 obtain⟨desc,h1,u⟩:=h.und;unfold isAgg;simp only[Sem.run_bind,VE.dF h1,Result.andThen_ok];cases desc <;> simp[TD.agg,<-u,lY]
theorem pG.CZ (h:pG P t d):∃z,(∀w,(zeroValue t).run P w=.ok z w)/\(∀I μ,cF I μ d.zero z.cells.toList)/\d.zero.length=d.size/\d.zero.all V.one=true:=by
 obtain⟨i,z,hi,_,_,u,hr,A,h1,_⟩:=h.info;exact⟨z,λw=>by simp[zeroValue,oD hi,u],hr,A,h1⟩
end runs
theorem pG.Sk {P:Program} {t:TypeId} {d:TD} (h:pG P t d):∃z,(∀w,(zeroValue t).run P w=.ok z w)/\∀I μ x,VE.mk d.agg d.zero=some x->bF I μ x z:=by
 obtain⟨i,z,hi,_,_,C,hr,D,h1,u⟩:=h.info;refine⟨z,λw=>by simp[zeroValue,oD hi,C],λI μ x B=>?_⟩
 have A:=hr I μ
 cases hd:d.agg with
 | true=>
  rw[hd]at B u;cases z <;> simp[C9]at u;simp only[VE.mk,if_true,ζa]at B;subst B;exact .FV (by simpa [Value.cells]using A)
 | false=>
  rw[hd]at B u;simp only[VE.mk,Bool.false_eq_true,if_false]at B;split at B
  .rename_i v hv;simp only[ζa]at B;subst B;rw[hv]at A;have e:z.cells.toList=[z]:=by cases z <;> first|rfl|simp[C9]at u
   rw[e]at A;exact A.2 0 _ _ rfl rfl
  .simp at B
theorem fD {E:Env} {t:TypeId} {k:TK} (h:E.kindOf t=some k):∃d,E.tt t=some d/\d.kind=k:=by
 unfold Env.kindOf at h;simpa [ζf]using h
theorem CU {d:TypeDesc} {k:IntKind} (h:lY d=.int k):d=.int k:=by cases d <;> simp_all [lY]
theorem Jo {d:TypeDesc} (h:lY d=.bool):d=.bool:=by cases d <;> simp_all [lY]
theorem zP {d:TypeDesc} (h:lY d=.str):d=.string:=by cases d <;> simp_all [lY]
theorem jl {d:TypeDesc} {e:TypeId} (h:lY d=.slice e):d=.slice e:=by cases d <;> simp_all [lY]
theorem B7 {d:TypeDesc} {n:Nat} {e:TypeId} (h:lY d=.array n e):d=.array n e:=by cases d <;> simp_all [lY]
theorem zp {d:TypeDesc} {k e:TypeId} (h:lY d=.map k e):d=.map k e:=by cases d <;> simp_all [lY]
theorem zN {d:TypeDesc} {fs:List (Nat×TypeId)} (h:lY d=.struct fs):∃B,d=.struct B/\fs=B.toList.map λf=>(f.offset,f.type):=by
 cases d <;> simp_all [lY]
theorem AE {I:ct} {μ:Mu} {cs r:List V} {vs:List Value} {off n:Nat} (h:cF I μ cs vs) (hc:cut cs off n=some r) :
 cF I μ r ((vs.drop off).take n)/\r.length=n/\off+n<=cs.length\/(n=0/\r=[]):=by
 unfold cut at hc;simp only at hc;split at hc
 .rename_i u;simp only[ζa]at hc;subst hc
  by_cases w:n=0
  .right;subst w;simp
  .left;refine⟨(h.drop off).take n,u,?_⟩;simp at u;omega
 .simp at hc
theorem MY {I:ct} {μ:Mu} {cs:List V} {x:V} {vs:Array Value} (h:mk true cs=some x) (r:cF I μ cs vs.toList):bF I μ x (.agg vs):=by
 simp only[mk,if_true,ζa]at h;subst h;exact .FV r
theorem mk_one {I:ct} {μ:Mu} {cs:List V} {x:V} {vs:List Value} (h:mk false cs=some x) (r:cF I μ cs vs):∃v,vs=[v]/\bF I μ x v:=by
 simp only[mk,Bool.false_eq_true,if_false]at h;split at h
 .simp only[ζa]at h;subst h;obtain⟨v,u,rfl,hv,hr⟩:=r.cons_inv;exact⟨v,by rw[hr.vu],hv⟩
 .simp at h
theorem Hj {P:Program} {w:World} {I:ct} {μ:Mu} {t:TypeId} {d:TD} {cs r:List V} {vs:Array Value} {x:V} {off:Nat} (D:pG P t d) (h:cF I μ cs vs.toList)
 (hc:cut cs off d.size=some r) (B:mk d.agg r=some x):∃u,(part t vs off).run P w=.ok u w/\bF I μ x u:=by
 unfold part;simp only[Sem.run_bind,D.Kd,Result.andThen_ok]
 cases z:d.agg with
 | true=>
  rw[z]at B;refine⟨.agg (vs.extract off (off+d.size)),by simp[D.kg],?_⟩
  refine MY B ?_;have e:(vs.extract off (off+d.size)).toList=(vs.toList.drop off).take d.size:=by simp
  rw[e];rcases AE h hc with⟨a,_⟩|⟨h0,rfl⟩
  .exact a
  .rw[h0];exact .nil
 | false=>
  rw[z]at B;rcases AE h hc with⟨a,C,_⟩|⟨h0,rfl⟩
  .obtain⟨v,hv,A⟩:=mk_one B a;refine⟨v,?_,A⟩;have hd:d.size=1:=by
    have:=a.1;rw[hv]at this;simp at this;omega
   rw[hd]at hv;have:vs[off]? = some v:=by
    have:=congrArg (·[0]?) hv;simpa [List.getElem?_take,List.getElem?_drop]using this
   simp[this]
  .simp[mk]at B
theorem Ld {I:ct} {μ:Mu}:∀(az:List V) (a:List Int) (B:List Value),ir az=some a->cF I μ az B->B=a.map (Value.int .i64)/\a.length=az.length:=by
 intro az
 induction az with
 | nil=>intro a B h u;simp only[ir,ζa]at h;subst h;rw[u.vu];simp
 | cons x az w=>
  intro a B h u;obtain⟨v,B,rfl,hv,hr⟩:=u.cons_inv;have z:∃y,x=.int .i64 y:=by
   cases x with
   | int k y=>cases k <;> simp[ir]at h ⊢
   | _=>simp[ir]at h
  obtain⟨y,rfl⟩:=z;simp only[ir,ζf]at h;obtain⟨b,A,rfl⟩:=h;obtain⟨g1,g2⟩:=w _ _ A hr;have:=hv.fu;subst this;exact⟨by simp[g1],by simp[g2]⟩
theorem qe {I:ct} {μ:Mu} {az:List V} {a:List Int} {B:Array Value} (h:ir az=some a) (D:cF I μ az B.toList):B=ic a/\a.length=az.length:=by
 obtain⟨h1,u⟩:=Ld _ _ _ h D;refine⟨?_,u⟩;have:=congrArg List.toArray h1;simpa [ic]using this
theorem xz {az B:List V} {r:Bool} (h:kG az B=some r):∃a b,ir az=some a/\ir B=some b/\a.length=b.length/\r=(a==b):=by
 unfold kG at h;split at h
 .rename_i a b h1 u;split at h
  .rename_i w;simp only[ζa]at h;exact⟨a,b,h1,u,w,h.symm⟩
  .simp at h
 .simp at h
end Go.VE
namespace Go.VE
variable [bS]
section
variable {P:Program} {E:Env} {I:ct} {μ:Mu} {n:Nat} {F:Frame} {a:Act} {w:World}
theorem L4 (f:BinOp) (t:TypeId) (p q:Operand) (k B:IntKind) (m m':Int):(eqGuard f t p q (.int k m) (.int B m')).run P w=.ok () w:=by
 unfold eqGuard;cases f <;> simp
theorem M6 (f:BinOp) (t:TypeId) (p q:Operand) (s B:ByteArray):(eqGuard f t p q (.string s) (.string B)).run P w=.ok () w:=by
 unfold eqGuard;cases f <;> simp
theorem Kb (f:BinOp) (t:TypeId) (p q:Operand) (s B:Bool):(eqGuard f t p q (.bool s) (.bool B)).run P w=.ok () w:=by
 unfold eqGuard;cases f <;> simp
theorem H6 (d:Nat) {t:TypeId} (x y:Bool) (h:P.underlying t=some .bool):(Op.equalIn (d+1) t (.bool x) (.bool y)).run P w=.ok (x==y) w:=by
 simp only[Op.equalIn,Sem.run_bind,dF h,Result.andThen_ok,Sem.run_pure]
theorem Cx {t:TypeId} (x y:Bool) (h:P.underlying t=some .bool):(Op.equal t (.bool x) (.bool y)).run P w=.ok (x==y) w:=
 H6 9999 x y h
theorem Bj (d:Nat) {t:TypeId} {k:IntKind} (x y:Int) (h:P.underlying t=some (.int k)):(Op.equalIn (d+1) t (.int k x) (.int k y)).run P w=.ok (x==y) w:=by
 simp only[Op.equalIn,Sem.run_bind,dF h,Result.andThen_ok,Sem.run_pure,if_true]
theorem Fv (d:Nat) {t e:TypeId} (B:Option Addr) (l c:Nat) (h:P.underlying t=some (.slice e)):(Op.equalIn (d+1) t (.slice B l c) (.slice none 0 0)).run P w=.ok B.isNone w:=by
 cases B <;> simp only[Op.equalIn,Sem.run_bind,dF h,Result.andThen_ok,Sem.run_pure] <;> rfl
theorem I_ (d:Nat) {t e:TypeId} (B:Option Addr) (h:P.underlying t=some (.pointer e)):(Op.equalIn (d+1) t (.pointer B) (.pointer none)).run P w=.ok B.isNone w:=by
 cases B <;> simp only[Op.equalIn,Sem.run_bind,dF h,Result.andThen_ok,Sem.run_pure] <;> rfl
theorem IL (d:Nat) {t e D:TypeId} (B:Option Nat) (h:P.underlying t=some (.map e D)):(Op.equalIn (d+1) t (.map B) (.map none)).run P w=.ok B.isNone w:=by
 cases B <;> simp only[Op.equalIn,Sem.run_bind,dF h,Result.andThen_ok,Sem.run_pure] <;> rfl
theorem EW (U:ey P E) {t:TypeId} {k:TK} {x y:V} {u v:Value} {b:Bool} (hk:E.kindOf t=some k) (h:uD k x y=some b) (B:bF I μ x u) (D:bF I μ y v) :
 (Op.equal t u v).run P w=.ok b w/\(∀op p q,(eqGuard op t p q u v).run P w=.ok () w)/\binOp .eql t u v=(do pure (.bool (<-Op.equal t u v)))/\binOp .neq t u v=(do pure (.bool (!(<-Op.equal t u v)))):=by
 obtain⟨d,hd,L⟩:=fD hk;obtain⟨desc,h1,A,_⟩:=(U.ty hd).dF;rw[L]at A;have hsl:∀(e:TypeId) (z:Option Addr) (l c:Nat),P.underlying t=some (.slice e)->b=z.isNone ->
  (Op.equal t (.slice z l c) (.slice none 0 0)).run P w=.ok b w/\(∀op p q,(eqGuard op t p q (.slice z l c) (.slice none 0 0)).run P w=.ok () w)/\binOp .eql t (.slice z l c) (.slice none 0 0)=(do pure (.bool (<-Op.equal t (.slice z l c) (.slice none 0 0))))/\binOp .neq t (.slice z l c) (.slice none 0 0)=(do pure (.bool (!(<-Op.equal t (.slice z l c) (.slice none 0 0))))):=by
  intro e z l c hu J;refine⟨?_,λop p q=>by unfold eqGuard;cases op <;> simp,rfl,rfl⟩
  rw[J];exact Fv 9999 z l c hu
 have C:∀(e:TypeId) (z:Option Addr),P.underlying t=some (.pointer e)->b=z.isNone ->
  (Op.equal t (.pointer z) (.pointer none)).run P w=.ok b w/\(∀op p q,(eqGuard op t p q (.pointer z) (.pointer none)).run P w=.ok () w)/\binOp .eql t (.pointer z) (.pointer none)=(do pure (.bool (<-Op.equal t (.pointer z) (.pointer none))))/\binOp .neq t (.pointer z) (.pointer none)=(do pure (.bool (!(<-Op.equal t (.pointer z) (.pointer none))))):=by
  intro e z hu J;refine⟨?_,λop p q=>by unfold eqGuard;cases op <;> simp,rfl,rfl⟩
  rw[J];exact I_ 9999 z hu
 have G:∀(e Q:TypeId) (z:Option Nat),P.underlying t=some (.map e Q)->b=z.isNone ->
  (Op.equal t (.map z) (.map none)).run P w=.ok b w/\(∀op p q,(eqGuard op t p q (.map z) (.map none)).run P w=.ok () w)/\binOp .eql t (.map z) (.map none)=(do pure (.bool (<-Op.equal t (.map z) (.map none))))/\binOp .neq t (.map z) (.map none)=(do pure (.bool (!(<-Op.equal t (.map z) (.map none))))):=by
  intro e Q z hu J;refine⟨?_,λop p q=>by unfold eqGuard;cases op <;> simp,rfl,rfl⟩
  rw[J];exact IL 9999 z hu
 unfold uD at h;split at h <;> (try (simp only[ζa]at h;subst h))
 .have:=jl A;subst this;rw[B.lU,D.lU];exact hsl _ none 0 0 h1 rfl
 .have:=jl A;subst this;rw[D.lU];have S:=B.lW
  cases S with
  | fsl0 _ z cap=>exact hsl _ _ _ _ h1 rfl
  | fsl=>exact hsl _ _ _ _ h1 rfl
 .have:=jl A;subst this;rw[D.lU];rcases B.lQ with⟨p,cap,_,_,_,_,O⟩|⟨_,z,O⟩
  .rw[O];exact hsl _ _ _ _ h1 rfl
  .rw[O];exact hsl _ _ _ _ h1 rfl
 .obtain⟨e,rfl⟩:∃e,desc=.pointer e:=by cases desc <;> simp_all [lY]
  cases B with|c _ _ B=>cases B;cases D with|c _ _ D=>cases D;exact C _ none h1 rfl
 .obtain⟨e,rfl⟩:∃e,desc=.pointer e:=by cases desc <;> simp_all [lY]
  cases D with|c _ _ D=>cases D;cases B with|c _ _ B=>cases B;exact C _ _ h1 rfl
 .obtain⟨e,rfl⟩:∃e,desc=.pointer e:=by cases desc <;> simp_all [lY]
  cases D with
  | c _ _ D=>
   cases D
   cases B with
   | c _ _ B=>cases B
   | hptr=>exact C _ _ h1 rfl
 .have:=zp A;subst this;cases B with|c _ _ B=>cases B;cases D with|c _ _ D=>cases D;exact G _ _ none h1 rfl
 .have:=zp A;subst this;cases D with|c _ _ D=>cases D;cases B with|c _ _ B=>cases B;exact G _ _ _ h1 rfl
 .have:=zp A;subst this
  cases D with
  | c _ _ D=>
   cases D
   cases B with
   | c _ _ B=>cases B
   | hmap=>exact G _ _ _ h1 rfl
 .cases h
theorem SU (G:ey P E) {op:BinOp} {t:TypeId} {x y z:V} {u v:Value} (p q:Operand) (h:G3 E op t x y=some z) (J:bF I μ x u) (U:bF I μ y v) :
 ∃r,(do eqGuard op t p q u v;binOp op t u v).run P w=.ok r w/\bF I μ z r:=by
 unfold G3 at h;split at h
 .
  rename_i k m Z m';rw[J.fu,U.fu];simp only[Sem.run_bind,L4,Result.andThen_ok];split at h
  .
   split at h
   .simp at h
   .rename_i A;simp only[ζa]at h;subst h;exact⟨_,by simp[binOp,Op.shift,A],.c _ _ (.int _ _)⟩
  .split at h
   .simp at h
   .rename_i A;simp only[ζa]at h;subst h;exact⟨_,by simp[binOp,Op.shift,A],.c _ _ (.int _ _)⟩
  .split at h
   .rename_i S T hk;subst hk
    cases op with
    | shl=>exact absurd rfl S
    | shr=>exact absurd rfl T
    | add=>simp only[ζa]at h;subst h;exact⟨_,by simp[binOp,Op.intArith],.c _ _ (.int _ _)⟩
    | sub=>simp only[ζa]at h;subst h;exact⟨_,by simp[binOp,Op.intArith],.c _ _ (.int _ _)⟩
    | mul=>simp only[ζa]at h;subst h;exact⟨_,by simp[binOp,Op.intArith],.c _ _ (.int _ _)⟩
    | quo=>
     simp only at h;split at h
     .simp at h
     .rename_i A;simp only[ζa]at h;subst h;exact⟨_,by simp[binOp,Op.intDiv,A],.c _ _ (.int _ _)⟩
    | rem=>
     simp only at h;split at h
     .simp at h
     .rename_i A;simp only[ζa]at h;subst h;exact⟨_,by simp[binOp,Op.intDiv,A],.c _ _ (.int _ _)⟩
    | and=>simp only[ζa]at h;subst h;exact⟨_,by simp[binOp,Op.intBits],.c _ _ (.int _ _)⟩
    | or=>simp only[ζa]at h;subst h;exact⟨_,by simp[binOp,Op.intBits],.c _ _ (.int _ _)⟩
    | xor=>simp only[ζa]at h;subst h;exact⟨_,by simp[binOp,Op.intBits],.c _ _ (.int _ _)⟩
    | andNot=>simp only[ζa]at h;subst h;exact⟨_,by simp[binOp,Op.intBits],.c _ _ (.int _ _)⟩
    | eql=>simp only[qG,Option.map_some,ζa]at h;subst h;exact⟨_,by simp[binOp,Op.intCmp],.c _ _ (.bool _)⟩
    | neq=>simp only[qG,Option.map_some,ζa]at h;subst h;exact⟨_,by simp[binOp,Op.intCmp],.c _ _ (.bool _)⟩
    | lss=>simp only[qG,Option.map_some,ζa]at h;subst h;exact⟨_,by simp[binOp,Op.intCmp],.c _ _ (.bool _)⟩
    | leq=>simp only[qG,Option.map_some,ζa]at h;subst h;exact⟨_,by simp[binOp,Op.intCmp],.c _ _ (.bool _)⟩
    | gtr=>simp only[qG,Option.map_some,ζa]at h;subst h;exact⟨_,by simp[binOp,Op.intCmp],.c _ _ (.bool _)⟩
    | geq=>simp only[qG,Option.map_some,ζa]at h;subst h;exact⟨_,by simp[binOp,Op.intCmp],.c _ _ (.bool _)⟩
   .simp at h
 .
  rename_i s s';rw[J.tj,U.tj];simp only[Sem.run_bind,M6,Result.andThen_ok];split at h
  .split at h
   .simp at h
   .rename_i A;simp only[ζa]at h;subst h;exact⟨_,by simp only[binOp,Op.stringOp];rw[if_neg A];rfl,.c _ _ (.str _)⟩
  all_goals first
   | (simp only[ζa]at h;subst h;exact⟨_,by simp[binOp,Op.stringOp],.c _ _ (.bool _)⟩)
   | simp at h
 .
  rename_i b b';rw[J.rm,U.rm];simp only[Sem.run_bind,Kb,Result.andThen_ok];split at h
  .rename_i hk;obtain⟨d,hd,C⟩:=fD hk;obtain⟨desc,h1,B,_⟩:=(G.ty hd).dF;rw[C]at B;have:=Jo B;subst this;simp only[ζa]at h;subst h;exact⟨_,by simp only[binOp,Sem.run_bind,Cx _ _ h1,Result.andThen_ok,Sem.run_pure],.c _ _ (.bool _)⟩
  .rename_i hk;obtain⟨d,hd,C⟩:=fD hk;obtain⟨desc,h1,B,_⟩:=(G.ty hd).dF;rw[C]at B;have:=Jo B;subst this;simp only[ζa]at h;subst h;exact⟨_,by simp only[binOp,Sem.run_bind,Cx _ _ h1,Result.andThen_ok,Sem.run_pure],.c _ _ (.bool _)⟩
  .simp at h
 .
  rename_i az bs;obtain⟨va,rfl,L⟩:=J.iB;obtain⟨vb,rfl,O⟩:=U.iB;split at h
  .rename_i m D;split at h
   .rename_i Y;simp only[ζf]at h;obtain⟨r,hr,rfl⟩:=h;obtain⟨W,X,h1,B,Q,rfl⟩:=xz hr;obtain⟨rfl,e1⟩:=qe h1 L;obtain⟨rfl,e2⟩:=qe B O;exact⟨_,(G.eqN _ _ D).eq w p q W X (by omega) (by omega),.c _ _ (.bool _)⟩
   .simp at h
  .rename_i m D;split at h
   .rename_i Y;simp only[ζf]at h;obtain⟨r,hr,rfl⟩:=h;obtain⟨W,X,h1,B,Q,rfl⟩:=xz hr;obtain⟨rfl,e1⟩:=qe h1 L;obtain⟨rfl,e2⟩:=qe B O;exact⟨_,(G.eqN _ _ D).ne w p q W X (by omega) (by omega),.c _ _ (.bool _)⟩
   .simp at h
  .simp at h
 .
  split at h
  .rename_i k hk;simp only[ζf]at h;obtain⟨b,A,rfl⟩:=h;obtain⟨h1,B,Q,_⟩:=EW (w:=w) G hk A J U;exact⟨.bool b,by rw[Sem.run_bind,B,Q];simp[Result.andThen,h1],.c _ _ (.bool _)⟩
  .rename_i k hk;simp only[ζf]at h;obtain⟨b,A,rfl⟩:=h;obtain⟨h1,B,_,Q⟩:=EW (w:=w) G hk A J U;exact⟨.bool !b,by rw[Sem.run_bind,B,Q];simp[Result.andThen,h1],.c _ _ (.bool _)⟩
  .simp at h
end
end Go.VE
namespace Go.VE
variable [bS]
section
variable {P:Program} {E:Env} {I:ct} {μ:Mu} {n:Nat} {F:Frame} {a:Act} {w:World}
theorem IQ (off:Nat):∀(l:List Value) (k:Nat) (cells:Array Value),off+k+l.length<=cells.size ->
 ((l.zipIdx k).foldl (λcs (p:Value×Nat)=>cs.setIfInBounds (off+p.2) p.1) cells).toList=cells.toList.take (off+k)++l++cells.toList.drop (off+k+l.length):=by
 intro l
 induction l with
 | nil=>simp_all
 | cons v l u=>
  intro k cells h;simp  at h;simp;rw[u (k+1) _ (by simp;omega)]
  simp;rw[show off+(k+1)=off+k+1 from by omega,List.take_succ_eq_append_getElem (by grind)]
  rw[List.take_set_of_le (by omega),List.getElem_set_self]
  rw[List.drop_set_of_lt (by omega)]
  grind
theorem KJ {cs xs:List V} {cells:Array Value} {v:Value} {off:Nat} (h:cF I μ cs cells.toList) (B:cF I μ xs v.cells.toList) (D:off+xs.length<=cs.length) :
 cF I μ (cs.take off++xs++cs.drop (off+xs.length)) (v.cells.zipIdx.foldl (λcs (p:Value×Nat)=>cs.setIfInBounds (off+p.2) p.1) cells).toList:=by
 have e:v.cells.zipIdx.foldl (λcs p=>cs.setIfInBounds (off+p.2) p.1) cells=(v.cells.toList.zipIdx 0).foldl (λcs p=>cs.setIfInBounds (off+p.2) p.1) cells:=by
  rw[<-Array.foldl_toList];simp
 have h1:=h.1;have u:=B.1;rw[e,IQ off _ 0 _ (by grind)]
 rw[<-u];exact((h.take off).append B).append (h.drop _)
theorem Bz {place place':Nat->Option (Nat×Nat)} (hp:∀i p,place i=some p->place' i=some p):∀(vs:List (Nat×V)) (B:List (Nat×Value)) (cs r:List V) (cells:Array Value),
 vs.length=B.length->(∀(j:Nat) x y,vs[j]? = some x->B[j]? = some y->x.1=y.1/\bF I μ x.2 y.2)->cF I μ cs cells.toList->tV place cs vs=some r ->
 ∃D,Instr.fill place' cells B=some D/\cF I μ r D.toList:=by
 intro vs
 induction vs with
 | nil=>
  intro B cs r cells J _ hc w
  cases B with
  | nil=>simp[tV]at w;subst w;exact⟨cells,rfl,hc⟩
  | cons _ _=>simp_all
 | cons x vs O=>
  intro B cs r cells J hr hc w
  cases B with
  | nil=>simp_all
  | cons y B=>
   obtain⟨i,x⟩:=x;obtain⟨Q,y⟩:=y;obtain⟨A,z⟩:=hr 0 (i,x) (Q,y) rfl rfl;subst A;simp only at z;simp only[tV]at w;split at w
   .simp at w
   .rename_i off size C;split at w
    .simp at w
    .rename_i S;have u:=z.cells;have L:x.cells.length=y.cells.size:=by simpa using u.1
     have T:cs.length=cells.size:=by simpa using hc.1
     have G:¬(decide (y.cells.size≠size)||decide (off+y.cells.size>cells.size))=true:=by
      grind
     simp  at S;obtain⟨D,h1,U⟩:=O B _ r _ (by simpa using J) (λj a b p q=>hr (j+1) a b (by simpa using p) (by simpa using q)) (KJ hc u (by omega)) w
     refine⟨D,?_,U⟩;simp only[Instr.fill,hp _ _ C];rw[if_neg G];omega
theorem L8 (ps:Array (Nat×Operand)) (f:Operand->Value):(ps.map λ(i,x)=>(i,f x)).toList=ps.toList.map λp=>(p.1,f p.2):=by simp
theorem EX {ps:Array (Nat×Operand)} {vs:List (Nat×V)} (r:dV I μ n F a.tmps) (h:mg F ps.toList=some vs) :
 vs.length=(ps.map λ(i,x)=>(i,a.eval x)).toList.length/\∀(j:Nat) x y,vs[j]? = some x->(ps.map λ(i,x)=>(i,a.eval x)).toList[j]? = some y->x.1=y.1/\bF I μ x.2 y.2:=by
 obtain⟨u,hr⟩:=Kx r h;rw[L8]
 grind
theorem NI (D:ey P E):∀(B:List Field) (pl:List (Nat×Nat)),m_ E (B.map λf=>(f.offset,f.type))=some pl ->
 ((B.mapM λf=>do pure (f.offset,<-sizeOf f.type)):Sem (List (Nat×Nat))).run P w=.ok pl w:=by
 intro B
 induction B with
 | nil=>intro pl h;simp[m_]at h;simp_all
 | cons f B z=>
  intro pl h;simp[m_]at h;split at h
  .rename_i d A hd u;simp  at h;subst h;have:=z _ u;simp only[List.mapM_cons,Sem.run_bind,(D.ty hd).kg,Result.andThen_ok,Sem.run_pure,this]
  grind
theorem K9 (D:ey P E) (B:Array Field) (pl:List (Nat×Nat)) (h:m_ E (B.toList.map λf=>(f.offset,f.type))=some pl) :
 ((B.mapM λf=>do pure (f.offset,<-sizeOf f.type)):Sem (Array (Nat×Nat))).run P w=.ok pl.toArray w:=by
 rw[Array.mapM_eq_mapM_toList];simp only[Sem.run_map,NI D _ _ h,Result.andThen_ok]
theorem O4 (B:ey P E) (r:dV I μ n F a.tmps) {t:TypeId} {ps:Array (Nat×Operand)} {x:V} (h:bJ E F (.build t ps)=some x) :
 ∃v,(Instr.build t (ps.map λ(i,x)=>(i,a.eval x))).run P w=.ok v w/\bF I μ x v:=by
 simp[bJ]at h;split at h
 .rename_i d O hd C;obtain⟨Q,hr⟩:=EX r C;obtain⟨z,T,u,_⟩:=(B.ty hd).CZ;obtain⟨desc,h1,A,U⟩:=(B.ty hd).dF;unfold Instr.build;simp[Sem.run_bind,T,U,Result.andThen_ok];split at h
  .rename_i fs hk;rw[hk]at A;obtain⟨W,rfl,rfl⟩:=zN A;split at h
   .rename_i pl D;simp  at h;obtain⟨cs,G,rfl⟩:=h;obtain⟨J,g1,g2⟩:=Bz (place':=λi=>pl.toArray[i]?) (by grind) O _ d.zero cs z.cells Q hr (u I μ) G
    refine⟨.agg J,?_,.FV g2⟩;have:=K9 (w:=w) B W pl D;simp_all
   grind
  .rename_i e hk;rw[hk]at A;have:=B7 A;subst this;split at h
   .rename_i S L;simp  at h;obtain⟨cs,G,rfl⟩:=h;obtain⟨J,g1,g2⟩:=Bz (place':=λi=>some (i*S.size,S.size)) (by grind) O _ d.zero cs z.cells Q hr (u I μ) G
    refine⟨.agg J,?_,.FV g2⟩;simp[Sem.run_bind,(B.ty L).kg,Result.andThen_ok];simp_all
   grind
  grind
 grind
theorem pR (b o k:Nat):(⟨b,o,none⟩:Addr).add k=⟨b,o+k,none⟩:=by
 unfold Addr.add;grind
theorem Ei {cs:List V} {b o:Nat} {c:Array Value} (k:Nat) (B:I b=some (.cells c)) (D:o+cs.length<=c.size)
 (hr:∀(j:Nat) y u,cs[j]? = some y->c[o+j]? = some u->eu I y u) (hk:k<=cs.length):bF I μ (.fptr (cs.drop k)) (.pointer (some ⟨b,o+k,none⟩)):=
 .c _ _ (.fptr _ b (o+k) c B (by simp;omega) λj y u h1 w=>hr (k+j) y u (by grind) (by grind))
theorem J7 (J:ey P E) (r:dV I μ n F a.tmps) {s:TypeId} {o:Operand} {f:Nat} {x:V} (h:bJ E F (.fieldAddr s o f)=some x) :
 ∃v,(Instr.fieldAt s (a.eval o) f).run P w=.ok v w/\bF I μ x v:=by
 simp[bJ]at h;split at h
 .rename_i fs p hk Q;obtain⟨d,hd,B⟩:=fD hk;obtain⟨desc,h1,L,S⟩:=(J.ty hd).dF;rw[B]at L;obtain⟨T,rfl,rfl⟩:=zN L;have hv:=di r Q;split at h
  .rename_i off t O;simp  at O;obtain⟨fd,U,rfl,rfl⟩:=O;have z:T[f]? = some fd:=by grind
   split at h
   .rename_i Z C;split at h
    .simp_all
    .rename_i D;have A:∀(b u:Nat),(Instr.fieldAt s (.pointer (some ⟨b,u,none⟩)) f).run P w=.ok (.pointer (some ⟨b,u+fd.offset,none⟩)) w:=by
      intro b u;unfold Instr.fieldAt;simp[Sem.run_bind,S,Result.andThen_ok,z,Instr.sureAddr,Sem.run_pure,fieldPlace,(J.ty C).kg,if_neg D,pR]
     split at h
     .split at h
      .rename_i G;simp  at h;subst h;obtain⟨b,u,c,e,W,X,hr⟩:=hv.mh;rw[e];exact⟨_,A b u,Ei _ W X hr G⟩
      grind
     .rename_i id el u;simp  at h;obtain⟨p,Y,e⟩:=hv.sZ;rw[e];have:=bF.hptr (I:=I)  id el (u+fd.offset) p Y
      grind
     grind
   grind
  grind
 grind
theorem P5 (D:ey P E) (r:dV I μ n F a.tmps) {s:TypeId} {o:Operand} {f:Nat} {x:V} (h:bJ E F (.field s o f)=some x) :
 ∃v,(Instr.field s (a.eval o) f).run P w=.ok v w/\bF I μ x v:=by
 simp[bJ]at h;split at h
 .rename_i fs cs hk L;obtain⟨d,hd,A⟩:=fD hk;obtain⟨desc,h1,G,O⟩:=(D.ty hd).dF;rw[A]at G;obtain⟨Q,rfl,rfl⟩:=zN G;obtain⟨X,e,B⟩:=(di r L).iB;rw[e];split at h
  .rename_i off t J;simp  at J;obtain⟨fd,S,rfl,rfl⟩:=J;have z:Q[f]? = some fd:=by grind
   split at h
   .rename_i Y C;simp[ζg]at h;obtain⟨q,T,U⟩:=h;obtain⟨u,hu,W⟩:=Hj (w:=w) (D.ty C) B T U;refine⟨u,?_,W⟩;unfold Instr.field;simp[Sem.run_bind,O,Result.andThen_ok,z,asAgg,Sem.run_pure,hu]
   grind
  grind
 grind
theorem lK (k:IntKind) (m:Int):(asIntOf (.int k m)).run P w=.ok (k,m) w:=rfl
theorem Ko (U:ey P E) (r:dV I μ n F a.tmps) {t:TypeId} {o i:Operand} {x:V} (h:bJ E F (.indexAddr t o i)=some x) :
 ∃v,(Instr.indexAt t (a.eval o) (a.eval i)).run P w=.ok v w/\bF I μ x v:=by
 simp[bJ]at h;split at h
 .
  rename_i e s k m hk T hi;obtain⟨d,hd,D⟩:=fD hk;obtain⟨desc,h1,O,W⟩:=(U.ty hd).dF;rw[D]at O;have:=jl O;subst this;have hv:=di r T;have G:=(di r hi).fu;rw[G];split at h
  .rename_i S J;split at h
   .simp_all
   .have A:∀(b z len cap:Nat),m.toNat<len->(Instr.indexAt t (.slice (some ⟨b,z,none⟩) len cap) (.int k m)).run P w=.ok (.pointer (some ⟨b,z+m.toNat*S.size,none⟩)) w:=by
     intro b z len cap B;unfold Instr.indexAt;have hc:0<=m/\m<(len):=by omega
     simp[Sem.run_bind,lK,W,Result.andThen_ok,Sem.run_pure,(U.ty J).kg,Sem.run_ite,if_pos hc,pR]
    split at h
    .rename_i es X;split at h
     .rename_i C;simp only[ζf]at h;obtain⟨cs,L,rfl⟩:=h;have B:m.toNat<X.length:=(ζe.1 L).1;have hf:=hv.lW;generalize hg:a.eval o=g at hf
      cases hf with
      | fsl0=>simp_all
      | fsl _ _ b z cap c Y hc hu ho Z hr=>
       refine⟨_,A b z _ _ B,?_⟩;have Q:cs∈X:=List.mem_of_getElem? L;have ad:=hu cs Q;have aa:(m.toNat+1)*es<=X.length*es:=Nat.mul_le_mul_right _ B;rw[Nat.add_mul]at aa;rw[<-C];exact .c _ _ (.fptr cs b _ c Y (by omega) λj y u p q=>hr m.toNat j cs y u L p q)
     grind
    .rename_i id es off len;split at h
     .rename_i C;simp only[ζa]at h;obtain⟨C,B⟩:=C;rcases hv.lQ with⟨p,cap,hm,he,hc,Z,e⟩|⟨h0,_⟩
      .rw[e];have:=bF.hptr (I:=I) (μ:=μ) id (off+m.toNat) 0 p hm
       grind
      omega
     grind
    grind
  grind
 .
  rename_i len e p k m hk T hi;obtain⟨d,hd,D⟩:=fD hk;obtain⟨desc,h1,O,W⟩:=(U.ty hd).dF;rw[D]at O;have:=B7 O;subst this;have hv:=di r T;have G:=(di r hi).fu;rw[G];split at h
  .rename_i S J;split at h
   .rename_i hc;have A:∀(b z:Nat),(Instr.indexAt t (.pointer (some ⟨b,z,none⟩)) (.int k m)).run P w=.ok (.pointer (some ⟨b,z+m.toNat*S.size,none⟩)) w:=by
     intro b z;unfold Instr.indexAt;simp only[Sem.run_bind,lK,W,Result.andThen_ok,Sem.run_pure,Instr.sureAddr,(U.ty J).kg,Sem.run_ite,if_pos hc,pR]
    split at h
    .split at h
     .rename_i ab;simp only[ζa]at h;subst h;obtain⟨b,z,c,e,Y,Z,hr⟩:=hv.mh;rw[e];exact⟨_,A b z,Ei _ Y Z hr ab⟩
     grind
    .rename_i id el z;simp only[ζa]at h;obtain⟨p,hm,e⟩:=hv.sZ;rw[e];have:=bF.hptr (I:=I) (μ:=μ) id el (z+m.toNat*S.size) p hm
     grind
    grind
   grind
  grind
 grind
end
end Go.VE
namespace Go.VE
variable [bS]
section
variable {P:Program} {E:Env} {I:ct} {μ:Mu} {n:Nat} {F:Frame} {a:Act} {w:World}
theorem PF (D:ey P E) (r:dV I μ n F a.tmps) {t:TypeId} {o i:Operand} {x:V} (h:bJ E F (.index t o i)=some x) :
 ∃v,(Instr.index t (a.eval o) (a.eval i)).run P w=.ok v w/\bF I μ x v:=by
 simp[bJ]at h;split at h
 .rename_i s k m hk C hi;obtain⟨d,hd,z⟩:=fD hk;obtain⟨desc,h1,A,G⟩:=(D.ty hd).dF;rw[z]at A;have:=zP A;subst this;rw[(di r hi).fu,(di r C).tj];split at h
  .rename_i hc;simp  at h;obtain⟨b,L,rfl⟩:=h;refine⟨.int .u8 b.toNat,?_,.c _ _ (.int _ _)⟩;unfold Instr.index;simp[Sem.run_bind,lK,G,Result.andThen_ok,if_pos hc,L,Sem.run_pure]
  grind
 .rename_i len e cs k m hk C hi;obtain⟨d,hd,z⟩:=fD hk;obtain⟨desc,h1,A,G⟩:=(D.ty hd).dF;rw[z]at A;have:=B7 A;subst this;obtain⟨T,ev,J⟩:=(di r C).iB;rw[(di r hi).fu,ev];split at h
  .rename_i U B;split at h
   .rename_i hc;simp[ζg]at h;obtain⟨q,O,Q⟩:=h;obtain⟨u,hu,S⟩:=Hj (w:=w) (D.ty B) J O Q;refine⟨u,?_,S⟩;unfold Instr.index;simp[Sem.run_bind,lK,G,Result.andThen_ok,Sem.run_ite,if_pos hc,(D.ty B).kg,hu]
   grind
  grind
 grind
theorem Lz (B:ey P E) (r:dV I μ n F a.tmps) {s d:TypeId} {o:Operand} {x:V} (h:bJ E F (.convert s d o)=some x) :
 ∃v,(convert s d (a.eval o)).run P w=.ok v w/\bF I μ x v:=by
 simp[bJ]at h;split at h
 .rename_i D G k m z hd A;split at h
  .rename_i J hk;simp  at h;subst h;obtain⟨d1,g1,_,g3⟩:=(B.ty z).dF;obtain⟨d2,h1,u,C⟩:=(B.ty hd).dF;rw[hk]at u;have:=CU u;subst this;rw[(di r A).fu];refine⟨_,?_,.c _ _ (.int _ _)⟩;unfold convert;simp[Sem.run_bind,g3,C,Result.andThen_ok,Conv.intToInt,Sem.run_pure]
  grind
 grind
theorem pQ (r:dV I μ n F a.tmps) {o:Option Operand} {m:Option Int} (h:jG F o=some m) :
 (m=none/\o.map a.eval=none)\/∃k z,m=some z/\o.map a.eval=some (.int k z):=by
 cases o with
 | none=>simp[jG]at h;grind
 | some x=>
  simp[jG]at h;split at h
  .rename_i k z u;simp  at h;subst h;exact .inr ⟨k,z,rfl,by simp[(di r u).fu]⟩
  grind
theorem mB (k:IntKind) (z:Int) (y:Nat) (code:BoundsCode) (h0:0<=z) (h1:z<=y):(Instr.sliceBound (.int k z) y code).run P w=.ok z.toNat w:=by
 unfold Instr.sliceBound;simp[Sem.run_bind,lK,Result.andThen_ok,if_pos (And.intro h0 h1),Sem.run_pure]
theorem lR (r:dV I μ n F a.tmps) {lo hi:Option Operand} {l h:Option Int} (e1:jG F lo=some l) (e2:jG F hi=some h) (D:Bool) (len cap L H:Nat) (hc:len<=cap)
 (B:dQ len l h=some (L,H)):(Instr.sliceBounds D len cap (lo.map a.eval) (hi.map a.eval) none).run P w=.ok (L,H,cap) w/\L<=H/\H<=len:=by
 unfold dQ at B;simp only at B;split at B
 .rename_i u;obtain⟨rfl,rfl⟩:=B;obtain⟨C,S,G,T⟩:=u;refine⟨?_,by omega,by omega⟩
  unfold Instr.sliceBounds;rcases pQ r e1 with⟨rfl,J⟩|⟨k1,A,rfl,J⟩ <;> rcases pQ r e2 with⟨rfl,O⟩|⟨Q,z,rfl,O⟩ <;>
   simp only[J,O,Option.getD_some]at C S G T ⊢
  .simp_all
  .simp only[Sem.run_pure,Result.andThen_ok,Sem.run_bind,mB Q z _ _ C (show z<=cap by omega)]
   simp
  .simp only[Sem.run_pure,Result.andThen_ok,Sem.run_bind,mB k1 A _ _ G (show A<=len by omega)]
   simp
  .simp[Sem.run_pure,Result.andThen_ok,Sem.run_bind,mB Q z _ _ C (show z<=cap by omega),mB k1 A _ _ G (show A<=z.toNat by omega)]
 grind
theorem D8 {es:Nat} {xs:List (List V)} {v:Value} {L H:Nat} (h:eu I (.fsl es xs) v) (h1:L<=H) (D:H<=xs.length) :
 ∃B len cap,v=.slice B len cap/\len=xs.length/\len<=cap/\eu I (.fsl es ((xs.take H).drop L)) (.slice (if cap=L then B else B.map (·.add (L*es))) (H-L) (cap-L)):=by
 cases h with
 | fsl0 _ B cap=>
  simp at D;have z:L=0:=by omega
  subst D;subst z;refine⟨some B,0,cap,rfl,rfl,Nat.zero_le _,?_⟩;have:=eu.fsl0 (I:=I) es B cap;split
  .grind
  .simpa [Addr.add]using eu.fsl0  es (B.add (0*es)) cap
 | fsl _ _ b o cap c A hc hu C J hr=>
  refine⟨_,_,cap,rfl,rfl,hc,?_⟩;have u:((xs.take H).drop L).length=H-L:=by simp_all
  by_cases G:H-L=0
  .have:(xs.take H).drop L=[]:=List.eq_nil_of_length_eq_zero (by grind)
   rw[this,G];split
   .exact .fsl0 es _ _
   .exact .fsl0 es _ _
  .simp[pR];have e:eu I (.fsl es ((xs.take H).drop L)) (.slice (some ⟨b,o+L*es,none⟩) ((xs.take H).drop L).length (cap-L)):=by
    refine .fsl es _ b (o+L*es) (cap-L) c A (by grind) (λx w=>hu x (List.mem_of_mem_take (List.mem_of_mem_drop w))) (λx w=>C x (List.mem_of_mem_take (List.mem_of_mem_drop w))) ?_ ?_
    .rw[u];have:L*es+(H-L)*es<=xs.length*es:=by rw[<-Nat.add_mul];exact Nat.mul_le_mul_right _ (by omega)
     omega
    grind
   grind
theorem PZ (hE:ey P E) (r:dV I μ n F a.tmps) {t:TypeId} {o:Operand} {lo hi Y:Option Operand} {x:V} (h:bJ E F (.slice t o lo hi Y)=some x) :
 ∃v,(Instr.sliceAt t (a.eval o) (lo.map a.eval) (hi.map a.eval) (Y.map a.eval)).run P w=.ok v w/\bF I μ x v:=by
 simp[bJ]at h;split at h
 .
  rename_i s l hh hk ho T B Q;obtain⟨d,hd,S⟩:=fD hk;obtain⟨desc,h1,X,h3⟩:=(hE.ty hd).dF;rw[S]at X;have:=zP X;rw[(di r ho).tj];simp only[ζf]at h;obtain⟨⟨L,H⟩,D,rfl⟩:=h;obtain⟨g,_,_⟩:=lR (P:=P) (w:=w) r T B false s.size s.size L H (Nat.le_refl _) D;have hm:Y.map a.eval=none:=by rcases pQ r Q with⟨_,q⟩|⟨k,z,e,_⟩;exact q;cases e
  refine⟨.string (s.extract L H),?_,.c _ _ (.str _)⟩;unfold Instr.sliceAt Instr.slice;simp_all
 .rename_i e v l hh hk ho T B Q;obtain⟨d,hd,S⟩:=fD hk;obtain⟨desc,h1,X,h3⟩:=(hE.ty hd).dF;rw[S]at X;have:=jl X;subst this;have hv:=di r ho;have hm:Y.map a.eval=none:=by rcases pQ r Q with⟨_,q⟩|⟨k,z,e,_⟩;exact q;cases e
  have A:∀(C:Option Addr) (len cap L H:Nat) (G:TD),E.tt e=some G->len<=cap->dQ len l hh=some (L,H) ->
   (Instr.sliceAt t (.slice C len cap) (lo.map a.eval) (hi.map a.eval) (Y.map a.eval)).run P w=.ok (.slice (if cap=L then C else C.map (·.add (L*G.size))) (H-L) (cap-L)) w:=by
   intro C len cap L H G u hc D;obtain⟨g,_,_⟩:=lR (P:=P) (w:=w) r T B true len cap L H hc D;unfold Instr.sliceAt Instr.slice;simp[Sem.run_bind,h3,Result.andThen_ok,hm,g,(hE.ty u).kg,Sem.run_pure]
  split at h
  .rename_i G u;split at h
   .rename_i es xs;split at h
    .rename_i Z;simp only[ζf]at h;obtain⟨⟨L,H⟩,D,rfl⟩:=h;obtain⟨_,U,W⟩:=lR (P:=P) (w:=w) r T B true xs.length xs.length L H (Nat.le_refl _) D;obtain⟨C,len,cap,e1,e2,e3,e4⟩:=D8 hv.lW U W;rw[e1];subst e2;refine⟨_,A C _ cap L H G u e3 D,?_⟩;rw[<-Z];exact .c _ _ e4
    grind
   .rename_i id es off len;split at h
    .rename_i Z;simp only[ζf]at h;obtain⟨⟨L,H⟩,D,rfl⟩:=h;obtain⟨_,U,W⟩:=lR (P:=P) (w:=w) r T B true len len L H (Nat.le_refl _) D;rcases hv.lQ with⟨p,cap,aa,he,hc,ab,J⟩|⟨h0,C,J⟩
     .rw[J];refine⟨_,A _ _ cap L H G u hc D,?_⟩
      by_cases hz:cap=L
      .have:H-L=0:=by omega
       rw[if_pos hz,this,show cap-L=0 by omega]
       exact .hsl0 id es (off+L) _
      .rw[if_neg hz];simp only[Option.map_some,pR];rw[<-Z];subst he;have:=bF.hsl (I:=I) (μ:=μ) id (off+L) (H-L) (cap-L) p aa (by omega) (by
        have:off+L+(cap-L)=off+cap:=by omega
        rw[this];exact ab)
       rwa [Nat.add_mul,<-Nat.add_assoc]at this
     .rw[J];subst h0;refine⟨_,A _ _ 0 L H G u (Nat.le_refl _) D,?_⟩;have hL:L=0:=by omega
      have hH:H=0:=by omega
      subst hL;subst hH;simpa using bF.hsl0   id es (off+0) C
    grind
   .simp only[ζf]at h;obtain⟨⟨L,H⟩,D,rfl⟩:=h;obtain⟨_,U,W⟩:=lR (P:=P) (w:=w) r T B true 0 0 L H (Nat.le_refl _) D;obtain⟨C,J⟩:=hv.rO;rw[J];refine⟨_,A C 0 0 L H G u (Nat.le_refl _) D,?_⟩;have hL:L=0:=by omega
    have hH:H=0:=by omega
    subst hL;subst hH;exact .c _ _ (.dA _)
   .simp only[ζf]at h;obtain⟨⟨L,H⟩,D,rfl⟩:=h;obtain⟨_,U,W⟩:=lR (P:=P) (w:=w) r T B true 0 0 L H (Nat.le_refl _) D;have J:=hv.lU;rw[J];refine⟨_,A none 0 0 L H G u (Nat.le_refl _) D,?_⟩;have hL:L=0:=by omega
    have hH:H=0:=by omega
    subst hL;subst hH;exact .c _ _ .bW
   grind
  grind
 .rename_i e v hk ho T B Q;obtain⟨d,hd,S⟩:=fD hk;obtain⟨desc,h1,X,h3⟩:=(hE.ty hd).dF;rw[S]at X;have:=jl X;subst this;have hv:=di r ho;have q1:lo.map a.eval=none:=by rcases pQ r T with⟨_,q⟩|⟨k,z,e,_⟩;exact q;cases e
  obtain⟨k2,q2⟩:∃k,hi.map a.eval=some (.int k 0):=by
   rcases pQ r B with⟨q,_⟩|⟨k,z,e,q⟩
   .cases q
   .cases e;exact⟨k,q⟩
  obtain⟨k3,q3⟩:∃k,Y.map a.eval=some (.int k 0):=by
   rcases pQ r Q with⟨q,_⟩|⟨k,z,e,q⟩
   .cases q
   .cases e;exact⟨k,q⟩
  have A:∀(C:Option Addr) (len cap:Nat) (G:TD),E.tt e=some G->∃O,(Instr.sliceAt t (.slice C len cap) (lo.map a.eval) (hi.map a.eval) (Y.map a.eval)).run P w=.ok (.slice O 0 0) w:=by
   intro C len cap G u;refine⟨C,?_⟩;unfold Instr.sliceAt Instr.slice Instr.sliceBounds;simp only[Sem.run_bind,h3,Result.andThen_ok,q1,q2,q3,mB k3 0 cap _ (Int.le_refl _) (by omega),mB k2 0 _ _ (Int.le_refl _) (by simp),(hE.ty u).kg]
   simp
  split at h
  .rename_i G es xs u;simp  at h;subst h;obtain⟨C,len,cap,e1,_⟩:=D8   hv.lW (Nat.le_refl _) (Nat.zero_le _);rw[e1];obtain⟨O,g⟩:=A C len cap _ u;exact⟨_,g,.c _ _ (.dA _)⟩
  .rename_i G id es off len u;simp  at h;subst h;rcases hv.lQ with⟨p,cap,_,_,_,_,J⟩|⟨_,C,J⟩
   .rw[J];obtain⟨O,g⟩:=A _ _ _ _ u;exact⟨_,g,.c _ _ (.dA _)⟩
   .rw[J];obtain⟨O,g⟩:=A _ _ _ _ u;exact⟨_,g,.c _ _ (.dA _)⟩
  .rename_i G u;simp  at h;subst h;obtain⟨C,J⟩:=hv.rO;rw[J];obtain⟨O,g⟩:=A _ _ _ _ u;exact⟨_,g,.c _ _ (.dA _)⟩
  .rename_i G u;simp only[ζa]at h;subst h;have J:=hv.lU;rw[J];obtain⟨O,g⟩:=A _ _ _ _ u;exact⟨_,g,.c _ _ (.dA _)⟩
  .simp at h
 grind
end
end Go.VE
namespace Go.VE
variable [bS]
section
variable {P:Program} {E:Env} {I:ct} {μ:Mu} {n:Nat} {F:Frame} {a:Act} {w:World}
theorem cF.one {x:V} {vs:List Value} (h:cF I μ [x] vs):∃v,vs=[v]/\bF I μ x v:=by
 obtain⟨v,r,rfl,hv,hr⟩:=h.cons_inv;exact⟨v,by rw[hr.vu],hv⟩
theorem cF.two {x y:V} {vs:List Value} (h:cF I μ [x,y] vs):∃u v,vs=[u,v]/\bF I μ x u/\bF I μ y v:=by
 obtain⟨u,r,rfl,hu,hr⟩:=h.cons_inv;obtain⟨v,rfl,hv⟩:=hr.one;exact⟨u,v,rfl,hu,hv⟩
theorem cF.four {x y z t:V} {vs:List Value} (h:cF I μ [x,y,z,t] vs):∃u v p q,vs=[u,v,p,q]/\bF I μ x u/\bF I μ y v/\bF I μ z p/\bF I μ t q:=by
 obtain⟨u,r,rfl,hu,hr⟩:=h.cons_inv;obtain⟨v,r2,rfl,hv,hr⟩:=hr.cons_inv;obtain⟨p,q,rfl,w,A⟩:=hr.two;exact⟨u,v,p,q,rfl,hu,hv,w,A⟩
theorem rL {args:Array Operand} {l:List Value} (h:args.toList.map a.eval=l):args.map a.eval=l.toArray:=by
 subst h;apply Array.ext';simp
def xm:Option TK->V->Option V
 | some .str,.str s=>some (.int .i64 s.size)
 | some (.slice _),.fsl _ xs=>some (.int .i64 xs.length)
 | some (.slice _),.hsl _ _ _ len=>some (.int .i64 len)
 | some (.slice _),.dA=>some (.int .i64 0)
 | some (.slice _),.bW=>some (.int .i64 0)
 | _,_=>none
theorem Uo (U:ey P E) {t:TypeId} {x z:V} {v:Value} {ty:TypeId} {B:Array TypeId} (D:B[0]? = some t) (G:bF I μ x v)
 (h:xm (E.kindOf t) x=some z):∃u,(Builtin.len_ B ty #[v]).run P w=.ok u w/\bF I μ z u:=by
 cases hk:E.kindOf t with
 | none=>rw[hk]at h;simp[xm]at h
 | some k=>
  rw[hk]at h;obtain⟨d,hd,O⟩:=fD hk;obtain⟨desc,h1,Q,S⟩:=(U.ty hd).dF;rw[O]at Q
  cases k with
  | str=>
   have:=zP Q;subst this
   cases x with
   | str s=>
    simp only[xm,ζa]at h;subst h;rw[G.tj];refine⟨_,?_,.c _ _ (.int _ _)⟩;unfold Builtin.len_;simp[D,S,goInt]
   | _=>simp[xm]at h
  | slice e=>
   have:=jl Q;subst this;have A:∀C (len cap:Nat),(Builtin.len_ B ty #[.slice C len cap]).run P w=.ok (.int .i64 len) w:=by
    intro C len cap;unfold Builtin.len_;simp[D,S,goInt]
   cases x with
   | fsl es T=>
    simp only[xm,ζa]at h;subst h;obtain⟨C,len,cap,e1,e2,_⟩:=D8 (L:=0) (H:=0) G.lW (Nat.le_refl _) (Nat.zero_le _);rw[e1,<-e2];exact⟨_,A _ _ _,.c _ _ (.int _ _)⟩
   | hsl id es off len=>
    simp only[xm,ζa]at h;subst h;rcases G.lQ with⟨p,cap,_,_,_,_,J⟩|⟨h0,C,J⟩
    .rw[J];exact⟨_,A _ _ _,.c _ _ (.int _ _)⟩
    .rw[J,h0];exact⟨_,A _ _ _,.c _ _ (.int _ _)⟩
   | dA=>
    simp only[xm,ζa]at h;subst h;obtain⟨C,J⟩:=G.rO;rw[J];exact⟨_,A _ _ _,.c _ _ (.int _ _)⟩
   | bW=>
    simp only[xm,ζa]at h;subst h;rw[G.lU];exact⟨_,A _ _ _,.c _ _ (.int _ _)⟩
   | _=>simp[xm]at h
  | _=>simp[xm]at h
def TF:Option TK->V->Option V
 | some (.slice _),.bW=>some (.int .i64 0)
 | some (.slice _),.dA=>some (.int .i64 0)
 | _,_=>none
theorem UU (U:ey P E) {t:TypeId} {x z:V} {v:Value} {ty:TypeId} {B:Array TypeId} (D:B[0]? = some t) (G:bF I μ x v)
 (h:TF (E.kindOf t) x=some z):∃u,(Builtin.cap_ B ty #[v]).run P w=.ok u w/\bF I μ z u:=by
 have key:∀e A,E.kindOf t=some (.slice e)->v=.slice A 0 0->(Builtin.cap_ B ty #[v]).run P w=.ok (.int .i64 0) w:=λe A hk hv=>by
  obtain⟨d,hd,C⟩:=fD hk;obtain⟨desc,h1,J,L⟩:=(U.ty hd).dF;rw[C]at J;have:=jl J;subst this;unfold Builtin.cap_;simp[D,L,goInt,hv]
 unfold TF at h;split at h
 .rename_i _ _ e hk;cases h;exact⟨_,key _ _ hk G.lU,.c _ _ (.int _ _)⟩
 .rename_i _ _ e hk;cases h;obtain⟨A,q⟩:=G.rO;exact⟨_,key _ _ hk q,.c _ _ (.int _ _)⟩
 .cases h
theorem dY {s:Sem Value} {v:Value} {w':World} (h:s.run P w=.ok v w'):(do pure (Next.value (<-s)):Sem Next).run P w=.ok (.value v) w':=by
 rw[Sem.run_bind,h];rfl
theorem Sc (D:ey P E) (r:dV I μ n F a.tmps) (o:Oper) {x:V} (h:bJ E F o.op=some x) :
 ∃v,(execOp a.eval o).run P w=.ok (.value v) w/\bF I μ x v:=by
 obtain⟨dst,op,ty,pos,after,guard⟩:=o;simp only at h
 cases op with
 | move y=>exact⟨_,rfl,di r (by simpa [bJ]using h)⟩
 | assign y=>exact⟨_,rfl,di r (by simpa [bJ]using h)⟩
 | pick c y z=>
  simp only[bJ]at h;simp only[execOp];split at h
  .rename_i t hc;have e:=(di r hc).rm;simp only[e,asBool,Sem.run_bind,Sem.run_pure,Result.andThen_ok]
   cases t with
   | true=>simp only[if_true]at h ⊢;exact⟨_,rfl,di r h⟩
   | false=>simp only[Bool.false_eq_true,if_false]at h ⊢;exact⟨_,rfl,di r h⟩
  .simp at h
 | nilCheck y=>
  simp only[bJ]at h;simp only[execOp];split at h
  .rename_i id el off C;simp only[ζa]at h;subst h;have hv:=di r C;obtain⟨p,_,e⟩:=hv.sZ;rw[e]at hv ⊢;exact⟨_,rfl,hv⟩
  .rename_i cs C;simp only[ζa]at h;subst h;have hv:=di r C;obtain⟨b,o,c,e,_⟩:=hv.mh;rw[e]at hv ⊢;exact⟨_,rfl,hv⟩
  .rename_i f u v C;simp only[ζa]at h;subst h;have hv:=di r C;obtain⟨b,c,e,_⟩:=hv.kN;rw[e]at hv ⊢;exact⟨_,rfl,hv⟩
  .simp at h
 | binOp op t y z Y=>
  simp only[bJ]at h;split at h
  .rename_i u v hu hv;obtain⟨q,L,hr⟩:=SU (w:=w) D y z h (di r hu) (di r hv);exact⟨q,dY L,hr⟩
  .simp at h
 | unOp op t y=>
  simp only[bJ]at h;simp only[execOp];split at h
  .rename_i b C;simp only[ζa]at h;subst h;rw[(di r C).rm];exact⟨_,dY (by simp only[Op.unary];rfl),.c _ _ (.bool _)⟩
  .rename_i k m C;simp only[ζa]at h;subst h;rw[(di r C).fu];exact⟨_,dY (by simp only[Op.unary,Op.intArith];rfl),by simpa using bF.c _ _ (.int k _)⟩
  .simp at h
 | convert s d y=>
  obtain⟨v,h1,B⟩:=Lz (w:=w) D r h;exact⟨v,dY h1,B⟩
 | fieldAddr s y f=>
  obtain⟨v,h1,B⟩:=J7 (w:=w) D r h;exact⟨v,dY h1,B⟩
 | field s y f=>
  obtain⟨v,h1,B⟩:=P5 (w:=w) D r h;exact⟨v,dY h1,B⟩
 | indexAddr t y i=>
  obtain⟨v,h1,B⟩:=Ko (w:=w) D r h;exact⟨v,dY h1,B⟩
 | index t y i=>
  obtain⟨v,h1,B⟩:=PF (w:=w) D r h;exact⟨v,dY h1,B⟩
 | slice t y lo hi Z=>
  obtain⟨v,h1,B⟩:=PZ (w:=w) D r h;exact⟨v,dY h1,B⟩
 | build t ps=>
  obtain⟨v,h1,B⟩:=O4 (w:=w) D r h;exact⟨v,dY h1,B⟩
 | makeFunc f u v=>
  cases f with
  | func f=>
   simp only[bJ]at h;split at h
   .rename_i O x2 h1 B;simp only[ζa]at h;subst h;have r1:=nD r h1;have r2:=nD r B;refine⟨.func (.func f) (u.map a.eval) (v.map a.eval),rfl,?_⟩;refine .clo f _ _ _ _ (by simpa using r1.1) (by simpa using r2.1) (λj p q s t=>r1.2 j p q s (by simpa using t)) (λj p q s t=>r2.2 j p q s (by simpa using t))
   .simp at h
  | _=>simp[bJ]at h
 | extract y i=>
  simp only[bJ]at h;simp only[execOp];split at h
  .rename_i vs C;obtain⟨Q,e,S⟩:=(di r C).qm;rw[e];have T:=(ζe.1 h).1;have G:i<Q.size:=by have:=S.1;simp at this;omega
   refine⟨Q[i],dY (by simp[Instr.extract,G]),S.2 i x _ h (by simp[G])⟩
  .simp at h
 | call c=>
  obtain⟨callee,args,U⟩:=c
  cases callee with
  | builtin b=>
   simp only[bJ]at h;simp only[execOp,resolve,Sem.run_bind,Sem.run_pure,Result.andThen_ok,invoke];split at h
   .rename_i v t A J;obtain⟨u,hu,hr⟩:=(nD r A).one;rw[rL hu];obtain⟨q,h1,B⟩:=Uo (w:=w) (ty:=ty) D J hr (by rw[<-h];rfl)
    exact⟨q,by simp only[builtin];exact dY h1,B⟩
   .rename_i v t A J;obtain⟨u,hu,hr⟩:=(nD r A).one;rw[rL hu];obtain⟨q,h1,B⟩:=UU (w:=w) (ty:=ty) D J hr (by rw[<-h];rfl)
    exact⟨q,by simp only[builtin];exact dY h1,B⟩
   .rename_i k O W x2 A;split at h
    .rename_i hk;simp only[ζa]at h;subst h;subst hk;obtain⟨u,v,e,hu,hv⟩:=(nD r A).two;rw[rL e,hu.fu,hv.fu];exact⟨_,by simp only[builtin];exact dY (by simp[Builtin.max_,Builtin.max2]),.c _ _ (.int _ _)⟩
    .simp at h
   .rename_i k O k1 x2 k2 x3 k3 x4 A;split at h
    .rename_i hk;simp only[ζa]at h;subst h;obtain⟨rfl,rfl,rfl⟩:=hk;obtain⟨u,v,p,q,e,hu,hv,X,L⟩:=(nD r A).four;rw[rL e,hu.fu,hv.fu,X.fu,L.fu];exact⟨_,by simp only[builtin];exact dY (by simp[Builtin.max_,Builtin.max2,BD]),.c _ _ (.int _ _)⟩
    .simp at h
   .rename_i k O W x2 A;split at h
    .rename_i hk;simp only[ζa]at h;subst h;subst hk;obtain⟨u,v,e,hu,hv⟩:=(nD r A).two;rw[rL e,hu.fu,hv.fu];exact⟨_,by simp only[builtin];exact dY (by simp[Builtin.min_,Builtin.min2]),.c _ _ (.int _ _)⟩
    .simp at h
   .simp at h
  | _=>simp[bJ]at h
 | _=>simp[bJ]at h
end
end Go.VE
namespace Go.VE
variable [bS]
structure gb (I:ct) (μ:Mu) (p:Pl) (c:Array Value) (es:Nat) (xs:List (List V)):Prop where
 es_eq:p.es=es
 sz:c.size=p.sz
 o6:∀x∈xs,x.length=es
 one:∀x∈xs,∀y∈x,V.one y=true
 room:p.o+xs.length*es<=c.size
 rel:cF I μ xs.flatten ((c.toList.drop p.o).take (xs.length*es))
def u9 (I:ct) (μ:Mu) (B:List (V×V)) (es:Array MapEntry):Prop:=
 B.length=es.size/\∀(j:Nat) q e,B[j]? = some q->es[j]? = some e->bF I μ q.1 e.key/\bF I μ q.2 e.val
def Bb.is:Bb->LoopState->Prop
 | .ready,.ready|.busy,.busy|.done,.done=>True
 | _,_=>False
structure vm (I:ct) (μ:Mu) (r:vn) (l:Loop):Prop where
 st:r.st.is l.state
 pend:l.pending=r.pend.bind kU
 pendOk:r.pend≠some .norm
 frame:dV I μ r.nt r.frame l.tmps
 params:l.params.toList=r.params
 assign:l.assign=r.assign
 body:l.body=r.body
def Ob.live:Ob->Bool
 | .row ..|.map _|.loop _=>true
 | _=>false
def sM (I:ct) (μ:Mu) (w:World) (id:Nat):Ob->Prop
 | .free=>μ id=none
 | .dead=>True
 | .row es xs=>∃p c el,μ id=some p/\I p.b=none/\w.heap[p.b]? = some (.cells c el)/\gb I μ p c es xs
 | .frz es xs=>∃p c,μ id=some p/\I p.b=some (.cells c)/\gb I μ p c es xs
 | .map B=>∃p es clock,μ id=some p/\I p.b=none/\w.heap[p.b]? = some (.map es clock)/\u9 I μ B es
 | .loop r=>∃p l,μ id=some p/\I p.b=none/\w.heap[p.b]? = some (.loop l)/\vm I μ r l
structure cQ (I:ct) (μ:Mu) (H:bg) (w:World):Prop where
 dom:∀id,H.length<=id->μ id=none
 imm:∀b x,I b=some x->x.at w b
 obs:∀id ob,H[id]? = some ob->sM I μ w id ob
 inj:∀id id' ob ob' p p',H[id]? = some ob->H[id']? = some ob'->ob.live=true->ob'.live=true->μ id=some p->μ id'=some p'->p.b=p'.b->id=id'
 gl:tU I
def ij (μ:Mu) (H:bg) (b:Nat):Prop:=∃id p ob,H[id]? = some ob/\ob.live=true/\μ id=some p/\p.b=b
def Obj.nf (o:Obj):Prop:=∀c t fr,o=.cells c t fr->fr=(0,0)
theorem s6 (c:Array Value) (t:TypeId):Obj.nf (.cells c t):=λ_ _ _ h=>by grind
theorem rE {o:Obj} (h:(match o with|.cells ..=>false|_=>true)=true):Obj.nf o:=λc t fr e=>by grind
theorem Ck {w w':World} {o:Obj} {b:Nat} (B:Obj.nf o) (h1:w'.heap[b]? = some o) (D:∀k,k≠b->w'.heap[k]? = w.heap[k]?) (a:Addr) (h:w.frozen? a=false):w'.frozen? a=false:=by
 by_cases e:a.block=b
 .unfold World.frozen?;rw[e,h1];split
  .rename_i c t lo hi u;cases u;have:=B _ _ _ rfl
   grind
  .rfl
 .unfold World.frozen? at h ⊢
  grind
structure uY (w w':World):Prop where
 out:w'.output=w.output
 tape:w'.tape=w.tape
 dr:w.drawn<=w'.drawn
theorem uY.refl (w:World):uY w w:=⟨rfl,rfl,Nat.le_refl _⟩
theorem uY.trans {w w' w'':World} (h:uY w w') (B:uY w' w''):uY w w'':=⟨B.out.trans h.out,B.tape.trans h.tape,Nat.le_trans h.dr B.dr⟩
structure Step (I:ct) (μ:Mu) (H:bg) (w:World) (I':ct) (μ':Mu) (H':bg) (w':World):Prop where
 le:ct.le I I'
 mu:Mu.le μ μ'
 len:H.length<=H'.length
 size:w.heap.size<=w'.heap.size
 frame:∀b,b<w.heap.size->¬ij μ H b->w'.heap[b]? = w.heap[b]?
 terr:∀b,((I' b).isSome=true\/ij μ' H' b)->(I b).isSome=true\/ij μ H b\/w.heap.size<=b
 os:w'.os=w.os
 out:uY w w'
 fz:∀a:Addr,a.block<w.heap.size->w.frozen? a=false->w'.frozen? a=false
section
variable {I I' I'':ct} {μ μ' μ'':Mu} {H H' H'':bg} {w w' w'':World} {P:Program} {E:Env} {n:Nat} {F:Frame} {a:Act}
theorem IC.t_ {x:IC} {b:Nat} (h:x.at w b):b<w.heap.size:=by
 cases x with
 | cells c=>obtain⟨_,_,h⟩:=h;grind
 | map es=>obtain⟨_,h⟩:=h;grind
theorem IC.rN {x:IC} {b:Nat} (h:x.at w b) (e:w'.heap[b]? = w.heap[b]?):x.at w' b:=by
 cases x with
 | cells c=>obtain⟨el,fr,h⟩:=h;exact⟨el,fr,by grind⟩
 | map es=>obtain⟨cl,h⟩:=h;exact⟨cl,by grind⟩
theorem Step.refl (I:ct) (μ:Mu) (H:bg) (w:World):Step I μ H w I μ H w:=
 ⟨ct.le_refl _,Mu.le_refl _,Nat.le_refl _,Nat.le_refl _,λ_ _ _=>rfl,λ_ h=>h.elim .inl λh=>.inr (.inl h),rfl,.refl _,λ_ _ h=>h⟩
theorem ga (s:cQ I μ H w) {b:Nat} (h:ij μ H b):I b=none:=by
 obtain⟨id,p,ob,h1,A,C,rfl⟩:=h;have:=s.obs id ob h1
 cases ob with
 | row es D=>obtain⟨q,c,el,u,z,_⟩:=this;grind
 | map B=>obtain⟨q,c,el,u,z,_⟩:=this;grind
 | loop r=>obtain⟨q,c,u,z,_⟩:=this;grind
 | _=>simp[Ob.live]at A
theorem mW (s:cQ I μ H w) {b:Nat} (h:ij μ H b):b<w.heap.size:=by
 obtain⟨id,p,ob,h1,B,D,rfl⟩:=h;have:=s.obs id ob h1
 cases ob with
 | row es G=>obtain⟨q,c,el,u,z,A,_⟩:=this;grind
 | map C=>obtain⟨q,c,el,u,z,A,_⟩:=this;grind
 | loop r=>obtain⟨q,c,u,z,A,_⟩:=this;grind
 | _=>simp[Ob.live]at B
theorem Step.trans (D:cQ I' μ' H' w') (h1:Step I μ H w I' μ' H' w') (B:Step I' μ' H' w' I'' μ'' H'' w''):Step I μ H w I'' μ'' H'' w'' where
 fz:=λa u h=>B.fz a (Nat.lt_of_lt_of_le u h1.size) (h1.fz a u h)
 le:=ct.le_trans h1.le B.le
 mu:=λid p h=>B.mu id p (h1.mu id p h)
 len:=Nat.le_trans h1.len B.len
 size:=Nat.le_trans h1.size B.size
 frame:=by
  intro b u A;rw[B.frame b (Nat.lt_of_lt_of_le u h1.size) ?_,h1.frame b u A];intro z;rcases h1.terr b (.inr z)with h|h|h
  .have:=ga D z;obtain⟨x,C⟩:=Option.isSome_iff_exists.1 h;rw[h1.le _ _ C]at this;simp_all
  .simp_all
  omega
 terr:=by
  intro b h;rcases B.terr b h with h|h|h
  .exact h1.terr b (.inl h)
  .exact h1.terr b (.inr h)
  .exact .inr (.inr (Nat.le_trans h1.size h))
 os:=B.os.trans h1.os
 out:=h1.out.trans B.out
theorem gb.mono (h:ct.le I I') (B:Mu.le μ μ') {p:Pl} {c:Array Value} {es:Nat} {xs:List (List V)} (r:gb I μ p c es xs):gb I' μ' p c es xs:=
 ⟨r.es_eq,r.sz,r.o6,r.one,r.room,r.rel.mono h B⟩
theorem u9.mono (h:ct.le I I') (D:Mu.le μ μ') {B:List (V×V)} {es:Array MapEntry} (r:u9 I μ B es):u9 I' μ' B es:=
 ⟨r.1,λj q e a b=>⟨(r.2 j q e a b).1.mono h D,(r.2 j q e a b).2.mono h D⟩⟩
theorem vm.mono (h:ct.le I I') (B:Mu.le μ μ') {r:vn} {l:Loop} (x:vm I μ r l):vm I' μ' r l:=
 ⟨x.st,x.pend,x.pendOk,x.frame.mono h B,x.params,x.assign,x.body⟩
theorem sM.mono (h:ct.le I I') (B:Mu.le μ μ') {id:Nat} {ob:Ob} (r:sM I μ w id ob)
 (D:∀p,μ id=some p->ob.live=true->w'.heap[p.b]? = w.heap[p.b]? /\ I' p.b=none) (G:ob=.free->μ' id=none):sM I' μ' w' id ob:=by
 cases ob with
 | free=>exact G rfl
 | dead=>trivial
 | row es C=>
  obtain⟨p,c,el,h1,z,A,u⟩:=r;obtain⟨g1,g2⟩:=D p h1 rfl;exact⟨p,c,el,B _ _ h1,g2,by grind,u.mono h B⟩
 | frz es C=>
  obtain⟨p,c,h1,z,u⟩:=r;exact⟨p,c,B _ _ h1,h _ _ z,u.mono h B⟩
 | map J=>
  obtain⟨p,es,cl,h1,z,A,u⟩:=r;obtain⟨g1,g2⟩:=D p h1 rfl;exact⟨p,es,cl,B _ _ h1,g2,by grind,u.mono h B⟩
 | loop x=>
  obtain⟨p,l,h1,z,A,u⟩:=r;obtain⟨g1,g2⟩:=D p h1 rfl;exact⟨p,l,B _ _ h1,g2,by grind,u.mono h B⟩
theorem cQ.oI (s:cQ I μ H w) (e:w'.heap=w.heap):cQ I μ H w' where
 dom:=s.dom
 imm:=λb x h=>IC.rN (s.imm b x h) (by rw[e])
 obs:=λid ob h=>(s.obs id ob h).mono (ct.le_refl _) (Mu.le_refl _) (λp u z=>⟨by rw[e],ga s ⟨id,p,ob,h,z,u,rfl⟩⟩) (λA=>by subst A;exact s.obs id _ h)
 inj:=s.inj
 gl:=s.gl
theorem Step.oI (e:w'.heap=w.heap) (h1:w'.os=w.os) (B:uY w w'):Step I μ H w I μ H w':=
 ⟨ct.le_refl _,Mu.le_refl _,Nat.le_refl _,by grind,λ_ _ _=>by rw[e],λb h=>h.elim .inl λh=>.inr (.inl h),h1,B,λa _ h=>by unfold World.frozen? at h ⊢;grind⟩
def Mu.fS (μ:Mu) (k:Nat) (p:Pl):Mu:=λid=>if id=k then some p else μ id
theorem Mu.gj (μ:Mu) (k:Nat) (p:Pl):μ.fS k p k=some p:=by simp[Mu.fS]
theorem Mu.iM (μ:Mu) {k id:Nat} (p:Pl) (h:id≠k):μ.fS k p id=μ id:=by simp[Mu.fS,h]
theorem Mu.qQ {k:Nat} {p:Pl} (h:μ k=none):Mu.le μ (μ.fS k p):=by
 intro id q u
 by_cases e:id=k
 .grind
 .rw[Mu.iM _ _ e];omega
theorem lM (o:Obj) (b:Nat) (h:b<w.heap.size):(w.alloc o).heap[b]? = w.heap[b]? := by
 show (w.heap.push o)[b]? = _
 grind
theorem mL (o:Obj):(w.alloc o).heap[w.heap.size]? = some o:=by
 show (w.heap.push o)[w.heap.size]? = _;simp
theorem NL {o:Obj} (B:Obj.nf o) (a:Addr) (h:w.frozen? a=false):(w.alloc o).frozen? a=false:=
 Ck  B (mL o) (λk hk=>by
  by_cases u:k<w.heap.size
  .exact lM o k u
  .show (w.heap.push o)[k]? = _
   grind) a h
theorem cQ.place (s:cQ I μ H w) {k:Nat} {ob:Ob} {o:Obj} {p:Pl} (hk:μ k=none) (G:H.length<=H'.length) (aa:k<H'.length)
 (ab:∀id,id≠k->H'[id]? = some .free\/H'[id]? = H[id]?) (U:∀id,id≠k->H'[id]? = some .free->μ id=none) (ad:H'[k]? = some ob) (hp:p.b=w.heap.size)
 (ae:sM I (μ.fS k p) (w.alloc o) k ob) (hz:Obj.nf o):cQ I (μ.fS k p) H' (w.alloc o)/\Step I μ H w I (μ.fS k p) H' (w.alloc o):=by
 have hI:∀b x,I b=some x->b<w.heap.size:=λb x h=>IC.t_ (s.imm b x h)
 have z:∀id u,id≠k->H'[id]? = some u->u≠.free->H[id]? = some u:=by
  grind
 have B:∀b,ij (μ.fS k p) H' b->ij μ H b\/b=w.heap.size:=by
  rintro b ⟨id,q,u,h1,L,S,rfl⟩
  by_cases e:id=k
  .subst e;rw[Mu.gj]at S;grind
  .rw[Mu.iM _ _ e]at S;exact .inl ⟨id,q,u,z id u e h1 (by grind),L,S,rfl⟩
 refine⟨⟨?_,?_,?_,?_,s.gl⟩,⟨ct.le_refl _,Mu.qQ hk,G,by simp,?_,?_,rfl,⟨rfl,rfl,Nat.le_refl _⟩,λa _=>Ck (b:=w.heap.size) hz (mL o) (λk hk=>?_) a⟩⟩
 .intro id h;rw[Mu.iM _ _ (by omega)]
  exact s.dom id (by omega)
 .intro b x h;exact IC.rN (s.imm b x h) (lM o b (hI b x h))
 .intro id u h
  by_cases e:id=k
  .grind
  .by_cases T:u=.free
   .subst T;show (μ.fS k p) id=none;rw[Mu.iM _ _ e];grind
   .have Y:=z id u e h T;refine(s.obs id u Y).mono (ct.le_refl _) (Mu.qQ hk) (λq hq W=>?_) (λhe=>absurd he T)
    have Z:ij μ H q.b:=⟨id,q,u,Y,W,hq,rfl⟩;exact⟨lM o _ (mW s Z),ga s Z⟩
 .intro id A o1 o2 q q' h1 L O Q C D X
  by_cases e:id=k <;> by_cases J:A=k
  .simp_all
  .subst e;rw[Mu.gj]at C;cases C;rw[Mu.iM _ _ J]at D;have:=mW s ⟨A,q',o2,z A o2 J L (by rintro rfl;simp[Ob.live]at Q),Q,D,rfl⟩
   omega
  .subst J;rw[Mu.gj]at D;cases D;rw[Mu.iM _ _ e]at C;have:=mW s ⟨id,q,o1,z id o1 e h1 (by rintro rfl;simp[Ob.live]at O),O,C,rfl⟩
   omega
  .rw[Mu.iM _ _ e]at C;rw[Mu.iM _ _ J]at D;exact s.inj id A o1 o2 q q' (z id o1 e h1 (by rintro rfl;simp[Ob.live]at O)) (z A o2 J L (by rintro rfl;simp[Ob.live]at Q)) O Q C D X
 .intro b X _;exact lM o b X
 .intro b h;rcases h with h|h
  .exact .inl h
  .rcases B b h with h|h
   .exact .inr (.inl h)
   omega
 .by_cases W:k<w.heap.size
  .exact lM o k W
  .show (w.heap.push o)[k]? = _;rw[Array.getElem?_eq_none (by simp;omega),Array.getElem?_eq_none (by omega)]
theorem cQ.push (s:cQ I μ H w) {ob:Ob} {o:Obj} {p:Pl} (hp:p.b=w.heap.size) (B:sM I (μ.fS H.length p) (w.alloc o) H.length ob) (D:Obj.nf o:=by first|exact s6 _ _|exact rE rfl) :
 cQ I (μ.fS H.length p) (H++[ob]) (w.alloc o)/\Step I μ H w I (μ.fS H.length p) (H++[ob]) (w.alloc o):=by
 refine s.place (s.dom _ (Nat.le_refl _)) (by simp) (by simp) (λid h=>.inr ?_) (λid h z=>?_) (by simp) hp B D
 .grind
 .by_cases u:id<H.length
  .rw[List.getElem?_append_left u]at z;exact s.obs id _ z
  grind
theorem cQ.fill (s:cQ I μ H w) {k:Nat} {ob:Ob} {o:Obj} {p:Pl} (hk:H[k]? = some .free) (hp:p.b=w.heap.size) (B:sM I (μ.fS k p) (w.alloc o) k ob) (D:Obj.nf o:=by first|exact s6 _ _|exact rE rfl) :
 cQ I (μ.fS k p) (H.set k ob) (w.alloc o)/\Step I μ H w I (μ.fS k p) (H.set k ob) (w.alloc o):=by
 have z:=(ζe.1 hk).1;refine s.place (s.obs k _ hk) (by simp) (by grind) (λid h=>.inr ?_) (λid h u=>?_) (by simp_all) hp B D
 .grind
 .rw[List.getElem?_set_ne (Ne.symm h)]at u;exact s.obs id _ u
def fT (w:World) (b:Nat) (o:Obj):World:={ w with heap:=w.heap.setIfInBounds b o }
theorem gx (o:Obj) {b B:Nat} (h:B≠b):(fT w b o).heap[B]? = w.heap[B]? := by simp[fT,Array.getElem?_setIfInBounds_ne (Ne.symm h)]
theorem iz (o:Obj) {b:Nat} (h:b<w.heap.size):(fT w b o).heap[b]? = some o:=by simp[fT,h]
theorem wq (b:Nat) (o:Obj):(fT w b o).heap.size=w.heap.size:=by simp[fT]
theorem LX (b:Nat) (o B:Obj):fT (fT w b o) b B=fT w b B:=by simp[fT]
theorem TX {o:Obj} {b:Nat} (B:Obj.nf o) (a:Addr) (h:w.frozen? a=false):(fT w b o).frozen? a=false:=by
 by_cases u:b<w.heap.size
 .exact Ck  B (iz o u) (λk hk=>gx o hk) a h
 .have:(fT w b o).heap=w.heap:=by simp[fT,Array.setIfInBounds,u]
  unfold World.frozen? at h ⊢
  grind
theorem cQ.write (s:cQ I μ H w) {id:Nat} {ob ob':Ob} {o:Obj} {p:Pl} (B:H[id]? = some ob) (U:ob.live=true) (hp:μ id=some p)
 (W:sM I μ (fT w p.b o) id ob') (Y:Obj.nf o:=by first|exact s6 _ _|exact rE rfl):cQ I μ (H.set id ob') (fT w p.b o)/\Step I μ H w I μ (H.set id ob') (fT w p.b o):=by
 have z:ij μ H p.b:=⟨id,p,ob,B,U,hp,rfl⟩;have u:∀k x,(H.set id ob')[k]? = some x->∃y,H[k]? = some y/\(x.live=true->y.live=true)/\(k≠id->y=x):=by
  grind
 have J:∀b,ij μ (H.set id ob') b->ij μ H b:=by
  rintro b ⟨k,q,x,h1,L,X,rfl⟩;obtain⟨y,O,A,_⟩:=u k x h1;exact⟨k,q,y,O,A L,X,rfl⟩
 refine⟨⟨?_,?_,?_,?_,s.gl⟩,⟨ct.le_refl _,Mu.le_refl _,by simp,by rw[wq];grind,?_,?_,rfl,⟨rfl,rfl,Nat.le_refl _⟩,λa _=>Ck  Y (iz o (mW s z)) (λk hk=>gx o hk) a⟩⟩
 .intro k h;exact s.dom k (by grind)
 .intro b x h;refine IC.rN (s.imm b x h) (gx o ?_);intro C;rw[C,ga s z]at h;cases h
 .intro k x h
  by_cases e:k=id
  .grind
  .rw[List.getElem?_set_ne (Ne.symm e)]at h;refine(s.obs k x h).mono (ct.le_refl _) (Mu.le_refl _) (λq S D=>⟨gx o ?_,ga s ⟨k,q,x,h,D,S,rfl⟩⟩) (λZ=>by subst Z;exact s.obs k _ h)
   intro C;exact e (s.inj k id x ob q p h B D U S hp C)
 .intro k T x x' q q' h1 L l1 l2 m1 m2 C;obtain⟨y,O,A,_⟩:=u k x h1;obtain⟨y',Q,G,_⟩:=u T x' L;exact s.inj k T y y' q q' O Q (A l1) (G l2) m1 m2 C
 .intro b _ hn;refine gx o ?_
  grind
 grind
theorem cQ.kill (s:cQ I μ H w) {id:Nat} {ob:Ob} (B:H[id]? = some ob):cQ I μ (H.set id .dead) w/\Step I μ H w I μ (H.set id .dead) w:=by
 have z:=(ζe.1 B).1;have u:∀k x,(H.set id .dead)[k]? = some x->x.live=true->H[k]? = some x/\k≠id:=by
  intro k x h L
  by_cases e:k=id
  .subst e;rw[List.getElem?_set_self z]at h;cases h;simp[Ob.live]at L
  grind
 refine⟨⟨?_,s.imm,?_,?_,s.gl⟩,⟨ct.le_refl _,Mu.le_refl _,by simp,Nat.le_refl _,λ_ _ _=>rfl,?_,rfl,.refl _,λ_ _ h=>h⟩⟩
 .intro k h;exact s.dom k (by grind)
 .intro k x h
  by_cases e:k=id
  .subst e;rw[List.getElem?_set_self z]at h;cases h;trivial
  .rw[List.getElem?_set_ne (Ne.symm e)]at h;exact s.obs k x h
 .intro k C x D q O h1 A G J Q S T;exact s.inj k C x D q O (u k x h1 G).1 (u C D A J).1 G J Q S T
 .rintro b (h|⟨k,q,x,h1,A,U,rfl⟩)
  .grind
  .exact .inr (.inl ⟨k,q,x,(u k x h1 A).1,A,U,rfl⟩)
end
end Go.VE
namespace Go.VE
variable [bS]
section
variable {P:Program} {E:Env} {I:ct} {μ:Mu} {H:bg} {n:Nat} {F:Frame} {a:Act} {w:World}
theorem vw {b:Nat} {c:Array Value} {el:TypeId} {fr:Nat×Nat} (h:w.heap[b]? = some (.cells c el fr)) (k:Nat):w.cell? ⟨b,k,none⟩=c[k]? := by
 simp[World.cell?,h]
theorem IX {b o:Nat} {c:Array Value} (hc:∀k,w.cell? ⟨b,k,none⟩=c[k]?):∀(m i:Nat) (acc:Array Value),o+i+m<=c.size ->
 (loadCellsFrom ⟨b,o,none⟩ i m acc).run P w=.ok (acc++((c.toList.drop (o+i)).take m).toArray) w:=by
 intro m
 induction m with
 | zero=>intro i acc _;simp[loadCellsFrom]
 | succ m z=>
  intro i acc h;have u:o+i<c.size:=by omega
  have e:w.cell? ⟨b,o+i,none⟩=some c[o+i]:=by rw[hc];simp[u]
  simp only[loadCellsFrom,Sem.run_bind,pR,run_load,e,Result.andThen_ok];rw[z (i+1) _ (by omega)]
  congr 1
  rw[List.drop_eq_getElem_cons (show o+i<c.toList.length by simpa using u),List.take_succ_cons]
  apply Array.ext';simp[Nat.add_assoc]
theorem DO {b o m:Nat} {c:Array Value} (hc:∀k,w.cell? ⟨b,k,none⟩=c[k]?) (h:o+m<=c.size\/m=0) :
 (loadCells ⟨b,o,none⟩ m).run P w=.ok ((c.toList.drop o).take m).toArray w:=by
 rcases h with h|h
 .have:=IX (P:=P) hc m 0 #[] (o:=o) (by omega)
  simpa [loadCells]using this
 .subst h;simp[loadCells,loadCellsFrom]
theorem fN {es:Nat} {xs:List (List V)} (hu:∀x∈xs,x.length=es):xs.flatten.length=xs.length*es:=by
 induction xs with
 | nil=>simp
 | cons x xs u=>
  simp only[List.flatten_cons,ζi,List.length_cons];rw[u (λy w=>hu y (List.mem_cons_of_mem _ w)),hu x (by simp),Nat.add_mul];omega
theorem D2 {es:Nat}:∀{xs:List (List V)} (_:∀x∈xs,x.length=es) {el:Nat} {cs:List V},xs[el]? = some cs->(xs.flatten.drop (el*es)).take es=cs:=by
 intro xs
 induction xs with
 | nil=>intro _ el cs h;simp at h
 | cons x xs w=>
  intro hu el cs h;have u:x.length=es:=hu x (by simp)
  cases el with
  | zero=>simp at h;subst h;simp[u]
  | succ el=>
   have:=w (λy z=>hu y (List.mem_cons_of_mem _ z)) (el:=el) (cs:=cs) (by simpa using h)
   rw[List.flatten_cons,show (el+1)*es=x.length+el*es by rw[u,Nat.add_mul];omega,<-List.drop_drop]
   simpa using this
theorem FX {es:Nat}:∀{xs:List (List V)} (_:∀x∈xs,x.length=es) {el:Nat} (cs:List V),el<xs.length->cs.length=es ->
 (xs.set el cs).flatten=xs.flatten.take (el*es)++cs++xs.flatten.drop (el*es+es):=by
 intro xs
 induction xs with
 | nil=>intro _ el cs h;simp at h
 | cons x xs w=>
  intro hu el cs h hc;have u:x.length=es:=hu x (by simp)
  cases el with
  | zero=>simp[u]
  | succ el=>
   have:=w (λy z=>hu y (List.mem_cons_of_mem _ z)) (el:=el) cs (by simpa using h) hc
   simp only[List.set_cons_succ,List.flatten_cons,this];rw[show (el+1)*es=x.length+el*es by rw[u,Nat.add_mul];omega]
   rw[show x.length+el*es+es=x.length+(el*es+es)by omega]
   rw[List.take_append,List.drop_append];simp[List.take_of_length_le,List.drop_eq_nil_of_le,Nat.add_sub_cancel_left]
theorem vL {es:Nat} {xs:List (List V)} (hu:∀x∈xs,x.length=es) {i j:Nat} {x:List V} {y:V} (h1:xs[i]? = some x) (B:x[j]? = some y):xs.flatten[i*es+j]? = some y:=by
 have:=D2 hu h1;have u:j<es:=by rw[<-hu x (List.mem_of_getElem? h1)];exact(ζe.1 B).1
 have e:=congrArg (·[j]?) this;simp only[List.getElem?_take,u,if_true,List.getElem?_drop]at e;rw[e];exact B
theorem gb.elem {p:Pl} {c:Array Value} {es:Nat} {xs:List (List V)} (r:gb I μ p c es xs) {el:Nat} {cs:List V} (h:xs[el]? = some cs) :
 cF I μ cs ((c.toList.drop (p.o+el*es)).take es)/\cs.length=es/\p.o+el*es+es<=c.size:=by
 have u:=(ζe.1 h).1;have z:=r.o6 cs (List.mem_of_getElem? h);have h1:=(r.rel.drop (el*es)).take es;rw[D2 r.o6 h]at h1;have A:el*es+es<=xs.length*es:=by
  have:=Nat.mul_le_mul_right es (show el+1<=xs.length from u)
  rwa [Nat.add_mul,Nat.one_mul]at this
 have w:=r.room;refine⟨?_,z,by omega⟩
 have e:(((c.toList.drop p.o).take (xs.length*es)).drop (el*es)).take es=(c.toList.drop (p.o+el*es)).take es:=by
  rw[List.drop_take,List.take_take,List.drop_drop,Nat.min_eq_left (by omega)]
 rw[e]at h1;exact h1
theorem gb.span {p:Pl} {c:Array Value} {es:Nat} {xs:List (List V)} (r:gb I μ p c es xs) {off len:Nat} (h:off+len<=xs.length) :
 cF I μ ((xs.drop off).take len).flatten ((c.toList.drop (p.o+off*es)).take (len*es))/\p.o+off*es+len*es<=c.size:=by
 have w:=r.room;have A:off*es+len*es<=xs.length*es:=by
  rw[<-Nat.add_mul];exact Nat.mul_le_mul_right _ h
 have e1:((xs.drop off).take len).flatten=(xs.flatten.drop (off*es)).take (len*es):=by
  have u:xs=xs.take off++((xs.drop off).take len++(xs.drop off).drop len):=by rw[List.take_append_drop,List.take_append_drop]
  have g1:(xs.take off).flatten.length=off*es:=by
   rw[fN (λx u=>r.o6 x (List.mem_of_mem_take u))];rw[List.length_take,Nat.min_eq_left (by omega)]
  have g2:((xs.drop off).take len).flatten.length=len*es:=by
   rw[fN (λx u=>r.o6 x (List.mem_of_mem_drop (List.mem_of_mem_take u))),List.length_take,List.length_drop,Nat.min_eq_left (by omega)]
  have z:=congrArg List.flatten u;simp only[List.flatten_append]at z;rw[z,<-g1,List.drop_left,<-g2,List.take_left]
 have h1:=(r.rel.drop (off*es)).take (len*es);rw[e1];refine⟨?_,by omega⟩
 have e:(((c.toList.drop p.o).take (xs.length*es)).drop (off*es)).take (len*es)=(c.toList.drop (p.o+off*es)).take (len*es):=by
  rw[List.drop_take,List.take_take,List.drop_drop,Nat.min_eq_left (by omega)]
 rw[e]at h1;exact h1
theorem FZ {ob:Ob} {es:Nat} {xs:List (List V)} (h:ob.rows=some (es,xs)):ob=.row es xs\/ob=.frz es xs:=by
 cases ob <;> simp_all [Ob.rows]
theorem cQ.rows (s:cQ I μ H w) {id es:Nat} {xs:List (List V)} (h:(H[id]?).bind Ob.rows=some (es,xs)) :
 ∃p c,μ id=some p/\(∀k,w.cell? ⟨p.b,k,none⟩=c[k]?)/\gb I μ p c es xs:=by
 obtain⟨ob,h1,u⟩:=ζg.1 h;have:=s.obs id ob h1;rcases FZ u with rfl|rfl
 .obtain⟨p,c,el,g1,_,g3,g4⟩:=this;exact⟨p,c,g1,vw g3,g4⟩
 .obtain⟨p,c,g1,g2,g4⟩:=this;obtain⟨el,fr,g3⟩:=s.imm _ _ g2;exact⟨p,c,g1,vw g3,g4⟩
theorem Pj (s:cQ I μ H w) {p:V} {v:Value} (hv:bF I μ p v) {m:Nat} {cs:List V} (h:dS H p m=some cs) :
 ∃(b o:Nat) (c:Array Value),v=.pointer (some ⟨b,o,none⟩)/\(∀k,w.cell? ⟨b,k,none⟩=c[k]?)/\(o+m<=c.size\/m=0)/\cF I μ cs ((c.toList.drop o).take m):=by
 unfold dS at h;split at h
 .rename_i z;obtain⟨b,o,c,e,D,O,hr⟩:=hv.mh;obtain⟨el,fr,g⟩:=s.imm _ _ D;refine⟨b,o,c,e,vw g,?_⟩;have G:cF I μ z ((c.toList.drop o).take z.length):=by
   refine⟨by simp;omega,λj x y h1 B=>?_⟩
   have J:=(ζe.1 h1).1;rw[List.getElem?_take,if_pos J,List.getElem?_drop]at B;exact .c _ _ (hr j x y h1 (by simpa using B))
  rcases AE G h with⟨g1,g2,g3⟩|⟨g1,g2⟩
  .refine⟨.inl (by omega),?_⟩
   rw[List.drop_zero,List.take_take,Nat.min_eq_left (by omega)]at g1
   exact g1
  .refine⟨.inr g1,?_⟩;rw[g2,g1];exact .nil
 .rename_i id el off;split at h
  .rename_i es z u;split at h
   .rename_i L A;obtain⟨p,c,g1,g2,g3⟩:=s.rows u;obtain⟨q,C,e⟩:=hv.sZ;rw[g1]at C;cases C;refine⟨_,_,c,e,g2,?_⟩;obtain⟨k1,Q,S⟩:=g3.elem A;rw[g3.es_eq];rcases AE k1 h with⟨f1,f2,f3⟩|⟨f1,f2⟩
    .refine⟨.inl (by omega),?_⟩
     rw[List.drop_take,List.take_take,Nat.min_eq_left (by omega),List.drop_drop]at f1
     exact f1
    .refine⟨.inr f1,?_⟩;rw[f2,f1];exact .nil
   .simp at h
  .simp at h
 .simp at h
theorem Cl (D:ey P E) (s:cQ I μ H w) {t:TypeId} {d:TD} (hd:E.tt t=some d) {p x:V} {v:Value} (hv:bF I μ p v) (h:(dS H p d.size).bind (mk d.agg)=some x) :
 ∃u,(Instr.loadAt t v).run P w=.ok u w/\bF I μ x u/\∃G,v=.pointer (some G)/\(loadVar t G).run P w=.ok u w:=by
 obtain⟨cs,hc,B⟩:=ζg.1 h;obtain⟨b,o,c,e,g1,g2,g3⟩:=Pj s hv hc;have key:∃u,(loadVar t ⟨b,o,none⟩).run P w=.ok u w/\bF I μ x u:=by
  unfold loadVar;simp only[Sem.run_bind,(D.ty hd).Kd,Result.andThen_ok]
  cases z:d.agg with
  | true=>
   rw[z]at B;refine⟨.agg ((c.toList.drop o).take d.size).toArray,?_,MY B (by simpa using g3)⟩
   simp only[if_true,Sem.run_bind,(D.ty hd).kg,Result.andThen_ok,DO g1 g2,Sem.run_pure]
  | false=>
   rw[z]at B;obtain⟨u,hu,C⟩:=mk_one B g3;refine⟨u,?_,C⟩;have J:d.size≠0:=by
    intro h0;rw[h0]at hu;simp at hu
   have A:c[o]? = some u:=by
    have:=congrArg (·[0]?) hu;simp only[List.getElem?_take,List.getElem?_drop,List.getElem?_cons_zero]at this;rw[if_pos (by omega)]at this
    simpa using this
   simp only[Bool.false_eq_true,if_false,run_load,g1,A]
 obtain⟨u,h1,L⟩:=key;refine⟨u,?_,L,_,e,h1⟩;rw[e];unfold Instr.loadAt;simp only[Sem.run_bind,Instr.sureAddr,Sem.run_pure,Result.andThen_ok,h1]
end
end Go.VE
namespace Go.VE
variable [bS]
section
variable {P:Program} {E:Env} {I:ct} {μ:Mu} {H:bg} {n:Nat} {F:Frame} {a:Act} {w:World}
theorem cQ.H_ (s:cQ I μ H w) {b:Nat} {x:IC} (h:I b=some x):b<w.heap.size:=IC.t_ (s.imm b x h)
theorem Su {b es:Nat} {c:Array Value} {xs:List (List V)} (h:cF I μ xs.flatten c.toList) (hu:∀x∈xs,x.length=es) (B:∀x∈xs,∀y∈x,V.one y=true) :
 gb I μ ⟨b,0,es,c.size⟩ c es xs:=by
 have u:xs.length*es=c.size:=by rw[<-fN hu,h.1];simp
 exact⟨rfl,rfl,hu,B,by simp[u],by simpa [u,List.take_of_length_le]using h⟩
structure Q1 (I:ct) (μ:Mu) (w:World) (ob:Ob) (m:Mk) (o:Obj) (p:Pl) (u:Value):Prop where
 b:p.b=w.heap.size
 live:ob.live=true
 nf:Obj.nf o
 len:∀es xs,ob=.row es xs->p.sz=xs.length*es
 rel:∀k,μ k=none->sM I (μ.fS k p) (w.alloc o) k ob/\bF I (μ.fS k p) (m.val k) u
theorem cQ.y6 (s:cQ I μ H w):I w.heap.size=none:=by
 cases h:I w.heap.size with
 | none=>rfl
 | some x=>have:=s.H_ h;omega
theorem wN (s:cQ I μ H w) {es:Nat} {xs:List (List V)} {c:Array Value} {el:TypeId} {m:Mk} {u:Value} (h:cF I μ xs.flatten c.toList) (hu:∀x∈xs,x.length=es)
 (B:∀x∈xs,∀y∈x,V.one y=true) (hv:∀k,bF I (μ.fS k ⟨w.heap.size,0,es,c.size⟩) (m.val k) u):Q1 I μ w (.row es xs) m (.cells c el) ⟨w.heap.size,0,es,c.size⟩ u where
 nf:=s6 _ _
 b:=rfl
 live:=rfl
 len:=λz A e=>by cases e;rw[<-fN hu,h.1];simp
 rel:=λk hk=>⟨⟨_,c,el,Mu.gj _ _ _,s.y6,mL _,(Su h hu B).mono (ct.le_refl _) (Mu.qQ hk)⟩,hv k⟩
theorem JM (t:TypeId) (v:Value):(newVar t v).run P w=.ok ⟨w.heap.size,0,none⟩ (w.alloc (.cells v.cells t)):=by
 simp[newVar,newRow]
theorem wD {z:List V} {B:Array Value} (h:cF I μ z B.toList) (m:Nat) :
 cF I μ (List.replicate m z).flatten (((Array.range (m*B.size)).map (λi=>B[i % B.size]!)).toList):=by
 have D:z.length=B.size:=by simpa using h.1
 have hu:∀x∈List.replicate m z,x.length=z.length:=λx J=>by rw[List.eq_of_mem_replicate J]
 have w:=fN hu;simp only[List.length_replicate]at w;refine⟨by rw[w,D];simp,λj x y h1 G=>?_⟩
 have A:=(ζe.1 h1).1;rw[w]at A;have u:0<z.length:=by
  rcases Nat.eq_zero_or_pos z.length with h0|h0
  .rw[h0]at A;simp at A
  .exact h0
 have hi:j / z.length<m:=(Nat.div_lt_iff_lt_mul u).2 A;have hr:j % z.length<z.length:=Nat.mod_lt _ u;have e1:=vL hu (i:=j / z.length) (j:=j % z.length) (x:=z) (y:=z[j % z.length]) (by simp[hi]) (by simp[hr])
 rw[Nat.mul_comm,Nat.div_add_mod]at e1;rw[e1]at h1;cases h1;have C:j % B.size<B.size:=by rw[<-D];exact hr
 have e2:y=B[j % B.size]:=by
  have L:j<(Array.range (m*B.size)).size:=by simp;rw[<-D];exact A
  simp only[Array.toList_map,List.getElem?_map,ζf]at G;obtain⟨q,O,rfl⟩:=G;have:q=j:=by
   have:=(ζe.1 O).2;simpa using this.symm
  subst this;simp[C]
 rw[e2];exact h.2 (j % z.length) _ _ (by simp[hr]) (by rw[D];simp[C])
theorem FB {es:Nat}:∀(vs:List (Nat×V)) (xs ys:List (List V)),(∀x∈xs,x.length=es)->(∀x∈xs,∀y∈x,V.one y=true)->gJ es xs vs=some ys ->
 tV (λi=>some (i*es,es)) xs.flatten vs=some ys.flatten/\(∀x∈ys,x.length=es)/\(∀x∈ys,∀y∈x,V.one y=true)/\ys.length=xs.length:=by
 intro vs
 induction vs with
 | nil=>intro xs ys hu u h;simp only[gJ,ζa]at h;subst h;exact⟨rfl,hu,u,rfl⟩
 | cons v vs D=>
  intro xs ys hu u h;obtain⟨i,v⟩:=v;simp only[gJ]at h;split at h
  .rename_i hc;obtain⟨h1,C,G⟩:=hc;have w:∀x∈xs.set i v.cells,x.length=es:=λx z=>by
    rcases List.mem_or_eq_of_mem_set z with h|h
    .exact hu x h
    .rw[h];exact h1
   have A:∀x∈xs.set i v.cells,∀y∈x,V.one y=true:=λx z=>by
    rcases List.mem_or_eq_of_mem_set z with h|h
    .exact u x h
    .rw[h];simpa using G
   obtain⟨g1,g2,g3,g4⟩:=D _ ys w A h;refine⟨?_,g2,g3,by simpa using g4⟩
   rw[FX hu _ C h1]at g1;have I:i*es+es<=xs.length*es:=by
    have:=Nat.mul_le_mul_right es (show i+1<=xs.length from C)
    rwa [Nat.add_mul,Nat.one_mul]at this
   have B:=fN hu;simp only[tV];rw[if_neg (by simp[h1,B];omega),h1]
   exact g1
  .simp at h
theorem B6 (G:ey P E) (r:dV I μ n F a.tmps) (s:cQ I μ H w) (o:Oper) {ob:Ob} {m:Mk} (h:eO E F o.op=some (ob,m)) :
 ∃x p u,(execOp a.eval o).run P w=.ok (.value u) (w.alloc x)/\Q1 I μ w ob m x p u:=by
 obtain⟨dst,op,ty,pos,after,guard⟩:=o;simp only at h
 cases op with
 | alloc t=>
  simp only[eO,ζf,ζc]at h;obtain⟨d,hd,rfl,rfl⟩:=h;obtain⟨z,T,hr,U,J⟩:=(G.ty hd).CZ;refine⟨.cells z.cells t,_,.pointer (some ⟨w.heap.size,0,none⟩),?_,wN s (by simpa using hr I μ) (by simp[U]) (by simpa using J) (λk=>?_)⟩
  .simp only[execOp];refine dY ?_;unfold Instr.alloc;simp only[Sem.run_bind,T,Result.andThen_ok,JM,Sem.run_pure]
  .have:=bF.hptr (I:=I) k 0 0 _ (Mu.gj μ k ⟨w.heap.size,0,d.size,z.cells.size⟩);simp only[Nat.zero_mul,Nat.add_zero]at this;exact this
 | box t x=>
  simp only[eO]at h;split at h
  .rename_i v hv;split at h
   .rename_i J;simp only[ζa,ζc]at h;obtain⟨rfl,rfl⟩:=h;have hr:=di r hv;refine⟨.cells (a.eval x).cells t,_,.pointer (some ⟨w.heap.size,0,none⟩),?_,wN s (by simpa using hr.cells) (by simp) (by simpa using J) (λk=>?_)⟩
    .simp only[execOp];refine dY ?_;unfold Instr.box;simp only[Sem.run_bind,JM,Result.andThen_ok,Sem.run_pure]
    .have:=bF.hptr (I:=I) k 0 0 _ (Mu.gj μ k ⟨w.heap.size,0,v.cells.length,(a.eval x).cells.size⟩);simp only[Nat.zero_mul,Nat.add_zero]at this;exact this
   .simp at h
  .simp at h
 | makeSlice t l c=>
  simp only[eO]at h;split at h
  .rename_i e k1 ln k2 A hk U hc;obtain⟨d,hd,L⟩:=fD hk;obtain⟨desc,h1,W,h3⟩:=(G.ty hd).dF;rw[L]at W;have:=jl W;subst this;split at h
   .rename_i D C;split at h
    .rename_i O;obtain⟨rfl,rfl,al,am,hm,an⟩:=O;simp only[ζa,ζc]at h;obtain⟨rfl,rfl⟩:=h;obtain⟨z,T,hr,Q,J⟩:=(G.ty C).CZ;obtain⟨i,_,hi,ak,ao,_⟩:=(G.ty C).info;have B:z.cells.size=D.size:=by have:=(hr I μ).1;simp at this;omega
     have X:(0:Int)<=A:=by omega
     have w1:IntKind.i64.wrap ln=ln:=by simp[IntKind.wrap,IntKind.signed,IntKind.bits];omega
     have w2:IntKind.i64.wrap A=A:=by simp[IntKind.wrap,IntKind.signed,IntKind.bits];omega
     have Y:∀y:Int,0<=y->y<=2147483648->((i.bytes:Int)*y>2 ^ 48)=False:=by
      intro y ab hy;simp only[eq_iff_iff,iff_false,Int.not_lt,gt_iff_lt];have ad:(i.bytes:Int)<=4096:=by omega
      calc (i.bytes:Int)*y<=4096*2147483648:=Int.mul_le_mul ad hy ab (by omega)
       _<=2 ^ 48:=by decide
     have Z:(Instr.makeSlice t (.int .i64 ln) (.int .i64 A)).run P w =
      .ok (.slice (some ⟨w.heap.size,0,none⟩) ln.toNat A.toNat) (w.alloc (.cells ((Array.range (A.toNat*z.cells.size)).map (λi=>z.cells[i % z.cells.size]!)) e)):=by
      unfold Instr.makeSlice;have t1:(decide (A<0)||decide ((i.bytes:Int)*A>2 ^ 48))=false:=by
       rw[Bool.or_eq_false_iff];exact⟨by simp;omega,by simp only[Y A X hm,decide_false]⟩
      have q1:(((decide (A<0)||decide ((i.bytes:Int)*A>2 ^ 48))||decide (ln<0))||decide (ln>A))=false:=by rw[t1];simp;omega
      simp only[Sem.run_bind,h3,Result.andThen_ok,asInt,lK,Sem.run_pure,oD hi,w1,w2,q1,Bool.false_eq_true,if_false,run_askRoom,(G.ty C).kg];rw[B]
      by_cases h0:A.toNat*D.size=0
      .have er:Array.range 0=(#[]:Array Nat):=rfl;simp[h0,newRow,er]
      .simp[h0,T,B,newRow]
     refine⟨.cells ((Array.range (A.toNat*z.cells.size)).map (λi=>z.cells[i % z.cells.size]!)) e,_,.slice (some ⟨w.heap.size,0,none⟩) ln.toNat A.toNat,?_,wN s (wD (hr I μ) A.toNat) (λx S=>by rw[List.eq_of_mem_replicate S,Q]) (λx S=>by rw[List.eq_of_mem_replicate S];simpa using J) (λk=>?_)⟩
     .simp only[execOp];refine dY ?_;rw[(di r U).fu,(di r hc).fu];exact Z
     .have:=bF.hsl (I:=I) (μ:=μ.fS k ⟨w.heap.size,0,D.size,((Array.range (A.toNat*z.cells.size)).map (λi=>z.cells[i % z.cells.size]!)).size⟩) k 0 ln.toNat A.toNat _ (Mu.gj _ _ _) (by omega) (by simp[B])
      simpa [Mk.val]using this
    .simp at h
   .simp at h
  .simp at h
 | buildSlice t len ps=>
  simp only[eO]at h;split at h
  .rename_i e vs hk ae;obtain⟨d,hd,L⟩:=fD hk;obtain⟨desc,h1,W,h3⟩:=(G.ty hd).dF;rw[L]at W;have:=jl W;subst this;split at h
   .rename_i D C;split at h
    .rename_i af;simp only[ζf,ζc]at h;obtain⟨ys,ah,rfl,rfl⟩:=h;obtain⟨z,T,hr,Q,J⟩:=(G.ty C).CZ;have B:z.cells.size=D.size:=by have:=(hr I μ).1;simp at this;omega
     obtain⟨U,ai⟩:=EX r ae;obtain⟨g1,g2,g3,g4⟩:=FB vs _ ys (λx S=>by rw[List.eq_of_mem_replicate S,Q]) (λx S=>by rw[List.eq_of_mem_replicate S];simpa using J) ah
     obtain⟨r',f1,f2⟩:=Bz (place':=λi=>some (i*D.size,D.size)) (λi p hp=>hp) vs _ _ _ ((Array.range (len*z.cells.size)).map (λi=>z.cells[i % z.cells.size]!)) U ai (wD (hr I μ) len) g1
     have aa:r'.size=len*D.size:=by
      have e1:=f2.1;rw[fN g2,g4]at e1;simpa using e1.symm
     refine⟨.cells r' e,_,.slice (some ⟨w.heap.size,0,none⟩) len len,?_,wN s f2 g2 g3 (λk=>?_)⟩
     .simp only[execOp];refine dY ?_;unfold Instr.buildSlice;have aj:¬(len*D.size>2 ^ 24):=by omega
      simp only[Sem.run_bind,h3,Result.andThen_ok,(G.ty C).kg,if_neg aj]
      by_cases h0:len*D.size=0
      .have e0:(Array.range (len*z.cells.size)).map (λi=>z.cells[i % z.cells.size]!)=#[]:=by rw[B,h0];simp
       rw[e0]at f1;have er:Array.range 0=(#[]:Array Nat):=rfl;simp only[h0,if_true,Sem.run_pure,Result.andThen_ok,er,Array.map_empty];rw[f1];simp[newRow]
      .simp only[if_neg h0,Sem.run_bind,T,Result.andThen_ok,Sem.run_pure];rw[B]at f1;rw[B,f1];simp[newRow]
     .have:=bF.hsl (I:=I) (μ:=μ.fS k ⟨w.heap.size,0,D.size,r'.size⟩) k 0 len len _ (Mu.gj _ _ _) (Nat.le_refl _) (by simp[aa])
      simpa [Mk.val]using this
    .simp at h
   .simp at h
  .simp at h
 | makeMap t r=>
  cases r with
  | none=>
   simp only[eO,ζa,ζc]at h;obtain⟨rfl,rfl⟩:=h;refine⟨.map #[] 0,⟨w.heap.size,0,0,0⟩,.map (some w.heap.size),?_,⟨rfl,rfl,rE rfl,λ_ _ e=>(nomatch e),λk hk=>⟨⟨_,#[],0,Mu.gj _ _ _,s.y6,mL _,rfl,by simp⟩,?_⟩⟩⟩
   .simp only[execOp];refine dY ?_;unfold Instr.makeMap;simp[run_newObj]
   .exact bF.hmap (I:=I) k ⟨w.heap.size,0,0,0⟩ (Mu.gj _ _ _)
  | some x=>simp[eO]at h
 | _=>simp[eO]at h
end
end Go.VE
namespace Go.VE
variable [bS]
section
variable {P:Program} {E:Env} {I:ct} {μ:Mu} {H H':bg} {n:Nat} {F:Frame} {a:Act} {w:World}
theorem bF.one {x:V} {v:Value} (h:bF I μ x v) (B:x.one=true):v.oneCell'=true:=by
 cases h with
 | c _ _ h=>cases h <;> first|rfl|simp[V.one]at B
 | agg=>simp[V.one]at B
 | tup=>simp[V.one]at B
 | _=>rfl
theorem cF.PI {xs:List V} {vs:List Value} (h:cF I μ xs vs) (B:∀x∈xs,V.one x=true):∀v∈vs,v.oneCell'=true:=by
 intro v hv;obtain⟨j,w,rfl⟩:=List.mem_iff_getElem.1 hv;have u:j<xs.length:=by rw[h.1];exact w
 exact(h.2 j xs[j] vs[j] (by simp[u]) (by simp[w])).one (B _ (List.getElem_mem u))
theorem MF {b:Nat} {o:Obj} (h:w.heap[b]? = some o):fT w b o=w:=by
 unfold fT;have:w.heap.setIfInBounds b o=w.heap:=by
  apply Array.ext
  .simp
  .intro i h1 u;obtain⟨z,e⟩:=Array.getElem?_eq_some_iff.1 h;rw[Array.getElem_setIfInBounds];split
   .subst_vars;rfl
   .rfl
 rw[this]
theorem Gu {b o:Nat} {c:Array Value} {el:TypeId} {v:Value} (h:w.heap[b]? = some (.cells c el)) :
 w.setCell ⟨b,o,none⟩ v=fT w b (.cells (c.setIfInBounds o v) el):=by
 unfold World.setCell fT
 congr 1
 obtain⟨A,e⟩:=Array.getElem?_eq_some_iff.1 h;apply Array.ext
 .simp
 .intro i h1 z
  by_cases hi:i=b
  .subst hi;simp[Array.getElem_modify,e]
  .have u:i<w.heap.size:=by simpa using z
   rw[Array.getElem_modify_of_ne (Ne.symm hi) _ (by simpa using u),Array.getElem_setIfInBounds]
   .simp[Ne.symm hi]
   .exact u
theorem uG {b o:Nat} {el:TypeId}:∀(vs:List Value) (i:Nat) (w:World) (c:Array Value),w.heap[b]? = some (.cells c el)->(∀v∈vs,v.oneCell'=true)->o+i+vs.length<=c.size ->
 ∃c',(storeCells ⟨b,o,none⟩ vs i).run P w=.ok () (fT w b (.cells c' el))/\c'.toList=c.toList.take (o+i)++vs++c.toList.drop (o+i+vs.length):=by
 intro vs
 induction vs with
 | nil=>
  intro i w c h _ _;exact⟨c,by simp[storeCells,MF h],by simp⟩
 | cons v vs D=>
  intro i w c h C G;simp only[List.length_cons]at G;have z:o+i<c.size:=by omega
  have u:w.cell? ⟨b,o+i,none⟩=some c[o+i]:=by rw[vw h];simp[z]
  have B:w.frozen? ⟨b,o+i,none⟩=false:=by simp[World.frozen?,h]
  have I:=(Array.getElem?_eq_some_iff.1 h).1;obtain⟨c',g1,g2⟩:=D (i+1) (fT w b (.cells (c.setIfInBounds (o+i) v) el)) (c.setIfInBounds (o+i) v) (iz _ I) (λx J=>C x (List.mem_cons_of_mem _ J)) (by simp;omega)
  refine⟨c',?_,?_⟩
  .simp only[storeCells,Sem.run_bind,pR,run_store P w _ v _ (C v (by simp)),u,B,Bool.false_eq_true,if_false,Result.andThen_ok,Gu h]
   rw[g1,LX]
  .rw[g2];have A:o+i<c.toList.length:=by simpa using z
   simp only[Array.toList_setIfInBounds,List.length_cons];rw[show o+(i+1)=o+i+1 from by omega,List.take_succ_eq_append_getElem (by simpa using A),List.take_set_of_le (by omega),List.getElem_set_self,List.drop_set_of_lt (by omega)]
   simp[List.append_assoc];omega
structure Cc (P:Program) (I:ct) (μ:Mu) (H:bg) (w:World) (s:Sem Next) (x:V) (H':bg):Prop where
 run:∃nx u w' μ',s.run P w=.ok nx w'/\(nx=.value u\/(nx=.skip/\u=undef))/\bF I μ' x u/\cQ I μ' H' w'/\Step I μ H w I μ' H' w'
theorem Bm {α:Type} (L vs:List α) (o m k:Nat) (D:o+m<=L.length) (hk:k+vs.length<=m) :
 ((L.take (o+k)++vs++L.drop (o+k+vs.length)).drop o).take m=((L.drop o).take m).take k++vs++((L.drop o).take m).drop (k+vs.length):=by
 obtain⟨A,B,C,rfl,u,w⟩:∃A B C:List α,L=A++(B++C)/\A.length=o/\B.length=m:=
  ⟨L.take o,(L.drop o).take m,(L.drop o).drop m,by rw[List.take_append_drop,List.take_append_drop],by simp;omega,by simp;omega⟩
 subst u;subst w;have e1:(A++(B++C)).take (A.length+k)=A++B.take k:=by
  rw[List.take_append,List.take_of_length_le (by omega),Nat.add_sub_cancel_left,List.take_append_of_le_length (by omega)]
 have e2:(A++(B++C)).drop (A.length+k+vs.length)=B.drop (k+vs.length)++C:=by
  rw[List.drop_append,List.drop_eq_nil_of_le (by omega),List.nil_append,List.drop_append_of_le_length (by omega)]
  congr 2;omega
 have e3:((A++(B++C)).drop A.length).take B.length=B:=by simp
 rw[e1,e2,e3];simp only[List.append_assoc,List.drop_left];have z:(B.take k++(vs++B.drop (k+vs.length))).length=B.length:=by simp;omega
 have:B.take k++(vs++(B.drop (k+vs.length)++C))=(B.take k++(vs++B.drop (k+vs.length)))++C:=by simp[List.append_assoc]
 rw[this,<-z,List.take_left]
theorem gb.splice {p:Pl} {c c':Array Value} {es el off:Nat} {xs:List (List V)} {cs ys:List V} {vs:List Value} (r:gb I μ p c es xs) (B:xs[el]? = some cs) (U:cF I μ ys vs)
 (W:∀y∈ys,V.one y=true) (Y:off+ys.length<=cs.length) (hc:c'.toList=c.toList.take (p.o+el*es+off)++vs++c.toList.drop (p.o+el*es+off+vs.length)) :
 gb I μ p c' es (xs.set el (cs.take off++ys++cs.drop (off+ys.length))):=by
 obtain⟨k1,T,X⟩:=r.elem B;have C:=(ζe.1 B).1;have Q:=U.1;have u:=r.room;have Z:el*es+es<=xs.length*es:=by
  have:=Nat.mul_le_mul_right es (show el+1<=xs.length from C)
  rwa [Nat.add_mul,Nat.one_mul]at this
 have D:c'.size=c.size:=by
  have:=congrArg List.length hc;simp at this;omega
 have G:(cs.take off++ys++cs.drop (off+ys.length)).length=es:=by simp;omega
 have z:∀x∈xs.set el (cs.take off++ys++cs.drop (off+ys.length)),x∈xs\/x=cs.take off++ys++cs.drop (off+ys.length):=λx J=>List.mem_or_eq_of_mem_set J
 refine⟨r.es_eq,by rw[D];exact r.sz,?_,?_,by rw[D];simpa using u,?_⟩
 .intro x J;rcases z x J with h|h
  .exact r.o6 x h
  .rw[h];exact G
 .intro x J y w;rcases z x J with h|h
  .exact r.one x h y w
  .rw[h]at w;have L:=r.one cs (List.mem_of_getElem? B);simp only[List.mem_append]at w;rcases w with (h|h)|h
   .exact L y (List.mem_of_mem_take h)
   .exact W y h
   .exact L y (List.mem_of_mem_drop h)
 .rw[FX r.o6 _ C G,hc,List.length_set];have A:=r.rel;have O:=D2 r.o6 B;have e:List.take (xs.length*es) (List.drop p.o (List.take (p.o+el*es+off) c.toList++vs++List.drop (p.o+el*es+off+vs.length) c.toList)) =
   (((c.toList.drop p.o).take (xs.length*es)).take (el*es+off))++vs++(((c.toList.drop p.o).take (xs.length*es)).drop (el*es+off+vs.length)):=by
   have:=Bm c.toList vs p.o (xs.length*es) (el*es+off) (by simpa using u) (by omega)
   simpa only[Nat.add_assoc]using this
  rw[e];have e2:xs.flatten.take (el*es)++(cs.take off++ys++cs.drop (off+ys.length))++xs.flatten.drop (el*es+es) =
   xs.flatten.take (el*es+off)++ys++xs.flatten.drop (el*es+off+ys.length):=by
   have S:=fN r.o6;have f1:xs.flatten.take (el*es+off)=xs.flatten.take (el*es)++cs.take off:=by
    rw[<-O,List.take_add,List.take_take,Nat.min_eq_left (by omega)]
   have f2:xs.flatten.drop (el*es+off+ys.length)=cs.drop (off+ys.length)++xs.flatten.drop (el*es+es):=by
    rw[<-O,List.drop_take];have:xs.flatten.drop (el*es+es)=(xs.flatten.drop (el*es+(off+ys.length))).drop (es-(off+ys.length)):=by rw[List.drop_drop];congr 1;omega
    rw[this,List.drop_drop,List.take_append_drop,Nat.add_assoc]
   rw[f1,f2];simp[List.append_assoc]
  rw[e2,<-Q];exact((A.take _).append U).append (A.drop _)
theorem OH (U:ey P E) (r:dV I μ n F a.tmps) (s:cQ I μ H w) {t:TypeId} {p q:Operand} {x:V} (h:cT E F H (.store t p q)=some (x,H')) :
 Cc P I μ H w (do Instr.storeAt t (a.eval p) (a.eval q);pure .skip) x H':=by
 simp only[cT]at h;split at h
 .rename_i d id el off v hd S T;split at h
  .rename_i es L z;split at h
   .rename_i cs A;split at h
    .rename_i hc;obtain⟨W,X,C⟩:=hc;simp only[ζa,ζc]at h;obtain⟨rfl,rfl⟩:=h;obtain⟨pl,c,ty,g1,g2,g3,g4⟩:=s.obs id _ z;obtain⟨Y,O,e⟩:=(di r S).sZ;rw[g1]at O;cases O;have u:=(di r T).cells;have Q:∀y∈v.cells,V.one y=true:=by simpa using C
     obtain⟨k1,k2,k3⟩:=g4.elem A;have D:=u.1;have Z:pl.o+el*es+off+0+(a.eval q).cells.toList.length<=c.size:=by omega
     obtain⟨c',f1,f2⟩:=uG (P:=P) (o:=pl.o+el*es+off) (a.eval q).cells.toList 0 w c g3 (u.PI Q) Z;have B:gb I μ pl c' es (L.set el (cs.take off++v.cells++cs.drop (off+v.cells.length))):=g4.splice A u Q (by omega) (by simpa using f2)
     have G:=(Array.getElem?_eq_some_iff.1 g3).1;obtain⟨s1,s2⟩:=s.write (ob':=.row es (L.set el (cs.take off++v.cells++cs.drop (off+v.cells.length)))) (o:=.cells c' ty) z rfl g1
      ⟨pl,c',ty,g1,g2,iz _ G,B⟩
     refine⟨.skip,undef,_,μ,?_,.inr ⟨rfl,rfl⟩,.undef I μ,s1,s2⟩;rw[e];have J:¬((a.eval q).cells.size≠d.size):=by simp at D;omega
     rw[g4.es_eq];unfold Instr.storeAt storeVar;simp only[Sem.run_bind,Instr.sureAddr,Sem.run_pure,Result.andThen_ok,(U.ty hd).kg,if_neg J,f1]
    .simp at h
   .simp at h
  .simp at h
 .simp at h
end
end Go.VE
namespace Go.VE
variable [bS]
section
variable {P:Program} {E:Env} {I:ct} {μ:Mu} {H H':bg} {n:Nat} {F:Frame} {a:Act} {w:World}
theorem Aj (s:cQ I μ H w) {x:V} {v:Value} (Y:bF I μ x v) {es:Nat} {ys:List (List V)} (h:dN H es x=some ys) :
 ∃B cap arr,v=.slice B ys.length cap/\ys.length<=cap/\(∀D:World,D.heap=w.heap->(Builtin.firstCells es ys.length v).run P D=.ok arr D)/\cF I μ ys.flatten arr.toList/\(∀y∈ys,y.length=es) /\
  (∀y∈ys,∀z∈y,V.one z=true):=by
 have A:∀(B:Option Addr) (cap:Nat) (D:World),D.heap=w.heap->(Builtin.firstCells es 0 (.slice B 0 cap)).run P D=.ok #[] D:=by
  intro B cap D _
  cases B with
  | none=>rfl
  | some B=>simp[Builtin.firstCells,loadCells,loadCellsFrom]
 cases x with
 | dA=>
  simp only[dN,ζa]at h;subst h;obtain⟨B,rfl⟩:=Y.rO;exact⟨B,0,#[],rfl,Nat.le_refl _,A B 0,.nil,by simp,by simp⟩
 | bW=>
  simp only[dN,ζa]at h;subst h;rw[Y.lU];exact⟨none,0,#[],rfl,Nat.le_refl _,A none 0,.nil,by simp,by simp⟩
 | fsl u J=>
  simp only[dN]at h;split at h
  .rename_i X;simp only[ζa]at h;subst h;subst X;have hf:=Y.lW
   cases hf with
   | fsl0 _ B cap=>exact⟨some B,cap,#[],rfl,Nat.zero_le _,A (some B) cap,.nil,by simp,by simp⟩
   | fsl _ _ b o cap c hI hc hu ho hb hr=>
    obtain⟨el,fr,Z⟩:=s.imm _ _ hI;refine⟨_,cap,((c.toList.drop o).take (J.length*u)).toArray,rfl,hc,?_,?_,hu,ho⟩
    .intro D L;simp only[Builtin.firstCells];exact DO (vw (w:=D) (by rw[L];exact Z)) (.inl hb)
    .have Q:=fN hu;refine⟨by simp[Q];omega,λj p q h1 h2=>?_⟩
     have S:=(ζe.1 h1).1;rw[Q]at S;have G:0<u:=by
      rcases Nat.eq_zero_or_pos u with h0|h0
      .rw[h0]at S;simp at S
      .exact h0
     have hi:j / u<J.length:=(Nat.div_lt_iff_lt_mul G).2 S;have T:j % u<u:=Nat.mod_lt _ G;have U:=hu _ (List.getElem_mem hi);have e1:=vL hu (i:=j / u) (j:=j % u) (x:=J[j / u]) (y:=(J[j / u])[j % u]) (by simp[hi]) (by simp[U,T])
     have ej:j / u*u+j % u=j:=by rw[Nat.mul_comm,Nat.div_add_mod]
     rw[ej,h1]at e1;cases e1;simp only[List.getElem?_take,if_pos S,List.getElem?_drop]at h2;refine .c _ _ (hr (j / u) (j % u) J[j / u] _ q (by simp[hi]) (by simp[U,T]) ?_)
     rw[Nat.add_assoc,ej];simpa using h2
  .simp at h
 | hsl id u off len=>
  simp only[dN]at h;split at h
  .rename_i X;subst X;split at h
   .rename_i O J W;split at h
    .rename_i aa;simp only[ζa]at h;subst h;obtain⟨p,c,g1,g2,g3⟩:=s.rows W;have C:((J.drop off).take len).length=len:=by simp;omega
     rcases Y.lQ with⟨q,cap,T,hq,hc,hb,e⟩|⟨h0,B,e⟩
     .rw[g1]at T;cases T;have G:O=u:=by rw[<-g3.es_eq,hq]
      subst G;obtain⟨k1,k2⟩:=g3.span aa;refine⟨_,cap,((c.toList.drop (p.o+off*O)).take (len*O)).toArray,by rw[e,C],by omega,?_,by simpa using k1,?_,?_⟩
      .intro D L;rw[e,C];simp only[Builtin.firstCells];exact DO (λk=>by rw[<-g2 k];simp[World.cell?,L]) (.inl k2)
      .exact λy hy=>g3.o6 y (List.mem_of_mem_drop (List.mem_of_mem_take hy))
      .exact λy hy=>g3.one y (List.mem_of_mem_drop (List.mem_of_mem_take hy))
     .subst h0;simp only[List.take_zero]at C ⊢;exact⟨_,0,#[],by rw[e];rfl,Nat.le_refl _,by rw[e];exact A _ 0,.nil,by simp,by simp⟩
    .simp at h
   .simp at h
  .simp at h
 | _=>simp[dN]at h
theorem qo (z:Array Value) (k:Nat):(Builtin.zeroCells z k).size=k*z.size:=by simp[Builtin.zeroCells]
theorem cQ.drew (s:cQ I μ H w):cQ I μ H w.drew:=s.oI rfl
theorem A0 (s:cQ I μ H w) {es B:Nat} {xs ys:List (List V)} {old new rest:Array Value} {el:TypeId} (Y:cF I μ xs.flatten old.toList) (hn:cF I μ ys.flatten new.toList)
 (G:∀x∈xs,x.length=es) (J:∀x∈ys,x.length=es) (U:∀x∈xs,∀y∈x,V.one y=true) (W:∀x∈ys,∀y∈x,V.one y=true)
 (D:xs.length+ys.length<=B) (hr:rest.size=(B-(xs.length+ys.length))*es) :
 ∃μ',bF I μ' (.hsl H.length es 0 (xs.length+ys.length)) (.slice (some ⟨w.heap.size,0,none⟩) (xs.length+ys.length) B)/\cQ I μ' (H++[.row es (xs++ys)]) (w.alloc (.cells (old++new++rest) el)) /\
  Step I μ H w I μ' (H++[.row es (xs++ys)]) (w.alloc (.cells (old++new++rest) el)):=by
 have C:=fN G;have L:=fN J;have z:=Y.1;have A:=hn.1;simp only[Array.length_toList]at z A;have O:(old++new++rest).size=B*es:=by
  simp only[Array.size_append];rw[<-z,<-A,C,L,hr,<-Nat.add_mul,<-Nat.add_mul];congr 1;omega
 have u:(xs.length+ys.length)*es<=B*es:=Nat.mul_le_mul_right _ D;rw[Nat.add_mul]at u;have Q:gb I μ ⟨w.heap.size,0,es,(old++new++rest).size⟩ (old++new++rest) es (xs++ys):=by
  refine⟨rfl,rfl,?_,?_,?_,?_⟩
  .intro x S;rcases List.mem_append.1 S with h|h;exact G x h;exact J x h
  .intro x S;rcases List.mem_append.1 S with h|h;exact U x h;exact W x h
  .rw[O];simp only[ζi,Nat.zero_add,Nat.add_mul];exact u
  .have e:((old++new++rest).toList.drop 0).take ((xs++ys).length*es)=old.toList++new.toList:=by
    simp only[List.drop_zero,Array.toList_append];rw[List.take_left' (by simp[<-z,<-A,C,L,Nat.add_mul])]
   rw[e,List.flatten_append];exact Y.append hn
 obtain⟨s1,T⟩:=s.push (ob:=.row es (xs++ys)) (o:=.cells (old++new++rest) el) (p:=⟨w.heap.size,0,es,(old++new++rest).size⟩) rfl
  ⟨_,_,el,Mu.gj _ _ _,s.y6,mL _,Q.mono (ct.le_refl _) (Mu.qQ (s.dom _ (Nat.le_refl _)))⟩
 refine⟨_,?_,s1,T⟩;have:=bF.hsl (I:=I) H.length 0 (xs.length+ys.length) B _ (Mu.gj μ H.length ⟨w.heap.size,0,es,(old++new++rest).size⟩) D (by simp only[Nat.zero_add];rw[O];exact Nat.le_refl _)
 simpa using this
theorem Ke (s:cQ I μ H w) {id:Nat} {ob ob':Ob} {p p':Pl} {o:Obj} (B:H[id]? = some ob) (U:ob.live=true) (hp:μ id=some p) (Y:p'.b=p.b)
 (aa:sM I (μ.fS H.length p') (fT w p.b o) H.length ob') (hz:Obj.nf o:=by first|exact s6 _ _|exact rE rfl):cQ I (μ.fS H.length p') (H.set id .dead++[ob']) (fT w p.b o)/\Step I μ H w I (μ.fS H.length p') (H.set id .dead++[ob']) (fT w p.b o):=by
 have Z:=(ζe.1 B).1;have z:ij μ H p.b:=⟨id,p,ob,B,U,hp,rfl⟩;have hk:=s.dom H.length (Nat.le_refl _);have u:∀k x,(H.set id .dead++[ob'])[k]? = some x->(k=H.length/\x=ob')\/(k≠H.length/\k=id/\x=.dead)\/(k≠H.length/\k≠id/\H[k]? = some x):=by
  intro k x h
  by_cases e:k<H.length
  .rw[List.getElem?_append_left (by simpa using e)]at h
   by_cases C:k=id
   .subst C;rw[List.getElem?_set_self Z]at h;cases h;exact .inr (.inl ⟨by omega,rfl,rfl⟩)
   .rw[List.getElem?_set_ne (Ne.symm C)]at h;exact .inr (.inr ⟨by omega,C,h⟩)
  .have:=(ζe.1 h).1;simp at this;have e2:k=H.length:=by omega
   subst e2;simp at h;exact .inl ⟨rfl,h.symm⟩
 have A:∀b,ij (μ.fS H.length p') (H.set id .dead++[ob']) b->ij μ H b:=by
  rintro b ⟨k,q,x,h1,O,S,rfl⟩;rcases u k x h1 with⟨rfl,rfl⟩|⟨_,_,rfl⟩|⟨e,C,h⟩
  .rw[Mu.gj]at S;cases S;rw[Y];exact z
  .simp[Ob.live]at O
  .rw[Mu.iM _ _ e]at S;exact⟨k,q,x,h,O,S,rfl⟩
 refine⟨⟨?_,?_,?_,?_,s.gl⟩,⟨ct.le_refl _,Mu.qQ hk,by simp,by rw[wq];exact Nat.le_refl _,?_,?_,rfl,⟨rfl,rfl,Nat.le_refl _⟩,λa _=>Ck (b:=p.b) hz (iz o (mW s z)) (λk hk=>gx o hk) a⟩⟩
 .intro k h;simp at h;rw[Mu.iM _ _ (by omega)]
  exact s.dom k (by omega)
 .intro b x h;refine IC.rN (s.imm b x h) (gx o ?_);intro D;rw[D,ga s z]at h;cases h
 .intro k x h;rcases u k x h with⟨rfl,rfl⟩|⟨_,_,rfl⟩|⟨e,C,h⟩
  .exact aa
  .trivial
  .refine(s.obs k x h).mono (ct.le_refl _) (Mu.qQ hk) (λq hq Q=>⟨gx o ?_,ga s ⟨k,q,x,h,Q,hq,rfl⟩⟩) (λhe=>?_)
   .intro D;exact C (s.inj k id x ob q p h B Q U hq hp D)
   .subst he;rw[Mu.iM _ _ e];exact s.obs k _ h
 .intro k T x W q q' h1 O l1 X J L G;rcases u k x h1 with⟨rfl,rfl⟩|⟨_,_,rfl⟩|⟨e,C,h⟩
  .rcases u T W O with⟨rfl,rfl⟩|⟨_,_,rfl⟩|⟨f,f',g⟩
   .rfl
   .simp[Ob.live]at X
   .rw[Mu.gj]at J;cases J;rw[Mu.iM _ _ f]at L;exact absurd (s.inj T id W ob q' p g B X U L hp (by rw[<-G,Y])) f'
  .simp[Ob.live]at l1
  .rcases u T W O with⟨rfl,rfl⟩|⟨_,_,rfl⟩|⟨f,f',g⟩
   .rw[Mu.gj]at L;cases L;rw[Mu.iM _ _ e]at J;exact absurd (s.inj k id x ob q p h B l1 U J hp (by rw[G,Y])) C
   .simp[Ob.live]at X
   .rw[Mu.iM _ _ e]at J;rw[Mu.iM _ _ f]at L;exact s.inj k T x W q q' h g l1 X J L G
 .intro b _ hn;refine gx o ?_;rintro rfl;exact hn z
 .intro b h;rcases h with h|h
  .exact .inl h
  .exact .inr (.inl (A b h))
end
end Go.VE
namespace Go.VE
variable [bS]
section
variable {P:Program} {E:Env} {I:ct} {μ:Mu} {H H':bg} {n:Nat} {F:Frame} {a:Act} {w:World}
theorem Dk (hE:ey P E) {t t' e:TypeId} {d:TD} {D:TypeDesc} (ht:P.underlying t=some (.slice e)) (Y:P.underlying t'=some D) (aa:∃e',D=.slice e') (hd:E.tt e=some d)
 (W J:Option Addr) (sl sc B xc:Nat) (new:Array Value) (ab:(Builtin.firstCells d.size B (.slice J B xc)).run P w=.ok new w) (ty:TypeId) :
 (sl+B<=sc->∀w',(match W with|some b=>(storeCells (b.add (sl*d.size)) new.toList).run P w=.ok () w'|none=>w'=w) ->
  (Builtin.append_ #[t,t'] ty #[.slice W sl sc,.slice J B xc]).run P w=.ok (.slice W (sl+B) sc) w') /\
 (sc<sl+B->sl+B<=2147483648->d.bytes<=4096->0<d.bytes->∀old,(∀U,U.heap=w.heap->(Builtin.firstCells d.size sl (.slice W sl sc)).run P U=.ok old U) ->
  (∀U,U.heap=w.heap->(Builtin.firstCells d.size B (.slice J B xc)).run P U=.ok new U) ->
  ∃G rest,sl+B<=G/\rest.size=(G-(sl+B))*d.size /\
   (Builtin.append_ #[t,t'] ty #[.slice W sl sc,.slice J B xc]).run P w=.ok (.slice (some ⟨w.heap.size,0,none⟩) (sl+B) G) (w.drew.alloc (.cells (old++new++rest) e))):=by
 obtain⟨i,z,hi,T,ae,hz,I,af,_⟩:=(hE.ty hd).info;have u:∀w,(zeroValue e).run P w=.ok z w:=λw=>by simp[zeroValue,oD hi,hz]
 have L:z.cells.size=d.size:=by have:=(I (λ_=>none) (λ_=>none)).1;grind
 obtain⟨e',rfl⟩:=aa;constructor
 .intro O w' ah;unfold Builtin.append_;simp only[Sem.run_bind,List.getElem?_toArray,List.getElem?_cons_zero,List.getElem?_cons_succ,dF ht,dF Y,Result.andThen_ok,(hE.ty hd).kg,Sem.run_pure,Builtin.lenOf,Bool.false_eq_true,if_false,Bool.not_false,if_true,if_pos O,ab]
  cases W with
  | none=>simp_all
  | some b=>simp_all
 .intro Q X ai Z old hold A;have S  := nextslicecap_le Q;have c1:¬(Builtin.nextslicecap (sl+B) sc*i.bytes>2 ^ 48):=by
   have:Builtin.nextslicecap (sl+B) sc*i.bytes<=(2*2147483648)*4096:=Nat.mul_le_mul (by omega) (by omega)
   omega
  have C:¬(sl+B<=sc):=by omega
  refine⟨(Question.appendCap (sl+B) sc e).cut (w.tape w.drawn (Question.appendCap (sl+B) sc e)),Builtin.zeroCells z.cells (((Question.appendCap (sl+B) sc e).cut (w.tape w.drawn (Question.appendCap (sl+B) sc e)))-(sl+B)),?_,?_,?_⟩
  .simp[Question.cut]
  .rw[qo,L]
  .unfold Builtin.append_;simp only[Sem.run_bind,List.getElem?_toArray,List.getElem?_cons_zero,List.getElem?_cons_succ,dF ht,dF Y,Result.andThen_ok,(hE.ty hd).kg,Sem.run_pure,Builtin.lenOf,Bool.false_eq_true,if_false,Bool.not_false,if_true,if_neg C,oD hi];rw[if_neg (by grind)]
   simp only[Sem.run_bind,oD hi,if_neg c1,run_choose,Question.forced,Bool.false_eq_true,if_false,Result.andThen_ok,run_askRoom,u,newRow,run_newObj,Sem.run_pure];rw[hold { w with drawn:=w.drawn+1 } rfl];simp only[Result.andThen_ok];rw[A { w with drawn:=w.drawn+1 } rfl];rfl
theorem wrap_small {m:Nat} (h:m<=2147483648):IntKind.i64.wrap (m:Int)=m:=by simp[IntKind.wrap,IntKind.bits];omega
theorem Fe (U:ey P E) {t W e:TypeId} {d:TD} {kk k:IntKind} (Y:P.underlying t=some (.slice e)) (G:P.underlying W=some (.int kk)) (hd:E.tt e=some d) (ty:TypeId) (m:Nat) (D:m<=2147483648) :
 (m=0->(Builtin.append_ #[t,W] ty #[.slice none 0 0,.int k m]).run P w=.ok (.slice none 0 0) w) /\
 (0<m->d.bytes<=4096->0<d.bytes->∃B z rest,m<=B/\rest.size=(B-m)*d.size/\cF I μ d.zero z.toList /\
  (Builtin.append_ #[t,W] ty #[.slice none 0 0,.int k m]).run P w=.ok (.slice (some ⟨w.heap.size,0,none⟩) m B) (w.drew.alloc (.cells (#[]++Builtin.zeroCells z m++rest) e))):=by
 obtain⟨i,z,hi,T,aa,hz,A,ab,_⟩:=(U.ty hd).info;have u:∀w,(zeroValue e).run P w=.ok z w:=λw=>by simp[zeroValue,oD hi,hz]
 have C:z.cells.size=d.size:=by have:=(A (λ_=>none) (λ_=>none)).1;grind
 have hw:=wrap_small D;constructor
 .rintro rfl;unfold Builtin.append_;have O:IntKind.i64.wrap 0=0:=by omega
  simp[dF Y,dF G,(U.ty hd).kg,asInt,oD hi,lK,O]
 .intro X ad Z;have Q:Builtin.nextslicecap (0+m) 0<=2*(0+m):=nextslicecap_le (by omega)
  have c1:¬(Builtin.nextslicecap (0+m) 0*i.bytes>2 ^ 48):=by
   have:Builtin.nextslicecap (0+m) 0*i.bytes<=(2*2147483648)*4096:=Nat.mul_le_mul (by omega) (by omega)
   omega
  have c0:¬(m*(i.bytes:Int)>2 ^ 48):=by
   have h1:m*i.bytes<=2147483648*4096:=Nat.mul_le_mul D (by omega)
   grind
  have c2:¬((0+m:Nat)>IntKind.i64.max):=by
   have:IntKind.i64.max=9223372036854775807:=by rfl
   omega
  have J:¬(0+m<=0):=by omega
  have L:¬((m:Int)<0):=by omega
  refine⟨(Question.appendCap (0+m) 0 e).cut (w.tape w.drawn (Question.appendCap (0+m) 0 e)),z.cells,Builtin.zeroCells z.cells (((Question.appendCap (0+m) 0 e).cut (w.tape w.drawn (Question.appendCap (0+m) 0 e)))-(0+m)),?_,?_,A _ _,?_⟩
  .simp[Question.cut]
  .rw[qo,C,Nat.zero_add]
  .unfold Builtin.append_;have S:(if m*d.size=0 then pure #[]else do pure (Builtin.zeroCells (<-zeroValue e).cells m))=(do pure (Builtin.zeroCells (<-zeroValue e).cells m))\/(m*d.size=0/\Builtin.zeroCells z.cells m=#[]):=by
    by_cases h:m*d.size=0
    .right;exact⟨h,Array.eq_empty_of_size_eq_zero (by rw[qo,C,h])⟩
    .left;rw[if_neg h]
   simp only[Sem.run_bind,List.getElem?_toArray,List.getElem?_cons_zero,List.getElem?_cons_succ,dF Y,dF G,Result.andThen_ok,(U.ty hd).kg,Sem.run_pure,if_true,asInt,lK,hw,if_neg L,oD hi,if_neg c0,Int.toNat_natCast,if_neg J,if_false];rw[if_neg (λh=>c2 h.1)]
   simp only[Sem.run_bind,oD hi,if_neg c1,run_choose,Question.forced,Result.andThen_ok,u,newRow,Builtin.firstCells];rcases S with h|⟨h,h'⟩
   .rw[h];simp[u,run_newObj]
   .rw[if_pos h,h'];simp[run_newObj]
theorem L9 (hE:ey P E) (r:dV I μ n F a.tmps) (s:cQ I μ H w) {args:Array Operand} {U:Array TypeId} {x:V} {ty:TypeId}
 (h:cT E F H (.call { callee:=.builtin .append,args,argTypes:=U })=some (x,H')) :
 Cc P I μ H w (do let d <-resolve a.eval { callee:=.builtin .append,args,argTypes:=U } ty;invoke d.target d.args) x H':=by
 simp[cT]at h;split at h
 .rename_i t t' vs vx ax ai;obtain⟨us,ux,T,hs,S⟩:=(nD r ai).two;split at h
  .rename_i e e' hk aj;obtain⟨d0,ak,al⟩:=fD hk;obtain⟨desc,h1,h2,h3⟩:=(hE.ty ak).dF;rw[al]at h2;have:=jl h2;subst this;obtain⟨d1,zc,W⟩:=fD aj;obtain⟨am,g1,g2,g3⟩:=(hE.ty zc).dF;rw[W]at g2;have:=jl g2;subst this;have B:∀v w',(Builtin.append_ #[t,t'] ty #[us,ux]).run P w=.ok v w' ->
    (do let d <-resolve a.eval { callee:=.builtin .append,args,argTypes:=U } ty;invoke d.target d.args).run P w=.ok (.value v) w':=by
    simp[resolve,Sem.run_bind,Sem.run_pure,Result.andThen_ok,invoke,builtin];rw[rL T];have ea:U=#[t,t']:=by grind
    simp_all
   split at h
   .rename_i d hd;split at h
    .
     rename_i xs A an;obtain⟨ad,cap,arr,e1,e2,e3,e4,_⟩:=Aj (P:=P) s hs A;obtain⟨ao,X,C,f1,f2,f3,f4,_⟩:=Aj  s S an;simp  at f1 f3;have ay:C=#[]:=by
      have:=f4.1;grind
     have f3:=f3 w rfl;rw[f1]at f3;have key:=(Dk hE h1 g1 ⟨_,rfl⟩ hd ad ao xs.length cap 0 X C f3 ty).1 (by omega) w
      (by
       cases ad with
       | none=>rfl
       | some b=>simp[ay,storeCells])
     rw[<-f1,<-e1,Nat.add_zero,<-e1]at key;have ap:x=vs/\H'=H:=by
      grind
     obtain⟨rfl,rfl⟩:=ap;exact⟨_,us,w,μ,B _ _ key,.inl rfl,hs,s,.refl _ _ _ _⟩
    .rename_i xs ys aG A an;obtain⟨ad,cap,arr,e1,e2,e3,e4,e5,e6⟩:=Aj  s hs A;obtain⟨ao,X,C,f1,f2,f3,f4,f5,f6⟩:=Aj  s S an;split at h
     .rename_i hc;obtain⟨aA,aq,ar⟩:=hc;have aH:0<ys.length:=by
       rcases Nat.eq_zero_or_pos ys.length with h0|h0
       .exact absurd (List.eq_nil_of_length_eq_zero h0) aG
       .exact h0
      have key:=Dk hE h1 g1 ⟨_,rfl⟩ hd ad ao xs.length cap ys.length X C (by rw[<-f1];exact f3 w rfl) ty
      rw[<-f1,<-e1]at key;have O:cap<xs.length+ys.length->∃D rest,xs.length+ys.length<=D/\rest.size=(D-(xs.length+ys.length))*d.size /\
       (Builtin.append_ #[t,t'] ty #[us,ux]).run P w=.ok (.slice (some ⟨w.heap.size,0,none⟩) (xs.length+ys.length) D) (w.drew.alloc (.cells (arr++C++rest) e)):=by
       intro au;refine key.2 au aA aq ar arr ?_ ?_
       .intro w2 av;exact e3 w2 av
       .intro w2 av;exact f3 w2 av
      simp  at h;obtain⟨H1,J,rfl,rfl⟩:=h
      cases vs with
      | dA=>
       simp[hU]at J;subst J;simp[dN]at A;subst A;obtain⟨aI,q⟩:=hs.rO;have af:cap=0:=by rw[q]at e1;cases e1;rfl
       obtain⟨D,rest,k1,k2,k3⟩:=O (by simp;omega)
       obtain⟨μ',m1,m2,m3⟩:=A0  s.drew e4 f4 e5 f5 e6 f6 k1 k2;refine⟨_,_,_,μ',B _ _ k3,.inl rfl,m1,m2,?_⟩;exact Step.trans s.drew (Step.oI rfl rfl ⟨rfl,rfl,Nat.le_succ _⟩) m3
      | bW=>
       simp[hU]at J;subst J;simp[dN]at A;subst A;have q:=hs.lU;have af:cap=0:=by rw[q]at e1;cases e1;rfl
       obtain⟨D,rest,k1,k2,k3⟩:=O (by simp;omega)
       obtain⟨μ',m1,m2,m3⟩:=A0  s.drew e4 f4 e5 f5 e6 f6 k1 k2;refine⟨_,_,_,μ',B _ _ k3,.inl rfl,m1,m2,?_⟩;exact Step.trans s.drew (Step.oI rfl rfl ⟨rfl,rfl,Nat.le_succ _⟩) m3
      | hsl id es off len=>
       simp[hU]at J;split at J
       .rename_i u aJ ab;simp  at J;subst J;have aB:(H[id]?).bind Ob.rows=some (u,aJ):=by rw[ab];rfl
        have aW:=A;simp only[dN]at A;split at A
        .rename_i aK;rw[aB]at A;simp only at A;split at A
         .rename_i aL;simp  at A;obtain⟨p,c,aC,q1,q2,q3,q4⟩:=s.obs id _ ab;have Y:xs.length=len:=by rw[<-A];simp;omega
          have G:cap<xs.length+ys.length->Cc P I μ H w (do let d <-resolve a.eval { callee:=.builtin .append,args,argTypes:=U } ty;invoke d.target d.args)
           (.hsl H.length d.size 0 (xs.length+ys.length)) (H.set id .dead++[.row d.size (xs++ys)]):=by
           intro au;obtain⟨D,rest,k1,k2,k3⟩:=O au;obtain⟨s1,s2⟩:=s.drew.kill ab;obtain⟨μ',m1,m2,m3⟩:=A0  s1 e4 f4 e5 f5 e6 f6 k1 k2;rw[List.length_set]at m1;exact⟨_,_,_,μ',B _ _ k3,.inl rfl,m1,m2,Step.trans s.drew (Step.oI rfl rfl ⟨rfl,rfl,Nat.le_succ _⟩) (Step.trans s1 s2 m3)⟩
          rcases hs.lQ with⟨p',Q,hm,aM,aX,aN,ee⟩|⟨h0,aI,ee⟩
          .rw[q1]at hm;cases hm;have aw:Q=cap/\ad=some ⟨p.b,p.o+off*es,none⟩:=by rw[ee]at e1;cases e1;exact⟨rfl,rfl⟩
           obtain⟨rfl,rfl⟩:=aw
           by_cases ah:xs.length+ys.length<=Q
           .have aD:u=es:=by rw[<-q4.es_eq,aM]
            subst aD;have L  := aK;obtain⟨r1,r2⟩:=q4.span aL;rw[A]at r1;have ae:=f4.1;simp only[Array.length_toList]at ae;rw[fN f5]at ae;have aO:(len+ys.length)*u<=Q*u:=Nat.mul_le_mul_right _ (by omega)
            rw[Nat.add_mul]at aO;rw[Nat.add_mul]at aN;have aP:=q4.sz;rw[<-L]at ae;have Z:p.o+off*u+len*u+0+C.toList.length<=c.size:=by simp;omega
            obtain⟨c',u1,u2⟩:=uG   C.toList 0 w c q3 (f4.PI (λx S=>by
             obtain⟨l,hl,aQ⟩:=List.mem_flatten.1 S;exact f6 l hl x aQ)) Z
            have aE:c'.size=c.size:=by
             have:=congrArg List.length u2;simp at this Z;omega
            have aF:=key.1 ah (fT w p.b (.cells c' aC)) (by
             simp[pR,Y];rw[<-L];exact u1)
            have aa:gb I μ ⟨p.b,p.o+off*u,u,p.sz⟩ c' u (xs++ys):=by
             refine⟨rfl,by rw[aE];exact aP,?_,?_,?_,?_⟩
             .intro x S;rcases List.mem_append.1 S with h|h;exact(e5 x h).trans L.symm;exact(f5 x h).trans L.symm
             .intro x S;rcases List.mem_append.1 S with h|h;exact e6 x h;exact f6 x h
             .rw[aE,ζi,Y,Nat.add_mul];simp only;omega
             .have e:(c'.toList.drop (p.o+off*u)).take ((xs++ys).length*u)=(c.toList.drop (p.o+off*u)).take (len*u)++C.toList:=by
               rw[u2,ζi,Y,Nat.add_mul,ae];simp only[Nat.add_zero];have aR:(List.take (p.o+off*u+len*u) c.toList).length=p.o+off*u+len*u:=by simp;omega
               rw[List.append_assoc,List.drop_append_of_le_length (by rw[aR];omega),List.drop_take,show p.o+off*u+len*u-(p.o+off*u)=len*u by omega]
               have aS:(List.take (len*u) (List.drop (p.o+off*u) c.toList)).length=len*u:=by simp;omega
               rw[<-List.append_assoc,List.take_left' (by rw[ζi,aS];simp)]
              rw[e,List.flatten_append];exact r1.append f4
            obtain⟨s1,s2⟩:=Ke (ob':=.row u (xs++ys)) (p':=⟨p.b,p.o+off*u,u,p.sz⟩)  s ab rfl q1 rfl
             ⟨_,c',aC,Mu.gj _ _ _,q2,iz _ (Array.getElem?_eq_some_iff.1 q3).1,aa.mono (ct.le_refl _) (Mu.qQ (s.dom _ (Nat.le_refl _)))⟩
            rw[<-L];refine⟨_,_,_,_,B _ _ aF,.inl rfl,?_,s1,s2⟩;have:=bF.hsl (I:=I) H.length 0 (xs.length+ys.length) Q _ (Mu.gj μ H.length ⟨p.b,p.o+off*u,u,p.sz⟩) ah (by simp ;omega)
            simpa using this
           .exact G (by omega)
          .have af  := by rw[ee]at e1;simp[Value.slice.injEq]at e1;exact e1.2.2.symm
           exact G (by omega)
         .simp at A
        .simp at A
       .simp at J
      | _=>simp[hU]at J
     grind
    grind
   grind
  .
   rename_i e kk hk aj;obtain⟨d0,ak,al⟩:=fD hk;obtain⟨desc,h1,h2,h3⟩:=(hE.ty ak).dF;rw[al]at h2;have:=jl h2;subst this;obtain⟨d1,zc,W⟩:=fD aj;obtain⟨am,g1,g2,g3⟩:=(hE.ty zc).dF;rw[W]at g2;have:=CU g2;subst this;have B:∀v w',(Builtin.append_ #[t,t'] ty #[us,ux]).run P w=.ok v w' ->
    (do let d <-resolve a.eval { callee:=.builtin .append,args,argTypes:=U } ty;invoke d.target d.args).run P w=.ok (.value v) w':=by
    intro v w' hv;simp[resolve,Sem.run_bind,Sem.run_pure,Result.andThen_ok,invoke,builtin];rw[rL T];have ea:U=#[t,t']:=by apply Array.ext';simpa using ax
    rw[ea,hv];rfl
   split at h
   .rename_i d hd;unfold mkApp at h;split at h
    .rename_i k m;have q:=hs.lU;subst q;have q:=S.fu;subst q;split at h
     .rename_i h0;subst h0;cases h;have key:=(Fe (μ:=μ) (I:=I) (w:=w) (k:=k) hE h1 g1 hd ty 0 (by omega)).1 rfl
      exact⟨_,_,w,μ,B _ _ key,.inl rfl,hs,s,.refl _ _ _ _⟩
     .split at h
      .rename_i hc;obtain⟨aT,aA,aq,ar⟩:=hc;cases h;obtain⟨m,rfl⟩:=Int.eq_ofNat_of_zero_le (Int.le_of_lt aT);obtain⟨D,z,rest,k1,k2,k3,k4⟩:=(Fe     hE h1 g1 hd ty m (by omega)).2 (by omega) aq ar
       have aU  := (hE.ty hd).info.choose_spec.choose_spec.2.2.2.2.2.1;have aV  := (hE.ty hd).info.choose_spec.choose_spec.2.2.2.2.2.2.1;have hu:∀x∈List.replicate m d.zero,x.length=d.size:=λx S=>by rw[List.eq_of_mem_replicate S];exact aU
       have ho:∀x∈List.replicate m d.zero,∀y∈x,V.one y=true:=λx S y hy=>by rw[List.eq_of_mem_replicate S]at hy;exact List.all_eq_true.1 aV y hy
       obtain⟨μ',m1,m2,m3⟩:=A0  (xs:=[]) (ys:=List.replicate m d.zero) (old:=#[]) (new:=Builtin.zeroCells z m) (rest:=rest) s.drew .nil (wD k3 m) (by simp) hu (by simp) ho (by simpa using k1) (by simpa using k2)
       simp  at m1 m2 m3;refine⟨_,_,_,μ',B _ _ k4,.inl rfl,by simpa using m1,by simpa using m2,?_⟩
       exact Step.trans s.drew (Step.oI rfl rfl ⟨rfl,rfl,Nat.le_succ _⟩) (by simpa using m3)
      .cases h
    .cases h
   .cases h
  grind
 grind
theorem zw {es:Nat} {xs:List (List V)} (hu:∀x∈xs,x.length=es) (k:Nat) (hk:k<=xs.length):(xs.take k).flatten=xs.flatten.take (k*es)/\(xs.drop k).flatten=xs.flatten.drop (k*es):=by
 have u:xs.flatten=(xs.take k).flatten++(xs.drop k).flatten:=by rw[<-List.flatten_append,List.take_append_drop]
 have g1:(xs.take k).flatten.length=k*es:=by
  rw[fN (λx u=>hu x (List.mem_of_mem_take u)),List.length_take,Nat.min_eq_left hk]
 grind
theorem Ot (hE:ey P E) (r:dV I μ n F a.tmps) (s:cQ I μ H w) {args:Array Operand} {B:Array TypeId} {x:V} {ty:TypeId}
 (h:cT E F H (.call { callee:=.builtin .clear,args,argTypes:=B })=some (x,H')) :
 Cc P I μ H w (do let d <-resolve a.eval { callee:=.builtin .clear,args,argTypes:=B } ty;invoke d.target d.args) x H':=by
 simp[cT]at h;split at h
 .rename_i t v ae L;obtain⟨u,hu,hr⟩:=(nD r L).one;split at h
  .rename_i e hk;obtain⟨d0,af,ah⟩:=fD hk;obtain⟨desc,h1,h2,h3⟩:=(hE.ty af).dF;rw[ah]at h2;have:=jl h2;split at h
   .rename_i d hd;obtain⟨i,z,hi,ar,av,hz,S,ai,aj,_⟩:=(hE.ty hd).info;have ak:∀w,(zeroValue e).run P w=.ok z w:=λw=>by simp[zeroValue,oD hi,hz]
    have al:z.cells.size=d.size:=by have:=(S (λ_=>none) (λ_=>none)).1;grind
    have J:∀v w',(Builtin.clear_ B ty #[u]).run P w=.ok v w' ->
     (do let d <-resolve a.eval { callee:=.builtin .clear,args,argTypes:=B } ty;invoke d.target d.args).run P w=.ok (.value v) w':=by
     intro v w' hv;simp[resolve,Sem.run_bind,Sem.run_pure,Result.andThen_ok,invoke,builtin];rw[rL hu,hv];rfl
    have T:∀U cap,u=.slice U 0 cap->Cc P I μ H w (do let d <-resolve a.eval { callee:=.builtin .clear,args,argTypes:=B } ty;invoke d.target d.args) .undef H:=λU cap q=>by
     subst q;refine⟨_,.tuple #[],w,μ,J (.tuple #[]) w ?_,.inl rfl,bF.undef _ _,s,.refl _ _ _ _⟩;unfold Builtin.clear_;cases U <;> simp[ae,h3]
    unfold Dr at h;split at h
    .cases h;exact T _ _ hr.lU
    .obtain⟨U,q⟩:=hr.rO;grind
    .rename_i id es off len;split at h
     .rename_i O;subst O;split at h
      .rcases hr.lQ with⟨p,cap,_,_,_,_,q⟩|⟨_,U,q⟩
       .grind
       grind
      .rename_i len;split at h
       .rename_i am Q W;split at h
        .rename_i X;cases h;obtain⟨p,c,el,hp,hI,C,A⟩:=s.obs id _ W;rcases hr.lQ with⟨q,cap,hq,an,au,ao,rfl⟩|⟨h0,_⟩
         .rw[hp]at hq;cases hq;have O:am=d.size:=by rw[<-A.es_eq,an]
          subst O;have G:(Builtin.zeroCells z.cells (len+1)).size=(len+1)*d.size:=by rw[qo,al]
          have aw:=A.room;have Y:(off+(len+1))*d.size<=Q.length*d.size:=Nat.mul_le_mul_right _ X;rw[Nat.add_mul]at Y;have D:=wD   (S I μ) (len+1);have ap:∀x∈List.replicate (len+1) d.zero,x.length=d.size:=λx hx=>by rw[List.eq_of_mem_replicate hx];exact ai
          have Z:∀x∈List.replicate (len+1) d.zero,∀y∈x,V.one y=true:=λx hx y hy=>by rw[List.eq_of_mem_replicate hx]at hy;exact List.all_eq_true.1 aj y hy
          obtain⟨c',u1,u2⟩:=uG (P:=P) (o:=p.o+off*d.size) (Builtin.zeroCells z.cells (len+1)).toList 0 w c C (cF.PI D (λx hx=>by
           obtain⟨l,hl,aq⟩:=List.mem_flatten.1 hx;exact Z l hl x aq)) (by simp[G];omega)
          rw[Nat.add_zero]at u2;have aa:c'.size=c.size:=by
           have:=congrArg List.length u2;simp[G]at this;omega
          obtain⟨s2,st2⟩:=s.write  (ob':=.row d.size (Q.take off++List.replicate (len+1) d.zero++Q.drop (off+(len+1)))) W rfl hp
           ⟨p,c',el,hp,hI,iz _ (Array.getElem?_eq_some_iff.1 C).1,by
            have ab:(Q.take off++List.replicate (len+1) d.zero++Q.drop (off+(len+1))).length=Q.length:=by simp;omega
            refine⟨A.es_eq,by rw[aa];exact A.sz,?_,?_,by rw[ab,aa];exact A.room,?_⟩
            .intro x hx;rcases List.mem_append.1 hx with hx|hx
             .rcases List.mem_append.1 hx with hx|hx
              .exact A.o6 x (List.mem_of_mem_take hx)
              .exact ap x hx
             .exact A.o6 x (List.mem_of_mem_drop hx)
            .intro x hx;rcases List.mem_append.1 hx with hx|hx
             .rcases List.mem_append.1 hx with hx|hx
              .exact A.one x (List.mem_of_mem_take hx)
              .exact Z x hx
             .exact A.one x (List.mem_of_mem_drop hx)
            .rw[ab,u2];have hL:=Bm c.toList (Builtin.zeroCells z.cells (len+1)).toList p.o (Q.length*d.size) (off*d.size) (by simp;omega) (by simp[G];omega)
             rw[hL,List.flatten_append,List.flatten_append,(zw A.o6 off (by omega)).1,(zw A.o6 _ X).2]
             have e:off*d.size+(Builtin.zeroCells z.cells (len+1)).toList.length=(off+(len+1))*d.size:=by simp[G,Nat.add_mul]
             rw[e];exact((A.rel.take _).append D).append (A.rel.drop _)⟩
          refine⟨_,.tuple #[],_,μ,J (.tuple #[]) (fT w p.b (.cells c' el)) ?_,.inl rfl,bF.undef _ _,s2,st2⟩;unfold Builtin.clear_;simp_all
         simp_all
        simp_all
       simp_all
     simp_all
    simp_all
   simp_all
  simp_all
 simp_all
end
end Go.VE
namespace Go.VE
variable [bS]
section
variable {P:Program} {E:Env} {I:ct} {μ:Mu} {H H':bg} {n:Nat} {F:Frame} {a:Act} {w:World}
theorem Vg (s t:ByteArray) (h:(s==t)=true):s=t:=by
 cases s with|mk a=>cases t with|mk b=>
 have u:(a==b)=true:=h
 grind
inductive yM (P:Program) (E:Env) (t:TypeId):V->Value->Prop
 | int (k:IntKind) (m:Int) (h:P.underlying t=some (.int k)):yM P E t (.int k m) (.int k m)
 | str (s:ByteArray) (h:P.underlying t=some .string):yM P E t (.str s) (.string s)
 | agg (m:Nat) (cs:List V) (l:List Int) (h:vZ P t m) (hl:l.length=m) (hi:ir cs=some l):yM P E t (.agg cs) (.agg (ic l))
theorem M_ (B:ey P E) {t:TypeId} {k:V} {v:Value} (h:AI E t k=true) (hv:bF I μ k v):yM P E t k v:=by
 unfold AI at h;split at h
 .rename_i k1 C m hk;obtain⟨d,hd,u⟩:=fD hk;obtain⟨desc,h1,w,D⟩:=(B.ty hd).dF;rw[u]at w;have:=CU w;subst this;have e:k1=C:=by grind
  subst e;rw[hv.fu];exact .int _ _ h1
 .rename_i s hk;obtain⟨d,hd,u⟩:=fD hk;obtain⟨desc,h1,w,D⟩:=(B.ty hd).dF;rw[u]at w;have:=zP w;subst this;rw[hv.tj];exact .str _ h1
 .rename_i cs _;split at h
  .rename_i m z;simp[Option.isSome_iff_exists]at h;obtain⟨G,l,hi⟩:=h;obtain⟨J,rfl,A⟩:=hv.iB;obtain⟨rfl,e⟩:=qe hi A;exact .agg m cs l (B.eqN _ _ z) (by omega) hi
  grind
 grind
theorem M5 (d:Nat) (e:Bool) {t:TypeId} {k:IntKind} {m:Int} (h:P.underlying t=some (.int k)):(Instr.checkKey e (d+1) t (.int k m)).run P w=.ok () w:=by
 simp[Instr.checkKey,Sem.run_bind,dF h,Result.andThen_ok,Sem.run_pure]
theorem Mx (d:Nat) (e:Bool) {t:TypeId} {m:ByteArray} (h:P.underlying t=some .string):(Instr.checkKey e (d+1) t (.string m)).run P w=.ok () w:=by
 simp[Instr.checkKey,Sem.run_bind,dF h,Result.andThen_ok,Sem.run_pure]
theorem yT {t:TypeId} {k:V} {v:Value} (h:yM P E t k v) (e:Bool):(Instr.checkKey e 10000 t v).run P w=.ok () w:=by
 cases h with
 | int k m h=>exact M5 9999 e h
 | str s h=>exact Mx 9999 e h
 | agg m cs l h u hi=>exact h.check w e l u
def lS (I:ct) (μ:Mu) (es:List MapEntry) (i:Nat):Option (Nat×V)->Option (Nat×Value)->Prop
 | none,none=>True
 | some (j,x),some (B,v)=>j=B/\bF I μ x v/\i<=j/\∃e,es[j-i]? = some e/\e.val=v
 | _,_=>False
theorem CL {d:TypeDesc} {k:V} {v:Value} (hd:(∃kk m,d=.int kk/\k=.int kk m/\v=.int kk m)\/(∃s,d=.string/\k=.str s/\v=.string s)) :
 ∀(B:List (V×V)) (es:List MapEntry) (i:Nat) (r:Option (Nat×V)),B.length=es.length->(∀(j:Nat) q e,B[j]? = some q->es[j]? = some e->bF I μ q.1 e.key/\bF I μ q.2 e.val) ->
 iD k B i=some r->∃D,Instr.findNow d v es i=some D/\lS I μ es i r D/\∀j x,r=some (j,x)->∃e,es[j-i]? = some e/\e.key=v:=by
 intro B
 induction B with
 | nil=>
  intro es i r L _ h
  cases es with
  | nil=>simp only[iD,ζa]at h;subst h;exact⟨none,rfl,trivial,by simp⟩
  | cons _ _=>simp_all
 | cons q B O=>
  intro es i r L hr h
  cases es with
  | nil=>simp_all
  | cons e es=>
   obtain⟨C,Q⟩:=q;obtain⟨g1,g2⟩:=hr 0 (C,Q) e rfl rfl;simp only[iD]at h;have u:∀b,wP k C=some b->Instr.sameNow d v e.key=some b/\(b=true->e.key=v):=by
    intro b w;rcases hd with⟨kk,m,rfl,rfl,rfl⟩|⟨s,rfl,rfl,rfl⟩
    .cases C <;> simp only[wP]at w <;> (try grind)
     rename_i k2 m2;split at w
     .rename_i G;simp only[ζa]at w;subst w;subst G;rw[g1.fu];exact⟨by simp[Instr.sameNow],by simp;grind⟩
     grind
    .cases C <;> simp only[wP]at w <;> (try (simp at w;done))
     simp only[ζa]at w;subst w;rw[g1.tj];exact⟨by simp[Instr.sameNow],λS=>by rw[Vg _ _ S]⟩
   split at h
   .rename_i hk;obtain⟨f1,f2⟩:=u true hk;simp only[ζa]at h;subst h;refine⟨some (i,e.val),by simp[Instr.findNow,f1],⟨rfl,g2,Nat.le_refl _,e,by simp,rfl⟩,?_⟩
    intro j x A;simp only[ζa,ζc]at A;obtain⟨rfl,_⟩:=A;exact⟨e,by simp,f2 rfl⟩
   .rename_i hk;obtain⟨f1,_⟩:=u false hk;obtain⟨D,p1,p2,p3⟩:=O es (i+1) r (by simpa using L) (λj a b x y=>hr (j+1) a b (by simpa using x) (by simpa using y)) h
    refine⟨D,by simp[Instr.findNow,f1,p1],?_,?_⟩
    .cases r with
     | none=>cases D <;> simp_all [lS]
     | some z=>
      cases D with
      | none=>simp[lS]at p2
      | some T=>
       obtain⟨U,W,c3,J,X,Y⟩:=p2;exact⟨U,W,by omega,J,by rw[show z.1-i=(z.1-(i+1))+1 by omega];simpa using X,Y⟩
    .intro j x A;obtain⟨J,Z,u2⟩:=p3 j x A;subst A;have:i+1<=j:=by
      cases D with
      | none=>simp[lS]at p2
      | some T=>exact p2.2.2.1
     exact⟨J,by rw[show j-i=(j-(i+1))+1 by omega];simpa using Z,u2⟩
   grind
theorem J6 {t:TypeId} {m:Nat} (U:vZ P t m) {cs:List V} {l:List Int} (W:l.length=m) (hi:ir cs=some l) :
 ∀(B:List (V×V)) (es:List MapEntry) (i:Nat) (r:Option (Nat×V)),B.length=es.length->(∀(j:Nat) q e,B[j]? = some q->es[j]? = some e->bF I μ q.1 e.key/\bF I μ q.2 e.val) ->
 iD (.agg cs) B i=some r->∃D,(Instr.findAsking t (.agg (ic l)) es i).run P w=.ok D w/\lS I μ es i r D/\∀j x,r=some (j,x)->∃e,es[j-i]? = some e/\e.key=.agg (ic l):=by
 intro B
 induction B with
 | nil=>
  intro es i r A _ h
  cases es with
  | nil=>simp[iD]at h;subst h;exact⟨none,rfl,trivial,by simp⟩
  | cons _ _=>simp_all
 | cons q B S=>
  intro es i r A hr h
  cases es with
  | nil=>simp_all
  | cons e es=>
   obtain⟨C,T⟩:=q;obtain⟨g1,g2⟩:=hr 0 (C,T) e rfl rfl;simp[iD]at h;have u:∀b,wP (.agg cs) C=some b->(Op.equal t (.agg (ic l)) e.key).run P w=.ok b w/\(b=true->e.key=.agg (ic l)):=by
    intro b G;cases C <;> simp[wP]at G <;> (try (simp at G))
    obtain⟨ia,X,O,x2,x3,rfl⟩:=xz G;rw[hi]at O;cases O;obtain⟨vb,ev,J⟩:=g1.iB;obtain⟨rfl,e2⟩:=qe x2 J;rw[ev];refine⟨U.key w l X W (by omega),?_⟩
    grind
   split at h
   .rename_i hk;obtain⟨f1,f2⟩:=u true hk;simp  at h;subst h;refine⟨some (i,e.val),by simp[Instr.findAsking,f1],⟨rfl,g2,Nat.le_refl _,e,by simp,rfl⟩,?_⟩
    grind
   .rename_i hk;obtain⟨f1,_⟩:=u false hk;obtain⟨D,p1,p2,p3⟩:=S es (i+1) r (by grind) (λj a b x y=>hr (j+1) a b (by grind) (by simpa using y)) h
    refine⟨D,by simp[Instr.findAsking,f1,p1],?_,?_⟩
    .cases r with
     | none=>cases D <;> simp_all [lS]
     | some z=>
      cases D with
      | none=>simp[lS]at p2
      | some Y=>
       obtain⟨Z,c2,c3,L,c4,c5⟩:=p2;exact⟨Z,c2,by omega,L,by rw[show z.1-i=(z.1-(i+1))+1 by omega];simpa using c4,c5⟩
    .intro j x Q;obtain⟨L,u1,u2⟩:=p3 j x Q;subst Q;have  := by
      cases D with
      | none=>simp[lS]at p2
      | some Y=>exact p2.2.2.1
     exact⟨L,by rw[show j-i=(j-(i+1))+1 by omega];simpa using u1,u2⟩
   grind
theorem uT {t:TypeId} {k:V} {v:Value} (h:yM P E t k v) {B:List (V×V)} {es:Array MapEntry} (hr:u9 I μ B es) {r:Option (Nat×V)} (G:iD k B 0=some r) :
 ∃D,(Instr.findKey t v es.toList).run P w=.ok D w/\lS I μ es.toList 0 r D/\∀j x,r=some (j,x)->∃e,es[j]? = some e/\e.key=v:=by
 have u  := by simpa using hr.1
 have z:∀(j:Nat) q e,B[j]? = some q->es.toList[j]? = some e->bF I μ q.1 e.key/\bF I μ q.2 e.val:=λj q e x y=>hr.2 j q e x (by grind)
 have fin:∀(D:Option (Nat×Value)),(∀j x,r=some (j,x)->∃e,es.toList[j-0]? = some e/\e.key=v)->∀j x,r=some (j,x)->∃e,es[j]? = some e/\e.key=v:=by
  grind
 cases h with
 | int kk m h=>
  obtain⟨D,g1,g2,g3⟩:=CL (.inl ⟨kk,m,rfl,rfl,rfl⟩) B es.toList 0 r u z G;exact⟨D,by simp[Instr.findKey,Sem.run_bind,dF h,Result.andThen_ok,g1,Sem.run_pure],g2,fin D g3⟩
 | str s h=>
  obtain⟨D,g1,g2,g3⟩:=CL (.inr ⟨s,rfl,rfl,rfl⟩) B es.toList 0 r u z G;exact⟨D,by simp[Instr.findKey,Sem.run_bind,dF h,Result.andThen_ok,g1,Sem.run_pure],g2,fin D g3⟩
 | agg m cs l h J hi=>
  obtain⟨D,g1,g2,g3⟩:=J6 (w:=w) h J hi B es.toList 0 r u z G;obtain⟨d,hd,A⟩:=h.kind;refine⟨D,?_,g2,fin D g3⟩;simp[Instr.findKey,Sem.run_bind,dF hd,Result.andThen_ok]
  cases C:es.toList with
  | nil=>
   rw[C]at g1;simp[Instr.findNow,Sem.run_pure];simpa [Instr.findAsking]using g1
  | cons e rest=>
   have:Instr.findNow d (.agg (ic l)) (e::rest) 0=none:=by
    rcases A with⟨_,_,rfl⟩|⟨_,rfl⟩ <;> simp[Instr.findNow,Instr.sameNow]
   grind
theorem zM {b:Nat} {o:Obj} (h:w.heap[b]? = some o) (B:∀c e f,o≠.cells c e f):(getObj b).run P w=.ok o w:=by
 simp[getObj,Sem.run,h]
theorem P7 (s:cQ I μ H w) {m:V} {v:Value} (hv:bF I μ m v) {B:List (V×V)} (h:mM H m=some B) :
 (v=.map none/\B=[])\/∃b es clock,v=.map (some b)/\w.heap[b]? = some (.map es clock)/\u9 I μ B es:=by
 cases m with
 | gA=>simp only[mM,ζa]at h;exact .inl ⟨hv.Pd,h.symm⟩
 | fmap k=>
  simp[mM]at h;subst h
  cases hv with
  | c _ _ hv=>cases hv with
   | fmap _ b es A C hk u=>
    obtain⟨cl,g⟩:=s.imm _ _ A;exact .inr ⟨b,es,cl,rfl,g,C,λj q e x y=>⟨.c _ _ (hk j q e x y),.c _ _ (u j q e x y)⟩⟩
 | hmap id=>
  simp[mM]at h;split at h
  .rename_i D z;simp  at h;obtain⟨p,es,cl,g1,g2,g3,g4⟩:=s.obs id _ z;obtain⟨q,G,e⟩:=hv.BE
   grind
  grind
 | _=>simp[mM]at h
theorem Ni (U:ey P E) (r:dV I μ n F a.tmps) (s:cQ I μ H w) {t:TypeId} {m k:Operand} {ok:Bool} {x:V} (h:dM E F H (.lookup t m k ok)=some x) :
 ∃v,(Instr.lookup t (a.eval m) (a.eval k) ok).run P w=.ok v w/\bF I μ x v:=by
 simp[dM]at h;split at h
 .rename_i kt et mv kv hk hm O;obtain⟨d,hd,Q⟩:=fD hk;obtain⟨desc,h1,Z,h3⟩:=(U.ty hd).dF;rw[Q]at Z;have:=zp Z;subst this;split at h
  .rename_i de S T G;split at h
   .rename_i W;have C:=M_ U W (di r O);obtain⟨z,hz,X⟩:=(U.ty T).Sk;obtain⟨es,J,D⟩:∃es:Array MapEntry,u9 I μ S es/\∀u,(Instr.findKey kt (a.eval k) es.toList).run P w=.ok u w->(Instr.lookup t (a.eval m) (a.eval k) ok).run P w =
     .ok (if ok then .tuple #[(u.map (·.2)).getD z,.bool u.isSome]else(u.map (·.2)).getD z) w:=by
     rcases P7 s (di r hm) G with⟨e1,rfl⟩|⟨b,es,cl,e1,e2,e3⟩
     .refine⟨#[],⟨rfl,by simp⟩,λu B=>?_⟩
      unfold Instr.lookup;rw[e1];simp[Sem.run_bind,h3,Result.andThen_ok,Sem.run_pure,yT C,B];cases u <;> cases ok <;> simp[hz]
     .refine⟨es,e3,λu B=>?_⟩
      unfold Instr.lookup;rw[e1];simp[Sem.run_bind,h3,Result.andThen_ok,Sem.run_pure,zM e2 (by simp),yT C,B]
      cases u <;> cases ok <;> simp[hz]
    split at h
    .rename_i j y _ A;simp  at h;obtain⟨u,Y,L,_⟩:=uT  C J A
     cases u with
     | none=>simp[lS]at L
     | some q=>
      obtain⟨_,hv,_⟩:=L;refine⟨_,D _ Y,?_⟩;subst h
      cases ok with
      | true=>exact .Qp (.cons hv (.cons (.c _ _ (.bool _)) .nil))
      | false=>exact hv
    .rename_i y A hy;simp  at h;obtain⟨u,Y,L,_⟩:=uT  C J A
     cases u with
     | some q=>simp[lS]at L
     | none=>
      refine⟨_,D _ Y,?_⟩;subst h
      cases ok with
      | true=>exact .Qp (.cons (X _ _ _ hy) (.cons (.c _ _ (.bool _)) .nil))
      | false=>grind
    grind
   grind
  grind
 grind
end
end Go.VE
namespace Go.VE
variable [bS]
section
variable {P:Program} {E:Env} {I:ct} {μ:Mu} {H H':bg} {n:Nat} {F:Frame} {a:Act} {w:World}
theorem Iz (l:List Int) (d:Nat):Instr.sameBits (d+2) (.agg (ic l)) (.agg (ic l))=true:=by
 simp only[Instr.sameBits,beq_self_eq_true,Bool.true_and,List.all_eq_true];intro p u;obtain⟨j,w,rfl⟩:=List.mem_iff_getElem.1 u;simp[ic,Instr.sameBits]
theorem Pz {t:TypeId} {k:V} {v:Value} (h:yM P E t k v):(Instr.keyThatStays v v).run P w=.ok v w:=by
 have:Instr.sameBits 10000 v v=true:=by
  cases h with
  | int k m h=>simp[Instr.sameBits]
  | str s h=>simp[Instr.sameBits];exact(by cases s;exact beq_self_eq_true (α:=Array UInt8) _)
  | agg m cs l h u hi=>exact Iz l 9998
 unfold Instr.keyThatStays;rw[this];rfl
theorem EM {b:Nat} {es:Array MapEntry} {clock:Nat} (o:Obj) (h:w.heap[b]? = some (.map es clock)):(setObj b o).run P w=.ok () (fT w b o):=by
 simp only[setObj,Sem.run,h];rfl
theorem zO (hE:ey P E) (r:dV I μ n F a.tmps) (s:cQ I μ H w) {t:TypeId} {m k y:Operand} {x:V} (h:cT E F H (.mapUpdate t m k y)=some (x,H')) :
 Cc P I μ H w (do Instr.mapUpdate t (a.eval m) (a.eval k) (a.eval y);pure .skip) x H':=by
 simp only[cT]at h;split at h
 .rename_i kt et id Y Z hk hm U hy;obtain⟨d,hd,aa⟩:=fD hk;obtain⟨desc,h1,A,h3⟩:=(hE.ty hd).dF;rw[aa]at A;have:=zp A;subst this;split at h
  .rename_i C T;split at h
   .rename_i ab;simp only[ζf,ζc]at h;obtain⟨af,u,rfl,rfl⟩:=h;have D:=M_ hE ab (di r U);obtain⟨p,es,cl,g1,g2,g3,g4⟩:=s.obs id _ T;obtain⟨q,hq,em⟩:=(di r hm).BE;rw[g1]at hq;cases hq;have S:=(Array.getElem?_eq_some_iff.1 g3).1;have ah:∀(f:Unit->Sem Next) ,True:=λ_=>trivial
    unfold pE at u;have G:=di r U;have J:=di r hy;split at u
    .rename_i j z B;simp only[ζa]at u;subst u;obtain⟨L,q1,q2,q3⟩:=uT (w:=w) D g4 B
     cases L with
     | none=>simp[lS]at q2
     | some L=>
      obtain⟨j',zv⟩:=L;obtain⟨rfl,_,_,e',ai,_⟩:=q2;obtain⟨e2,W,ad⟩:=q3 j z rfl;have hj:=(Array.getElem?_eq_some_iff.1 W).1;have O:u9 I μ (C.set j (Y,Z)) (es.modify j λe=>{ e with key:=a.eval k,val:=a.eval y }):=by
       refine⟨by simpa using g4.1,λi q e h1 A=>?_⟩
       by_cases Q:i=j
       .subst Q;rw[List.getElem?_set_self (by rw[g4.1];exact hj)]at h1
        cases h1;rw[Array.getElem?_modify]at A;simp only[if_true,ζf]at A;obtain⟨_,_,rfl⟩:=A;exact⟨G,J⟩
       .rw[List.getElem?_set_ne (Ne.symm Q)]at h1;rw[Array.getElem?_modify]at A;rw[if_neg (Ne.symm Q)]at A;exact g4.2 i q e h1 A
      obtain⟨s1,s2⟩:=s.write (ob':=.map (C.set j (Y,Z))) (o:=.map (es.modify j λe=>{ e with key:=a.eval k,val:=a.eval y }) cl) T rfl g1
       ⟨p,_,cl,g1,g2,iz _ S,O⟩
      refine⟨.skip,undef,_,μ,?_,.inr ⟨rfl,rfl⟩,.undef I μ,s1,s2⟩;unfold Instr.mapUpdate;rw[em];have X:((es[j]?).map (·.key)).getD (a.eval k)=a.eval k:=by rw[W];simpa using ad
      simp only[Sem.run_bind,h3,Result.andThen_ok,zM g3 (by simp),yT D,q1,X,Pz D,EM _ g3,Sem.run_pure]
    .rename_i B;simp only[ζa]at u;subst u;obtain⟨L,q1,q2,q3⟩:=uT (w:=w) D g4 B
     cases L with
     | some q=>simp[lS]at q2
     | none=>
      have O:u9 I μ (C++[(Y,Z)]) (es.push { key:=a.eval k,val:=a.eval y,born:=cl }):=by
       refine⟨by simp[g4.1],λi q e h1 A=>?_⟩
       by_cases Q:i<C.length
       .rw[List.getElem?_append_left Q]at h1;rw[Array.getElem?_push]at A;rw[if_neg (by rw[<-g4.1];omega)]at A
        exact g4.2 i q e h1 A
       .have ae:=(ζe.1 h1).1;simp at ae;have:i=C.length:=by omega
        subst this;simp at h1;subst h1;rw[Array.getElem?_push,if_pos g4.1]at A;cases A;exact⟨G,J⟩
      obtain⟨s1,s2⟩:=s.write (ob':=.map (C++[(Y,Z)])) (o:=.map (es.push { key:=a.eval k,val:=a.eval y,born:=cl }) (cl+1)) T rfl g1
       ⟨p,_,_,g1,g2,iz _ S,O⟩
      refine⟨.skip,undef,_,μ,?_,.inr ⟨rfl,rfl⟩,.undef I μ,s1,s2⟩;unfold Instr.mapUpdate;rw[em];simp only[Sem.run_bind,h3,Result.andThen_ok,zM g3 (by simp),yT D,q1,EM _ g3,Sem.run_pure]
    .simp at u
   .simp at h
  .simp at h
 .simp at h
theorem Td (B:ey P E) (r:dV I μ n F a.tmps) (s:cQ I μ H w) (o:Oper) {x:V} (h:dM E F H o.op=some x) :
 ∃v,(execOp a.eval o).run P w=.ok (.value v) w/\bF I μ x v:=by
 obtain⟨dst,op,ty,pos,after,guard⟩:=o;simp only at h
 cases op with
 | load t p=>
  simp only[dM]at h;split at h
  .rename_i d C hd A;obtain⟨u,h1,z,_⟩:=Cl B s hd (di r A) h;exact⟨u,dY h1,z⟩
  .simp at h
 | lookup t m k ok=>
  obtain⟨u,h1,z⟩:=Ni B r s h;exact⟨u,dY h1,z⟩
 | _=>simp[dM]at h
theorem Rq (B:ey P E) (r:dV I μ n F a.tmps) (s:cQ I μ H w) (o:Oper) {x:V} (h:cT E F H o.op=some (x,H')):Cc P I μ H w (execOp a.eval o) x H':=by
 obtain⟨dst,op,ty,pos,after,guard⟩:=o;simp only at h
 cases op with
 | store t p q=>exact OH B r s h
 | mapUpdate t m k y=>exact zO B r s h
 | insert t m k y=>exact zO (t:=t) (m:=m) (k:=k) (y:=y) B r s h
 | call c=>
  obtain⟨callee,args,u⟩:=c
  cases callee with
  | builtin b=>
   cases b with
   | append=>exact L9 B r s h
   | clear=>exact Ot B r s h
   | _=>simp[cT]at h
  | _=>simp[cT]at h
 | _=>simp[cT]at h
end
end Go.VE
namespace Go.VE
variable [bS]
theorem tW {xs:List V} (h:V.kS xs=true):∀x∈xs,V.closed x=true:=by
 induction xs with
 | nil=>simp
 | cons x r u=>
  simp[V.kS]at h
  grind
theorem tY {xs:List V} (h:V.cO xs=true):∀x∈xs,V.scalar x=true:=by
 induction xs with
 | nil=>simp
 | cons x r u=>
  simp[V.cO]at h
  grind
section
variable {I I':ct} {μ:Mu} {H H':bg} {w:World}
theorem bF.closed {x:V} {v:Value} (h:bF I μ x v) (hc:x.closed=true):eu I x v:=by
 induction h with
 | c x v h=>omega
 | hsl id off len cap p w h1 L=>simp[V.closed]at hc
 | hsl0 id es off a=>simp[V.closed]at hc
 | hptr id el off p w=>simp[V.closed]at hc
 | yld id p w=>simp[V.closed]at hc
 | hmap id p w=>simp[V.closed]at hc
 | clo f x y u v G J _ _ z A=>
  simp[V.closed]at hc;exact .clo f x y u v G J (λj a b p q=>z j a b p q (tW hc.1 a (List.mem_of_getElem? p))) (λj a b p q=>A j a b p q (tW hc.2 a (List.mem_of_getElem? p)))
 | agg cs B C _ D=>
  exact .agg cs B C λj a b p q=>D j a b p q (tW hc a (List.mem_of_getElem? p))
 | tup cs B C _ D=>
  exact .tup cs B C λj a b p q=>D j a b p q (tW hc a (List.mem_of_getElem? p))
theorem eu.scalar {x:V} {v:Value} (h:eu I x v) (B:x.scalar=true):eu I' x v:=by
 induction h with
 | bool b=>exact .bool b
 | int k n=>exact .int k n
 | str s=>exact .str s
 | dA a=>exact .dA a
 | bW=>exact .bW
 | gZ=>exact .gZ
 | gA=>exact .gA
 | rU=>exact .rU
 | agg cs u w _ z=>
  exact .agg cs u w λj a b p q=>z j a b p q (tY B a (List.mem_of_getElem? p))
 | tup cs u w _ z=>
  exact .tup cs u w λj a b p q=>z j a b p q (tY B a (List.mem_of_getElem? p))
 | _=>simp[V.scalar]at B
theorem iU {f:V->Option V}:∀{xs ys:List V},iR f xs=some ys->ys.length=xs.length/\∀(j:Nat) y,ys[j]? = some y->∃x,xs[j]? = some x/\f x=some y:=by
 intro xs
 induction xs with
 | nil=>intro ys h;simp[iR]at h;grind
 | cons x xs u=>
  intro ys h;simp[iR]at h;split at h
  .grind
  grind
theorem Ls {f:V->Option V}:∀{xs ys:List (List V)},lz f xs=some ys->ys.length=xs.length/\∀(j:Nat) y,ys[j]? = some y->∃x,xs[j]? = some x/\iR f x=some y:=by
 intro xs
 induction xs with
 | nil=>intro ys h;simp[lz]at h;grind
 | cons x xs u=>
  intro ys h;simp[lz]at h
  grind
theorem Ky {f:V->Option V}:∀{xs ys:List (V×V)},k_ f xs=some ys->ys.length=xs.length/\∀(j:Nat) y,ys[j]? = some y->∃x,xs[j]? = some x/\f x.1=some y.1/\f x.2=some y.2:=by
 intro xs
 induction xs with
 | nil=>intro ys h;simp only[k_]at h;grind
 | cons x xs u=>
  intro ys h;simp only[k_]at h
  grind
def Obj.ic:Obj->Option IC
 | .cells c _ _=>some (.cells c)
 | .map es _=>some (.map es)
 | _=>none
def AP (μ:Mu) (H:bg) (T:List Nat) (b:Nat):Prop:=∃id p ob,id∈T/\H[id]? = some ob/\ob.live=true/\μ id=some p/\p.b=b
open Classical in
noncomputable def plus (I:ct) (μ:Mu) (H:bg) (w:World) (T:List Nat):ct:=λb=>
 match I b with
 | some x=>some x
 | none=>if AP μ H T b then(w.heap[b]?).bind Obj.ic else none
theorem oW (I:ct) (μ:Mu) (H:bg) (w:World) (T:List Nat):ct.le I (plus I μ H w T):=by
 intro b x h;simp[plus,h]
theorem tq (s:cQ I μ H w) (T:List Nat):∀b x,plus I μ H w T b=some x->x.at w b:=by
 intro b x h;unfold plus at h;split at h
 .rename_i y A;cases h;exact s.imm b _ A
 .split at h
  .obtain⟨o,z,u⟩:=ζg.1 h;cases o <;> simp[Obj.ic]at u
   .subst u;exact⟨_,_,z⟩
   .subst u;exact⟨_,z⟩
  grind
theorem ya {T:List Nat} {b:Nat} (h:(plus I μ H w T b).isSome=true):(I b).isSome=true\/AP μ H T b:=by
 unfold plus at h
 grind
theorem Bc {T:List Nat} {b:Nat} (h:AP μ H T b):ij μ H b:=by
 obtain⟨id,p,ob,_,h1,u,w,z⟩:=h;exact⟨id,p,ob,h1,u,w,z⟩
theorem BV (s:cQ I μ H w) {T:List Nat} {id es:Nat} {xs:List (List V)} (B:id∈T) (h:(H[id]?).bind Ob.rows=some (es,xs)) :
 ∃p c,μ id=some p/\plus I μ H w T p.b=some (.cells c)/\gb I μ p c es xs:=by
 obtain⟨ob,h1,z⟩:=ζg.1 h;have u:=s.obs id ob h1;rcases FZ z with rfl|rfl
 .obtain⟨p,c,el,g1,g2,g3,g4⟩:=u;refine⟨p,c,g1,?_,g4⟩;have A:AP μ H T p.b:=⟨id,p,_,B,h1,rfl,g1,rfl⟩;unfold plus;rw[g2];simp[A,g3,Obj.ic]
 .obtain⟨p,c,g1,g2,g4⟩:=u;exact⟨p,c,g1,oW _ _ _ _ _ _ _ g2,g4⟩
theorem gb.idx {p:Pl} {c:Array Value} {es:Nat} {xs:List (List V)} (r:gb I μ p c es xs) {i j:Nat} {x:List V} {y:V} {v:Value} (h1:xs[i]? = some x) (B:x[j]? = some y)
 (D:c[p.o+i*es+j]? = some v):bF I μ y v:=by
 have w:=vL r.o6 h1 B;refine r.rel.2 (i*es+j) y v w ?_;have u:=(ζe.1 w).1;rw[fN r.o6]at u
 grind
theorem jY {f:V->List Nat} {xs:List V} {x:V} {k:Nat} (B:x∈xs) (hk:k∈f x):k∈cK f xs:=by
 induction xs with
 | nil=>simp_all
 | cons y r u=>
  simp[cK]
  grind
theorem mA (n:Nat) (H:bg) {x:V} (h:x.closed=true):borrow n H x=some x:=by
 cases n <;> simp[borrow,h]
theorem um (s:cQ I μ H w) (T:List Nat):∀(n:Nat) (x y:V) (v:Value),borrow n H x=some y->(∀k∈b_ n H x,k∈T)->bF I μ x v ->
 eu (plus I μ H w T) y v/\(x.one=true->y.one=true):=by
 intro n
 induction n with
 | zero=>
  intro x y v h _ hv;simp only[borrow]at h;split at h
  .rename_i hc;simp  at h;subst h;exact⟨(hv.closed hc).mono (oW _ _ _ _ _),id⟩
  grind
 | succ n ih=>
  intro x y v h L hv;simp[borrow]at h;split at h
  .rename_i hc;simp  at h;subst h;exact⟨(hv.closed hc).mono (oW _ _ _ _ _),id⟩
  .rename_i ak;simp[b_,if_neg ak]at L;split at h
   .
    rename_i id es off len;split at h
    .rename_i A xs G;split at h
     .rename_i hc;obtain⟨rfl,al⟩:=hc;simp only[G]at L;simp  at h;obtain⟨S,hz,rfl⟩:=h;obtain⟨aa,U⟩:=Ls hz;refine⟨?_,λ_=>rfl⟩
      have ai:S.length=len:=by grind
      rcases hv.lQ with⟨p,cap,hm,hp,aq,hb,rfl⟩|⟨h0,a,rfl⟩
      .obtain⟨p',c,g1,g2,g3⟩:=BV s  (L id (by simp)) G
       rw[hm]at g1;cases g1;have W:∀i z,S[i]? = some z->∃O,xs[off+i]? = some O/\iR (borrow n H) O=some z:=by
        grind
       have aj:∀i O,i<len->xs[off+i]? = some O->∀q∈O,∀k∈b_ n H q,k∈T:=by
        intro i O hi am q hq k hk;refine L k ?_;refine List.mem_cons_of_mem _ (jY (List.mem_flatten.2 ⟨O,List.mem_of_getElem? (i:=i) ?_,hq⟩) hk);rw[List.getElem?_take,if_pos hi,List.getElem?_drop];exact am
       have ar:eu (plus I μ H w T) (.fsl A S) (.slice (some ⟨p.b,p.o+off*A,none⟩) S.length cap):=by
        refine .fsl A S p.b (p.o+off*A) cap c g2 (by omega) ?_ ?_ ?_ ?_
        .intro z ae;obtain⟨i,hi⟩:=List.mem_iff_getElem?.1 ae;obtain⟨O,D,X⟩:=W i z hi;rw[(iU X).1];exact g3.o6 O (List.mem_of_getElem? D)
        .intro z ae q hq;obtain⟨i,hi⟩:=List.mem_iff_getElem?.1 ae;obtain⟨O,D,X⟩:=W i z hi;obtain⟨j,hj⟩:=List.mem_iff_getElem?.1 hq;obtain⟨J,C,Y⟩:=(iU X).2 j q hj;have ab:=List.mem_of_getElem? D;have ad:=List.mem_of_getElem? C;have an:=g3.room;have av:=g3.o6 O ab;have aw:=(ζe.1 C).1;have ao:=(ζe.1 D).1;have au:(off+i)*A+A<=xs.length*A:=by
          have:=Nat.mul_le_mul_right A (ao)
          grind
         have ap  := by omega
         have Z:=g3.idx D C (v:=c[p.o+(off+i)*A+j]) (by simp[ap])
         exact(ih J q _ Y (aj i O (by have:=(ζe.1 hi).1;omega) D J ad) Z).2 (g3.one O ab J ad)
        .have h1:=(g3.span al).2
         grind
        .intro i j z q u hi hj hu;obtain⟨O,D,X⟩:=W i z hi;obtain⟨J,C,Y⟩:=(iU X).2 j q hj;have Z:=g3.idx D C (v:=u) (by grind)
         exact(ih J q u Y (aj i O (by have:=(ζe.1 hi).1;omega) D J (List.mem_of_getElem? C)) Z).1
       grind
      .subst h0;have  := List.eq_nil_of_length_eq_zero ai;subst this;exact .fsl0 A _ _
     grind
    grind
   .
    rename_i id el off;split at h
    .rename_i A xs G;split at h
     .rename_i cs af;split at h
      .simp only[G]at L;simp  at h;obtain⟨S,hz,rfl⟩:=h;obtain⟨aa,U⟩:=iU hz;refine⟨?_,λ_=>rfl⟩
       obtain⟨p,hm,rfl⟩:=hv.sZ;obtain⟨p',c,g1,g2,g3⟩:=BV s  (L id (by simp)) G
       rw[hm]at g1;cases g1;obtain⟨k1,k2,k3⟩:=g3.elem af;rw[g3.es_eq];refine .fptr S p.b _ c g2 ?_ ?_
       .rw[aa,List.length_drop];omega
       .intro j q u hj hu;obtain⟨J,C,Y⟩:=U j q hj;rw[List.getElem?_drop]at C;have Z:=g3.idx af C  (by rw[<-Nat.add_assoc];exact hu)
        refine(ih J q u Y (λk hk=>L k ?_) Z).1
        exact List.mem_cons_of_mem _ (jY (List.mem_of_getElem? (i:=j) (by rw[af,Option.getD_some,List.getElem?_drop];exact C)) hk)
      .simp at h
     .simp at h
    .simp at h
   .
    rename_i id;split at h
    .rename_i ax ah;simp  at h;obtain⟨S,hz,rfl⟩:=h;simp only[ah]at L;obtain⟨aa,U⟩:=Ky hz;refine⟨?_,λ_=>rfl⟩
     obtain⟨p,hm,rfl⟩:=hv.BE;obtain⟨p',es,cl,g1,g2,g3,g4⟩:=s.obs id _ ah;rw[hm]at g1;cases g1;have ht:AP μ H T p.b:=⟨id,p,_,L id (by simp),ah,rfl,hm,rfl⟩
     have hI:plus I μ H w T p.b=some (.map es):=by
      unfold plus;rw[g2];simp[ht,g3,Obj.ic]
     refine .fmap S p.b es hI (by rw[aa];exact g4.1) ?_ ?_
     .intro j q e hj he;obtain⟨J,h1,h2,h3⟩:=U j q hj;refine(ih J.1 q.1 e.key h2 (λk hk=>L k ?_) (g4.2 j J e h1 he).1).1
      exact List.mem_cons_of_mem _ (List.mem_append.2 (.inl (jY (List.mem_map.2 ⟨J,List.mem_of_getElem? h1,rfl⟩) hk)))
     .intro j q e hj he;obtain⟨J,h1,h2,h3⟩:=U j q hj;refine(ih J.2 q.2 e.val h3 (λk hk=>L k ?_) (g4.2 j J e h1 he).2).1
      exact List.mem_cons_of_mem _ (List.mem_append.2 (.inr (jY (List.mem_map.2 ⟨J,List.mem_of_getElem? h1,rfl⟩) hk)))
    .simp at h
   .rename_i f p q;split at h
    .rename_i p' q' hp hq;simp  at h;subst h;obtain⟨u1,u2,rfl,r1,r2⟩:=hv.kN;obtain⟨l1,m1⟩:=iU hp;obtain⟨l2,m2⟩:=iU hq;refine⟨.clo f p' q' u1 u2 (by rw[l1];simpa using r1.1) (by rw[l2];simpa using r2.1) ?_ ?_,λ_=>rfl⟩
     .intro j a b ha hb;obtain⟨a0,B,Q⟩:=m1 j a ha;exact(ih a0 a b Q (λk hk=>L k (List.mem_append.2 (.inl (jY (List.mem_of_getElem? B) hk)))) (r1.2 j a0 b B (by simpa using hb))).1
     .intro j a b ha hb;obtain⟨a0,B,Q⟩:=m2 j a ha;exact(ih a0 a b Q (λk hk=>L k (List.mem_append.2 (.inr (jY (List.mem_of_getElem? B) hk)))) (r2.2 j a0 b B (by simpa using hb))).1
    .simp at h
   .rename_i cs;simp  at h;obtain⟨S,hz,rfl⟩:=h;obtain⟨l1,m1⟩:=iU hz;obtain⟨u1,rfl,r1⟩:=hv.iB;refine⟨.agg S u1 (by rw[l1];simpa using r1.1) ?_,λh=>by simp[V.one]at h⟩
    intro j a b ha hb;obtain⟨a0,B,Q⟩:=m1 j a ha;exact(ih a0 a b Q (λk hk=>L k (jY (List.mem_of_getElem? B) hk)) (r1.2 j a0 b B (by simpa using hb))).1
   .rename_i cs;simp  at h;obtain⟨S,hz,rfl⟩:=h;obtain⟨l1,m1⟩:=iU hz;obtain⟨u1,rfl,r1⟩:=hv.qm;refine⟨.tup S u1 (by rw[l1];simpa using r1.1) ?_,λh=>by simp[V.one]at h⟩
    intro j a b ha hb;obtain⟨a0,B,Q⟩:=m1 j a ha;exact(ih a0 a b Q (λk hk=>L k (jY (List.mem_of_getElem? B) hk)) (r1.2 j a0 b B (by simpa using hb))).1
   grind
end
end Go.VE
namespace Go.VE
variable [bS]
def fr (ro:Option Nat):Fence:={ fn:=λ_=>True,depth:=none,alive:=false,round:=ro }
def xR (I:ct) (μ:Mu) (H:bg) (w:World) (r:V) (H':bg):Ending->World->Prop:=
 λe w'=>∃u I' μ',e=.returned u/\bF I' μ' r u/\cQ I' μ' H' w'/\Step I μ H w I' μ' H' w'
def ye (P:Program) (f:FuncId):Prop:=∃fn,P.funcs[f]? = some fn/\fn.body.isSome=true/\(fn.name == "runtime.NumGoroutine")=false
structure kF (P:Program) (call:dn):Prop where
 fn:∀f args H r H',call (.fn f) args H=some (r,H')->ye P f/\∀I μ w vs,cQ I μ H w->cF I μ args vs->CallsIn (fr none) 0 P f vs.toArray w (xR I μ H w r H')
 yld:∀id args H r H',call (.yld id) args H=some (r,H')->∀I μ w vs p,cQ I μ H w->cF I μ args vs->μ id=some p ->
  ∃l f tmps assign body,(Instr.yield p.b vs.toArray).run P w=.ok (.round l f tmps assign body) w/\RoundIn (fr none) 0 P l f tmps assign body w (xR I μ H w r H')
def sB:Ob->Ob
 | .row es xs=>.frz es xs
 | .map _=>.dead
 | o=>o
theorem Fz (H:bg) (k id:Nat):(uj H k)[id]? = (H[id]?).map λob=>if id=k then sB ob else ob:=by
 unfold uj
 by_cases e:id=k
 .subst e
  cases h:H[id]? with
  | none=>simp[h]
  | some ob=>
   have u:=(ζe.1 h).1;cases ob <;> simp[sB,u] <;> exact(ζe.1 h).2
 grind
theorem A_ (o:Ob):sB (sB o)=sB o:=by cases o <;> rfl
theorem iC:∀(T:List Nat) (H:bg) (id:Nat),(cE H T)[id]? = (H[id]?).map λob=>if id∈T then sB ob else ob:=by
 intro T
 induction T with
 | nil=>simp[cE]
 | cons k T u=>
  intro H id;have:=u (uj H k) id;simp[cE]at this ⊢;rw[this,Fz]
  cases h:H[id]? with
  | none=>simp
  | some ob=>
   by_cases e:id=k <;> by_cases w:id∈T <;> simp[A_] <;> (simp_all) <;> simp_all [A_]
theorem jW (T:List Nat) (H:bg):(cE H T).length=H.length:=by
 induction T generalizing H with
 | nil=>rfl
 | cons k T u=>
  simp[cE]at u ⊢;rw[u];unfold uj
  grind
section
variable {P:Program} {I I':ct} {μ μ':Mu} {H H':bg} {w w':World}
theorem cQ.kept (s:cQ I μ H w) (hk:∀b,b<w.heap.size->w'.heap[b]? = w.heap[b]?):cQ I μ H w' where
 dom:=s.dom
 imm:=λb x h=>IC.rN (s.imm b x h) (hk b (s.H_ h))
 obs:=λid ob h=>(s.obs id ob h).mono (ct.le_refl _) (Mu.le_refl _) (λp z A=>by
  have u:ij μ H p.b:=⟨id,p,ob,h,A,z,rfl⟩;exact⟨hk _ (mW s u),ga s u⟩) (λB=>by subst B;exact s.obs id _ h)
 inj:=s.inj
 gl:=s.gl
theorem qY (μ:Mu) (b:Nat):¬ij μ [] b:=by
 rintro⟨id,p,ob,h,_⟩;simp_all
theorem C0 {call:dn} (hc:kF P call) {f:FuncId} {args:List V} {y:V} (h:cz call f args H=some y) (s:cQ I μ H w) {vs:List Value} (hv:cF I μ args vs) :
 ye P f/\CallsIn (fr none) 0 P f vs.toArray w (xR I μ H w y (if y.scalar then H else cE H (cK (b_ call.lv H) args))):=by
 unfold cz at h;split at h
 .rename_i az has;split at h
  .rename_i r H1 W;split at h
   .rename_i y' hy;split at h
    .rename_i aa;simp  at h;subst h;generalize hT:cK (b_ call.lv H) args=T;obtain⟨ab,C⟩:=iU has;have s0:cQ (plus I μ H w T) (λ_=>none) [] w:=⟨λ_ _=>rfl,tq s T,by simp,by simp,s.gl.mono (oW I μ H w T)⟩
     have X:cF (plus I μ H w T) (λ_=>none) az vs:=by
      refine⟨ab.trans hv.1,λj a b h1 z=>?_⟩
      obtain⟨x,L,af⟩:=C j a h1;refine .c _ _ (um s T call.lv x a b af (λk hk=>?_) (hv.2 j x b L z)).1
      rw[<-hT];exact jY (List.mem_of_getElem? L) hk
     obtain⟨hf,O⟩:=hc.fn f az [] r H1 W;refine⟨hf,(O _ _ w vs s0 X).mono ?_⟩;rintro e w' ⟨u,I1,μ1,rfl,hr,s1,st⟩;have A  := λb C=>st.frame b C (qY _ _)
     generalize ak:b_ call.lv H1 r=T1;have ad:=(um s1 T1 call.lv r y' u hy (λk hk=>by grind) hr).1
     cases ah:y'.scalar with
     | true=>
      exact⟨u,I,μ,rfl,.c _ _ (ad.scalar ah),s.kept A,⟨ct.le_refl _,Mu.le_refl _,Nat.le_refl _,st.size,λb C _=>A b C,λ_ h=>h.elim .inl λh=>.inr (.inl h),st.os,st.out,st.fz⟩⟩
     | false=>
      simp only[Bool.false_eq_true,if_false]
      let I2:=plus I1 μ1 H1 w' T1
      have D:ct.le I I2:=ct.le_trans (oW I μ H w T) (ct.le_trans st.le (oW _ _ _ _ _));have G:∀b,(I2 b).isSome=true->(I b).isSome=true\/AP μ H T b\/w.heap.size<=b:=by
       intro b C;have h1:(I1 b).isSome=true\/ij μ1 H1 b:=by
        rcases ya C with h|h
        .grind
        .exact .inr (Bc h)
       rcases st.terr b h1 with h|h|h
       .rcases ya h with h|h
        .grind
        grind
       .exact absurd h (qY _ _)
       grind
      have Y:∀id ob p,H[id]? = some ob->ob.live=true->id∉T->μ id=some p->I2 p.b=none:=by
       intro id ob p h1 z h3 h4
       cases hI:I2 p.b with
       | none=>rfl
       | some x=>
        have ho:ij μ H p.b:=⟨id,p,ob,h1,z,h4,rfl⟩;rcases G p.b (by grind)with h|⟨Q,p',ai,g0,g1,g2,g3,g4⟩|h
        .rw[ga s ho]at h;cases h
        .have:=s.inj Q id ai ob p' p g1 h1 g2 z g3 h4 g4;simp_all
        .have:=mW s ho;omega
      have S:∀id x,(cE H T)[id]? = some x->∃ob,H[id]? = some ob/\x=(if id∈T then sB ob else ob):=by
       intro id x L;rw[iC]at L;obtain⟨ob,h1,z⟩:=ζf.1 L;exact⟨ob,h1,z.symm⟩
      have B:∀id x,(cE H T)[id]? = some x->x.live=true->H[id]? = some x/\(id∉T\/∃r,x=.loop r):=by
       intro id x L Z;obtain⟨ob,h1,z⟩:=S id x L
       by_cases U:id∈T
       .rw[if_pos U]at z;cases ob <;> simp[sB]at z <;> subst z <;> simp[Ob.live]at Z;exact⟨h1,.inr ⟨_,rfl⟩⟩
       .rw[if_neg U]at z;subst z;exact⟨h1,.inl U⟩
      refine⟨u,I2,μ,rfl,.c _ _ ad,⟨?_,?_,?_,?_,s.gl.mono D⟩,⟨D,Mu.le_refl _,by rw[jW];exact Nat.le_refl _,st.size,λb C _=>A b C,?_,st.os,st.out,st.fz⟩⟩
      .intro id h;rw[jW]at h;exact s.dom id h
      .exact tq s1 T1
      .intro id x L;obtain⟨ob,h1,z⟩:=S id x L;have J:=s.obs id ob h1
       by_cases U:id∈T
       .rw[if_pos U]at z
        cases ob with
        | row es xs=>
         subst z;obtain⟨p,c,g1,g2,g3⟩:=BV s  U    (by rw[h1];rfl)
         exact⟨p,c,g1,oW _ _ _ _ _ _ _ (st.le _ _ g2),g3.mono D (Mu.le_refl _)⟩
        | frz es xs=>
         subst z;exact J.mono D (Mu.le_refl _) (λp _ Z=>by simp[Ob.live]at Z) (λhe=>by cases he)
        | map al=>subst z;trivial
        | free=>simp[sB]at z;subst z;exact J
        | dead=>subst z;trivial
        | loop r=>
         simp[sB]at z;subst z;obtain⟨p,l,g1,g2,g3,g4⟩:=J;refine⟨p,l,g1,?_,?_,g4.mono D (Mu.le_refl _)⟩
         .
          cases hI:I2 p.b with
          | none=>rfl
          | some x=>
           have ae:=tq s1 T1 p.b x hI;have aj  := (Array.getElem?_eq_some_iff.1 g3).1;have hh:=A p.b aj;rw[g3]at hh
           cases x with
           | cells c=>obtain⟨_,_,q⟩:=ae;rw[hh]at q;cases q
           | map es=>obtain⟨_,q⟩:=ae;rw[hh]at q;cases q
         .rw[A p.b (Array.getElem?_eq_some_iff.1 g3).1];omega
       .rw[if_neg U]at z;subst z;refine J.mono D (Mu.le_refl _) (λp hp Z=>⟨A _ (mW s ⟨id,p,x,h1,Z,hp,rfl⟩),Y id x p h1 Z U hp⟩) (λhe=>by subst he;exact J)
      .intro id Q o1 o2 p p' h1 z l1 l2 m1 m2 C;exact s.inj id Q o1 o2 p p' (B id o1 h1 l1).1 (B Q o2 z l2).1 l1 l2 m1 m2 C
      .intro b C;rcases C with h|⟨id,p,x,h1,z,h3,rfl⟩
       .rcases G b h with h|h|h
        .exact .inl h
        .exact .inr (.inl (Bc h))
        .exact .inr (.inr h)
       .exact .inr (.inl ⟨id,p,x,(B id x h1 z).1,z,h3,rfl⟩)
    grind
   grind
  grind
 grind
theorem bF.scalar {x:V} {v:Value} (h:bF I μ x v) (B:x.scalar=true):bF I' μ' x v:=by
 have key:∀(l:List V) (u:List Value),(∀x∈l,∀v,bF I μ x v->x.scalar=true->bF I' μ' x v)->V.cO l=true->(∀(j:Nat) a b,l[j]? = some a->u[j]? = some b->bF I μ a b) ->
  ∀(j:Nat) a b,l[j]? = some a->u[j]? = some b->bF I' μ' a b:=by
  intro l
  induction l with
  | nil=>grind
  | cons x l A=>
   intro u h1 G J j a b C w;simp only[V.cO,ζh]at G
   cases j with
   | zero=>
    grind
   | succ j=>
    cases u with
    | nil=>simp at w
    | cons v u=>exact A u (λy z=>h1 y (List.mem_cons_of_mem _ z)) G.2 (λj a b p q=>J (j+1) a b (by grind) (by grind)) j a b (by grind) (by simpa using w)
 have main:∀(k:Nat) (x:V) (v:Value),SizeOf.sizeOf x<k->bF I μ x v->x.scalar=true->bF I' μ' x v:=by
  intro k
  induction k with
  | zero=>grind
  | succ k A=>
   intro x v hk h B
   cases h with
   | c _ _ h=>exact .c _ _ (h.scalar B)
   | agg cs u D h=>
    refine .agg cs u D (λj a b C w=>key cs u.toList (λy z v hv B=>A y v ?_ hv B) B (λj a b p q=>h j a b p (by simpa using q)) j a b C (by simpa using w))
    have:=List.sizeOf_lt_of_mem z;simp at hk;omega
   | tup cs u D h=>
    refine .tup cs u D (λj a b C w=>key cs u.toList (λy z v hv B=>A y v ?_ hv B) B (λj a b p q=>h j a b p (by simpa using q)) j a b C (by simpa using w))
    have:=List.sizeOf_lt_of_mem z;simp at hk;omega
   | _=>simp[V.scalar]at B
 exact main (SizeOf.sizeOf x+1) x v (by omega) h B
theorem cQ.Ke (s:cQ I μ H w) {ob:Ob} {p:Pl} (U:ob≠.free) (hI:I p.b=none) (D:¬ij μ H p.b) (W:sM I (μ.fS H.length p) w H.length ob) :
 cQ I (μ.fS H.length p) (H++[ob]) w:=by
 have hk  := s.dom _ (Nat.le_refl _);have u:∀id x,(H++[ob])[id]? = some x->(id≠H.length/\H[id]? = some x)\/(id=H.length/\x=ob):=by
  grind
 refine⟨?_,s.imm,?_,?_,s.gl⟩
 .intro id h;simp at h;rw[Mu.iM _ _ (by omega)];exact s.dom id (by omega)
 .intro id x h;rcases u id x h with⟨e,h⟩|⟨rfl,rfl⟩
  .refine(s.obs id x h).mono (ct.le_refl _) (Mu.qQ hk) (λq Q S=>?_) (λT=>by subst T;rw[Mu.iM _ _ e];exact s.obs id _ h)
   exact⟨rfl,ga s ⟨id,q,x,h,S,Q,rfl⟩⟩
  grind
 .intro id z o1 o2 q G h1 X J L A B C;rcases u id o1 h1 with⟨e1,k1⟩|⟨Y,b1⟩ <;> rcases u z o2 X with⟨e2,O⟩|⟨Z,b2⟩
  .rw[Mu.iM _ _ e1]at A;rw[Mu.iM _ _ e2]at B;exact s.inj id z o1 o2 q G k1 O J L A B C
  .subst Z;rw[Mu.iM _ _ e1]at A;rw[Mu.gj]at B;cases B;exact absurd ⟨id,q,o1,k1,J,A,C⟩ D
  .subst Y;rw[Mu.iM _ _ e2]at B;rw[Mu.gj]at A;cases A;exact absurd ⟨z,G,o2,O,L,B,C.symm⟩ D
  grind
theorem Uu {call:dn} (hc:kF P call) {f:FuncId} {args:List V} {y:V} (h:lT call f args H=some (y,H')) (s:cQ I μ H w) {vs:List Value} (hv:cF I μ args vs) :
 ye P f/\CallsIn (fr none) 0 P f vs.toArray w (xR I μ H w y H'):=by
 unfold lT at h;split at h
 .rename_i az has;split at h
  .rename_i r H1 L;generalize hT:cK (b_ call.lv H) args=T;obtain⟨W,A⟩:=iU has;have s0:cQ (plus I μ H w T) (λ_=>none) [] w:=⟨λ_ _=>rfl,tq s T,by simp,by simp,s.gl.mono (oW I μ H w T)⟩
   have O:cF (plus I μ H w T) (λ_=>none) az vs:=by
    refine⟨W.trans hv.1,λj a b h1 X=>?_⟩
    obtain⟨x,hx,ab⟩:=A j a h1;refine .c _ _ (um s T call.lv x a b ab (λk hk=>?_) (hv.2 j x b hx X)).1
    rw[<-hT];exact jY (List.mem_of_getElem? hx) hk
   obtain⟨hf,D⟩:=hc.fn f az [] r H1 L;refine⟨hf,(D _ _ w vs s0 O).mono ?_⟩;rintro e w' ⟨u,I1,μ1,rfl,hr,s1,st⟩;have z:∀b,b<w.heap.size->w'.heap[b]? = w.heap[b]? := λb A=>st.frame b A (qY _ _)
   have sk:cQ I μ H w':=s.kept z;have ae:Step I μ H w I μ H w':=⟨ct.le_refl _,Mu.le_refl _,Nat.le_refl _,st.size,λb A _=>z b A,λ_ h=>h.elim .inl λh=>.inr (.inl h),st.os,st.out,st.fz⟩
   split at h
   .rename_i af;simp only[ζa,ζc]at h;obtain⟨rfl,rfl⟩:=h;exact⟨u,I,μ,rfl,hr.scalar af,sk,ae⟩
   .
    have key:∀(id es off len:Nat) (v:V) (ob:Ob) (u:Value),sP H.length H1 id es off len=some (v,ob)->bF I1 μ1 (.hsl id es off len) u ->
     ∃p,bF I (μ.fS H.length p) v u/\cQ I (μ.fS H.length p) (H++[ob]) w'/\Step I μ H w I (μ.fS H.length p) (H++[ob]) w':=by
     intro id es off len v ob u B hu;unfold sP at B;split at B
     .rename_i Y xs J;split at B
      .rename_i Q;obtain⟨rfl,am⟩:=Q;obtain⟨rfl,rfl⟩:=B;obtain⟨p,c,el,g1,g2,g3,g4⟩:=s1.obs id _ J;have Z:w.heap.size<=p.b:=by
        rcases st.terr p.b (.inr ⟨id,p,_,J,rfl,g1,rfl⟩)with h|h|h
        .obtain⟨x,hx⟩:=Option.isSome_iff_exists.1 h;have:=st.le _ _ hx
         grind
        .exact absurd h (qY _ _)
        simp_all
       have hI:I p.b=none:=by
        cases hx:I p.b with
        | none=>rfl
        | some x=>have:=s.H_ hx;omega
       have hn:¬ij μ H p.b:=λho=>by have:=mW s ho;omega
       have ah:gb I (μ.fS H.length p) p c Y xs:=by
        refine⟨g4.es_eq,g4.sz,g4.o6,g4.one,g4.room,g4.rel.1,λj a b B A=>(g4.rel.2 j a b B A).scalar ?_⟩
        have hm:=List.mem_of_getElem? B;rw[List.mem_flatten]at hm
        grind
       have sa:=sk.Ke (ob:=.row Y xs)  (by simp) hI hn ⟨p,c,el,Mu.gj _ _ _,hI,g3,ah⟩
       refine⟨p,?_,sa,⟨ct.le_refl _,Mu.qQ (s.dom _ (Nat.le_refl _)),by simp,st.size,λb A _=>z b A,?_,st.os,st.out,st.fz⟩⟩
       .rcases hu.lQ with⟨p',cap,hm,ai,aj,ak,ee⟩|⟨h0,ad,ee⟩
        .rw[g1]at hm;cases hm;rw[ee];subst ai;exact .hsl _ off len cap p (Mu.gj _ _ _) aj ak
        .rw[ee,h0];exact .hsl0 _ _ _ _
       .rintro b (h|⟨k,q,x,h1,X,h3,rfl⟩)
        .exact .inl h
        .by_cases e:k=H.length
         .subst e;rw[Mu.gj]at h3;cases h3;exact .inr (.inr Z)
         .rw[Mu.iM _ _ e]at h3;have al:k<H.length:=by
           have:=(ζe.1 h1).1;simp at this;omega
          rw[List.getElem?_append_left al]at h1;exact .inr (.inl ⟨k,q,x,h1,X,h3,rfl⟩)
      grind
     grind
    split at h
    .rename_i id es off len _;simp only[ζf]at h;obtain⟨⟨v,ob⟩,B,rfl,rfl⟩:=h;obtain⟨p,k1,k2,k3⟩:=key id es off len v ob u B hr;exact⟨u,I,_,rfl,k1,k2,k3⟩
    .rename_i id es off len rest _;split at h
     .rename_i S;simp only[ζf,ζc]at h;obtain⟨⟨v,ob⟩,B,rfl,rfl⟩:=h;obtain⟨us,rfl,C⟩:=hr.qm;have aa:0<us.toList.length:=by have:=C.1;simp at this ⊢;omega
      obtain⟨u0,ur,U⟩:∃u0 ur,us.toList=u0::ur:=by
       cases hl:us.toList with
       | nil=>rw[hl]at aa;simp at aa
       | cons a b=>exact⟨a,b,rfl⟩
      rw[U]at C;obtain⟨p,k1,k2,k3⟩:=key id es off len v ob u0 B (C.2 0 _ _ rfl rfl);refine⟨_,I,_,rfl,.tup _ _ ?_ ?_,k2,k3⟩
      .have:=C.1;simp at this;have X:us.toList.length=ur.length+1:=by rw[U];rfl
       simp at X ⊢;omega
      .intro j a b hj A;have G:(u0::ur)[j]? = some b:=by rw[<-U];simpa using A
       cases j with
       | zero=>simp at hj G;subst hj;subst G;exact k1
       | succ j=>
        simp at hj G;refine(C.2 (j+1) a b (by simpa using hj) (by simpa using G)).scalar ?_
        have:∀(l:List V),V.cO l=true->∀x∈l,x.scalar=true:=by
         intro l
         induction l with
         | nil=>intro _ x hx;simp at hx
         | cons y l ih=>
          intro hl x hx;simp[V.cO]at hl;rcases List.mem_cons.1 hx with rfl|hx
          .exact hl.1
          .exact ih hl.2 x hx
        exact this rest S a (List.mem_of_getElem? hj)
     .simp at h
    grind
  grind
 grind
theorem TH {E:Env} {call:dn} (hc:kF P call) {f:FuncId} {args:List V} {y:V} (h:fA E call f args H=some (y,H')) (s:cQ I μ H w) {vs:List Value} (hv:cF I μ args vs) :
 ye P f/\CallsIn (fr none) 0 P f vs.toArray w (xR I μ H w y H'):=by
 unfold fA at h;split at h
 .exact Uu hc h s hv
 .obtain⟨k1,u⟩:=hc.fn f args H y H' h
  grind
end
end Go.VE
namespace Go.VE
variable [bS]
def Ob.mp:Ob->Option (List (V×V))
 | .map B=>some B
 | _=>none
def mN (H H2:bg):Prop:=∀id:Nat,(H[id]?).bind Ob.rows=(H2[id]?).bind Ob.rows/\(H[id]?).bind Ob.mp=(H2[id]?).bind Ob.mp
theorem mN.refl (H:bg):mN H H:=λ_=>⟨rfl,rfl⟩
theorem mN.symm {H H2:bg} (h:mN H H2):mN H2 H:=λid=>⟨(h id).1.symm,(h id).2.symm⟩
theorem mN.trans {H H2 B:bg} (h:mN H H2) (k:mN H2 B):mN H B:=λid=>⟨(h id).1.trans (k id).1,(h id).2.trans (k id).2⟩
theorem mN.of_eq {H H2:bg} (h:H=H2):mN H H2:=by subst h;exact .refl _
theorem ID {H H2:bg} (h:mN H H2):∀n,borrow n H=borrow n H2:=by
 intro n
 induction n with
 | zero=>funext x;rfl
 | succ n u=>
  funext x
  cases x with
  | hsl id es off len=>simp only[borrow,(h id).1,u]
  | hptr id el off=>simp only[borrow,(h id).1,u]
  | hmap id=>
   have:=(h id).2;simp only[borrow,u];split
   .rfl
   .cases h1:H[id]? with
    | none=>
     cases w:H2[id]? with
     | none=>rfl
     | some o2=>rw[h1,w]at this;cases o2 <;> simp[Ob.mp]at this <;> rfl
    | some o=>
     cases w:H2[id]? with
     | none=>rw[h1,w]at this;cases o <;> simp[Ob.mp]at this <;> rfl
     | some o2=>rw[h1,w]at this;cases o <;> cases o2 <;> simp[Ob.mp]at this <;> first|rfl|(subst this;rfl)
  | _=>simp only[borrow,u]
theorem Lm {H H2:bg} (h:mN H H2):∀n,b_ n H=b_ n H2:=by
 intro n
 induction n with
 | zero=>funext x;rfl
 | succ n u=>
  funext x
  cases x with
  | hsl id es off len=>simp only[b_,(h id).1,u]
  | hptr id el off=>simp only[b_,(h id).1,u]
  | hmap id=>
   have:=(h id).2;simp only[b_,u];split
   .rfl
   .cases h1:H[id]? with
    | none=>
     cases w:H2[id]? with
     | none=>rfl
     | some o2=>rw[h1,w]at this;cases o2 <;> simp[Ob.mp]at this <;> rfl
    | some o=>
     cases w:H2[id]? with
     | none=>rw[h1,w]at this;cases o <;> simp[Ob.mp]at this <;> rfl
     | some o2=>rw[h1,w]at this;cases o <;> cases o2 <;> simp[Ob.mp]at this <;> first|rfl|(subst this;rfl)
  | _=>simp only[b_,u]
theorem Av {H H2:bg} (h:mN H H2) (call:dn) (f:FuncId) (args:List V):cz call f args H=cz call f args H2:=by
 unfold cz borrows;rw[ID h]
theorem F0 {H H2:bg} (h:mN H H2) (p:V) (n:Nat):dS H p n=dS H2 p n:=by
 cases p with
 | hptr id el off=>simp only[dS,(h id).1]
 | _=>rfl
theorem K7 {H H2:bg} (h:mN H H2) (p:V):mM H p=mM H2 p:=by
 cases p with
 | hmap id=>
  have:=(h id).2;simp only[mM]
  cases h1:H[id]? with
  | none=>
   cases u:H2[id]? with
   | none=>rfl
   | some o2=>rw[h1,u]at this;cases o2 <;> simp[Ob.mp]at this <;> rfl
  | some o=>
   cases u:H2[id]? with
   | none=>rw[h1,u]at this;cases o <;> simp[Ob.mp]at this <;> rfl
   | some o2=>rw[h1,u]at this;cases o <;> cases o2 <;> simp[Ob.mp]at this <;> first|rfl|(subst this;rfl)
 | _=>rfl
theorem y8 {E:Env} {F:Frame} {H H2:bg} (h:mN H H2) (op:Op):dM E F H op=dM E F H2 op:=by
 cases op <;> simp only[dM,F0 h,K7 h]
theorem uO {H H2:bg} (h:mN H H2) (T:List Nat):iP H T=iP H2 T:=by
 unfold iP
 congr 1
 funext id
 rw[(h id).1]
theorem zn {H:bg} {T:List Nat} (h:iP H T=true) {id:Nat} (hi:id∈T):∃es xs,H[id]? = some (.row es xs)\/H[id]? = some (.frz es xs):=by
 unfold iP at h;rw[List.all_eq_true]at h;have:=h id hi
 cases h1:H[id]? with
 | none=>rw[h1]at this;simp at this
 | some o=>rw[h1]at this;cases o <;> simp[Ob.rows]at this <;> exact⟨_,_,by first|exact .inl rfl|exact .inr rfl⟩
theorem p8 {H:bg} {b id:Nat}:(H.take b)[id]? = if id<b then H[id]? else none:=by
 rw[List.getElem?_take]
theorem qK {H:bg} {T:List Nat} {b:Nat} (h:iP (H.take b) T=true):mN (cE H T) H:=by
 intro id;rw[iC]
 by_cases hi:id∈T
 .obtain⟨es,w,hx⟩:=zn h hi;rw[p8]at hx
  by_cases u:id<b
  .rw[if_pos u]at hx;rcases hx with hx|hx <;> simp[hx,hi,sB,Ob.rows,Ob.mp]
  .rw[if_neg u]at hx;rcases hx with hx|hx <;> cases hx
 .cases H[id]? <;> simp[hi]
theorem mN.take {H H2:bg} (h:mN H H2) (b:Nat):mN (H.take b) (H2.take b):=by
 intro id;rw[p8,p8]
 by_cases u:id<b
 .rw[if_pos u,if_pos u];exact h id
 .rw[if_neg u,if_neg u];exact⟨rfl,rfl⟩
theorem zq {H:bg} {T:List Nat} {b:Nat} (h:iP (H.take b) T=true) {id:Nat} (hi:id∈T):id<b:=by
 obtain⟨es,w,hx⟩:=zn h hi;rw[p8]at hx
 by_cases u:id<b
 .exact u
 .rw[if_neg u]at hx;rcases hx with hx|hx <;> cases hx
theorem CK {H:bg} {T:List Nat} {k:Nat} {ob:Ob} (h:k∉T):cE (H.set k ob) T=(cE H T).set k ob:=by
 apply List.ext_getElem?;intro i;rw[iC]
 by_cases e:i=k
 .subst e
  by_cases u:i<H.length
  .rw[List.getElem?_set_self u,List.getElem?_set_self (by rw[jW];exact u)];simp[h]
  .rw[List.getElem?_eq_none (by simp;omega),List.getElem?_eq_none (by rw[List.length_set,jW];omega)];rfl
 .rw[List.getElem?_set_ne (Ne.symm e),List.getElem?_set_ne (Ne.symm e),iC]
theorem I9 (H:bg) (T B:List Nat):cE (cE H T) B=cE (cE H B) T:=by
 apply List.ext_getElem?;intro i;simp only[iC]
 cases H[i]? with
 | none=>rfl
 | some o=>by_cases h1:i∈T <;> by_cases u:i∈B <;> simp[h1,u]
theorem Ku {H:bg} {b:Nat}:∀(n:Nat) (x:V),(∀id∈b_ n (H.take b) x,id<b)->b_ n H x=b_ n (H.take b) x:=by
 intro n
 induction n with
 | zero=>intro x _;rfl
 | succ n A=>
  have u:∀l:List V,(∀id∈cK (b_ n (H.take b)) l,id<b)->cK (b_ n H) l=cK (b_ n (H.take b)) l:=by
   intro l
   induction l with
   | nil=>intro _;rfl
   | cons x r z=>
    intro h;simp only[cK,List.mem_append]at h ⊢;rw[A x λid hi=>h id (.inl hi),z λid hi=>h id (.inr hi)]
  intro x h;simp only[b_]at h ⊢;split
  .rfl
  .rename_i hc;rw[if_neg hc]at h
   cases x with
   | hsl id es off len=>
    simp only at h ⊢;have w:id<b:=h id (List.mem_cons_self ..);rw[p8,if_pos w]at h ⊢
    cases hr:(H[id]?).bind Ob.rows with
    | none=>rfl
    | some q=>
     rw[hr]at h;simp only at h ⊢;rw[u _ λi hi=>h i (List.mem_cons_of_mem _ hi)]
   | hptr id el off=>
    simp only at h ⊢;have w:id<b:=h id (List.mem_cons_self ..);rw[p8,if_pos w]at h ⊢
    cases hr:(H[id]?).bind Ob.rows with
    | none=>rfl
    | some q=>
     rw[hr]at h;simp only at h ⊢;rw[u _ λi hi=>h i (List.mem_cons_of_mem _ hi)]
   | hmap id=>
    simp only at h ⊢;have w:id<b:=h id (List.mem_cons_self ..);rw[p8,if_pos w]at h ⊢;split
    .rename_i B hk;rw[hk]at h;simp only[List.mem_cons,List.mem_append]at h;rw[u _ λi hi=>h i (.inr (.inl hi)),u _ λi hi=>h i (.inr (.inr hi))]
    .rfl
   | clo f a c=>
    simp only[List.mem_append]at h ⊢;rw[u _ λi hi=>h i (.inl hi),u _ λi hi=>h i (.inr hi)]
   | agg cs=>simp only at h ⊢;exact u _ h
   | tup cs=>simp only at h ⊢;exact u _ h
   | _=>rfl
theorem tK {H:bg} {b n:Nat}:∀(l:List V),(∀id∈cK (b_ n (H.take b)) l,id<b)->cK (b_ n H) l=cK (b_ n (H.take b)) l
 | [],_=>rfl
 | x::r,h=>by
  simp only[cK,List.mem_append]at h ⊢;rw[Ku n x λid hi=>h id (.inl hi),tK r λid hi=>h id (.inr hi)]
end Go.VE
namespace Go.VE
variable [bS]
theorem P8 {H:bg} {b id:Nat} {ob:Ob} (h:(H.take b)[id]? = some ob):H[id]? = some ob:=by
 grind
theorem Em {H:bg} {b id es:Nat} {xs:List (List V)} (h:((H.take b)[id]?).bind Ob.rows=some (es,xs)):(H[id]?).bind Ob.rows=some (es,xs):=by
 grind
theorem Iq {H:bg} {b:Nat} {p:V} {n:Nat} {cs:List V} (h:dS (H.take b) p n=some cs):dS H p n=some cs:=by
 unfold dS at h ⊢;split at h
 .omega
 .grind
 grind
theorem K_ {H:bg} {b:Nat} {m:V} {B:List (V×V)} (h:mM (H.take b) m=some B):mM H m=some B:=by
 unfold mM at h ⊢
 grind
theorem y_ {E:Env} {F:Frame} {H:bg} {b:Nat} {op:Op} {x:V} (h:dM E F (H.take b) op=some x):dM E F H op=some x:=by
 cases op with
 | load t a=>
  simp[dM]at h ⊢;split at h
  .obtain⟨cs,h1,w⟩:=ζg.1 h;rw[Iq h1];exact w
  grind
 | lookup t m k ok=>
  simp[dM]at h ⊢;split at h
  .split at h
   .rename_i hd u;rw[hd,K_ u];omega
   grind
  grind
 | _=>simp[dM]at h
theorem mF {f g:V->Option V} (B:∀x y,f x=some y->g x=some y):∀{xs ys:List V},iR f xs=some ys->iR g xs=some ys:=by
 intro xs
 induction xs with
 | nil=>intro ys h;exact h
 | cons x xs u=>
  intro ys h;simp[iR]at h ⊢
  grind
theorem IJ {f g:V->Option V} (B:∀x y,f x=some y->g x=some y):∀{xs ys:List (List V)},lz f xs=some ys->lz g xs=some ys:=by
 intro xs
 induction xs with
 | nil=>intro ys h;exact h
 | cons x xs u=>
  intro ys h;simp[lz]at h ⊢;split at h
  .rename_i y s w z;rw[mF B w,u z];omega
  grind
theorem IY {f g:V->Option V} (B:∀x y,f x=some y->g x=some y):∀{xs ys:List (V×V)},k_ f xs=some ys->k_ g xs=some ys:=by
 intro xs
 induction xs with
 | nil=>intro ys h;exact h
 | cons x xs u=>
  intro ys h;simp[k_]at h ⊢
  grind
theorem Bh {H:bg} {b:Nat}:∀(n:Nat) (x y:V),borrow n (H.take b) x=some y->borrow n H x=some y:=by
 intro n
 induction n with
 | zero=>intro x y h;exact h
 | succ n z=>
  intro x y h;simp[borrow]at h ⊢;split at h
  .grind
  .rename_i hc;rw[if_neg hc];split at h
   .split at h
    .rename_i hr;simp only[Em hr];split at h
     .rename_i A;rw[if_pos A];obtain⟨B,w,u⟩:=ζf.1 h;rw[IJ z w,<-u];rfl
     grind
    grind
   .split at h
    .rename_i hr;simp[Em hr];split at h
     .split at h
      .rename_i C;rw[if_pos C];obtain⟨B,w,u⟩:=ζf.1 h;rw[mF z w,<-u];rfl
      grind
     grind
    grind
   .split at h
    .rename_i hr;simp only[P8 hr];obtain⟨B,w,u⟩:=ζf.1 h;rw[IY z w,<-u];rfl
    grind
   .split at h
    .rename_i h1 D;rw[mF z h1,mF z D];omega
    grind
   .obtain⟨B,w,u⟩:=ζf.1 h;rw[mF z w,<-u];rfl
   .obtain⟨B,w,u⟩:=ζf.1 h;rw[mF z w,<-u];rfl
   grind
theorem pH {call:dn} {f:FuncId} {args:List V} {H:bg} {b:Nat} {y:V} (h:cz call f args (H.take b)=some y):cz call f args H=some y:=by
 unfold cz borrows at h ⊢;split at h
 .rename_i az has;rw[mF (Bh call.lv) has];omega
 grind
theorem G9 (n:Nat) (H:bg) {x:V} (h:x.closed=true):b_ n H x=[]:=by
 cases n with
 | zero=>rfl
 | succ n=>simp[b_,h]
section
variable {P:Program} {E:Env} {I I':ct} {μ μ':Mu} {H H':bg} {n:Nat} {F:Frame} {a:Act} {w w':World}
theorem xk {f:FuncId} (h:ye P f) (args:Array Value):(callFunc f args).run P w=.ok (.enter f args) w:=by
 obtain⟨fn,h1,A,u⟩:=h;unfold callFunc;have z:fn.body.isNone=false:=by simp_all
 simp only[Sem.run_bind,run_program,Result.andThen_ok,h1,u,z,Bool.false_eq_true,if_false,Sem.run_pure]
theorem Di {o:Oper} {ro:Option Nat} {K:Act->World->Prop} {Q:Exit->Act->World->Prop} {f:FuncId} {args:Array Value} {r:V}
 (B:CallsIn (fr none) 0 P f args w (xR I μ H w r H')) (D:∀u I' μ' w',bF I' μ' r u->cQ I' μ' H' w'->Step I μ H w I' μ' H' w'->K (a.put o.dst u) w') :
 o.uponIn (fr ro) 0 P a K Q (.ok (.enter f args) w):=by
 refine⟨λh=>by simp[fr]at h,?_⟩
 have z  := B;refine z.mono ?_;rintro e w' ⟨u,I',μ',rfl,h1,z,A⟩
 grind
theorem Fu {x:V} (h:x.scalar=true) {I:ct} {μ:Mu} {v:Value} (r:bF I μ x v):eu I x v:=by
 induction r with
 | c x v A=>omega
 | agg cs u w _ z=>
  exact .agg cs u w λj a b p q=>z j a b p q (tY h a (List.mem_of_getElem? p))
 | tup cs u w _ z=>
  exact .tup cs u w λj a b p q=>z j a b p q (tY h a (List.mem_of_getElem? p))
 | _=>simp[V.scalar]at h
theorem SP (hE:ey P E) (r:dV I μ n F a.tmps) (s:cQ I μ H w) (o:Oper) {x:V} (h:qU E F o.op=some x) :
 ∃u I' w',(execOp a.eval o).run P w=.ok (.value u) w'/\bF I' μ x u/\cQ I' μ H w'/\Step I μ H w I' μ H w':=by
 unfold qU at h;split at h
 rotate_left
 .cases h
 rename_i es G A n X;split at h
 rotate_left
 .cases h
 rename_i hc;obtain⟨rfl,rfl,Y⟩:=hc;obtain⟨obj,p,u,h1,W⟩:=B6 hE r s o X;have Z:=W.len _ _ rfl;obtain⟨⟨q,c,el,g1,g2,g3,g4⟩,gv⟩:=W.rel _ (s.dom _ (Nat.le_refl _));rw[Mu.gj]at g1;cases g1;have J:=W.b;have Q:obj=.cells c el:=by
  rw[J,mL]at g3;cases g3;rfl
 subst Q
 let I':ct:=λb=>if b=w.heap.size then some (.cells c)else I b
 have B:ct.le I I':=λb y C=>by
  show (if b=w.heap.size then some (IC.cells c)else I b)=some y;rw[if_neg (λe=>by have:=IC.t_ (s.imm b y C);omega)];exact C
 have D:I' p.b=some (.cells c):=by show (if p.b=w.heap.size then some (IC.cells c)else I p.b)=_;rw[if_pos J]
 have aa:∀y∈G,∀z∈y,z.scalar=true:=λy C z hz=>List.all_eq_true.1 (List.all_eq_true.1 Y y C) z hz
 have hw:∀b,b<w.heap.size->(w.alloc (.cells c el)).heap[b]? = w.heap[b]? := λb hb=>lM _ b hb
 have ab:∀b,b<w.heap.size->I' b=I b:=λb hb=>by show (if b=w.heap.size then some (IC.cells c)else I b)=_;rw[if_neg (by omega)]
 refine⟨u,I',_,h1,?_,⟨s.dom,?_,?_,s.inj,s.gl.mono B⟩,⟨B,Mu.le_refl _,Nat.le_refl _,by simp,λb hb _=>hw b hb,?_,rfl,⟨rfl,rfl,Nat.le_refl _⟩,λa hb=>NL W.nf a⟩⟩
 .refine .c _ _ ?_;have ad:∀cap,G.length<=cap->p.o+(0+cap)*A<=p.sz->u=.slice (some ⟨p.b,p.o+0*A,none⟩) G.length cap->eu I' x u:=by
   rintro cap k1 k2 rfl;rw[Nat.zero_mul,Nat.add_zero];split at h
   .split at h
    .rename_i O;simp only[ζa]at h;subst h;simp only[ζh,List.isEmpty_iff,bne_iff_ne,ne_eq]at O;obtain⟨O,ae⟩:=O;subst O;have:cap=0:=by
      simp only[List.length_nil,Nat.zero_mul]at Z;rcases Nat.eq_zero_or_pos cap with k|k
      .exact k
      .have:=Nat.mul_pos k (Nat.pos_of_ne_zero ae);rw[Nat.zero_add]at k2;omega
     subst this;exact .dA _
    .cases h
   .simp only[ζa]at h;subst h;refine .fsl A G p.b p.o cap c D k1 g4.o6 g4.one g4.room λi j y z v m1 m2 m3=>?_
    exact eu.mono B (Fu (aa y (List.mem_of_getElem? m1) z (List.mem_of_getElem? m2)) (g4.idx m1 m2 m3))
  have hp:p.es=A:=g4.es_eq;change bF I _ (.hsl H.length A 0 G.length) u at gv;generalize S:G.length=ln at gv
  cases gv with
  | c _ _ af=>cases af
  | hsl id off len cap p' hm k1 k2=>
   rw[Mu.gj]at hm;cases hm;rw[hp]at *;subst S;exact ad cap k1 k2 rfl
  | hsl0 id es off a=>
   have O:G=[]:=List.length_eq_zero_iff.1 S;subst O;split at h
   .split at h
    .simp only[ζa]at h;subst h;exact .dA _
    .cases h
   .simp only[ζa]at h;subst h;exact .fsl0 _ _ _
 .intro b y C
  by_cases e:b=w.heap.size
  .subst e;have:y=.cells c:=by have:=D;rw[J]at this;rw[this]at C;cases C;rfl
   subst this;exact⟨el,_,mL _⟩
  .have T:I b=some y:=by have:(if b=w.heap.size then some (IC.cells c)else I b)=some y:=C;rw[if_neg e]at this;exact this
   exact IC.rN (s.imm b y T) (hw b (IC.t_ (s.imm b y T)))
 .intro id ob L;refine(s.obs id ob L).mono B (Mu.le_refl _) (λq hq hl=>?_) (λe=>by subst e;exact s.obs id _ L)
  have ho:ij μ H q.b:=⟨id,q,ob,L,hl,hq,rfl⟩;have U:=mW s ho;exact⟨hw _ U,by rw[ab _ U];exact ga s ho⟩
 .intro b hb;rcases hb with hb|hb
  .by_cases e:b=w.heap.size
   .exact .inr (.inr (by omega))
   .have:(if b=w.heap.size then some (IC.cells c)else I b).isSome=true:=hb;rw[if_neg e]at this;exact .inl this
  .exact .inr (.inl hb)
theorem E9:∀{ys:List (List V)} {l:List Int},qb ys=some l->ys.flatten=l.map (V.int .u8)/\l.length=ys.length
 | [],l,h=>by cases h;exact⟨rfl,rfl⟩
 | x::r,l,h=>by
  unfold qb at h;split at h
  .rename_i e;cases e
  .rename_i n B e;cases e;obtain⟨k,h1,rfl⟩:=ζf.1 h;obtain⟨u,w⟩:=E9 h1;exact⟨by simp[u],by simp[w]⟩
  .cases h
theorem S4 (U:ey P E) (r:dV I μ n F a.tmps) (s:cQ I μ H w) (o:Oper) {x:V} (h:evalConv E F H o.op=some x):∃u,(execOp a.eval o).run P w=.ok (.value u) w/\bF I μ x u:=by
 unfold evalConv at h;split at h
 .rename_i st L y A;split at h
  .rename_i e v O hd hv;split at h
   .rename_i Q;obtain⟨G,h1,S⟩:=ζg.1 h;obtain⟨l,T,rfl⟩:=ζf.1 S;obtain⟨W,Z⟩:=E9 T;have B:∀{t:TypeId} {k:TK},E.kindOf t=some k->∃d desc,E.tt t=some d/\P.underlying t=some desc/\lY desc=k:=λ{t k} hk=>by
     unfold Env.kindOf at hk;obtain⟨d,g1,g2⟩:=ζf.1 hk;obtain⟨desc,C,D,_⟩:=(U.ty g1).dF;exact⟨d,desc,g1,C,by rw[D,g2]⟩
    obtain⟨_,d1,_,p1,C⟩:=B O;obtain⟨_,d2,_,p2,D⟩:=B hd;obtain⟨_,d3,_,p3,X⟩:=B Q;rw[jl C]at p1;rw[zP D]at p2;rw[CU X]at p3;obtain⟨J,cap,arr,e1,_,e2,e3,_⟩:=Aj s (di r hv) h1;have z:arr=(l.map (Value.int .u8)).toArray:=by
     apply Array.ext';rw[W]at e3;refine List.ext_getElem (by simpa using e3.1.symm) λj g1 g2=>?_
     have g3:j<l.length:=by simpa using g2
     have:=e3.2 j (V.int .u8 l[j]) arr.toList[j] (by simp[g3]) (ζd g1)
     rw[this.fu];simp
    refine⟨.string (K1 l),?_,.c _ _ (.str _)⟩;rw[show execOp a.eval o=_ from by unfold execOp;rw[A]]
    refine dY ?_;rw[e1];rw[run_convert_bytes_string w st L e J G.length cap p1 p3 p2]
    cases J with
    | none=>
     have:=e2 w rfl;rw[e1]at this;simp only[Builtin.firstCells,Sem.run_pure]at this;cases this;have Y:l=[]:=by
      have:=congrArg Array.size z;simp at this;exact List.eq_nil_of_length_eq_zero this.symm
     subst Y;rfl
    | some q=>
     have:=e2 w rfl;rw[e1]at this;simp only[Builtin.firstCells,Nat.mul_one]at this;rw[z]at this;exact run_bytesToString w q G.length cap l this
   .cases h
  .cases h
 .cases h
theorem N4 (U:ey P E) {call:dn} (hc:kF P call) {ops:List Oper} {place:Option (Nat×Nat)} {o:Oper} {x:V} (h:dg E call ops place F H o.op=some (x,H'))
 (r:dV I μ n F a.tmps) (s:cQ I μ H w) (ro:Option Nat) {K:Act->World->Prop} {Q:Exit->Act->World->Prop}
 (hK:∀u I' μ' w',bF I' μ' x u->cQ I' μ' H' w'->Step I μ H w I' μ' H' w'->K (a.put o.dst u) w'):o.wpIn (fr ro) 0 P a w K Q:=by
 refine⟨λ_ _=>trivial,?_⟩
 have ad:∀c,o.op≠.defer c:=by
  intro c ae;rw[ae]at h;simp[dg,c6,sx,bJ]at h;cases place <;> simp[evalConv]at h
 show o.uponIn (fr ro) 0 P a K Q ((o.semAt ro a.eval).run P w);rw[Oper.semAt_eq ro a.eval o ad];have aa:∀v,(execOp a.eval o).run P w=.ok (.value v) w->bF I μ x v->H'=H->o.uponIn (fr ro) 0 P a K Q ((execOp a.eval o).run P w):=by
  intro v e hv hH;rw[e,Oper.uponIn_value];subst hH;exact hK v I μ w hv s (.refl _ _ _ _)
 unfold dg at h;split at h
 .
  simp  at h;obtain⟨v,hv,rfl,rfl⟩:=h;unfold sx at hv;split at hv
  .rename_i hp;cases hv;obtain⟨u,h1,A⟩:=Sc (w:=w) U r o hp
   grind
  .split at hv
   .obtain⟨u,h1,A⟩:=S4 U r s o hv;exact aa u h1 A rfl
   .cases hv
 .
  have hr:dM E F H o.op=some x/\H'=H:=by
   split at h
   .simp  at h
    grind
   .split at h
    .split at h
     .rename_i v hv;obtain⟨rfl,rfl⟩:=h;exact⟨y_ hv,rfl⟩
     .split at h
      .simp  at h
       grind
      grind
    grind
  obtain⟨u,h1,A⟩:=Td U r s o hr.1
  grind
 .
  by_cases G:qS ops place=true
  .rw[if_pos G]at h;obtain⟨v,hv,e⟩:=ζf.1 h;obtain⟨u,I',w',k1,Z,k3,k4⟩:=SP U r s o hv;rw[k1,Oper.uponIn_value]
   grind
  rw[if_neg G]at h;split at h
  .rename_i ob m W;obtain⟨obj,p,u,h1,A⟩:=B6 U r s o W;rw[h1,Oper.uponIn_value];obtain⟨g1,g2⟩:=A.rel _ (s.dom _ (Nat.le_refl _));obtain⟨s1,s2⟩:=s.push A.b g1 A.nf
   grind
  .rename_i ob m b i W;split at h
   .rename_i J;obtain⟨obj,p,u,h1,A⟩:=B6 U r s o W;rw[h1,Oper.uponIn_value];obtain⟨g1,g2⟩:=A.rel _ (s.obs _ _ J);obtain⟨s1,s2⟩:=s.fill J A.b g1 A.nf
    grind
   grind
  grind
 .
  have hl:cT E F H o.op=some (x,H'):=by
   split at h
   .exact h
   .split at h
    .exact h
    .simp at h
  obtain⟨nx,u,w',μ',h1,A,h3,h4,h5⟩:=(Rq U r s o hl).run;rw[h1];rcases A with rfl|⟨rfl,rfl⟩
  .exact hK u I μ' w' h3 h4 h5
  .exact hK _ I μ' w' h3 h4 h5
 .
  have B:∀c args,jH F o.op=some (c,args)->∃O:List Value,cF I μ args O /\
   (∀f,c=.fn f->ye P f->(execOp a.eval o).run P w=.ok (.enter f O.toArray) w) /\
   (∀id,c=.yld id->∃p,μ id=some p/\(execOp a.eval o).run P w=(Instr.yield p.b O.toArray).run P w):=by
   intro c args z;obtain⟨dst,op,ty,pos,after,guard⟩:=o
   cases op with
   | call cl=>
    obtain⟨callee,L,aj⟩:=cl
    cases callee with
    | value f=>
     simp only[jH]at z;split at z
     .rename_i g p q O hf X;obtain⟨rfl,rfl⟩:=z;obtain⟨u,v,ef,hu,hv⟩:=(di r hf).kN;have C:=nD r X;refine⟨u.toList++L.toList.map a.eval++v.toList,(hu.append C).append hv,?_,by simp⟩
      intro f' af ah;cases af;simp[execOp,resolve,Sem.run_bind];rw[ef];simp only[Deferred.ofValue,Sem.run_pure,Result.andThen_ok,invoke,xk ah]
      congr 2
      apply Array.ext';simp
     .rename_i id O hf X;simp  at z;obtain⟨rfl,rfl⟩:=z;obtain⟨p,hm,ef⟩:=(di r hf).Sn;have C:=nD r X;refine⟨L.toList.map a.eval,C,by simp,?_⟩
      intro ak ab;cases ab;refine⟨p,hm,?_⟩;simp[execOp,resolve,Sem.run_bind];rw[ef];simp[Deferred.ofValue,Sem.run_pure,Result.andThen_ok,invoke]
      congr 1
      congr 1
      apply Array.ext';simp
     .simp at z
    | _=>simp[jH]at z
   | _=>simp[jH]at z
  have D:∀f args y,jH F o.op=some (.fn f,args)->cz call f args H=some y->x=y->H'=(if y.scalar then H else cE H (cK (b_ call.lv H) args)) ->
   o.uponIn (fr ro) 0 P a K Q ((execOp a.eval o).run P w):=by
   intro f args y h1 A h3 h4;obtain⟨O,g1,g2,_⟩:=B _ _ h1;obtain⟨k1,Z⟩:=C0 hc A s g1;rw[g2 f rfl k1];subst h3;subst h4;exact Di Z hK
  have S:∀f args,jH F o.op=some (.fn f,args)->fA E call f args H=some (x,H')->o.uponIn (fr ro) 0 P a K Q ((execOp a.eval o).run P w):=by
   intro f args h1 A;obtain⟨O,g1,g2,_⟩:=B _ _ h1;obtain⟨k1,Z⟩:=TH hc A s g1;rw[g2 f rfl k1];exact Di Z hK
  have T:∀id args,jH F o.op=some (.yld id,args)->call (.yld id) args H=some (x,H')->o.uponIn (fr ro) 0 P a K Q ((execOp a.eval o).run P w):=by
   intro id args h1 A;obtain⟨O,g1,_,g3⟩:=B _ _ h1;obtain⟨p,hm,e⟩:=g3 id rfl;obtain⟨l,f,tmps,assign,body,k1,Z⟩:=hc.yld id args H x H' A I μ w O p s g1 hm;rw[e,k1,Oper.uponIn_round];refine⟨λh=>by simp[fr]at h,?_⟩
   have A  := Z;refine A.mono ?_;rintro e w' ⟨u,I',μ',rfl,h1,A,h3⟩;exact hK u I' μ' w' h1 A h3
  split at h
  .rename_i f args z;split at h
   .split at h
    .exact S f args z h
    .split at h
     .exact S f args z h
     .simp at h
   .split at h
    .split at h
     .rename_i y hy;simp  at h;exact D f args y z hy h.1.symm h.2.symm
     .simp at h
    .split at h
     .rename_i y hy;split at h
      .rename_i Y;simp  at h;refine D f args y z (pH hy) h.1.symm ?_;rw[<-h.2,if_pos Y]
      .rename_i Y;split at h
       .rename_i ai;simp  at h;refine D f args y z (pH hy) h.1.symm ?_;rw[<-h.2,if_neg Y,tK _ λid hi=>zq ai hi]
       .simp at h
     .split at h
      .split at h
       .rename_i y hy;simp  at h;exact D f args y z hy h.1.symm h.2.symm
       .simp at h
      .simp at h
  .rename_i id args z;split at h
   .exact T id args z h
   .split at h
    .exact T id args z h
    .simp at h
  .simp at h
end
end Go.VE
namespace Go.VE
variable [bS]
structure jv (B:Nat) (ds:List Deferred) (w:World):Prop where
 all:∀d∈ds,∃r,d.target=.collected r/\B<=r/\w.heap[r]? = some (.deferred (some []))
 apart:ds.Pairwise λd d'=>∀r,d.target=.collected r->d'.target≠.collected r
section
variable {P:Program} {E:Env} {I I' I'':ct} {μ μ' μ'':Mu} {H H' H'':bg} {n B:Nat} {F F':Frame} {a:Act} {w w' w'':World}
theorem uq (s:cQ I μ H w) {r:Nat} {c:Option (List Deferred)} (h:w.heap[r]? = some (.deferred c)):¬ij μ H r:=by
 rintro⟨id,p,ob,h1,B,A,rfl⟩;have:=s.obs id ob h1
 cases ob with
 | row es D=>obtain⟨q,c,el,u,_,z,_⟩:=this;rw[A]at u;cases u;rw[h]at z;cases z
 | map C=>obtain⟨q,c,el,u,_,z,_⟩:=this;rw[A]at u;cases u;rw[h]at z;cases z
 | loop x=>obtain⟨q,c,u,_,z,_⟩:=this;rw[A]at u;cases u;rw[h]at z;cases z
 | _=>simp[Ob.live]at B
theorem jv.step {ds:List Deferred} (h:jv B ds w) (s:cQ I μ H w) (st:Step I μ H w I' μ' H' w'):jv B ds w' where
 all:=by
  intro d hd;obtain⟨r,h1,z,u⟩:=h.all d hd;refine⟨r,h1,z,?_⟩;rw[st.frame r (Array.getElem?_eq_some_iff.1 u).1 (uq s u)];exact u
 apart:=h.apart
structure At (B n:Nat) (I0:ct) (μ0:Mu) (H0:bg) (w0:World) (F:Frame) (H:bg) (ds:List Deferred) (a:Act) (w:World):Prop where
 rel:∃I μ,dV I μ n F a.tmps/\cQ I μ H w/\Step I0 μ0 H0 w0 I μ H w
 defers:a.defers=ds
 marks:jv B ds w
theorem LZ (r:dV I μ n F a.tmps) (ops:Array Oper) (o:Oper):fR ops.toList F o=Region.wanted o (yielded ops a.tmps):=by
 unfold fR Region.wanted
 cases hg:o.guard with
 | none=>rfl
 | some g=>
  obtain⟨j,b⟩:=g;simp only;unfold yielded;have e:ops.toList[j]? = ops[j]? := by simp
  rw[e]
  cases hd:(ops[j]?).bind (·.dst)with
  | none=>simp
  | some d=>
   simp only[ζb];have hr:=r.2 d
   by_cases w:d<a.tmps.size
   .have u:a.tmps[d]? = some a.tmps[d]:=by simp[w]
    have z:a.tmps.getD d undef=a.tmps[d]:=by simp[w]
    rw[z]at hr;rw[u]
    cases A:get F d with
    | bool c=>rw[A]at hr;rw[hr.rm];cases c <;> cases b <;> rfl
    | _=>
     cases hv:a.tmps[d]with
     | bool c=>rw[hv]at hr;have:=hr.of_bool;rw[A]at this;cases this
     | _=>rfl
   .have u:a.tmps[d]? = none:=Array.getElem?_eq_none (Nat.le_of_not_lt w);have z:a.tmps.getD d undef=undef:=by simp[w]
    rw[z]at hr;rw[u]
    cases A:get F d with
    | bool c=>rw[A]at hr;have:=hr.rm;simp[undef]at this
    | _=>rfl
theorem CH (J:ey P E) {call:dn} (hc:kF P call) {ops:Array Oper} {place:Option (Nat×Nat)} {o:Oper} (h:gw E call n ops.toList place o F H=some (F',H'))
 (r:dV I μ n F a.tmps) (s:cQ I μ H w) (ro:Option Nat) {K:Act->World->Prop} {Q:Exit->Act->World->Prop}
 (G:∀a' I' μ' w',dV I' μ' n F' a'.tmps->a'.defers=a.defers->cQ I' μ' H' w'->Step I μ H w I' μ' H' w'->K a' w') :
 if Region.wanted o (yielded ops a.tmps)then o.wpIn (fr ro) 0 P a w K Q else(∀f,o.about P w a.eval=some f->(fr ro).fn f)/\K (a.put o.dst undef) w:=by
 unfold gw at h;rw[<-LZ r];have z:∀v,(a.put o.dst v).defers=a.defers:=λv=>by cases o.dst <;> rfl
 split at h
 .rename_i B;rw[if_pos B];split at h
  .rename_i x H2 C;simp only[ζf,ζc]at h;obtain⟨L,D,rfl,rfl⟩:=h;refine N4 J hc C r s ro (λu I' μ' w' O S A=>?_)
   exact G _ I' μ' w' ((r.mono A.le A.mu).put O D) (z u) S A
  .simp at h
 .rename_i B;rw[if_neg B];simp only[ζf,ζc]at h;obtain⟨L,D,rfl,rfl⟩:=h;exact⟨λ_ _=>trivial,G _ I μ w (r.put (.undef I μ) D) (z _) s (.refl _ _ _ _)⟩
theorem MQ (U:ey P E) {call:dn} (hc:kF P call) {ops:Array Oper} (ro:Option Nat) {Q:Exit->Act->World->Prop}:∀(rest:List Oper) (k:Nat) (I:ct) (μ:Mu) (F:Frame) (H:bg) (a:Act) (w:World),
 (∀j,rest[j]? = ops[k+j]?)->lZ E call n ops.toList rest F H=some (F',H')->dV I μ n F a.tmps->cQ I μ H w ->
 (∀a' I' μ' w',dV I' μ' n F' a'.tmps->a'.defers=a.defers->cQ I' μ' H' w'->Step I μ H w I' μ' H' w'->Q .normal a' w') ->
 wpOpsIn (fr ro) 0 P ops Q (List.range' k rest.length) a w:=by
 intro rest
 induction rest with
 | nil=>
  intro k I μ F H a w _ h r s B;simp only[lZ,ζa,ζc]at h;obtain⟨rfl,rfl⟩:=h;exact B a I μ w r rfl s (.refl _ _ _ _)
 | cons o rest O=>
  intro k I μ F H a w u h r s B;simp only[lZ]at h;split at h
  .rename_i F1 H1 z;have h0:ops[k]? = some o:=by simpa using (u 0).symm
   simp only[List.length_cons,List.range'_succ,wpOpsIn,h0];refine CH U hc z r s ro (λa' I' μ' w' hr hd L C=>?_)
   refine O (k+1) I' μ' F1 H1 a' w' (λj=>by have:=u (j+1);simpa [Nat.add_assoc,Nat.add_comm 1 j]using this) h hr L ?_
   intro S I2 T W D G J A;exact B S I2 T W D (G.trans hd) J (Step.trans L C A)
  .simp at h
end
end Go.VE
namespace Go.VE
variable [bS]
def nP (F F':Frame) (op:Op):Prop:=∀x∈op.operands,ev F x=ev F' x
theorem rS {F F':Frame}:∀{l:List Operand},(∀x∈l,ev F x=ev F' x)->eZ F l=eZ F' l:=by
 intro l
 induction l with
 | nil=>intro _;rfl
 | cons x l u=>
  simp[eZ]
  grind
theorem z_ {F F':Frame}:∀{l:List (Nat×Operand)},(∀x∈l,ev F x.2=ev F' x.2)->mg F l=mg F' l:=by
 intro l
 induction l with
 | nil=>intro _;rfl
 | cons x l u=>
  intro h;simp[mg];simp_all
theorem wY {F F':Frame} {o:Option Operand} (h:∀x∈o.toArray,ev F x=ev F' x):jG F o=jG F' o:=by
 cases o with
 | none=>rfl
 | some x=>simp[jG];grind
theorem DC {E:Env} {F F':Frame} {op:Op} (h:nP F F' op):bJ E F op=bJ E F' op:=by
 cases op with
 | move x=>exact h x (by simp[Op.operands])
 | assign x=>exact h x (by simp[Op.operands])
 | pick c a b=>
  simp[bJ];rw[h c (by simp[Op.operands]),h a (by simp[Op.operands]),h b (by simp[Op.operands])]
 | nilCheck x=>simp[bJ];rw[h x (by simp[Op.operands])]
 | binOp op t x y A=>simp[bJ];rw[h x (by simp[Op.operands]),h y (by simp[Op.operands])]
 | unOp op t x=>simp[bJ];rw[h x (by simp[Op.operands])]
 | convert s d x=>simp[bJ];rw[h x (by simp[Op.operands])]
 | fieldAddr s x f=>simp[bJ];rw[h x (by simp[Op.operands])]
 | field s x f=>simp[bJ];rw[h x (by simp[Op.operands])]
 | indexAddr t x i=>simp[bJ];rw[h x (by simp[Op.operands]),h i (by simp[Op.operands])]
 | index t x i=>simp[bJ];rw[h x (by simp[Op.operands]),h i (by simp[Op.operands])]
 | slice t x lo hi B=>
  simp[bJ];rw[h x (by simp[Op.operands]),wY  (λy u=>h y (by simp[Op.operands]at u ⊢;simp_all)),wY  (λy u=>h y (by simp[Op.operands]at u ⊢;simp_all)),
   wY  (λy u=>h y (by simp[Op.operands]at u ⊢;simp_all))]
 | build t C=>
  simp[bJ];rw[z_  (λx w=>h x.2 (by simp[Op.operands];grind))]
 | makeFunc f a b=>
  cases f with
  | func f=>
   simp[bJ];rw[rS  (λx w=>h x (by simp[Op.operands];grind)),rS  (λx w=>h x (by simp[Op.operands];grind))]
  | _=>rfl
 | extract x i=>simp[bJ];rw[h x (by simp[Op.operands])]
 | call c=>
  obtain⟨callee,args,z⟩:=c
  cases callee with
  | builtin b=>
   simp[bJ];rw[rS  (λx w=>h x (by simp[Op.operands,Call.operands];grind))]
  | _=>rfl
 | _=>rfl
theorem xZ {E:Env} {F F':Frame} {H:bg} {op:Op} (h:nP F F' op):dM E F H op=dM E F' H op:=by
 cases op with
 | load t x=>simp[dM];rw[h x (by simp[Op.operands])]
 | lookup t m k ok=>simp[dM];rw[h m (by simp[Op.operands]),h k (by simp[Op.operands])]
 | _=>rfl
theorem wv {E:Env} {F F':Frame} {op:Op} (h:nP F F' op):eO E F op=eO E F' op:=by
 cases op with
 | alloc t=>rfl
 | box t x=>simp[eO];rw[h x (by simp[Op.operands])]
 | makeSlice t l c=>simp[eO];rw[h l (by simp[Op.operands]),h c (by simp[Op.operands])]
 | buildSlice t len u=>
  simp[eO];rw[z_  (λx w=>h x.2 (by simp[Op.operands];grind))]
 | makeMap t r=>cases r <;> rfl
 | _=>rfl
theorem Dx {E:Env} {F F':Frame} {H:bg} {op:Op} (h:nP F F' op):cT E F H op=cT E F' H op:=by
 cases op with
 | store t p x=>simp[cT];rw[h p (by simp[Op.operands]),h x (by simp[Op.operands])]
 | mapUpdate t m k x=>simp[cT];rw[h m (by simp[Op.operands]),h k (by simp[Op.operands]),h x (by simp[Op.operands])]
 | insert t m k x=>simp[cT];rw[h m (by simp[Op.operands]),h k (by simp[Op.operands]),h x (by simp[Op.operands])]
 | call c=>
  obtain⟨callee,args,u⟩:=c
  cases callee with
  | builtin b=>
   cases b with
   | append=>
    simp[cT];rw[rS  (λx w=>h x (by simp[Op.operands,Call.operands];grind))]
   | clear=>
    simp[cT];rw[rS  (λx w=>h x (by simp[Op.operands,Call.operands];grind))]
   | _=>rfl
  | _=>rfl
 | _=>rfl
theorem DF {F F':Frame} {op:Op} (h:nP F F' op):jH F op=jH F' op:=by
 cases op with
 | call c=>
  obtain⟨callee,args,u⟩:=c
  cases callee with
  | value f=>
   simp[jH];rw[h f (by simp[Op.operands,Call.operands]),rS  (λx w=>h x (by simp[Op.operands,Call.operands];grind))]
  | _=>rfl
 | _=>rfl
theorem Jc {E:Env} {F F':Frame} {op:Op} (h:nP F F' op):qU E F op=qU E F' op:=by unfold qU;rw[wv h]
theorem KP {F F':Frame} {ops:List Oper} {i b:Nat} {H:bg} {op:Op} (h:nP F F' op):ym ops i b F H op=ym ops i b F' H op:=by
 have:pU F op=pU F' op:=by
  unfold pU;split
  .rename_i args _;split
   .rename_i x r u;rw[h x (by
     have:x∈args.toList:=by rw[u];simp
     simp only[Op.operands,Call.operands,Array.mem_append];right;simpa using this)]
   .rfl
  .rfl
 unfold ym;rw[this]
theorem Ja {E:Env} {place:Option (Nat×Nat)} {F F':Frame} {H:bg} {op:Op} (h:nP F F' op):sx E F H place op=sx E F' H place op:=by
 unfold sx;rw[DC h];have:evalConv E F H op=evalConv E F' H op:=by
  unfold evalConv;split
  .rw[h _ (by simp[Op.operands])]
  .rfl
 rw[this]
theorem u5 {E:Env} {b:Nat×Nat} {F:Frame} {H:bg} {op:Op}:sx E F H (some b) op=bJ E F op:=by
 unfold sx;split <;> simp_all
theorem Df {E:Env} {call:dn} {ops:List Oper} {place:Option (Nat×Nat)} {F F':Frame} {H:bg} {op:Op} (h:nP F F' op) (B:∀b i,place=some (b,i)->rB ops i F=rB ops i F'/\nH ops i F op=nH ops i F' op):dg E call ops place F H op=dg E call ops place F' H op:=by
 unfold dg;rw[Ja h,wv h,Dx h,DF h,xZ (H:=H) h,Jc h];split <;> (try rfl)
 .split <;> (try rfl)
  rename_i i;rw[xZ h,(B _ i rfl).2]
 .split <;> (try rfl)
  rename_i b i;rw[(B _ i rfl).1,KP h]
section
variable {E:Env} {call:dn} {n:Nat} {ops:List Oper} {base:Nat}
theorem KH {o:Oper} {t:Nat} (h:.tmp t∈o.op.operands):t∈tmpsOf o ops:=by
 refine List.mem_append.2 (.inl (List.mem_filterMap.2 ⟨.tmp t,by grind,rfl⟩))
theorem Ep {F F':Frame} {o:Oper} {dst:Option Nat} {v:V} (hp:jK n F dst v=some F') (h:∀d,dst=some d->d∉tmpsOf o ops):nP F' F o.op:=by
 intro x w
 cases x with
 | tmp t=>
  cases dst with
  | none=>simp[jK]at hp;grind
  | some d=>
   simp only[jK]at hp;split at hp
   .simp  at hp;subst hp;have u:d≠t:=λe=>h d rfl (by rw[e];exact KH w)
    simp[ev];rw[ji _ _ u]
   grind
 | const v=>rfl
 | func f=>rfl
 | global g=>rfl
theorem Br {F F':Frame} {o:Oper} {dst:Option Nat} {v:V} (hp:jK n F dst v=some F') (h:∀d,dst=some d->d∉tmpsOf o ops):fR ops F' o=fR ops F o:=by
 unfold fR
 cases hg:o.guard with
 | none=>rfl
 | some g=>
  obtain⟨j,b⟩:=g;simp only
  cases hd:(ops[j]?).bind (·.dst)with
  | none=>rfl
  | some t=>
   simp only
   cases dst with
   | none=>simp[jK]at hp;grind
   | some d=>
    simp only[jK]at hp;split at hp
    .simp  at hp;subst hp;have u:d≠t:=λe=>h d rfl (by
      unfold tmpsOf
      grind)
     rw[ji _ _ u]
    grind
theorem Nj {F F1 J:Frame} {d G:Option Nat} {u v:V} (h1:jK n F d u=some F1) (B:jK n F1 G v=some J) (U:∀x,d=some x->G≠some x) :
 ∃D,jK n F G v=some D/\jK n D d u=some J:=by
 cases d with
 | none=>
  simp[jK]at h1;subst h1;exact⟨J,B,rfl⟩
 | some x=>
  cases G with
  | none=>
   simp[jK]at B;subst B;exact⟨F,rfl,h1⟩
  | some y=>
   simp only[jK]at h1 B ⊢;split at h1
   .rename_i w;split at B
    .simp  at h1 B;subst h1;subst B;have:x≠y:=λe=>U x rfl (by rw[e])
     exact⟨set F y v,by grind,by rw[if_pos w,Ic _ _ _ (Ne.symm this)]⟩
    grind
   grind
theorem xe {i k:Nat} {B ok:Oper} (h:dD ops i=true) (hi:ops[i]? = some B) (hk:ops[k]? = some ok) (D:k≠i):c6 ok.op=.pure\/(if k<i then before ops i k else before ops k i)=true\/(isApp B.op=true/\c6 ok.op=.alloc/\i<k):=by
 unfold dD at h
 grind
theorem wQ {H:bg} {j es:Nat} {ob:Ob} {x:V} {xs:List (List V)} (B:H[j]? = some .free) (h:dN H es x=some xs):dN (H.set j ob) es x=some xs:=by
 unfold dN at h ⊢;split at h <;> first|omega|skip
 rename_i id u off len
 by_cases e:j=id
 .subst e;rw[B]at h;simp only[ζb,Ob.rows]at h
  grind
 grind
theorem P9 {H H1:bg} {j:Nat} {ob:Ob} {x:V} (h:hU H x=some H1):H1.length=H.length/\(H1[j]? = some .free->H[j]? = some .free)/\(H[j]? = some .free->hU (H.set j ob) x=some (H1.set j ob)):=by
 unfold hU at h ⊢;split at h
 .grind
 .grind
 .rename_i id a b c;split at h
  .rename_i hr;cases h;refine⟨by simp,λh=>?_,λh=>?_⟩
   .grind
   .have e:id≠j:=λe=>by grind
    rw[List.getElem?_set_ne (Ne.symm e),hr];rw[List.set_comm _ _ e]
  simp_all
 simp_all
theorem Hz {H:bg} {o:Ob} {j:Nat} (B:o≠.free) (h:(H++[o])[j]? = some .free):j<H.length/\H[j]? = some .free:=by
 grind
theorem SA {F:Frame} {H H1:bg} {op:Op} {v:V} {j:Nat} {ob:Ob} (J:isApp op=true) (h:cT E F H op=some (v,H1)) (B:H1[j]? = some .free):H[j]? = some .free/\cT E F (H.set j ob) op=some (v,H1.set j ob):=by
 unfold isApp at J;split at J
 .simp only[cT]at h ⊢;split at h
  .split at h
   .rename_i e _ w u;split at h
    .rename_i d hd;split at h
     .rename_i C D;obtain⟨rfl,rfl⟩:=h;refine⟨B,?_⟩;simp[w,u,hd,wQ  B C,wQ  B D]
     .rename_i O Q I C D;split at h
      .obtain⟨H0,hg,L⟩:=ζf.1 h;obtain⟨rfl,rfl⟩:=L;obtain⟨G,z⟩:=Hz (by simp) B
       obtain⟨g1,g2,g3⟩:=P9  (ob:=ob) hg;have A:=g2 z;simp[w,u,hd,wQ  A C,wQ  A D]
       grind
      simp_all
     simp_all
    simp_all
   .rename_i e _ w u;split at h
    .rename_i d hd;unfold mkApp at h;split at h
     .split at h
      .obtain⟨rfl,rfl⟩:=h;simp only[w,u,hd,mkApp]
       grind
      .split at h
       .obtain⟨rfl,rfl⟩:=h;obtain⟨G,z⟩:=Hz (by simp) B
        simp only[u,mkApp]
        grind
       simp_all
     simp_all
    simp_all
   simp_all
  simp_all
 simp_all
theorem tZ {i:Nat} {F:Frame} {H H':bg} {op:Op} {v:V} (h:dg E call ops (some (base,i)) F H op=some (v,H')) (U:dD ops i=false) (B:c6 op≠.loud) :
 (H'=H/\∀H2:bg,mN (H2.take base) (H.take base)->dg E call ops (some (base,i)) F H2 op=some (v,H2)) \/
 (∃ob,H[base+i]? = some .free/\H'=H.set (base+i) ob/\∀H2:bg,H2[base+i]? = some .free->dg E call ops (some (base,i)) F H2 op=some (v,H2.set (base+i) ob)) \/
 (∃T,iP (H.take base) T=true/\H'=cE H T/\∀H2:bg,mN (H2.take base) (H.take base)->dg E call ops (some (base,i)) F H2 op=some (v,cE H2 T)):=by
 unfold dg at h;split at h
 .rename_i I;simp  at h;obtain⟨x,C,rfl,rfl⟩:=h;refine .inl ⟨rfl,λH2 _=>?_⟩
  rw[u5]at C;unfold dg;rw[I];simp only[u5,C,Option.map_some]
 .rename_i B;simp only at h;split at h
  .rename_i J;split at h
   .rename_i x C;obtain⟨rfl,rfl⟩:=h;refine .inl ⟨rfl,λH2 u=>?_⟩
    unfold dg;rw[B];simp[y8 u,C,J]
   grind
  grind
 .split at h
  .obtain⟨x,C,e⟩:=ζf.1 h;obtain⟨rfl,rfl⟩:=e;refine .inl ⟨rfl,λH2 _=>?_⟩
   unfold dg;grind
  split at h
  .grind
  .rename_i ob m S W Q L;obtain⟨rfl,rfl⟩:=L;split at h
   .rename_i w;obtain⟨rfl,rfl⟩:=h;refine .inr (.inl ⟨ob,w,rfl,λH2 u=>?_⟩)
    unfold dg;grind
   grind
  grind
 .grind
 .rename_i B;split at h
  .rename_i f args D;split at h
   .grind
   .rename_i z;simp only at h;split at h
    .rename_i y O;split at h
     .rename_i A;obtain⟨rfl,rfl⟩:=h;refine .inl ⟨rfl,λH2 u=>?_⟩
      unfold dg;rw[B];simp[D];rw[if_neg z];simp[Av u,O,A]
     .split at h
      .rename_i G;obtain⟨rfl,rfl⟩:=h;refine .inr (.inr ⟨_,G,rfl,λH2 u=>?_⟩)
       unfold dg;simp[D];simp[Av u,O,Lm u,uO u,G]
       grind
      grind
    grind
  .grind
  grind
theorem Ej {i:Nat}:∀{r l:List Nat},B0 ops i r=some l->∀k∈r,∃a,FF ops i k=some a/\∀s∈a,s∈l
 | [],l,h,k,hk=>by simp_all
 | q::r,l,h,k,hk=>by
  simp[B0]at h;split at h
  .rename_i a b h1 B;simp  at h;rcases List.mem_cons.1 hk with rfl|hk
   .grind
   .obtain⟨a',g1,g2⟩:=Ej B k hk
    grind
  grind
theorem HQ {i:Nat}:∀{r l:List Nat},B0 ops i r=some l->∀s∈l,s∉dstsOf ops
 | [],l,h,s,hs=>by simp[B0]at h;grind
 | q::r,l,h,s,hs=>by
  simp[B0]at h;split at h
  .rename_i a b h1 B;simp  at h;subst h;rcases List.mem_append.1 hs with hs|hs
   .unfold FF at h1
    grind
   .exact HQ B s hs
  grind
theorem EP {i a:Nat} {l:List Nat} {B:Oper} (hi:ops[i]? = some B) (h:zK ops i=some (a,l)):(∃t x,B.op=.store t (.tmp a) x)/\a∉dstsOf ops/\(∀s∈l,s∉dstsOf ops) /\
 ∀k ok,ops[k]? = some ok->k≠i->c6 ok.op=.pure\/(if k<i then before ops i k else before ops k i)=true\/∃D a',ok.op=.load D (.tmp a')/\(a'∈l\/a'∈dstsOf ops):=by
 unfold zK at h;rw[hi]at h;simp  at h;split at h
 .rename_i t a0 x w;simp  at w;split at h
  .simp_all
  .obtain⟨C,z,e⟩:=ζf.1 h;obtain⟨rfl,rfl⟩:=e;refine⟨⟨t,x,w⟩,by grind,HQ z,λk ok hk A=>?_⟩
   obtain⟨b,h1,G⟩:=Ej z k (List.mem_range.2 (ζe.1 hk).1);unfold FF at h1;rw[hk]at h1;simp only at h1;split at h1
   .rename_i u;simp  at u;rcases u with (u|u)|u
    .grind
    .grind
    .exact .inr (.inl u)
   .split at h1
    .grind
    grind
 grind
theorem Ht {F F':Frame} {dst:Option Nat} {v:V} {s:Nat} (hp:jK n F dst v=some F') (h:∀d,dst=some d->s≠d):get F' s=get F s:=by
 unfold jK at hp;split at hp
 .grind
 .rename_i d;split at hp
  .simp  at hp;subst hp;exact ji _ _ (Ne.symm (h d rfl))
  grind
theorem GJ {k d:Nat} {ok:Oper} (hk:ops[k]? = some ok) (hd:ok.dst=some d):d∈dstsOf ops:=
 List.mem_filterMap.2 ⟨ok,List.mem_of_getElem? hk,hd⟩
theorem Et {F F':Frame} {k i:Nat} {ok B:Oper} {v:V} (hk:ops[k]? = some ok) (hi:ops[i]? = some B) (hp:jK n F ok.dst v=some F'):rB ops i F'=rB ops i F:=by
 unfold rB
 cases u:zK ops i with
 | none=>rfl
 | some w=>
  obtain⟨a,l⟩:=w;obtain⟨_,A,C,_⟩:=EP hi u;have hg:∀s,s∉dstsOf ops->get F' s=get F s:=λs z=>Ht hp λd hd e=>z (e▸GJ hk hd)
  grind
theorem Mh {i k a a':Nat} {t:TypeId} {x:Operand} {B:Oper} (hi:ops[i]? = some B) (e1:B.op=.store t (.tmp a) x) (h1:a'∈dstsOf ops) (D:a∉dstsOf ops) (G:vR ops i k=false):a∈pz ops k a':=by
 unfold pz
 grind
theorem yb {k a' s:Nat} (h:s∈pz ops k a'):s∉dstsOf ops/\∃i B t x,ops[i]? = some B/\B.op=.store t (.tmp s) x/\vR ops i k=false:=by
 unfold pz at h
 grind
theorem E4 {F F':Frame} {k i:Nat} {ok:Oper} {op:Op} {v:V} (hk:ops[k]? = some ok) (hp:jK n F ok.dst v=some F') (B:nP F' F op):nH ops i F' op=nH ops i F op:=by
 have hg:∀s,s∉dstsOf ops->get F' s=get F s:=λs h=>Ht hp λd hd e=>h (e▸GJ hk hd)
 unfold nH;split
 .rename_i t u;have w  := by
   have:=B (.tmp u) (by simp[Op.operands])
   simpa [ev]using this
  rw[w,Bool.eq_iff_iff];simp;exact⟨λh s B=>by rw[<-hg s (yb B).1];grind,λh s B=>by rw[hg s (yb B).1];grind⟩
 .rfl
theorem Dp {k a':Nat} {ok:Oper} {t:TypeId} (hk:ops[k]? = some ok) (e:ok.op=.load t (.tmp a')) (h:dD ops k=true):pz ops k a'=[]:=by
 refine List.eq_nil_iff_forall_not_mem.2 λs w=>?_
 obtain⟨_,i,B,C,x,h1,z,A⟩:=yb w;have u:i≠k:=λe2=>by grind
 rcases xe h hk h1 u with g|g|g
 .rw[z]at g;cases g
 .unfold vR at A
  grind
 .rw[e]at g;exact absurd g.1 (by simp[isApp])
theorem Jd {F:Frame} {H H':bg} {t:TypeId} {a:Nat} {x:Operand} {id el off:Nat} {u:V} (B:get F a=.hptr id el off) (h:cT E F H (.store t (.tmp a) x)=some (u,H')):∃r,H'=H.set id r:=by
 simp only[cT,ev]at h;split at h
 .grind
 grind
theorem KE {F:Frame} {H:bg} {t:TypeId} {a id b:Nat} {r:Ob} (B:qL id (get F a)=true):dM E F ((H.set id r).take b) (.load t (.tmp a))=dM E F (H.take b) (.load t (.tmp a)):=by
 have:∀m,dS ((H.set id r).take b) (get F a) m=dS (H.take b) (get F a) m:=λm=>by
  unfold qL at B;split at B
  .rename_i u el off hg;rw[hg];simp[dS]
   grind
  .rename_i cs hg;rw[hg];rfl
  grind
 unfold dM;simp[ev]
 grind
theorem HZ {k i:Nat} {ok G:Oper} (hk:ops[k]? = some ok) (hi:ops[i]? = some G) (W:k≠i) (J:(if k<i then before ops i k else before ops k i)=false) (lk:dD ops k=false) (pk:c6 ok.op≠.pure) (hl:c6 G.op=.loud) (li:dD ops i=false) (Y:isApp G.op=false)
 {F:Frame} {H0 H1 H2 Hs U:bg} {u v:V} (D:dg E call ops (some (base,i)) F Hs G.op=some (u,U)) (B:dg E call ops (some (base,k)) F H0 ok.op=some (v,H1)) :
 H1=H0/\∃id,(∀(H:bg) (r:Ob),dM E F ((H.set id r).take base) ok.op=dM E F (H.take base) ok.op)/\(∃r,U=Hs.set id r)/\c6 ok.op=.read/\dM E F (H0.take base) ok.op=some v/\nH ops k F ok.op=true:=by
 unfold dg at D;rw[hl]at D;simp only[li,Bool.false_or,show ∀F b H,ym ops i b F H G.op=false from λF b H=>by unfold ym;rw[Y];simp,Bool.or_false]at D
 split at D
 .rename_i A;unfold rB at A;split at A
  .rename_i a l I;split at A
   .rename_i id el off hg;obtain⟨⟨t,x,C⟩,S,Z,T⟩:=EP hi I;rcases T k ok hk W with h|h|⟨t',Q,w,hmem⟩
    .exact absurd h pk
    .rw[J]at h;cases h
    .unfold dg at B;rw[w]at B;simp only[c6]at B;split at B
     rotate_left
     .simp at B
     rename_i z;have L:qL id (get F Q)=true:=by
      rcases hmem with hmem|hmem
      .exact List.all_eq_true.1 A Q hmem
      .have O:vR ops i k=false:=by
        unfold vR
        by_cases e:k<i
        .rw[if_pos e]at J ⊢;exact J
        .rw[if_neg e]at J ⊢;exact J
       have X:=Mh hi C hmem S O;unfold nH at z;simp only[List.all_eq_true]at z;have:=z a X;rw[hg]at this;exact this
     rw[C]at D;obtain⟨r,hr⟩:=Jd hg D;split at B
     .rename_i v' hv;simp only[ζa,ζc]at B;obtain⟨rfl,rfl⟩:=B;refine⟨rfl,id,λH r=>by rw[w];exact KE L,⟨r,hr⟩,by rw[w];rfl,by rw[w];exact hv,by rw[w];exact z⟩
     .rw[lk]at B;simp at B
   .simp at A
  .simp at A
 .simp at D
theorem Ch {place:Nat×Nat} {F:Frame} {H H':bg} {op:Op} {v:V} (B:c6 op=.pure\/c6 op=.alloc/\qS ops (some place)=true) (h:dg E call ops (some place) F H op=some (v,H')) :
 H'=H/\∀H2:bg,dg E call ops (some place) F H2 op=some (v,H2):=by
 rcases B with B|⟨B,u⟩
 rotate_left
 .unfold dg at h;rw[B]at h;simp only[u]at h;obtain⟨x,w,e⟩:=ζf.1 h;obtain⟨rfl,rfl⟩:=e;refine⟨rfl,λH2=>?_⟩
  unfold dg;grind
 unfold dg at h;rw[B]at h;simp  at h;obtain⟨x,w,rfl,rfl⟩:=h;refine⟨rfl,λH2=>?_⟩
 rw[u5]at w;unfold dg;rw[B];simp only[u5,w,Option.map_some]
theorem take_set_of_le {H:bg} {b k:Nat} {x:Ob} (h:b<=k):(H.set k x).take b=H.take b:=List.take_set_of_le h
theorem apart_spec {a b:Oper} (h:xL ops a b=true):(∀d,a.dst=some d->d∉tmpsOf b ops/\b.dst≠some d)/\(∀d,b.dst=some d->d∉tmpsOf a ops):=by
 unfold xL at h
 grind
theorem Cu {i k:Nat} {ok:Oper} (h:wO ops i=true) (hk:ops[k]? = some ok) (B:k≠i) (D:vR ops i k=false):c6 ok.op=.pure\/c6 ok.op=.read\/c6 ok.op=.alloc/\(xB ops k=true\/i<k):=by
 unfold wO at h;split at h
 .simp only[ζh,List.all_eq_true,List.mem_range]at h;have:=h.2 k (ζe.1 hk).1;rw[hk]at this;simp only[Bool.or_eq_true,beq_iff_eq,ζh,decide_eq_true_eq,D,Bool.false_eq_true,or_false]at this;rcases this with ((h|h)|h)|h
  .exact absurd h B
  .exact .inl h
  .exact .inr (.inl h)
  .exact .inr (.inr h)
 .cases h
theorem zA {op:Op} (h:isApp op=true):c6 op=.loud:=by
 unfold isApp at h;split at h
 .rfl
 .cases h
theorem HE {F:Frame} {H H1:bg} {op:Op} {v:V} {b:Nat} (D:isApp op=true) (B:pU F op=true) (G:b<=H.length) (h:cT E F H op=some (v,H1)):H1.take b=H.take b:=by
 unfold isApp at D;split at D
 rotate_left
 .cases D
 rename_i args z;simp only[cT]at h;split at h
 rotate_left
 .cases h
 rename_i t J s x A u;have C:s=.dA\/s=.bW:=by
  simp only[pU]at B;split at B
  .rename_i y r I;rw[I]at u;have h1:ev F y=some s:=by
    simp only[eZ]at u;split at u
    .rename_i a b h1 w;simp only[ζa,List.cons.injEq]at u;rw[h1,u.1]
    .cases u
   rw[h1]at B;cases s <;> simp at B <;> simp
  .cases B
 have hg:∀H2,hU H s=some H2->H2=H:=λH2 h=>by rcases C with rfl|rfl <;> (simp only[hU,ζa]at h;exact h.symm)
 split at h
 .split at h
  .split at h
   .simp only[ζa,ζc]at h;rw[h.2]
   .split at h
    .obtain⟨H0,h1,w⟩:=ζf.1 h;simp only[ζc]at w;rw[<-w.2,hg H0 h1,List.take_append_of_le_length G]
    .cases h
   .cases h
  .cases h
 .split at h
  .unfold mkApp at h;split at h
   .split at h
    .simp only[ζa,ζc]at h;rw[h.2]
    .split at h
     .simp only[ζa,ζc]at h;rw[<-h.2,List.take_append_of_le_length G]
     .cases h
   .cases h
  .cases h
 .cases h
theorem DU {i:Nat} {F:Frame} {H H':bg} {op:Op} {u:V} (B:isApp op=true) (D:dD ops i=false) (hi:(ops[i]?).map Oper.op=some op) (h:dg E call ops (some (base,i)) F H op=some (u,H')) :
 wO ops i=true/\pU F op=true/\base<=H.length/\cT E F H op=some (u,H'):=by
 unfold dg at h;rw[zA B]at h;have w:rB ops i F=false:=by
  unfold rB zK;rw[hi];unfold isApp at B;split at B
  .rfl
  .cases B
 simp only[D,w,Bool.false_or]at h;split at h
 .rename_i hc;unfold ym at hc;simp only[ζh,decide_eq_true_eq]at hc;exact⟨hc.1,hc.2.1.2,hc.2.2,h⟩
 .cases h
theorem MS {i:Nat} {F:Frame} {H H':bg} {op:Op} {u:V} (B:isApp op=true) (h:cT E F H op=some (u,H')) (hc:dD ops i=true\/wO ops i=true/\pU F op=true/\base<=H.length):dg E call ops (some (base,i)) F H op=some (u,H'):=by
 unfold dg;rw[zA B];rcases hc with hc|⟨h1,w,z⟩
 .simp only[hc,Bool.true_or,if_true,h]
 .have:ym ops i base F H op=true:=by unfold ym;simp[h1,B,w,z]
  simp only[this,Bool.or_true,if_true,h]
theorem CI {i:Nat} {F:Frame} {H H':bg} {op:Op} {v:V} (B:c6 op=.read) (D:dD ops i=false) (h:dg E call ops (some (base,i)) F H op=some (v,H')) :
 H'=H/\∀H2:bg,mN (H2.take base) (H.take base)->dg E call ops (some (base,i)) F H2 op=some (v,H2):=by
 unfold dg at h;rw[B]at h;simp only at h;split at h
 .rename_i u;split at h
  .rename_i x w;simp only[ζa,ζc]at h;obtain⟨rfl,rfl⟩:=h;refine⟨rfl,λH2 z=>?_⟩
   unfold dg;rw[B];simp only[y8 z,w,u,if_true]
  .rw[D]at h;simp at h
 .simp at h
theorem swap {k i:Nat} {ok D:Oper} (hk:ops[k]? = some ok) (hi:ops[i]? = some D) (aa:k<i) (U:before ops i k=false) (J:xL ops ok D=true) {F F1 F2:Frame} {H H1 H2:bg}
 (h1:gw E call n ops (some (base,k)) ok F H=some (F1,H1)) (h2:gw E call n ops (some (base,i)) D F1 H1=some (F2,H2)) :
 ∃G B,gw E call n ops (some (base,i)) D F H=some (G,B)/\gw E call n ops (some (base,k)) ok G B=some (F2,H2):=by
 obtain⟨a1,a2⟩:=apart_spec J;have ab:∃v,jK n F ok.dst v=some F1/\((fR ops F ok=true/\dg E call ops (some (base,k)) F H ok.op=some (v,H1))\/(fR ops F ok=false/\v=.undef/\H1=H)):=by
  unfold gw at h1;split at h1
  .rename_i hw;split at h1
   .rename_i v H' hd;simp only[ζf,ζc]at h1;obtain⟨Fx,hp,rfl,rfl⟩:=h1;exact⟨v,hp,.inl ⟨hw,hd⟩⟩
   .simp at h1
  .rename_i hw;simp only[ζf,ζc]at h1;obtain⟨Fx,hp,rfl,rfl⟩:=h1;exact⟨_,hp,.inr ⟨by simpa using hw,rfl,rfl⟩⟩
 have ad:∃v,jK n F1 D.dst v=some F2/\((fR ops F1 D=true/\dg E call ops (some (base,i)) F1 H1 D.op=some (v,H2))\/(fR ops F1 D=false/\v=.undef/\H2=H1)):=by
  unfold gw at h2;split at h2
  .rename_i hw;split at h2
   .rename_i v H' hd;simp only[ζf,ζc]at h2;obtain⟨Fx,hp,rfl,rfl⟩:=h2;exact⟨v,hp,.inl ⟨hw,hd⟩⟩
   .simp at h2
  .rename_i hw;simp only[ζf,ζc]at h2;obtain⟨Fx,hp,rfl,rfl⟩:=h2;exact⟨_,hp,.inr ⟨by simpa using hw,rfl,rfl⟩⟩
 obtain⟨v,O,zc⟩:=ab;obtain⟨u,au,ae⟩:=ad;have av:fR ops F1 D=fR ops F D:=Br O λd hd=>(a1 d hd).1
 have am:nP F1 F D.op:=Ep O λd hd=>(a1 d hd).1
 have aw:∀(b j:Nat),(some (base,i):Option (Nat×Nat))=some (b,j)->rB ops j F1=rB ops j F/\nH ops j F1 D.op=nH ops j F D.op:=λb j e=>by cases e;exact⟨Et hk hi O,E4 hk O am⟩
 rw[av,Df am aw]at ae;obtain⟨G,L,an⟩:=Nj O au λx hx=>(a1 x hx).2
 have ax:fR ops G ok=fR ops F ok:=Br L λd hd=>a2 d hd
 have ao:nP G F ok.op:=Ep L λd hd=>a2 d hd
 have ay:∀(b j:Nat),(some (base,k):Option (Nat×Nat))=some (b,j)->rB ops j G=rB ops j F/\nH ops j G ok.op=nH ops j F ok.op:=λb j e=>by cases e;exact⟨Et hi hk L,E4 hi L ao⟩
 have fin:∀B,((fR ops F D=true/\dg E call ops (some (base,i)) F H D.op=some (u,B))\/(fR ops F D=false/\u=.undef/\B=H)) ->
  ((fR ops F ok=true/\dg E call ops (some (base,k)) F B ok.op=some (v,H2))\/(fR ops F ok=false/\v=.undef/\H2=B)) ->
  ∃G B,gw E call n ops (some (base,i)) D F H=some (G,B)/\gw E call n ops (some (base,k)) ok G B=some (F2,H2):=by
  intro B e1 e2;refine⟨G,B,?_,?_⟩
  .unfold gw;rcases e1 with⟨x1,x2⟩|⟨x1,x2,x3⟩
   .rw[if_pos x1,x2];simp[L]
   .rw[if_neg (by simp[x1])];subst x2;subst x3;simp[L]
  .unfold gw;rw[ax];rcases e2 with⟨x1,x2⟩|⟨x1,x2,x3⟩
   .rw[if_pos x1,Df ao ay,x2];simp[an]
   .rw[if_neg (by simp[x1])];subst x2;subst x3;simp[an]
 rcases zc with⟨z,d1⟩|⟨z,rfl,rfl⟩
 .rcases ae with⟨w,d2⟩|⟨w,rfl,rfl⟩
  .by_cases pk:c6 ok.op=.pure\/c6 ok.op=.alloc/\qS ops (some (base,k))=true
   .obtain⟨rfl,q⟩:=Ch pk d1;exact fin H2 (.inl ⟨w,d2⟩) (.inl ⟨z,q H2⟩)
   .by_cases pi:c6 D.op=.pure\/c6 D.op=.alloc/\qS ops (some (base,i))=true
    .obtain⟨rfl,q⟩:=Ch pi d2;exact fin H (.inl ⟨w,q H⟩) (.inl ⟨z,d1⟩)
    .by_cases J:isApp ok.op=true/\c6 D.op=.alloc
     .
      obtain⟨J,af⟩:=J;have aA:=zA J;have ah:(dD ops k=true\/wO ops k=true/\pU F ok.op=true/\base<=H.length)/\cT E F H ok.op=some (v,H1):=by
       cases hl:dD ops k with
       | true=>
        refine⟨.inl rfl,?_⟩;unfold dg at d1;rw[aA]at d1;simpa only[hl,Bool.true_or,if_true]using d1
       | false=>
        obtain⟨a,b,c,d⟩:=DU J hl (by rw[hk];rfl) d1
        exact⟨.inr ⟨a,b,c⟩,d⟩
      obtain⟨ah,e1⟩:=ah;have ap:qS ops (some (base,i))=false:=by
       cases hc:qS ops (some (base,i))with
       | false=>rfl
       | true=>exact absurd (.inr ⟨af,hc⟩) pi
      have e2:∃ob m,eO E F D.op=some (ob,m)/\H1[base+i]? = some .free/\u=m.val (base+i)/\H2=H1.set (base+i) ob:=by
       unfold dg at d2;rw[af]at d2;simp only[ap,Bool.false_eq_true,if_false]at d2;split at d2
       .rename_i ai;cases ai
       .rename_i ob m b' i' aj ai;cases ai;split at d2
        .rename_i A;simp only[ζa,ζc]at d2;exact⟨ob,m,aj,A,d2.1.symm,d2.2.symm⟩
        .cases d2
       .cases d2
      obtain⟨ob,m,aj,A,rfl,rfl⟩:=e2;obtain⟨f0,f1⟩:=SA (ob:=ob) J e1 A;refine fin (H.set (base+i) ob) (.inl ⟨w,?_⟩) (.inl ⟨z,?_⟩)
      .unfold dg;rw[af];simp only[ap,Bool.false_eq_true,if_false,aj,f0]
      .exact MS J f1 (ah.imp id λ⟨a,b,c⟩=>⟨a,b,by rw[List.length_set];exact c⟩)
     have lk:dD ops k=false:=by
      cases hl:dD ops k with
      | false=>rfl
      | true=>
       rcases xe hl hk hi (by omega)with h|h|h
       .exact absurd (.inl h) pi
       .rw[if_neg (by omega)]at h;rw[U]at h;cases h
       .exact absurd ⟨h.1,h.2.1⟩ J
     have li:dD ops i=false:=by
      cases hl:dD ops i with
      | false=>rfl
      | true=>
       rcases xe hl hi hk (by omega)with h|h|h
       .exact absurd (.inl h) pk
       .rw[if_pos aa]at h;rw[U]at h;cases h
       .exact absurd h.2.2 (by omega)
     by_cases ak:isApp D.op=true
     .obtain⟨g1,g2,g3,g4⟩:=DU ak li (by rw[hi];rfl) d2
      rcases Cu g1 hk (by omega) (by unfold vR;rw[if_pos aa];exact U)with h|h|⟨h,h2⟩
      .exact absurd (.inl h) pk
      .obtain⟨rfl,q⟩:=CI h lk d1;exact fin H2 (.inl ⟨w,d2⟩) (.inl ⟨z,q H2 (mN.of_eq (HE ak g2 g3 g4))⟩)
      .rcases h2 with h2|h2
       .exact absurd (.inr ⟨h,h2⟩) pk
       .omega
     by_cases W:isApp ok.op=true
     .obtain⟨g1,g2,g3,g4⟩:=DU W lk (by rw[hk];rfl) d1
      rcases Cu g1 hi (by omega) (by unfold vR;rw[if_neg (by omega)];exact U)with h|h|⟨h,h2⟩
      .exact absurd (.inl h) pi
      .obtain⟨rfl,q⟩:=CI h li d2;exact fin H (.inl ⟨w,q H (mN.of_eq (HE W g2 g3 g4).symm)⟩) (.inl ⟨z,d1⟩)
      .exact absurd ⟨W,h⟩ J
     by_cases C:c6 D.op=.loud
     .obtain⟨rfl,id,q1,⟨r,hr⟩,q3,q4,q5⟩:=HZ (H2:=H2) hk hi (by omega) (by rw[if_pos aa];exact U) lk (λh=>pk (.inl h)) C li (by simpa using ak) d2 d1
      refine fin H2 (.inl ⟨w,d2⟩) (.inl ⟨z,?_⟩);unfold dg;rw[q3];subst hr;simp only[q1,q4,q5,if_true]
     by_cases Z:c6 ok.op=.loud
     .obtain⟨rfl,id,q1,⟨r,hr⟩,q3,q4,q5⟩:=HZ (H2:=H2) hi hk (by omega) (by rw[if_neg (by omega)];exact U) li (λh=>pi (.inl h)) Z lk (by simpa using W) d1 d2
      refine fin H (.inl ⟨w,?_⟩) (.inl ⟨z,d1⟩);unfold dg;rw[q3];subst hr;rw[q1]at q4;simp only[q4,q5,if_true]
     have tk:∀(X:bg) (k:Nat) (o:Ob),mN ((X.set (base+k) o).take base) (X.take base):=λX k o=>mN.of_eq (take_set_of_le (by omega))
     rcases tZ d1 lk Z with⟨rfl,qk⟩|⟨ob,fk,rfl,qk⟩|⟨T,tr,rfl,qk⟩
     .rcases tZ d2 li C with⟨rfl,I⟩|⟨Y,fi,rfl,I⟩|⟨T2,Q,rfl,I⟩
      .exact fin H2 (.inl ⟨w,d2⟩) (.inl ⟨z,d1⟩)
      .exact fin _ (.inl ⟨w,d2⟩) (.inl ⟨z,qk _ (tk _ _ _)⟩)
      .exact fin _ (.inl ⟨w,d2⟩) (.inl ⟨z,qk _ ((qK Q).take base)⟩)
     .rcases tZ d2 li C with⟨rfl,I⟩|⟨Y,fi,rfl,I⟩|⟨T2,Q,rfl,I⟩
      .refine fin H (.inl ⟨w,I H (tk _ _ _).symm⟩) (.inl ⟨z,d1⟩)
      .have al:H[base+i]? = some .free:=by rw[List.getElem?_set_ne (by omega)]at fi;exact fi
       refine fin (H.set (base+i) Y) (.inl ⟨w,I H al⟩) (.inl ⟨z,?_⟩);rw[qk _ (by rw[List.getElem?_set_ne (by omega)];exact fk)]
       rw[List.set_comm _ _ (by omega)]
      .have S:iP (H.take base) T2=true:=by rw[<-uO (tk H k ob)];exact Q
       have aq:base+k∉T2:=λhm=>absurd (zq S hm) (by omega)
       refine fin (cE H T2) (.inl ⟨w,I H (tk _ _ _).symm⟩) (.inl ⟨z,?_⟩);rw[qk _ (by rw[iC,fk];simp[aq]),CK aq]
     .rcases tZ d2 li C with⟨rfl,I⟩|⟨Y,fi,rfl,I⟩|⟨T2,Q,rfl,I⟩
      .refine fin H (.inl ⟨w,I H ((qK tr).take base).symm⟩) (.inl ⟨z,d1⟩)
      .have ar:base+i∉T:=λhm=>absurd (zq tr hm) (by omega)
       have al:H[base+i]? = some .free:=by
        rw[iC]at fi;obtain⟨o,ho,hf⟩:=ζf.1 fi;rw[if_neg ar]at hf;rw[ho,hf]
       refine fin (H.set (base+i) Y) (.inl ⟨w,I H al⟩) (.inl ⟨z,?_⟩);rw[qk _ (tk _ _ _),CK ar]
      .have S:iP (H.take base) T2=true:=by rw[<-uO ((qK tr).take base)];exact Q
       refine fin (cE H T2) (.inl ⟨w,I H ((qK tr).take base).symm⟩) (.inl ⟨z,?_⟩);rw[qk _ ((qK S).take base),I9]
  .exact fin H (.inr ⟨w,rfl,rfl⟩) (.inl ⟨z,d1⟩)
 .rcases ae with⟨w,d2⟩|⟨w,rfl,rfl⟩
  .exact fin H2 (.inl ⟨w,d2⟩) (.inr ⟨z,rfl,rfl⟩)
  .exact fin _ (.inr ⟨w,rfl,rfl⟩) (.inr ⟨z,rfl,rfl⟩)
theorem Iw (h:vX ops=true) {k i:Nat} {ok B:Oper} (hk:ops[k]? = some ok) (hi:ops[i]? = some B) (D:k<i):D3 B k=true\/xL ops ok B=true:=by
 unfold vX at h;simp  at h
 grind
theorem OZ (hd:vX ops=true) {i:Nat} {B:Oper} (hi:ops[i]? = some B):∀(l r:List Nat),(∀k∈l,k<i/\D3 B k=false/\before ops i k=false)->∀{F F':Frame} {H H':bg},
 jF E call n ops base (l++i::r) F H=some (F',H')->jF E call n ops base (i::(l++r)) F H=some (F',H'):=by
 intro l
 induction l with
 | nil=>grind
 | cons k l C=>
  intro r A F F' H H' h;obtain⟨u,D,w⟩:=A k (by simp)
  simp[jF]at h;split at h
  .rename_i ok hk;split at h
   .rename_i F1 H1 h1;have:=C r (λx G=>A x (List.mem_cons_of_mem _ G)) h
    simp[jF,hi]at this;split at this
    .rename_i O H2 I;have z:xL ops ok B=true:=by
      rcases Iw hd hk hi u with h|h
      .grind
      omega
     obtain⟨J,L,g1,g2⟩:=swap hk hi u w z h1 I;simp[jF,hi,g1,hk,g2];simp_all
    grind
   grind
  grind
inductive Reach (ops:List Oper):Nat->Nat->Prop
 | one (i k:Nat) (o:Oper) (e:Edge) (hi:ops[i]? = some o) (he:e∈o.after) (hb:kW e=true) (hk:e.on=k):Reach ops i k
 | more (i j k:Nat) (o:Oper) (e:Edge) (hi:ops[i]? = some o) (he:e∈o.after) (hb:kW e=true) (hk:e.on=j) (h:Reach ops j k):Reach ops i k
theorem CQ:∀(B l:List Nat) (k:Nat),k∈B.foldl (λl k=>if l.contains k then l else k::l) l->k∈B\/k∈l
 | [],_,_,h=>.inr h
 | x::B,l,k,h=>by
  rcases CQ B _ k h with h|h
  .grind
  grind
theorem Lq {acc:List (List Nat)} {o:Oper} {k:Nat} (h:k∈Gi acc o):∃e∈o.after,kW e=true/\(k=e.on\/∃S,acc[e.on]? = some S/\k∈S):=by
 have key:∀(es:List Edge) (l:List Nat),k∈es.foldl (λl e=>(e.on::(acc[e.on]?).getD []).foldl (λl k=>if l.contains k then l else k::l) l) l->k∈l\/∃e∈es,k=e.on\/∃S,acc[e.on]? = some S/\k∈S:=by
  intro es
  induction es with
  | nil=>grind
  | cons e es w=>
   intro l h;rcases w _ h with h|⟨z,h1,u⟩
   .rcases CQ _ _ _ h with h|h
    .refine .inr ⟨e,by simp,?_⟩
     rcases List.mem_cons.1 h with h|h
     .grind
     .cases hS:acc[e.on]? with
      | none=>rw[hS]at h;simp at h
      | some S=>grind
    grind
   .exact .inr ⟨z,List.mem_cons_of_mem _ h1,u⟩
 rcases key _ _ h with h|⟨e,h1,u⟩
 .simp at h
 grind
theorem xH (ops:List Oper):∀(l:List Oper) (acc:List (List Nat)) (pre:List Oper),ops=pre++l->acc.length=pre.length->(∀(i:Nat) S,acc[i]? = some S->∀k∈S,Reach ops i k) ->
 ∀(i:Nat) S,(l.foldl (λacc o=>acc++[Gi acc o]) acc)[i]? = some S->∀k∈S,Reach ops i k
 | [],_,_,_,_,h=>h
 | o::l,acc,pre,D,G,h=>by
  refine xH ops l _ (pre++[o]) (by simp_all) (by simp_all) ?_
  intro i S hS k hk
  by_cases hi:i<acc.length
  .grind
  .rw[List.getElem?_append_right (by omega)]at hS
   have B:i=acc.length:=by
    grind
   subst B;simp at hS;subst hS;have u:ops[acc.length]? = some o:=by grind
   obtain⟨e,w,z,hk⟩:=Lq hk;rcases hk with hk|⟨S,hS,hk⟩
   .exact .one _ _ o e u w z hk.symm
   .exact .more _ e.on _ o e u w z rfl (h _ S hS k hk)
theorem Gd {i k:Nat} (h:before ops i k=true):Reach ops i k:=by
 unfold before at h
 cases hS:(Hu ops)[i]? with
 | none=>grind
 | some S=>
  exact xH ops ops [] [] rfl rfl (by simp) i S hS k (by grind)
end
end Go.VE
namespace Go.VE
variable [bS]
section
variable {P:Program} {E:Env} {I I':ct} {μ μ':Mu} {H H':bg} {n B:Nat} {F F':Frame} {a:Act} {w w':World}
theorem Es (e:Edge):Region.binds .any e=kW e:=by
 unfold Region.binds kW
 grind
def todo (ops:Array Oper) (listed:Array Bool):List Nat:=(List.range ops.size).filter λi => !listed.getD i true
theorem xo (ops:Array Oper) (listed:Array Bool):(todo ops listed).Pairwise (·<·):=List.pairwise_lt_range.filter _
theorem O1 {ops:Array Oper} {listed:Array Bool} {i:Nat} (G:listed.size=ops.size) (hi:i<ops.size) {B D:List Nat} (h:todo ops listed=B++i::D) :
 todo ops (listed.setIfInBounds i true)=B++D:=by
 have C:∀j∈List.range ops.size,(!(listed.setIfInBounds i true).getD j true)=((!listed.getD j true)&&(j != i)):=by
  intro j _
  by_cases e:j=i
  .simp_all
  .have:(listed.setIfInBounds i true).getD j true=listed.getD j true:=by simp[Array.getElem?_setIfInBounds_ne (Ne.symm e)]
   grind
 have:todo ops (listed.setIfInBounds i true)=(todo ops listed).filter (· != i):=by
  unfold todo;rw[List.filter_filter]
  grind
 rw[this,h];have u:=xo ops listed;rw[h]at u;rw[List.pairwise_append]at u;obtain⟨_,z,A⟩:=u;rw[List.pairwise_cons]at z;rw[List.filter_append,List.filter_cons];simp;rw[List.filter_eq_self.2 (λx w=>by have:=A x w i (by simp);simp;omega),List.filter_eq_self.2 (λx w=>by grind)]
def Down (ops:Array Oper) (listed:Array Bool):Prop:=∀j o,listed.getD j false=true->ops[j]? = some o->∀e∈o.after,kW e=true->listed.getD e.on false=true
theorem Km {ops:Array Oper} {listed:Array Bool} (hd:Down ops listed) {i k:Nat} (h:Reach ops.toList i k) (hi:∀o,ops[i]? = some o->∀e∈o.after,kW e=true->listed.getD e.on false=true):listed.getD k false=true:=by
 induction h with
 | one i k o e A w z hk=>grind
 | more i j k o e A w z hk _ B=>
  subst hk;exact B λC u=>hd _ _ (hi o (by grind) e w z) u
theorem Ek (hE:ey P E) {call:dn} (hc:kF P call) {ops:Array Oper} (hd:vX ops.toList=true) (hb:zo ops.toList=true) (ro:Option Nat) {Q:Exit->Act->World->Prop} (base:Nat) :
 ∀(D:Nat) (listed:Array Bool) (I:ct) (μ:Mu) (F:Frame) (H:bg) (a:Act) (w:World),listed.size=ops.size->Down ops listed->(todo ops listed).length=D ->
 jF E call n ops.toList base (todo ops listed) F H=some (F',H')->dV I μ n F a.tmps->cQ I μ H w ->
 (∀a' I' μ' w',dV I' μ' n F' a'.tmps->a'.defers=a.defers->cQ I' μ' H' w'->Step I μ H w I' μ' H' w'->Q .normal a' w') ->
 wpAnyIn (fr ro) 0 P .any ops Q D listed a w:=by
 intro D
 induction D with
 | zero=>
  intro listed I μ F H a w L J hl h r s hQ;have O:todo ops listed=[]:=List.eq_nil_of_length_eq_zero hl;rw[O]at h;obtain⟨rfl,rfl⟩:=h;refine⟨?_,hQ a I μ w r rfl s (.refl _ _ _ _)⟩;unfold Region.ready;rw[List.filter_eq_nil_iff];intro i hi;have:i∉todo ops listed:=by grind
  unfold todo at this
  grind
 | succ D ih=>
  intro listed I μ F H a w L J hl h r s hQ;have U:∀i,i∈Region.ready .any ops listed->i<ops.size/\i∈todo ops listed/\∃o,ops[i]? = some o/\∀e∈o.after,kW e=true->listed.getD e.on false=true:=by
   intro i hi;unfold Region.ready at hi;rw[List.mem_filter]at hi;obtain⟨h1,h2⟩:=hi;simp only[ζh]at h2;have C:i<ops.size:=by grind
   refine⟨C,by unfold todo;grind,ops[i],by simp_all,?_⟩
   have h5:(ops[i].after.all λe => !Region.binds .any e||listed.getD e.on false)=true:=by
    grind
   rw[Array.all_eq_true_iff_forall_mem]at h5;intro e T W;have:=h5 e T;rw[Es,W]at this
   grind
  refine⟨?_,?_⟩
  .
   intro O
   cases X:todo ops listed with
   | nil=>rw[X]at hl;simp at hl
   | cons Y rest=>
    have z:Y∈todo ops listed:=by rw[X];simp
    have hs:=xo ops listed;rw[X,List.pairwise_cons]at hs;unfold todo at z;rw[List.mem_filter]at z;have C:Y<ops.size:=by simpa using z.1
    have:Y∈Region.ready .any ops listed:=by
     unfold Region.ready;rw[List.mem_filter];refine⟨z.1,?_⟩;simp only[ζh];refine⟨z.2,?_⟩;have e0:ops[Y]? = some ops[Y]:=by simp[C]
     rw[e0];simp only[Option.map_some,Option.getD_some];rw[Array.all_eq_true_iff_forall_mem];intro e T;rw[Es]
     cases al:kW e with
     | false=>simp
     | true=>
      simp only[Bool.not_true];have am:e.on<Y:=by
       unfold zo at hb;simp only[List.all_eq_true]at hb;have:=hb Y (by simpa using C)
       have e1:ops.toList[Y]? = some ops[Y]:=by simp[C]
       rw[e1]at this;simp only[Array.all_eq_true_iff_forall_mem]at this;have:=this e T;rw[al]at this;simpa using this
      cases an:listed.getD e.on false with
      | true=>rfl
      | false=>
       exfalso;have ah:e.on∈todo ops listed:=by
        unfold todo;rw[List.mem_filter];refine⟨by simp;omega,?_⟩
        have ai:e.on<listed.size:=by omega
        have:listed.getD e.on true=listed.getD e.on false:=by simp[ai]
        rw[this,an];rfl
       rw[X]at ah;rcases List.mem_cons.1 ah with h|h
       .omega
       .have:=hs.1 _ h;omega
    rw[O]at this;simp at this
  .intro i hi;obtain⟨C,z,o,ho,B⟩:=U i hi;obtain⟨l1,l2,u⟩:=List.append_of_mem z;have G:=xo ops listed;rw[u,List.pairwise_append]at G;have Z:∀k∈l1,k<i/\D3 o k=false/\before ops.toList i k=false:=by
    intro k hk;have ao:listed.getD k false=false:=by
     have A:k∈todo ops listed:=by rw[u];simp[hk]
     unfold todo at A;rw[List.mem_filter]at A;have ad:k<listed.size:=by rw[L];simpa using A.1
     have:listed.getD k true=listed.getD k false:=by simp[ad]
     rw[this]at A;simpa using A.2
    refine⟨G.2.2 k hk i (by simp),?_,?_⟩
    rotate_left
    .cases ap:before ops.toList i k with
     | false=>rfl
     | true=>
      have:=Km J (Gd ap) (λo' aa=>by rw[ho]at aa;cases aa;exact B)
      rw[ao]at this;cases this
    cases T:D3 o k with
    | false=>rfl
    | true=>
     exfalso;unfold D3 at T;rw[Array.any_eq_true]at T;obtain⟨ix,aq,ab⟩:=T;have aj:o.after[ix]∈o.after:=Array.getElem_mem aq;generalize o.after[ix]=e at aj ab;simp only[ζh,beq_iff_eq]at ab;have h1:=B e aj ab.2;rw[ab.1]at h1;have A:k∈todo ops listed:=by rw[u];simp[hk]
     unfold todo at A;rw[List.mem_filter]at A;have ad:k<listed.size:=by rw[L];simpa using A.1
     have:listed.getD k true=listed.getD k false:=by simp[ad]
     rw[this,h1]at A;simp at A
   rw[u]at h;have h':=OZ hd (by simpa using ho) l1 l2 Z h
   simp only[jF]at h';have aa:ops.toList[i]? = some o:=by simpa using ho
   rw[aa]at h';simp only at h';split at h'
   .rename_i F1 H1 ae;unfold wpOpIn;rw[ho];simp only;refine CH hE hc ae r s ro (λa' I' μ' w' hr ar hs au=>?_)
    have ht:=O1 L C u;refine ih (listed.setIfInBounds i true) I' μ' F1 H1 a' w' (by simpa using L) ?_ ?_ (by rw[ht];exact h') hr hs ?_
    .have S:∀j,listed.getD j false=true->(listed.setIfInBounds i true).getD j false=true:=by
      intro j hj
      by_cases e:i=j
      .subst e;simp[L,C]
      .simpa [Array.getD_eq_getD_getElem?,Array.getElem?_setIfInBounds_ne e]using hj
     intro j oj hj af e T W
     by_cases e':i=j
     .subst e';rw[ho]at af;cases af;exact S _ (B e T W)
     .refine S _ (J j oj ?_ af e T W);simpa [Array.getD_eq_getD_getElem?,Array.getElem?_setIfInBounds_ne e']using hj
    .rw[ht];rw[u]at hl;simp at hl ⊢;omega
    .intro a2 I2 μ2 w2 av aw ax ak;exact hQ a2 I2 μ2 w2 av (aw.trans ar) ax (Step.trans hs au ak)
   .simp at h'
theorem cQ.FK (s:cQ I μ H w) (k:Nat):cQ I μ (H++List.replicate k .free) w:=by
 have u:∀id ob,(H++List.replicate k Ob.free)[id]? = some ob->H[id]? = some ob\/(ob=.free/\H.length<=id):=by
  grind
 refine⟨λid h=>s.dom id (by grind),s.imm,?_,?_,s.gl⟩
 .intro id ob h;rcases u id ob h with h|⟨rfl,z⟩
  .exact s.obs id ob h
  .exact s.dom id z
 .intro id A ob B p G h1 z C D;rcases u id ob h1 with h1|⟨rfl,_⟩
  .rcases u A B z with z|⟨rfl,_⟩
   .exact s.inj id A ob B p G h1 z C D
   .simp[Ob.live]at D
  .simp[Ob.live]at C
theorem I6 (k:Nat) (b:Nat):ij μ (H++List.replicate k .free) b↔ij μ H b:=by
 constructor
 .rintro⟨id,p,ob,h1,u,w,z⟩
  by_cases A:id<H.length
  .rw[List.getElem?_append_left A]at h1;exact⟨id,p,ob,h1,u,w,z⟩
  .rw[List.getElem?_append_right (by omega),List.getElem?_replicate]at h1
   split at h1
   .simp at h1;subst h1;simp[Ob.live]at u
   grind
 .rintro⟨id,p,ob,h1,u,w,z⟩;exact⟨id,p,ob,by grind,u,w,z⟩
theorem Step.FK (k:Nat):Step I μ H w I μ (H++List.replicate k .free) w:=
 ⟨ct.le_refl _,Mu.le_refl _,by simp,Nat.le_refl _,λ_ _ _=>rfl,λb h=>h.elim .inl λh=>.inr (.inl ((I6 k b).1 h)),rfl,.refl _,λ_ _ h=>h⟩
theorem HC (D:ey P E) (U:P.follows .mixedOrders=true) {call:dn} (hc:kF P call) {id:Nat} {ops:Array Oper} {B:Bool} (ro:Option Nat) {Q:Exit->Act->World->Prop}
 (h:jx E call n ops.toList B F H=some (F',H')) (r:dV I μ n F a.tmps) (s:cQ I μ H w)
 (G:∀a' I' μ' w',dV I' μ' n F' a'.tmps->a'.defers=a.defers->cQ I' μ' H' w'->Step I μ H w I' μ' H' w'->Q .normal a' w') :
 (Code.region id ops B).wpIn (fr ro) 0 P Q a w:=by
 unfold jx at h
 cases B with
 | false=>
  refine wpIn_region ?_;rw[List.range_eq_range',<-Array.length_toList];exact MQ D hc ro ops.toList 0 I μ F H a w (by simp) h r s G
 | true=>
  simp only[if_true]at h;split at h
  .rename_i u;simp  at u;refine wpIn_region_draw λt=>?_
   simp[Region.schedule,U];have s0:cQ I μ H { w with drawn:=w.drawn+1 }:=s.oI rfl;have st0:Step I μ H w I μ H { w with drawn:=w.drawn+1 }:=Step.oI rfl rfl ⟨rfl,rfl,Nat.le_succ _⟩;have z:todo ops (Array.replicate ops.size false)=List.range ops.toList.length:=by
    unfold todo;simp_all
   have A:Down ops (Array.replicate ops.size false):=by
    intro j o O;simp[Array.getElem?_replicate]at O
    grind
   refine wpAnyIn_sound ops.size t _ a _ ?_;split at h
   .refine Ek D hc u.1 u.2 ro H.length ops.size _ I μ F (H++List.replicate ops.toList.length .free) a _ (by simp) A (by grind) (by rw[z];omega) r (s0.FK _) ?_
    intro a' I' μ' w' h1 C J L;exact G a' I' μ' w' h1 C J (Step.trans s0 st0 (Step.trans (s0.FK _) (Step.FK _) L))
   .refine Ek D hc u.1 u.2 ro H.length ops.size _ I μ F H a _ (by simp) A (by grind) (by rw[z];omega) r s0 ?_
    intro a' I' μ' w' h1 C J L;exact G a' I' μ' w' h1 C J (Step.trans s0 st0 L)
  grind
end
end Go.VE
