/-
 The engine: operations of the loaded code on values without a heap; a run of it is a run of the program.
-/
import Derived.RangeFuncLeaves
import Derived.Sort.Defs
import Derived.Lib.BitFns
import Derived.Laws.Sem
import Derived.Laws.World
import Derived.Laws.Append
import Derived.Laws.BytesString
import Derived.OrdersIn
set_option linter.all false
namespace Go.VE
theorem ζa{α:Type _}(a b:α):(some a=some b)=(a=b):=Option.some.injEq a b
theorem ζb{α β:Type _}(a:α)(f:α->Option β):(some a).bind f=f a:=rfl
theorem ζc{α β:Type _}(a:α)(b:β)(c:α)(d:β):((a,b)=(c,d))=(a=c/\b=d):=Prod.mk.injEq a b c d
theorem ζd{α:Type _}{l:List α}{i:Nat}(h:i<l.length):l[i]?=some l[i]:=List.getElem?_eq_getElem h
theorem ζe{α:Type _}{l:List α}{i:Nat}{a:α}:l[i]?=some a↔∃h:i<l.length,l[i]=a:=List.getElem?_eq_some_iff
theorem ζf{α β:Type _}{b:β}{x:Option α}{f:α->β}:x.map f=some b↔∃a,x=some a/\f a=b:=Option.map_eq_some_iff
theorem ζg{α β:Type _}{b:β}{x:Option α}{f:α->Option β}:x.bind f=some b↔∃a,x=some a/\f a=some b:=Option.bind_eq_some_iff
theorem ζh(a b:Bool):((a&&b)=true)=(a=true/\b=true):=Bool.and_eq_true a b
theorem ζi{α:Type _}{a b:List α}:(a++b).length=a.length+b.length:=List.length_append
inductive V where
 | bool (b:Bool)
 | int (k:IntKind) (n:Int)
 | str (s:ByteArray)
 | dg
 | bB
 | fsl (es:Nat) (xs:List (List V))
 | hsl (id es off len:Nat)
 | gx
 | fptr (cs:List V)
 | hptr (id el off:Nat)
 | clo (f:FuncId) (first cap:List V)
 | yld (id:Nat)
 | fB
 | qB
 | fmap (kvs:List (V×V))
 | hmap (id:Nat)
 | agg (cs:List V)
 | tup (vs:List V)
 deriving Inhabited
def V.undef:V:=.tup []
def V.one:V->Bool
 | .agg _|.tup _=>false
 | _=>true
def V.cells:V->List V
 | .agg cs=>cs
 | v=>[v]
mutual
def V.scalar:V->Bool
 | .bool _|.int ..|.str _|.gx|.fB|.qB|.dg|.bB=>true
 | .agg cs=>V.cH cs
 | .tup cs=>V.cH cs
 | _=>false
def V.cH:List V->Bool
 | []=>true
 | v::r=>V.scalar v&&V.cH r
end
mutual
def V.closed:V->Bool
 | .hsl ..|.hptr ..|.yld ..|.hmap ..=>false
 | .clo _ a b=>V.jT a&&V.jT b
 | .agg cs=>V.jT cs
 | .tup cs=>V.jT cs
 | _=>true
def V.jT:List V->Bool
 | []=>true
 | v::r=>V.closed v&&V.jT r
end
inductive TK where
 | bool|int (k:IntKind)|str|ptr (e:TypeId)|slice (e:TypeId)
 | struct (fs:List (Nat×TypeId))|array (n:Nat) (e:TypeId)|map (k e:TypeId)|other
 deriving Inhabited
structure TD where
 size:Nat
 bytes:Nat
 zero:List V
 kind:TK
 deriving Inhabited
def TD.agg (d:TD):Bool:=match d.kind with|.struct _|.array _ _=>true|_=>false
abbrev Frame:=List V
def get:Frame->Nat->V
 | [],_=>.undef
 | x::_,0=>x
 | _::r,i+1=>get r i
def set:Frame->Nat->V->Frame
 | [],0,v=>[v]
 | [],i+1,v=>.undef::set [] i v
 | _::r,0,v=>v::r
 | x::r,i+1,v=>x::set r i v
inductive zJ where
 | ready|busy|done
inductive Out where
 | norm
 | exit (id:Nat)
 | ret
 deriving DecidableEq,Inhabited
structure tO where
 st:zJ
 pend:Option Out
 frame:Frame
 nt:Nat
 params:List Nat
 assign:Code
 body:Code
inductive Ob where
 | free
 | dead
 | row (es:Nat) (xs:List (List V))
 | frz (es:Nat) (xs:List (List V))
 | map (kvs:List (V×V))
 | loop (r:tO)
def Ob.rows:Ob->Option (Nat×List (List V))
 | .row es xs|.frz es xs=>some (es,xs)
 | _=>none
abbrev bf:=List Ob
structure FI where
 ntmps:Nat
 results:List ResultVar
 body:Code
structure Env where
 tt:TypeId->Option TD
 ft:FuncId->Option FI
 keep:FuncId->Bool
 own:FuncId->Bool
 eqN:TypeId->Option Nat
 sort:FuncId->Bool
 known:FuncId->List V->Option V:=λ_ _=>none
def Env.kindOf (E:Env) (t:TypeId):Option TK:=(E.tt t).map TD.kind
def ofValue:Nat->Value->Option V
 | 0,_=>none
 | n+1,v=>
  match v with
  | .bool b=>some (.bool b)
  | .int k n=>some (.int k n)
  | .string s=>some (.str s)
  | .pointer none=>some .gx
  | .slice none 0 0=>some .bB
  | .map none=>some .fB
  | .nilFunc=>some .qB
  | .agg cs=>(cs.toList.mapM (ofValue n)).map .agg
  | _=>none
class bN where
 gl:Nat->Option (List V)
 sc:∀g cs,gl g=some cs->∃(k:IntKind) (l:List Int),cs=l.map (V.int k)
variable [bN]
def ev (F:Frame):Operand->Option V
 | .tmp t=>some (get F t)
 | .const v=>ofValue 4 v
 | .func f=>some (.clo f [] [])
 | .global g=>(bN.gl g).map .fptr
def eY (F:Frame):List Operand->Option (List V)
 | []=>some []
 | x::r=>match ev F x,eY F r with
  | some v,some vs=>some (v::vs)
  | _,_=>none
def mk (agg:Bool) (cs:List V):Option V:=
 if agg then some (.agg cs)else match cs with|[v]=>some v|_=>none
def cut (cs:List V) (off n:Nat):Option (List V):=
 let r:=(cs.drop off).take n
 if r.length=n then some r else none
def gE:List V->Option (List Int)
 | []=>some []
 | .int .i64 a::r=>(gE r).map (a::·)
 | _=>none
def jH (az B:List V):Option Bool:=
 match gE az,gE B with
 | some a,some b=>if a.length=b.length then some (a==b)else none
 | _,_=>none
def mA (op:BinOp) (x y:Int):Option Bool:=
 match op with
 | .eql=>some (x==y)|.neq=>some (x != y)|.lss=>some (decide (x<y))|.leq=>some (decide (x<=y))
 | .gtr=>some (decide (x>y))|.geq=>some (decide (x>=y))|_=>none
def sN (k:TK) (x y:V):Option Bool:=
 match k,x,y with
 | .slice _,.bB,.bB=>some true
 | .slice _,.fsl ..,.bB=>some false
 | .slice _,.hsl ..,.bB=>some false
 | .ptr _,.gx,.gx=>some true
 | .ptr _,.fptr _,.gx=>some false
 | .ptr _,.hptr ..,.gx=>some false
 | .map ..,.fB,.fB=>some true
 | .map ..,.fmap _,.fB=>some false
 | .map ..,.hmap _,.fB=>some false
 | _,_,_=>none
def E4 (E:Env) (op:BinOp) (t:TypeId) (x y:V):Option V:=
 match x,y with
 | .int k a,.int u b=>
  match op with
  | .shl=>if b<0 then none else some (.int k (k.wrap (a*2 ^ (min b.toNat k.bits))))
  | .shr=>if b<0 then none else some (.int k (a.fdiv (2 ^ (min b.toNat k.bits))))
  | _=>if k=u then
   match op with
   | .add=>some (.int k (k.wrap (a+b)))
   | .sub=>some (.int k (k.wrap (a-b)))
   | .mul=>some (.int k (k.wrap (a*b)))
   | .quo=>if b=0 then none else some (.int k (k.wrap (a.tdiv b)))
   | .rem=>if b=0 then none else some (.int k (a.tmod b))
   | .and=>some (.int k (k.wrap (BitVec.ofInt k.bits a &&& BitVec.ofInt k.bits b).toNat))
   | .or=>some (.int k (k.wrap (BitVec.ofInt k.bits a ||| BitVec.ofInt k.bits b).toNat))
   | .xor=>some (.int k (k.wrap (BitVec.ofInt k.bits a ^^^ BitVec.ofInt k.bits b).toNat))
   | .andNot=>some (.int k (k.wrap (BitVec.ofInt k.bits a &&& ~~~ BitVec.ofInt k.bits b).toNat))
   | op=>(mA op a b).map .bool
   else none
 | .str a,.str b=>
  match op with
  | .add=>if((a.size+b.size:Nat):Int)>IntKind.i64.max then none else some (.str (a++b))
  | .eql=>some (.bool (a.toList==b.toList))
  | .neq=>some (.bool !(a.toList==b.toList))
  | .lss=>some (.bool (Op.bytesLess a.toList b.toList))
  | .leq=>some (.bool (Op.bytesLess a.toList b.toList||a.toList==b.toList))
  | .gtr=>some (.bool !(Op.bytesLess a.toList b.toList||a.toList==b.toList))
  | .geq=>some (.bool !(Op.bytesLess a.toList b.toList))
  | _=>none
 | .bool a,.bool b=>
  match E.kindOf t,op with
  | some .bool,.eql=>some (.bool (a==b))
  | some .bool,.neq=>some (.bool !(a==b))
  | _,_=>none
 | .agg a,.agg b=>
  match E.eqN t,op with
  | some n,.eql=>if a.length=n then(jH a b).map .bool else none
  | some n,.neq=>if a.length=n then(jH a b).map (λt=>.bool !t)else none
  | _,_=>none
 | x,y=>
  match E.kindOf t,op with
  | some k,.eql=>(sN k x y).map .bool
  | some k,.neq=>(sN k x y).map λt=>.bool !t
  | _,_=>none
def sq (place:Nat->Option (Nat×Nat)) (cells:List V):List (Nat×V)->Option (List V)
 | []=>some cells
 | (i,v)::rest=>
  match place i with
  | none=>none
  | some (off,size)=>
   if v.cells.length≠size||off+v.cells.length>cells.length then none
   else sq place (cells.take off++v.cells++cells.drop (off+v.cells.length)) rest
def kM (F:Frame):List (Nat×Operand)->Option (List (Nat×V))
 | []=>some []
 | (i,x)::r=>match ev F x,kM F r with
  | some v,some vs=>some ((i,v)::vs)
  | _,_=>none
def lN (E:Env):List (Nat×TypeId)->Option (List (Nat×Nat))
 | []=>some []
 | (off,t)::r=>match E.tt t,lN E r with
  | some d,some ps=>some ((off,d.size)::ps)
  | _,_=>none
def iX (F:Frame):Option Operand->Option (Option Int)
 | none=>some none
 | some x=>match ev F x with
  | some (.int _ n)=>some (some n)
  | _=>none
def dD (len:Nat) (B D:Option Int):Option (Nat×Nat):=
 let h:=D.getD len
 let l:=B.getD 0
 if 0<=h/\h<=len/\0<=l/\l<=h then some (l.toNat,h.toNat)else none
def Aw (a b:Int):Int:=if b>a then b else a
def bE (E:Env) (F:Frame) (op:Op):Option V:=
 match op with
 | .move x|.assign x=>ev F x
 | .pick c a b=>match ev F c with
  | some (.bool t)=>if t then ev F a else ev F b
  | _=>none
 | .nilCheck x=>match ev F x with
  | some (.hptr id el off)=>some (.hptr id el off)
  | some (.fptr u)=>some (.fptr u)
  | some (.clo f a b)=>some (.clo f a b)
  | _=>none
 | .binOp op t x y _=>match ev F x,ev F y with
  | some a,some b=>E4 E op t a b
  | _,_=>none
 | .unOp op _ x=>match op,ev F x with
  | .not,some (.bool b)=>some (.bool !b)
  | .neg,some (.int k n)=>some (.int k (k.wrap (0-n)))
  | _,_=>none
 | .convert s d x=>match E.tt s,E.tt d,ev F x with
  | some _,some C,some (.int _ n)=>match C.kind with
   | .int k=>some (.int k (k.wrap n))
   | _=>none
  | _,_,_=>none
 | .fieldAddr s x f=>match E.kindOf s,ev F x with
  | some (.struct fs),some p=>match fs[f]? with
   | some (off,t)=>match E.tt t with
    | some d=>if d.size=0 then none else match p with
     | .fptr u=>if off<=u.length then some (.fptr (u.drop off))else none
     | .hptr id el o=>some (.hptr id el (o+off))
     | _=>none
    | none=>none
   | none=>none
  | _,_=>none
 | .field s x f=>match E.kindOf s,ev F x with
  | some (.struct fs),some (.agg u)=>match fs[f]? with
   | some (off,t)=>match E.tt t with
    | some d=>(cut u off d.size).bind (mk d.agg)
    | none=>none
   | none=>none
  | _,_=>none
 | .indexAddr t x i=>match E.kindOf t,ev F x,ev F i with
  | some (.slice e),some s,some (.int _ n)=>match E.tt e with
   | some d=>if n<0 then none else match s with
    | .fsl es w=>if es=d.size then(w[n.toNat]?).map .fptr else none
    | .hsl id es off len=>if es=d.size/\n.toNat<len then some (.hptr id (off+n.toNat) 0)else none
    | _=>none
   | none=>none
  | some (.array len e),some p,some (.int _ n)=>match E.tt e with
   | some d=>if 0<=n/\n<len then match p with
    | .fptr u=>if n.toNat*d.size<=u.length then some (.fptr (u.drop (n.toNat*d.size)))else none
    | .hptr id el o=>some (.hptr id el (o+n.toNat*d.size))
    | _=>none
    else none
   | none=>none
  | _,_,_=>none
 | .index t x i=>match E.kindOf t,ev F x,ev F i with
  | some .str,some (.str s),some (.int _ n)=>if 0<=n then(s[n.toNat]?).map (λb=>.int .u8 b.toNat)else none
  | some (.array len e),some (.agg u),some (.int _ n)=>match E.tt e with
   | some d=>if 0<=n/\n<len then(cut u (n.toNat*d.size) d.size).bind (mk d.agg)else none
   | none=>none
  | _,_,_=>none
 | .slice t x D G I=>match E.kindOf t,ev F x,iX F D,iX F G,iX F I with
  | some .str,some (.str s),some l,some h,some none=>(dD s.size l h).map λ(l,h)=>.str (s.extract l h)
  | some (.slice e),some v,some l,some h,some none=>match E.tt e with
   | some d=>match v with
    | .fsl es w=>if es=d.size then(dD w.length l h).map λ(l,h)=>.fsl es ((w.take h).drop l)else none
    | .hsl id es off len=>if es=d.size then(dD len l h).map λ(l,h)=>.hsl id es (off+l) (h-l)else none
    | .dg=>(dD 0 l h).map λ_=>.dg
    | .bB=>(dD 0 l h).map λ_=>.bB
    | _=>none
   | none=>none
  | some (.slice e),some v,some none,some (some 0),some (some 0)=>match E.tt e,v with
   | some _,.fsl ..|some _,.hsl ..|some _,.dg|some _,.bB=>some .dg
   | _,_=>none
  | _,_,_,_,_=>none
 | .build t ps=>match E.tt t,kM F ps.toList with
  | some d,some z=>match d.kind with
   | .struct fs=>match lN E fs with
    | some pl=>(sq (λi=>pl[i]?) d.zero z).map .agg
    | none=>none
   | .array _ e=>match E.tt e with
    | some B=>(sq (λi=>some (i*B.size,B.size)) d.zero z).map .agg
    | none=>none
   | _=>none
  | _,_=>none
 | .makeFunc (.func f) a b=>match eY F a.toList,eY F b.toList with
  | some a,some b=>some (.clo f a b)
  | _,_=>none
 | .extract x i=>match ev F x with
  | some (.tup z)=>z[i]?
  | _=>none
 | .call { callee:=.builtin b,args,argTypes }=>match b,eY F args.toList,argTypes[0]? with
  | .len,some [v],some t=>match E.kindOf t,v with
   | some .str,.str s=>some (.int .i64 s.size)
   | some (.slice _),.fsl _ w=>some (.int .i64 w.length)
   | some (.slice _),.hsl _ _ _ len=>some (.int .i64 len)
   | some (.slice _),.dg=>some (.int .i64 0)
   | some (.slice _),.bB=>some (.int .i64 0)
   | _,_=>none
  | .cap,some [v],some t=>match E.kindOf t,v with
   | some (.slice _),.bB=>some (.int .i64 0)
   | some (.slice _),.dg=>some (.int .i64 0)
   | _,_=>none
  | .max,some [.int k a,.int A b],_=>if k=A then some (.int k (if b>a then b else a))else none
  | .max,some [.int k a,.int k1 b,.int k2 c,.int k3 d],_=>if k=k1/\k=k2/\k=k3 then some (.int k (Aw (Aw (Aw a b) c) d))else none
  | .min,some [.int k a,.int A b],_=>if k=A then some (.int k (if b<a then b else a))else none
  | _,_,_=>none
 | _=>none
def dL (H:bf) (p:V) (n:Nat):Option (List V):=
 match p with
 | .fptr t=>cut t 0 n
 | .hptr id el off=>match (H[id]?).bind Ob.rows with
  | some (_,u)=>match u[el]? with
   | some t=>cut t off n
   | none=>none
  | none=>none
 | _=>none
def uI:V->V->Option Bool
 | .int k a,.int B b=>if k=B then some (a==b)else none
 | .str a,.str b=>some (a==b)
 | .agg a,.agg b=>jH a b
 | _,_=>none
def gA (k:V):List (V×V)->Nat->Option (Option (Nat×V))
 | [],_=>some none
 | (B,v)::r,i=>match uI k B with
  | some true=>some (some (i,v))
  | some false=>gA k r (i+1)
  | none=>none
def u_ (E:Env) (t:TypeId) (k:V):Bool:=
 match E.kindOf t,k with
 | some (.int k),.int w _=>k==w
 | some .str,.str _=>true
 | some _,.agg u=>match E.eqN t with|some n=>u.length==n&&(gE u).isSome|none=>false
 | _,_=>false
def lG (H:bf):V->Option (List (V×V))
 | .fB=>some []
 | .fmap B=>some B
 | .hmap id=>match H[id]? with
  | some (.map B)=>some B
  | _=>none
 | _=>none
def dF (E:Env) (F:Frame) (H:bf) (op:Op):Option V:=
 match op with
 | .load t a=>match E.tt t,ev F a with
  | some d,some p=>(dL H p d.size).bind (mk d.agg)
  | _,_=>none
 | .lookup t m k ok=>match E.kindOf t,ev F m,ev F k with
  | some (.map w A),some m,some k=>match E.tt A,lG H m with
   | some d,some u=>if u_ E w k then match gA k u 0,mk d.agg d.zero with
    | some (some (_,v)),_=>some (if ok then .tup [v,.bool true]else v)
    | some none,some z=>some (if ok then .tup [z,.bool false]else z)
    | _,_=>none
    else none
   | _,_=>none
  | _,_,_=>none
 | _=>none
inductive Mk where
 | ptr|sl (es len:Nat)|map
def Mk.val (id:Nat):Mk->V
 | .ptr=>.hptr id 0 0
 | .sl es len=>.hsl id es 0 len
 | .map=>.hmap id
def fQ (es:Nat) (xs:List (List V)):List (Nat×V)->Option (List (List V))
 | []=>some xs
 | (i,v)::r=>if v.cells.length=es/\i<xs.length/\v.cells.all V.one=true then fQ es (xs.set i v.cells) r else none
def eo (E:Env) (F:Frame) (op:Op):Option (Ob×Mk):=
 match op with
 | .alloc t=>(E.tt t).map λd=>(.row d.size [d.zero],.ptr)
 | .box _ x=>match ev F x with
  | some v=>if v.cells.all V.one then some (.row v.cells.length [v.cells],.ptr)else none
  | none=>none
 | .makeSlice t l c=>match E.kindOf t,ev F l,ev F c with
  | some (.slice e),some (.int k n),some (.int u m)=>match E.tt e with
   | some d=>if k=.i64/\u=.i64/\0<=n/\n<=m/\m<=2147483648/\d.bytes<=4096 then some (.row d.size (List.replicate m.toNat d.zero),.sl d.size n.toNat)else none
   | none=>none
  | _,_,_=>none
 | .buildSlice t len ps=>match E.kindOf t,kM F ps.toList with
  | some (.slice e),some w=>match E.tt e with
   | some d=>if len*d.size<=16777216 then(fQ d.size (List.replicate len d.zero) w).map λz=>(.row d.size z,.sl d.size len)else none
   | none=>none
  | _,_=>none
 | .makeMap _ none=>some (.map [],.map)
 | _=>none
def pV (E:Env) (F:Frame) (op:Op):Option V:=
 match eo E F op with
 | some (.row es t,.sl u n)=>if u=es/\n=t.length/\(t.all λx=>x.all V.scalar)=true then match op with
  | .buildSlice ..=>if t.isEmpty&&es != 0 then some .dg else none
  | _=>some (.fsl es t)
  else none
 | _=>none
def dh (H:bf) (es:Nat):V->Option (List (List V))
 | .dg=>some []
 | .bB=>some []
 | .fsl B xs=>if B=es then some xs else none
 | .hsl id B off len=>if B=es then match (H[id]?).bind Ob.rows with
  | some (_,xs)=>if off+len<=xs.length then some ((xs.drop off).take len)else none
  | none=>none
  else none
 | _=>none
def oI (k v:V) (B:List (V×V)):Option (List (V×V)):=
 match gA k B 0 with
 | some (some (j,_))=>some (B.set j (k,v))
 | some none=>some (B++[(k,v)])
 | none=>none
def gb (H:bf):V->Option bf
 | .dg=>some H
 | .bB=>some H
 | .hsl id _ _ _=>match H[id]? with
  | some (.row _ _)=>some (H.set id .dead)
  | _=>none
 | _=>none
def mkApp (H:bf) (size bytes:Nat) (zero:List V) (s x:V):Option (V×bf):=
 match s,x with
 | .bB,.int _ n=>if n=0 then some (.bB,H)else if 0<n/\n<=2147483648/\bytes<=4096/\0<bytes then some (.hsl H.length size 0 n.toNat,H++[.row size (List.replicate n.toNat zero)])else none
 | _,_=>none
def AT (H:bf) (size:Nat) (zero:List V):V->Option (V×bf)
 | .bB|.dg=>some (.undef,H)
 | .hsl id es off len=>if es=size then match len with
  | 0=>some (.undef,H)
  | len+1=>match H[id]? with
   | some (.row B xs)=>if off+(len+1)<=xs.length then some (.undef,H.set id (.row B (xs.take off++List.replicate (len+1) zero++xs.drop (off+(len+1)))))else none
   | _=>none
  else none
 | _=>none
def cO (E:Env) (F:Frame) (H:bf) (op:Op):Option (V×bf):=
 match op with
 | .store t a x=>match E.tt t,ev F a,ev F x with
  | some d,some (.hptr id el off),some v=>match H[id]? with
   | some (.row es w)=>match w[el]? with
    | some z=>if v.cells.length=d.size/\off+d.size<=z.length/\v.cells.all V.one=true then
     some (.undef,H.set id (.row es (w.set el (z.take off++v.cells++z.drop (off+v.cells.length)))))else none
    | none=>none
   | _=>none
  | _,_,_=>none
 | .mapUpdate t m k x|.insert t m k x=>match E.kindOf t,ev F m,ev F k,ev F x with
  | some (.map B _),some (.hmap id),some k,some v=>match H[id]? with
   | some (.map u)=>if u_ E B k then(oI k v u).map λu=>(.undef,H.set id (.map u))else none
   | _=>none
  | _,_,_,_=>none
 | .call { callee:=.builtin .append,args,argTypes }=>match argTypes.toList,eY F args.toList with
  | [t,C],some [s,x]=>match E.kindOf t,E.kindOf C with
   | some (.slice e),some (.slice _)=>match E.tt e with
    | some d=>match dh H d.size s,dh H d.size x with
     | some _,some []=>some (s,H)
     | some w,some A=>
      if w.length+A.length<=2147483648/\d.bytes<=4096/\0<d.bytes then
       (gb H s).map λH1=>(.hsl H.length d.size 0 (w.length+A.length),H1++[.row d.size (w++A)])
      else none
     | _,_=>none
    | none=>none
   | some (.slice e),some (.int _)=>match E.tt e with
    | some d=>mkApp H d.size d.bytes d.zero s x
    | none=>none
   | _,_=>none
  | _,_=>none
 | .call { callee:=.builtin .clear,args,argTypes }=>match argTypes[0]?,eY F args.toList with
  | some t,some [v]=>match E.kindOf t with
   | some (.slice e)=>match E.tt e with
    | some d=>AT H d.size d.zero v
    | none=>none
   | _=>none
  | _,_=>none
 | _=>none
def ow:List (List V)->Option (List Int)
 | []=>some []
 | [.int .u8 n]::r=>(ow r).map (n::·)
 | _=>none
def Jm (l:List Int):ByteArray:=l.foldl (λr n=>r.push (UInt8.ofNat n.toNat)) ByteArray.empty
def evalConv (E:Env) (F:Frame) (H:bf) (op:Op):Option V:=
 match op with
 | .convert s d x=>match E.kindOf s,E.kindOf d,ev F x with
  | some (.slice e),some .str,some v=>match E.kindOf e with
   | some (.int .u8)=>(dh H 1 v).bind λt=>(ow t).map λl=>.str (Jm l)
   | _=>none
  | _,_,_=>none
 | _=>none
def ri (E:Env) (F:Frame) (H:bf) (place:Option (Nat×Nat)) (op:Op):Option V:=
 match bE E F op with
 | some v=>some v
 | none=>match place with
  | none=>evalConv E F H op
  | some _=>none
inductive Callee where
 | fn (f:FuncId)
 | yld (id:Nat)
def jc (F:Frame) (op:Op):Option (Callee×List V):=
 match op with
 | .call { callee:=.value f,args,.. }=>match ev F f,eY F args.toList with
  | some (.clo g a b),some t=>some (.fn g,a++t++b)
  | some (.yld id),some t=>some (.yld id,t)
  | _,_=>none
 | _=>none
inductive Pk where
 | pure|read|alloc|loud|call
 deriving DecidableEq
def cT:Op->Pk
 | .load ..|.lookup ..=>.read
 | .alloc ..|.box ..|.makeSlice ..|.buildSlice ..|.makeMap ..=>.alloc
 | .store ..|.mapUpdate ..|.insert ..=>.loud
 | .call { callee:=.builtin .append,.. }=>.loud
 | .call { callee:=.builtin .clear,.. }=>.loud
 | .call { callee:=.value _,.. }=>.call
 | _=>.pure
def gH (f:V->Option V):List V->Option (List V)
 | []=>some []
 | x::r=>match f x,gH f r with
  | some y,some s=>some (y::s)
  | _,_=>none
def ki (f:V->Option V):List (List V)->Option (List (List V))
 | []=>some []
 | x::r=>match gH f x,ki f r with
  | some y,some s=>some (y::s)
  | _,_=>none
def j7 (f:V->Option V):List (V×V)->Option (List (V×V))
 | []=>some []
 | (k,x)::r=>match f k,f x,j7 f r with
  | some k,some y,some s=>some ((k,y)::s)
  | _,_,_=>none
def borrow:Nat->bf->V->Option V
 | 0,_,x=>if x.closed then some x else none
 | n+1,H,x=>
  if x.closed then some x else
  match x with
  | .hsl id es off len=>match (H[id]?).bind Ob.rows with
   | some (B,xs)=>if B=es/\off+len<=xs.length then(ki (borrow n H) ((xs.drop off).take len)).map (.fsl es)else none
   | none=>none
  | .hptr id el off=>match (H[id]?).bind Ob.rows with
   | some (_,xs)=>match xs[el]? with
    | some cs=>if off<=cs.length then(gH (borrow n H) (cs.drop off)).map .fptr else none
    | none=>none
   | none=>none
  | .hmap id=>match H[id]? with
   | some (.map D)=>(j7 (borrow n H) D).map .fmap
   | _=>none
  | .clo f a b=>match gH (borrow n H) a,gH (borrow n H) b with
   | some a,some b=>some (.clo f a b)
   | _,_=>none
  | .agg cs=>(gH (borrow n H) cs).map .agg
  | .tup cs=>(gH (borrow n H) cs).map .tup
  | _=>none
def borrows (n:Nat) (H:bf) (l:List V):Option (List V):=gH (borrow n H) l
def cE (f:V->List Nat):List V->List Nat
 | []=>[]
 | x::r=>f x++cE f r
def bW:Nat->bf->V->List Nat
 | 0,_,_=>[]
 | n+1,H,x=>
  if x.closed then []else
  match x with
  | .hsl id _ off len=>id::(match (H[id]?).bind Ob.rows with|some (_,xs)=>cE (bW n H) ((xs.drop off).take len).flatten|none=>[])
  | .hptr id el off=>id::(match (H[id]?).bind Ob.rows with|some (_,xs)=>cE (bW n H) (((xs[el]?).getD []).drop off)|none=>[])
  | .hmap id=>id::(match H[id]? with|some (.map B)=>cE (bW n H) (B.map (·.1))++cE (bW n H) (B.map (·.2))|_=>[])
  | .clo _ a b=>cE (bW n H) a++cE (bW n H) b
  | .agg cs=>cE (bW n H) cs
  | .tup cs=>cE (bW n H) cs
  | _=>[]
def sM (H:bf) (id:Nat):bf:=
 match H[id]? with
 | some (.row es t)=>H.set id (.frz es t)
 | some (.map _)=>H.set id .dead
 | _=>H
def ct (H:bf) (l:List Nat):bf:=l.foldl sM H
structure c7 where
 lv:Nat
 go:Callee->List V->bf->Option (V×bf)
instance:CoeFun c7 λ_=>Callee->List V->bf->Option (V×bf):=⟨c7.go⟩
def g_ (H:bf) (T:List Nat):Bool:=T.all λid=>((H[id]?).bind Ob.rows).isSome
def bU (call:c7) (f:FuncId) (args:List V) (H:bf):Option V:=
 match borrows call.lv H args with
 | some az=>match call (.fn f) az []with
  | some (r,H1)=>match borrow call.lv H1 r with
   | some y=>if y.closed then some y else none
   | none=>none
  | none=>none
 | none=>none
def pq (k:Nat) (H1:bf) (id es off len:Nat):Option (V×Ob):=
 match H1[id]? with
 | some (.row t u)=>if t=es/\(u.all λx=>x.all V.scalar)=true then some (.hsl k es off len,.row es u)else none
 | _=>none
def jx (call:c7) (f:FuncId) (args:List V) (H:bf):Option (V×bf):=
 match borrows call.lv H args with
 | some az=>match call (.fn f) az []with
  | some (r,H1)=>
   if r.scalar then some (r,H)else
   match r with
   | .hsl id es off len=>(pq H.length H1 id es off len).map λ(v,ob)=>(v,H++[ob])
   | .tup (.hsl id es off len::rest)=>if V.cH rest then(pq H.length H1 id es off len).map λ(v,ob)=>(.tup (v::rest),H++[ob])else none
   | _=>none
  | none=>none
 | none=>none
def eH (E:Env) (call:c7) (f:FuncId) (args:List V) (H:bf):Option (V×bf):=
 if E.own f then jx call f args H else call (.fn f) args H
def jY (e:Edge):Bool:=match e.ground with|.textOnly _|.gcOnly _=>false|_=>true
def BY (o:Oper) (i:Nat):Bool:=o.after.any λe=>e.on==i&&jY e
def E6 (acc:List (List Nat)) (o:Oper):List Nat:=
 (o.after.toList.filter jY).foldl (λl e=>(e.on::(acc[e.on]?).getD []).foldl (λl k=>if l.contains k then l else k::l) l) []
def Ek (ops:List Oper):List (List Nat):=ops.foldl (λacc o=>acc++[E6 acc o]) []
def before (ops:List Oper) (i k:Nat):Bool:=(((Ek ops)[i]?).getD []).contains k
def isApp:Op->Bool
 | .call { callee:=.builtin .append,.. }=>true
 | _=>false
def dm (ops:List Oper) (i:Nat):Bool:=
 match ops[i]? with
 | some o=>(List.range ops.length).all λk=>match ops[k]? with
  | some p=>k==i||cT p.op==.pure||(if k<i then before ops i k else before ops k i)||(isApp o.op&&cT p.op==.alloc&&decide (i<k))
  | none=>true
 | none=>false
def dstsOf (ops:List Oper):List Nat:=ops.filterMap (·.dst)
def ua (ops:List Oper) (i k:Nat):Bool:=if k<i then before ops i k else before ops k i
def DY (ops:List Oper) (i k:Nat):Option (List Nat):=
 match ops[k]? with
 | some p=>
  if k==i||cT p.op==.pure||ua ops i k then some []else
  match p.op with
  | .load _ (.tmp a)=>if(dstsOf ops).contains a then some []else some [a]
  | _=>none
 | none=>some []
def AG (ops:List Oper) (i:Nat):List Nat->Option (List Nat)
 | []=>some []
 | k::r=>match DY ops i k,AG ops i r with
  | some a,some b=>some (a++b)
  | _,_=>none
def x_ (ops:List Oper) (i:Nat):Option (Nat×List Nat):=
 match (ops[i]?).map Oper.op with
 | some (.store _ (.tmp a) _)=>if(dstsOf ops).contains a then none else(AG ops i (List.range ops.length)).map λl=>(a,l)
 | _=>none
def pG (id:Nat):V->Bool
 | .hptr B _ _=>B != id
 | .fptr _=>true
 | _=>false
def qe (ops:List Oper) (i:Nat) (F:Frame):Bool:=
 match x_ ops i with
 | some (a,l)=>match get F a with
  | .hptr id _ _=>l.all λs=>pG id (get F s)
  | _=>false
 | none=>false
def nU (ops:List Oper) (k a':Nat):List Nat:=
 if(dstsOf ops).contains a' then(List.range ops.length).filterMap λi=>match (ops[i]?).map Oper.op with
  | some (.store _ (.tmp a) _)=>if ua ops i k||(dstsOf ops).contains a then none else some a
  | _=>none
 else []
def mG (ops:List Oper) (k:Nat) (F:Frame) (op:Op):Bool:=
 match op with
 | .load _ (.tmp t)=>(nU ops k t).all λa=>match get F a with
  | .hptr id _ _=>pG id (get F t)
  | _=>true
 | _=>true
def DZ (d:Nat) (op:Op):Bool:=op.operands.any λx=>match x with|.tmp t=>t==d|_=>false
def Nf (d:Nat):Op->Bool
 | .call { callee:=.builtin .append,args,.. }=>match args.toList with
  | .tmp t::r=>t==d&&r.all λx=>match x with|.tmp t=>t != d|_=>true
  | _=>false
 | _=>false
def vF (ops:List Oper) (i:Nat):Bool:=
 match ops[i]? with
 | some o=>match o.op,o.dst with
  | .makeSlice ..,some d=>(ops.any λp=>DZ d p.op)&&ops.all λp => !DZ d p.op||cT p.op==.call
  | .buildSlice _ len ps,some d=>len==0&&ps.size==0&&((List.range ops.length).any λk=>match ops[k]? with|some p=>DZ d p.op && !dm ops k|none=>false)&&ops.all λp => !DZ d p.op||Nf d p.op
  | _,_=>false
 | none=>false
def pT (ops:List Oper):Option (Nat×Nat)->Bool
 | some (_,i)=>vF ops i
 | none=>false
def jN (E:Env) (ops:List Oper) (place:Option (Nat×Nat)) (f:FuncId):Bool:=E.keep f&&(match place with|none=>true|some (_,i)=>dm ops i || !E.own f)
def u7 (ops:List Oper) (i:Nat):Bool:=
 match ops[i]? with
 | some o=>isApp o.op&&(List.range ops.length).all λk=>match ops[k]? with
  | some p=>k==i||cT p.op==.pure||ua ops i k||cT p.op==.read||(cT p.op==.alloc&&(vF ops k||decide (i<k)))
  | none=>true
 | none=>false
def om (F:Frame):Op->Bool
 | .call { callee:=.builtin .append,args,.. }=>match args.toList with
  | x::_=>match ev F x with|some .dg|some .bB=>true|_=>false
  | _=>false
 | _=>false
def wE (ops:List Oper) (i b:Nat) (F:Frame) (H:bf) (op:Op):Bool:=u7 ops i&&(isApp op&&om F op&&decide (b<=H.length))
def c6 (E:Env) (call:c7) (ops:List Oper) (place:Option (Nat×Nat)) (F:Frame) (H:bf) (op:Op):Option (V×bf):=
 match cT op with
 | .pure=>(ri E F H place op).map λv=>(v,H)
 | .read=>match place with
  | none=>(dF E F H op).map λv=>(v,H)
  | some (b,i)=>if mG ops i F op then match dF E F (H.take b) op with
   | some v=>some (v,H)
   | none=>if dm ops i then(dF E F H op).map λv=>(v,H)else none
   else none
 | .alloc=>if pT ops place then(pV E F op).map λv=>(v,H)else match eo E F op,place with
  | some (ob,m),none=>some (m.val H.length,H++[ob])
  | some (ob,m),some (b,i)=>match H[b+i]? with
   | some .free=>some (m.val (b+i),H.set (b+i) ob)
   | _=>none
  | none,_=>none
 | .loud=>match place with
  | none=>cO E F H op
  | some (b,i)=>if dm ops i||qe ops i F||wE ops i b F H op then cO E F H op else none
 | .call=>match jc F op with
  | some (.fn f,args)=>
   if jN E ops place f then
    match place with
    | none=>eH E call f args H
    | some (_,i)=>if dm ops i then eH E call f args H else none
   else match place with
    | none=>match bU call f args H with
     | some y=>some (y,if y.scalar then H else ct H (cE (bW call.lv H) args))
     | none=>none
    | some (b,i)=>match bU call f args (H.take b)with
     | some y=>if y.scalar then some (y,H)else if g_ (H.take b) (cE (bW call.lv (H.take b)) args)then some (y,ct H (cE (bW call.lv (H.take b)) args))else none
     | none=>if dm ops i then match bU call f args H with
      | some y=>some (y,if y.scalar then H else ct H (cE (bW call.lv H) args))
      | none=>none
      else none
  | some (.yld id,args)=>match place with
   | none=>call (.yld id) args H
   | some (_,i)=>if dm ops i then call (.yld id) args H else none
  | none=>none
def jg (n:Nat) (F:Frame) (dst:Option Nat) (v:V):Option Frame:=
 match dst with
 | none=>some F
 | some d=>if d<n then some (set F d v)else none
def fc (ops:List Oper) (F:Frame) (o:Oper):Bool:=
 match o.guard with
 | none=>true
 | some (j,b)=>match (ops[j]?).bind (·.dst)with
  | some d=>match get F d with
   | .bool c=>c==b
   | _=>false
  | none=>false
def fI (E:Env) (call:c7) (n:Nat) (ops:List Oper) (place:Option (Nat×Nat)) (o:Oper) (F:Frame) (H:bf):Option (Frame×bf):=
 if fc ops F o then
  match c6 E call ops place F H o.op with
  | some (v,H')=>(jg n F o.dst v).map λF'=>(F',H')
  | none=>none
 else(jg n F o.dst .undef).map λF'=>(F',H)
def kN (E:Env) (call:c7) (n:Nat) (ops:List Oper):List Oper->Frame->bf->Option (Frame×bf)
 | [],F,H=>some (F,H)
 | o::r,F,H=>match fI E call n ops none o F H with
  | some (F',H')=>kN E call n ops r F' H'
  | none=>none
def iW (E:Env) (call:c7) (n:Nat) (ops:List Oper) (base:Nat):List Nat->Frame->bf->Option (Frame×bf)
 | [],F,H=>some (F,H)
 | i::r,F,H=>match ops[i]? with
  | some o=>match fI E call n ops (some (base,i)) o F H with
   | some (F',H')=>iW E call n ops base r F' H'
   | none=>none
  | none=>none
def tmpsOf (o:Oper) (ops:List Oper):List Nat:=
 (o.op.operands.toList.filterMap λ|.tmp t=>some t|_=>none) ++
 (match o.guard with|some (g,_)=>((ops[g]?).bind (·.dst)).toList|none=>[])
def vL (ops:List Oper) (a b:Oper):Bool:=
 (match a.dst with|some d => !(tmpsOf b ops).contains d&&b.dst != some d|none=>true) &&
 (match b.dst with|some d => !(tmpsOf a ops).contains d|none=>true)
def uk (ops:List Oper):Bool:=
 (List.range ops.length).all λj=>(List.range j).all λi=>
  match ops[i]?,ops[j]? with
  | some a,some b=>BY b i||vL ops a b
  | _,_=>false
def yJ (ops:List Oper):Bool:=
 (List.range ops.length).all λj=>match ops[j]? with
  | some o=>o.after.all λe => !jY e||decide (e.on<j)
  | none=>true
def qb (ops:List Oper):Bool:=ops.any λo=>cT o.op==.alloc
def iL (E:Env) (call:c7) (n:Nat) (ops:List Oper) (B:Bool) (F:Frame) (H:bf):Option (Frame×bf):=
 if B then
  if uk ops&&yJ ops then
   iW E call n ops H.length (List.range ops.length) F (if qb ops then H++List.replicate ops.length .free else H)
  else none
 else kN E call n ops ops F H
def jE (step:Frame->bf->Option (Out×Frame×bf)):Nat->Frame->bf->Option (Out×Frame×bf)
 | 0,_,_=>none
 | k+1,F,H=>match step F H with
  | some (.norm,F',H')=>jE step k F' H'
  | r=>r
def jQ:Out->Option Code
 | .norm=>none
 | .ret=>some .ret
 | .exit id=>some (.exit id)
def exec (E:Env) (call:c7) (lf:Nat) (ro:Bool) (n:Nat):Code->Frame->bf->Option (Out×Frame×bf)
 | .skip,F,H=>some (.norm,F,H)
 | .label _,F,H=>some (.norm,F,H)
 | .region _ ops B,F,H=>(iL E call n ops.toList B F H).map λ(F',H')=>(.norm,F',H')
 | .seq a b,F,H=>match exec E call lf ro n a F H with
  | some (.norm,F',H')=>exec E call lf ro n b F' H'
  | r=>r
 | .cond c x y,F,H=>match ev F c with
  | some (.bool t)=>if t then exec E call lf ro n x F H else exec E call lf ro n y F H
  | _=>none
 | .block id c,F,H=>match exec E call lf ro n c F H with
  | some (.exit D,F',H')=>if D=id then some (.norm,F',H')else some (.exit D,F',H')
  | r=>r
 | .loop c,F,H=>jE (exec E call lf ro n c) lf F H
 | .rangeFunc g ps assign body,F,H=>match ro,ev F g with
  | false,some (.clo f a b)=>
   match call (.fn f) (a++.yld H.length::b) (H++[.loop ⟨.ready,none,F,n,ps.toList,assign,body⟩])with
   | some (_,H')=>match H'[H.length]? with
    | some (.loop r)=>match r.st with
     | .busy=>none
     | _=>some (r.pend.getD .norm,F,H'.set H.length .dead)
    | _=>none
   | none=>none
  | _,_=>none
 | .exit id,F,H=>some (.exit id,F,H)
 | .ret,F,H=>some (.ret,F,H)
 | _,_,_=>none
def gG (E:Env) (F:Frame) (H:bf):List ResultVar->Option (List V)
 | []=>some []
 | .tmp t::r=>(gG E F H r).map (get F t::·)
 | .cell a t::r=>match E.tt t,gG E F H r with
  | some d,some vs=>((dL H (get F a) d.size).bind (mk d.agg)).map (·::vs)
  | _,_=>none
def result:List V->V
 | [v]=>v
 | vs=>.tup vs
def vZ:List Nat->List V->Frame->Frame
 | t::B,v::vs,F=>vZ B vs (set F t v)
 | _,_,F=>F
def FC {α:Type} [Inhabited α] (lt:α->α->Bool):Nat->Nat->Array α->Array α
 | 0,_,d=>d
 | k+1,i,d=>FC lt k (i+1) (Sort.insInner lt 0 i d)
def oW (n:Nat) (lt:Fin (n+1)->Fin (n+1)->Bool):Array (Fin (n+1)):=
 if n<12 then FC lt n 1 (List.finRange (n+1)).toArray else Sort.pdq lt (List.finRange (n+1)).toArray 0 (n+1) (Lib.bitLen (n+1)) true true
def ij (call:c7) (g:FuncId) (D B:List V) (n:Nat) (i j:Fin (n+1)):Option Int:=
 match D[i.1]?,D[j.1]? with
 | some a,some b=>match bU call g (a::b::B) []with
  | some (.int .i64 c)=>some c
  | _=>none
 | _,_=>none
def nV {n:Nat} (t:Fin (n+1)->Fin (n+1)->Option Int) (i j:Fin (n+1)):Bool:=decide ((t i j).getD 0<0)
def yP {n:Nat} (t:Fin (n+1)->Fin (n+1)->Option Int):Bool:=
 let l:=List.finRange (n+1)
 l.all λi => !nV t i i&&l.all λj=>(t i j).isSome&&l.all λk=>(!(nV t i j&&nV t j k)||nV t i k)&&((nV t i j||nV t j k) || !nV t i k)
def pY (xs:List (List V)) (off n:Nat) (l:List (Fin (n+1))):List (List V):=xs.take off++l.map (λi=>(xs[off+i.1]?).getD [])++xs.drop (off+(n+1))
def oU (keep:FuncId->Bool) (call:c7) (args:List V) (H:bf):Option (V×bf):=
 match args with
 | [s,c]=>match s with
  | .bB|.dg=>some (.undef,H)
  | .hsl id es off len=>match len,c with
   | 0,_=>some (.undef,H)
   | n+1,.clo g [] cb=>match H[id]? with
    | some (.row u w)=>if es=1/\u=1/\off+(n+1)<=w.length/\n<2147483648/\keep g=false then
     match borrows call.lv (H.set id .dead) ((w.drop off).take (n+1)).flatten,borrows call.lv (H.set id .dead) cb with
     | some z,some t=>if yP (ij call g z t n)then some (.undef,H.set id (.row 1 (pY w off n (oW n (nV (ij call g z t n))).toList)))else none
     | _,_=>none
     else none
    | _=>none
   | _,_=>none
  | _=>none
 | _=>none
def iR (E:Env) (c:c7) (n:Nat):Callee->List V->bf->Option (V×bf)
 | .fn f,args,H=>match E.ft f with
  | some fi=>if args.length<=fi.ntmps then
   match exec E c n false fi.ntmps fi.body args H with
   | some (.exit _,_,_)=>none
   | some (_,F',H')=>(gG E F' H' fi.results).map λvs=>(result vs,H')
   | none=>none
   else none
  | none=>if E.sort f then oU E.keep c args H else(E.known f args).map λy=>(y,H)
 | .yld id,args,H=>match H[id]? with
  | some (.loop r)=>match r.st with
   | .ready=>if args.length=r.params.length/\r.params.all (·<r.nt)then
    match exec E c n true r.nt r.assign (vZ r.params args r.frame) H with
    | some (.norm,D,H2)=>match H2[id]? with
     | some (.loop r2)=>match r2.st with
      | .ready=>match exec E c n true r.nt r.body D (H2.set id (.loop { r2 with st:=.busy }))with
       | some (o,_,B)=>match B[id]? with
        | some (.loop r4)=>some (.bool (o==.norm),B.set id (.loop { r4 with st:=(if o==.norm then .ready else .done),pend:=(if o==.norm then none else some o) }))
        | _=>none
       | none=>none
      | _=>none
     | _=>none
    | _=>none
    else none
   | _=>none
  | _=>none
def run (E:Env):Nat->c7
 | 0=>⟨0,λ_ _ _=>none⟩
 | n+1=>⟨n+1,iR E (run E n) n⟩
theorem D1 {E:Env} {n:Nat} {x:Callee} {a:List V} {H:bf}:run E (n+1) x a H=iR E (run E n) n x a H:=rfl
end Go.VE
namespace Go.VE
variable [bN]
@[simp] theorem get_nil (i:Nat):get [] i=.undef:=by cases i <;> rfl
@[simp] theorem qN (F:Frame) (i:Nat) (v:V):get (set F i v) i=v:=by
 induction F generalizing i with
 | nil=>induction i with
  | zero=>rfl
  | succ i t=>simpa [set,get]using t
 | cons x r t=>cases i with
  | zero=>rfl
  | succ i=>simpa [set,get]using t i
theorem gw (F:Frame) {i j:Nat} (v:V) (h:i≠j):get (set F i v) j=get F j:=by
 induction F generalizing i j with
 | nil=>
  induction i generalizing j with
  | zero=>cases j with
   | zero=>grind
   | succ j=>simp[set,get]
  | succ i t=>cases j with
   | zero=>simp[set,get]
   | succ j=>simpa [set,get]using t  (by omega)
 | cons x r t=>cases i with
  | zero=>cases j with
   | zero=>grind
   | succ j=>simp[set,get]
  | succ i=>cases j with
   | zero=>simp[set,get]
   | succ j=>simpa [set,get]using t   (by omega)
theorem Ef (F:Frame) {i j:Nat} (u v:V) (h:i≠j):set (set F i u) j v=set (set F j v) i u:=by
 induction F generalizing i j with
 | nil=>
  induction i generalizing j with
  | zero=>cases j with
   | zero=>grind
   | succ j=>simp[set]
  | succ i t=>cases j with
   | zero=>simp[set]
   | succ j=>simpa [set]using t  (by omega)
 | cons x r t=>cases i with
  | zero=>cases j with
   | zero=>grind
   | succ j=>simp[set]
  | succ i=>cases j with
   | zero=>simp[set]
   | succ j=>simpa [set]using t   (by omega)
inductive IC where
 | cells (c:Array Value)
 | map (es:Array MapEntry)
abbrev b9:=Nat->Option IC
def IC.at (x:IC) (w:World) (b:Nat):Prop:=
 match x with
 | .cells c=>∃el fr,w.heap[b]? = some (.cells c el fr)
 | .map es=>∃clock,w.heap[b]? = some (.map es clock)
def b9.le (I I':b9):Prop:=∀b x,I b=some x->I' b=some x
theorem b9.le_refl (I:b9):b9.le I I:=λ_ _ h=>h
theorem b9.le_trans {I J K:b9} (h:b9.le I J) (B:b9.le J K):b9.le I K:=λb x e=>B b x (h b x e)
inductive dU (I:b9):V->Value->Prop
 | bool (b:Bool):dU I (.bool b) (.bool b)
 | int (k:IntKind) (n:Int):dU I (.int k n) (.int k n)
 | str (s:ByteArray):dU I (.str s) (.string s)
 | dg (a:Option Addr):dU I .dg (.slice a 0 0)
 | bB:dU I .bB (.slice none 0 0)
 | fsl0 (es:Nat) (a:Addr) (cap:Nat):dU I (.fsl es []) (.slice (some a) 0 cap)
 | fsl (es:Nat) (xs:List (List V)) (b o cap:Nat) (c:Array Value) (hI:I b=some (.cells c)) (hc:xs.length<=cap)
  (hu:∀x∈xs,x.length=es) (ho:∀x∈xs,∀y∈x,V.one y=true) (hb:o+xs.length*es<=c.size)
  (hr:∀(i j:Nat) x y v,xs[i]? = some x->x[j]? = some y->c[o+i*es+j]? = some v->dU I y v) :
  dU I (.fsl es xs) (.slice (some ⟨b,o,none⟩) xs.length cap)
 | gx:dU I .gx (.pointer none)
 | fptr (cs:List V) (b o:Nat) (c:Array Value) (hI:I b=some (.cells c)) (hb:o+cs.length<=c.size)
  (hr:∀(j:Nat) y v,cs[j]? = some y->c[o+j]? = some v->dU I y v):dU I (.fptr cs) (.pointer (some ⟨b,o,none⟩))
 | clo (f:FuncId) (x y:List V) (u v:Array Value) (hx:x.length=u.size) (hy:y.length=v.size)
  (h1:∀(j:Nat) a b,x[j]? = some a->u[j]? = some b->dU I a b) (h2:∀(j:Nat) a b,y[j]? = some a->v[j]? = some b->dU I a b) :
  dU I (.clo f x y) (.func (.func f) u v)
 | fB:dU I .fB (.map none)
 | qB:dU I .qB .nilFunc
 | fmap (kvs:List (V×V)) (b:Nat) (es:Array MapEntry) (hI:I b=some (.map es)) (hl:kvs.length=es.size)
  (hk:∀(j:Nat) p e,kvs[j]? = some p->es[j]? = some e->dU I p.1 e.key)
  (hv:∀(j:Nat) p e,kvs[j]? = some p->es[j]? = some e->dU I p.2 e.val):dU I (.fmap kvs) (.map (some b))
 | agg (cs:List V) (vs:Array Value) (hl:cs.length=vs.size) (h:∀(j:Nat) a b,cs[j]? = some a->vs[j]? = some b->dU I a b) :
  dU I (.agg cs) (.agg vs)
 | tup (cs:List V) (vs:Array Value) (hl:cs.length=vs.size) (h:∀(j:Nat) a b,cs[j]? = some a->vs[j]? = some b->dU I a b) :
  dU I (.tup cs) (.tuple vs)
structure Pl where
 b:Nat
 o:Nat
 es:Nat
 sz:Nat
abbrev Mu:=Nat->Option Pl
inductive bA (I:b9) (μ:Mu):V->Value->Prop
 | c (x:V) (v:Value) (h:dU I x v):bA I μ x v
 | hsl (id off len cap:Nat) (p:Pl) (hm:μ id=some p) (hc:len<=cap) (hb:p.o+(off+cap)*p.es<=p.sz) :
  bA I μ (.hsl id p.es off len) (.slice (some ⟨p.b,p.o+off*p.es,none⟩) len cap)
 | hsl0 (id es off:Nat) (a:Addr):bA I μ (.hsl id es off 0) (.slice (some a) 0 0)
 | hptr (id el off:Nat) (p:Pl) (hm:μ id=some p):bA I μ (.hptr id el off) (.pointer (some ⟨p.b,p.o+el*p.es+off,none⟩))
 | yld (id:Nat) (p:Pl) (hm:μ id=some p):bA I μ (.yld id) (.func (.yield p.b) #[] #[])
 | hmap (id:Nat) (p:Pl) (hm:μ id=some p):bA I μ (.hmap id) (.map (some p.b))
 | clo (f:FuncId) (x y:List V) (u v:Array Value) (hx:x.length=u.size) (hy:y.length=v.size)
  (h1:∀(j:Nat) a b,x[j]? = some a->u[j]? = some b->bA I μ a b) (h2:∀(j:Nat) a b,y[j]? = some a->v[j]? = some b->bA I μ a b) :
  bA I μ (.clo f x y) (.func (.func f) u v)
 | agg (cs:List V) (vs:Array Value) (hl:cs.length=vs.size) (h:∀(j:Nat) a b,cs[j]? = some a->vs[j]? = some b->bA I μ a b) :
  bA I μ (.agg cs) (.agg vs)
 | tup (cs:List V) (vs:Array Value) (hl:cs.length=vs.size) (h:∀(j:Nat) a b,cs[j]? = some a->vs[j]? = some b->bA I μ a b) :
  bA I μ (.tup cs) (.tuple vs)
def Mu.le (μ μ':Mu):Prop:=∀id p,μ id=some p->μ' id=some p
theorem Mu.le_refl (μ:Mu):Mu.le μ μ:=λ_ _ h=>h
theorem dU.mono {I I':b9} (h:b9.le I I') {x:V} {v:Value} (r:dU I x v):dU I' x v:=by
 induction r with
 | bool b=>exact .bool b
 | int k n=>exact .int k n
 | str s=>exact .str s
 | dg a=>exact .dg a
 | bB=>exact .bB
 | fsl0 es a cap=>exact .fsl0 es a cap
 | fsl es L b o cap c A hc hu O D _ t=>exact .fsl es L b o cap c (h _ _ A) hc hu O D t
 | gx=>exact .gx
 | fptr B b o c A D _ t=>exact .fptr B b o c (h _ _ A) D t
 | clo f x y u v Q S _ _ w z=>exact .clo f x y u v Q S w z
 | fB=>exact .fB
 | qB=>exact .qB
 | fmap G b es A C _ _ w z=>exact .fmap G b es (h _ _ A) C w z
 | agg B J C _ t=>exact .agg B J C t
 | tup B J C _ t=>exact .tup B J C t
theorem bA.mono {I I':b9} {μ μ':Mu} (h:b9.le I I') (B:Mu.le μ μ') {x:V} {v:Value} (r:bA I μ x v):bA I' μ' x v:=by
 induction r with
 | c x v r=>exact .c _ _ (r.mono h)
 | hsl id off len cap p t hc J=>exact .hsl id off len cap p (B _ _ t) hc J
 | hsl0 id es off a=>exact .hsl0 id es off a
 | hptr id el off p t=>exact .hptr id el off p (B _ _ t)
 | yld id p t=>exact .yld id p (B _ _ t)
 | hmap id p t=>exact .hmap id p (B _ _ t)
 | clo f x y u v L O _ _ w z=>exact .clo f x y u v L O w z
 | agg A C D _ G=>exact .agg A C D G
 | tup A C D _ G=>exact .tup A C D G
def cz (I:b9) (μ:Mu) (xs:List V) (vs:List Value):Prop:=
 xs.length=vs.length/\∀(j:Nat) a b,xs[j]? = some a->vs[j]? = some b->bA I μ a b
theorem cz.nil {I:b9} {μ:Mu}:cz I μ [] []:=⟨rfl,by simp⟩
theorem cz.cons {I:b9} {μ:Mu} {x:V} {v:Value} {xs:List V} {vs:List Value} (h:bA I μ x v) (r:cz I μ xs vs):cz I μ (x::xs) (v::vs):=by
 refine⟨by simp[r.1],?_⟩
 intro j a b h1 t
 cases j with
 | zero=>grind
 | succ j=>exact r.2 j a b (by grind) (by grind)
theorem cz.cons_inv {I:b9} {μ:Mu} {x:V} {xs:List V} {B:List Value} (r:cz I μ (x::xs) B):∃v vs,B=v::vs/\bA I μ x v/\cz I μ xs vs:=by
 obtain⟨t,h⟩:=r
 cases B with
 | nil=>simp_all
 | cons v vs=>
  refine⟨v,vs,rfl,h 0 x v (by simp) (by simp),by grind,?_⟩
  intro j a b h1 u;exact h (j+1) a b (by grind) (by grind)
theorem cz.tK {I:b9} {μ:Mu} {B:List Value} (r:cz I μ [] B):B=[]:=by
 have:=r.1;grind
theorem cz.append {I:b9} {μ:Mu} {xs ys:List V} {B vs:List Value} (h:cz I μ xs B) (D:cz I μ ys vs):cz I μ (xs++ys) (B++vs):=by
 induction xs generalizing B with
 | nil=>rw[cz.tK h];exact D
 | cons x xs t=>
  obtain⟨v,B,rfl,hv,hr⟩:=h.cons_inv;exact .cons hv (t hr)
theorem cz.mono {I I':b9} {μ μ':Mu} (h:b9.le I I') (B:Mu.le μ μ') {xs:List V} {vs:List Value} (r:cz I μ xs vs):cz I' μ' xs vs:=
 ⟨r.1,λj a b h1 t=>(r.2 j a b h1 t).mono h B⟩
theorem cz.take {I:b9} {μ:Mu} {xs:List V} {vs:List Value} (r:cz I μ xs vs) (n:Nat):cz I μ (xs.take n) (vs.take n):=by
 refine⟨by simp[r.1],λj a b h1 t=>?_⟩
 rw[List.getElem?_take]at h1 t;split at h1 <;> simp_all;exact r.2 j a b h1 t
theorem cz.drop {I:b9} {μ:Mu} {xs:List V} {vs:List Value} (r:cz I μ xs vs) (n:Nat):cz I μ (xs.drop n) (vs.drop n):=by
 refine⟨by simp[r.1],λj a b h1 t=>?_⟩
 rw[List.getElem?_drop]at h1 t;exact r.2 _ a b h1 t
theorem bA.cells {I:b9} {μ:Mu} {x:V} {v:Value} (r:bA I μ x v):cz I μ x.cells v.cells.toList:=by
 cases r with
 | c x v h=>
  cases h with
  | agg w B t h=>exact⟨by simpa [V.cells,Value.cells]using t,λj a b h1 z=>.c _ _ (h j a b h1 (by simpa [Value.cells]using z))⟩
  | bool b=>exact .cons (.c _ _ (.bool b)) .nil
  | int k n=>exact .cons (.c _ _ (.int k n)) .nil
  | str s=>exact .cons (.c _ _ (.str s)) .nil
  | dg a=>exact .cons (.c _ _ (.dg a)) .nil
  | bB=>exact .cons (.c _ _ .bB) .nil
  | fsl0 es a cap=>exact .cons (.c _ _ (.fsl0 es a cap)) .nil
  | fsl es O b o cap c C hc hu Q D hr=>exact .cons (.c _ _ (.fsl es O b o cap c C hc hu Q D hr)) .nil
  | gx=>exact .cons (.c _ _ .gx) .nil
  | fptr w b o c C D hr=>exact .cons (.c _ _ (.fptr w b o c C D hr)) .nil
  | clo f x y u v G J h1 z=>exact .cons (.c _ _ (.clo f x y u v G J h1 z)) .nil
  | fB=>exact .cons (.c _ _ .fB) .nil
  | qB=>exact .cons (.c _ _ .qB) .nil
  | fmap L b es C t hk hv=>exact .cons (.c _ _ (.fmap L b es C t hk hv)) .nil
  | tup w B t h=>exact .cons (.c _ _ (.tup w B t h)) .nil
 | hsl id off len cap p A hc D=>exact .cons (.hsl id off len cap p A hc D) .nil
 | hsl0 id es off a=>exact .cons (.hsl0 id es off a) .nil
 | hptr id el off p A=>exact .cons (.hptr id el off p A) .nil
 | yld id p A=>exact .cons (.yld id p A) .nil
 | hmap id p A=>exact .cons (.hmap id p A) .nil
 | clo f x y u v G J h1 z=>exact .cons (.clo f x y u v G J h1 z) .nil
 | agg w B t h=>exact⟨by simpa [V.cells,Value.cells]using t,λj a b h1 z=>h j a b h1 (by simpa [Value.cells]using z)⟩
 | tup w B t h=>exact .cons (.tup w B t h) .nil
theorem bA.DS {I:b9} {μ:Mu} {cs:List V} {vs:Array Value} (h:cz I μ cs vs.toList):bA I μ (.agg cs) (.agg vs):=
 .agg cs vs (by simpa using h.1) λj a b h1 t=>h.2 j a b h1 (by grind)
theorem bA.Oy {I:b9} {μ:Mu} {cs:List V} {vs:Array Value} (h:cz I μ cs vs.toList):bA I μ (.tup cs) (.tuple vs):=
 .tup cs vs (by simpa using h.1) λj a b h1 t=>h.2 j a b h1 (by grind)
section inv
variable {I:b9} {μ:Mu}
theorem bA.qf {b:Bool} {v:Value} (h:bA I μ (.bool b) v):v=.bool b:=by cases h with|c _ _ h=>cases h;rfl
theorem bA.eP {k:IntKind} {n:Int} {v:Value} (h:bA I μ (.int k n) v):v=.int k n:=by cases h with|c _ _ h=>cases h;rfl
theorem bA.rI {s:ByteArray} {v:Value} (h:bA I μ (.str s) v):v=.string s:=by cases h with|c _ _ h=>cases h;rfl
theorem bA.qJ {v:Value} (h:bA I μ .dg v):∃a,v=.slice a 0 0:=by cases h with|c _ _ h=>cases h;grind
theorem bA.kC {es:Nat} {xs:List (List V)} {v:Value} (h:bA I μ (.fsl es xs) v):dU I (.fsl es xs) v:=by cases h with|c _ _ h=>omega
theorem bA.kI {cs:List V} {v:Value} (h:bA I μ (.fptr cs) v):∃b o c,v=.pointer (some ⟨b,o,none⟩)/\I b=some (.cells c)/\o+cs.length<=c.size /\
 (∀(j:Nat) y u,cs[j]? = some y->c[o+j]? = some u->dU I y u):=by
 cases h with|c _ _ h=>cases h with|fptr cs b o c t w hr=>grind
theorem bA.kB {v:Value} (h:bA I μ .bB v):v=.slice none 0 0:=by cases h with|c _ _ h=>cases h;rfl
theorem bA.NJ {v:Value} (h:bA I μ .fB v):v=.map none:=by cases h with|c _ _ h=>cases h;rfl
theorem bA.rK {id el off:Nat} {v:Value} (h:bA I μ (.hptr id el off) v):∃p,μ id=some p/\v=.pointer (some ⟨p.b,p.o+el*p.es+off,none⟩):=by
 cases h with
 | c _ _ h=>cases h
 | hptr _ _ _ p t=>grind
theorem bA.PF {id:Nat} {v:Value} (h:bA I μ (.yld id) v):∃p,μ id=some p/\v=.func (.yield p.b) #[] #[]:=by
 cases h with
 | c _ _ h=>cases h
 | yld _ p t=>grind
theorem bA.z7 {id:Nat} {v:Value} (h:bA I μ (.hmap id) v):∃p,μ id=some p/\v=.map (some p.b):=by
 cases h with
 | c _ _ h=>cases h
 | hmap _ p t=>grind
theorem bA.kE {id es off len:Nat} {v:Value} (h:bA I μ (.hsl id es off len) v) :
 (∃p cap,μ id=some p/\p.es=es/\len<=cap/\p.o+(off+cap)*es<=p.sz/\v=.slice (some ⟨p.b,p.o+off*es,none⟩) len cap)\/(len=0/\∃a,v=.slice (some a) 0 0):=by
 cases h with
 | c _ _ h=>cases h
 | hsl _ _ _ cap p t hc u=>simp_all
 | hsl0 _ _ _ a=>grind
theorem bA.gR {cs:List V} {v:Value} (h:bA I μ (.agg cs) v):∃vs,v=.agg vs/\cz I μ cs vs.toList:=by
 cases h with
 | c _ _ h=>cases h with|agg _ vs t h=>exact⟨vs,rfl,by grind,λj a b h1 u=>.c _ _ (h j a b h1 (by grind))⟩
 | agg _ vs t h=>exact⟨vs,rfl,by grind,λj a b h1 u=>h j a b h1 (by grind)⟩
theorem bA.oM {cs:List V} {v:Value} (h:bA I μ (.tup cs) v):∃vs,v=.tuple vs/\cz I μ cs vs.toList:=by
 cases h with
 | c _ _ h=>cases h with|tup _ vs t h=>exact⟨vs,rfl,by grind,λj a b h1 u=>.c _ _ (h j a b h1 (by grind))⟩
 | tup _ vs t h=>exact⟨vs,rfl,by grind,λj a b h1 u=>h j a b h1 (by grind)⟩
theorem bA.jk {f:FuncId} {x y:List V} {v:Value} (h:bA I μ (.clo f x y) v):∃a b,v=.func (.func f) a b/\cz I μ x a.toList/\cz I μ y b.toList:=by
 cases h with
 | c _ _ h=>cases h with
  | clo _ _ _ u v w z h1 t=>exact⟨u,v,rfl,⟨by grind,λj a b p q=>.c _ _ (h1 j a b p (by grind))⟩,⟨by grind,λj a b p q=>.c _ _ (t j a b p (by grind))⟩⟩
 | clo _ _ _ u v w z h1 t=>exact⟨u,v,rfl,⟨by grind,λj a b p q=>h1 j a b p (by grind)⟩,⟨by grind,λj a b p q=>t j a b p (by grind)⟩⟩
theorem bA.of_bool {x:V} {b:Bool} (h:bA I μ x (.bool b)):x=.bool b:=by
 cases h with|c _ _ h=>cases h;rfl
end inv
def si (I:b9):Prop:=∀g t,bN.gl g=some t->dU I (.fptr t) (.pointer (some ⟨g,0,none⟩))
theorem si.mono {I I':b9} (h:b9.le I I') (r:si I):si I':=λg t hg=>(r g t hg).mono h
structure dQ (I:b9) (μ:Mu) (n:Nat) (F:Frame) (tmps:Array Value):Prop where
 size:tmps.size=n
 rel:∀t,bA I μ (get F t) (tmps.getD t undef)
 gl:si I
theorem bA.undef (I:b9) (μ:Mu):bA I μ .undef Go.undef:=.c _ _ (.tup [] #[] rfl (by simp))
theorem dQ.mono {I I':b9} {μ μ':Mu} {n:Nat} {F:Frame} {tmps:Array Value} (h:b9.le I I') (B:Mu.le μ μ') (r:dQ I μ n F tmps):dQ I' μ' n F tmps:=
 ⟨r.1,λt=>(r.2 t).mono h B,r.gl.mono h⟩
theorem dQ.put {I:b9} {μ:Mu} {n:Nat} {F F':Frame} {a:Act} {dst:Option Nat} {x:V} {v:Value} (r:dQ I μ n F a.tmps) (h:bA I μ x v)
 (B:jg n F dst x=some F'):dQ I μ n F' (a.put dst v).tmps:=by
 cases dst with
 | none=>simp[jg]at B;subst B;exact r
 | some d=>
  simp only[jg]at B;split at B
  .simp  at B;subst B;refine⟨by simp[Act.put,r.1],λt=>?_,r.gl⟩
   by_cases u:d=t
   .subst u;have:d<a.tmps.size:=by rw[r.1];omega
    simpa [Act.put,Array.getD_eq_getD_getElem?,Array.getElem?_setIfInBounds,this]using h
   .have:=r.2 t;rw[gw _ _ u];simpa [Act.put,Array.getD_eq_getD_getElem?,Array.getElem?_setIfInBounds,u]using this
  grind
theorem zM {I:b9}:∀(n:Nat) (v:Value) (x:V),ofValue n v=some x->dU I x v:=by
 intro n
 induction n with
 | zero=>intro v x h;simp[ofValue]at h
 | succ n z=>
  intro v x h;unfold ofValue at h;split at h <;> (try (simp  at h;subst h;constructor)) <;> (try grind)
  simp  at h;obtain⟨A,u,rfl⟩:=h;have key:∀(l:List Value) (t:List V),l.mapM (ofValue n)=some t->t.length=l.length/\∀(j:Nat) a b,t[j]? = some a->l[j]? = some b->dU I a b:=by
   intro l
   induction l with
   | nil=>grind
   | cons v l w=>
    intro t h;simp[ζg]at h
    grind
  obtain⟨B,hr⟩:=key _ _ u;exact .agg _ _ (by grind) λj a b h1 C=>hr j a b h1 (by grind)
theorem c9 {I:b9} {μ:Mu} {n:Nat} {F:Frame} {a:Act} (r:dQ I μ n F a.tmps) {o:Operand} {x:V} (h:ev F o=some x):bA I μ x (a.eval o):=by
 cases o with
 | tmp t=>simp[ev]at h;subst h;exact r.2 t
 | const v=>exact .c _ _ (zM 4 _ _ h)
 | func f=>simp[ev]at h;subst h;exact .c _ _ (.clo f [] [] #[] #[] rfl rfl (by simp) (by simp))
 | global g=>
  obtain⟨u,h1,rfl⟩:=ζf.1 h;exact .c _ _ (r.gl g u h1)
theorem mm {I:b9} {μ:Mu} {n:Nat} {F:Frame} {a:Act} (r:dQ I μ n F a.tmps):∀{l:List Operand} {xs:List V},eY F l=some xs->cz I μ xs (l.map a.eval):=by
 intro l
 induction l with
 | nil=>intro xs h;simp[eY]at h;subst h;exact .nil
 | cons o l t=>
  intro xs h;simp[eY]at h;split at h
  .rename_i v w h1 u;simp  at h;subst h;exact .cons (c9 r h1) (t u)
  grind
theorem Jx {I:b9} {μ:Mu} {n:Nat} {F:Frame} {a:Act} (r:dQ I μ n F a.tmps):∀{l:List (Nat×Operand)} {xs:List (Nat×V)},kM F l=some xs ->
 xs.length=l.length/\∀(j:Nat) x y,xs[j]? = some x->l[j]? = some y->x.1=y.1/\bA I μ x.2 (a.eval y.2):=by
 intro l
 induction l with
 | nil=>intro xs h;simp[kM]at h;grind
 | cons o l w=>
  intro xs h;simp[kM]at h;split at h
  .rename_i v B h1 z;simp  at h;subst h;obtain⟨A,hr⟩:=w z;refine⟨by simp[A],λj x y t u=>?_⟩
   cases j with
   | zero=>simp at t u;subst t;subst u;exact⟨rfl,c9 r h1⟩
   | succ j=>grind
  grind
end Go.VE
namespace Go.VE
variable [bN]
def kK:TypeDesc->TK
 | .bool=>.bool
 | .int k=>.int k
 | .string=>.str
 | .pointer e=>.ptr e
 | .slice e=>.slice e
 | .struct fs=>.struct (fs.toList.map λf=>(f.offset,f.type))
 | .array n e=>.array n e
 | .map k e=>.map k e
 | _=>.other
def BR:Value->Bool
 | .agg _=>true
 | _=>false
def rC (P:Program) (t:TypeId):Option TD:=
 match P.info? t,P.underlying t with
 | some i,some d=>match i.zero with
  | some z=>match z.cells.toList.mapM (ofValue 4)with
   | some u=>if u.length=i.size/\u.all V.one=true/\BR z=(TD.mk i.size i.bytes u (kK d)).agg then some ⟨i.size,i.bytes,u,kK d⟩else none
   | none=>none
  | none=>none
 | _,_=>none
def ic (a:List Int):Array Value:=(a.map (Value.int .i64)).toArray
structure rM (P:Program) (t:TypeId) (n:Nat):Prop where
 eq:∀(w:World) (x y:Operand) (a b:List Int),a.length=n->b.length=n ->
  (do eqGuard .eql t x y (.agg (ic a)) (.agg (ic b));binOp .eql t (.agg (ic a)) (.agg (ic b))).run P w=.ok (.bool (a==b)) w
 ne:∀(w:World) (x y:Operand) (a b:List Int),a.length=n->b.length=n ->
  (do eqGuard .neq t x y (.agg (ic a)) (.agg (ic b));binOp .neq t (.agg (ic a)) (.agg (ic b))).run P w=.ok (.bool !(a==b)) w
 key:∀(w:World) (a b:List Int),a.length=n->b.length=n->(Op.equal t (.agg (ic a)) (.agg (ic b))).run P w=.ok (a==b) w
 check:∀(w:World) (e:Bool) (a:List Int),a.length=n->(Instr.checkKey e 10000 t (.agg (ic a))).run P w=.ok () w
 kind:∃d,P.underlying t=some d/\((∃n e,d=.array n e)\/(∃fs,d=.struct fs))
structure dV (P:Program) (E:Env):Prop where
 tt:∀t d,E.tt t=some d->rC P t=some d
 ft:∀f fi,E.ft f=some fi->∃fn,P.funcs[f]? = some fn/\fn.body=some fi.body/\fn.ntmps=fi.ntmps/\fn.results.toList=fi.results/\(fn.name == "runtime.NumGoroutine")=false
 eqN:∀t n,E.eqN t=some n->rM P t n
structure mZ (P:Program) (t:TypeId) (d:TD):Prop where
 info:∃i z,P.info? t=some i/\i.size=d.size/\i.bytes=d.bytes/\i.zero=some z/\(∀I μ,cz I μ d.zero z.cells.toList)/\d.zero.length=d.size/\d.zero.all V.one=true/\BR z=d.agg
 und:∃desc,P.underlying t=some desc/\kK desc=d.kind
theorem LQ {I:b9} {μ:Mu}:∀(l:List Value) (ys:List V),l.mapM (ofValue 4)=some ys->cz I μ ys l:=by
 intro l
 induction l with
 | nil=>intro ys h;simp at h;subst h;exact .nil
 | cons v l t=>
  intro ys h;simp only[List.mapM_cons,Option.pure_def,Option.bind_eq_bind,ζg,ζa]at h;obtain⟨y,u,w,z,rfl⟩:=h;exact .cons (.c _ _ (zM 4 _ _ u)) (t w z)
theorem dV.ty {P:Program} {E:Env} (h:dV P E) {t:TypeId} {d:TD} (B:E.tt t=some d):mZ P t d:=by
 have:=h.tt t d B;unfold rC at this;split at this
 .rename_i i desc u w;split at this
  .rename_i z A;split at this
   .rename_i D hc;split at this
    .rename_i C;simp only[ζa]at this;subst this;exact⟨⟨i,z,u,rfl,rfl,A,λI μ=>LQ _ _ hc,C⟩,⟨desc,w,rfl⟩⟩
    .simp at this
   .simp at this
  .simp at this
 .simp at this
section runs
variable {P:Program} {w:World} {t:TypeId} {d:TD}
theorem dc {desc:TypeDesc} (h:P.underlying t=some desc):(underlying t).run P w=.ok desc w:=by simp[underlying,h]
theorem nq {i:TypeInfo} (h:P.info? t=some i):(typeInfo t).run P w=.ok i w:=by simp[typeInfo,h]
theorem mZ.gK (h:mZ P t d):(sizeOf t).run P w=.ok d.size w:=by
 obtain⟨i,z,u,A,_⟩:=h.info;simp[sizeOf,nq u,A]
theorem mZ.dc (h:mZ P t d):∃desc,P.underlying t=some desc/\kK desc=d.kind/\∀w,(underlying t).run P w=.ok desc w:=by
 obtain⟨desc,h1,u⟩:=h.und;exact⟨desc,h1,u,λw=>VE.dc h1⟩
theorem mZ.AK (h:mZ P t d):(isAgg t).run P w=.ok d.agg w:=by
 obtain⟨desc,h1,u⟩:=h.und;unfold isAgg;simp only[Sem.run_bind,VE.dc h1,Result.andThen_ok];cases desc <;> simp[TD.agg,<-u,kK]
theorem mZ.yg (h:mZ P t d):∃z,(∀w,(zeroValue t).run P w=.ok z w)/\(∀I μ,cz I μ d.zero z.cells.toList)/\d.zero.length=d.size/\d.zero.all V.one=true:=by
 obtain⟨i,z,u,_,_,A,hr,B,h1,_⟩:=h.info;exact⟨z,λw=>by simp[zeroValue,nq u,A],hr,B,h1⟩
end runs
theorem mZ.PC {P:Program} {t:TypeId} {d:TD} (h:mZ P t d):∃z,(∀w,(zeroValue t).run P w=.ok z w)/\∀I μ x,VE.mk d.agg d.zero=some x->bA I μ x z:=by
 obtain⟨i,z,D,_,_,G,hr,J,h1,u⟩:=h.info;refine⟨z,λw=>by simp[zeroValue,nq D,G],λI μ x B=>?_⟩
 have A:=hr I μ
 cases C:d.agg with
 | true=>
  rw[C]at B u;cases z <;> simp[BR]at u;simp only[VE.mk,if_true,ζa]at B;subst B;exact .DS (by simpa [Value.cells]using A)
 | false=>
  rw[C]at B u;simp only[VE.mk,Bool.false_eq_true,if_false]at B;split at B
  .rename_i v hv;simp only[ζa]at B;subst B;rw[hv]at A;have e:z.cells.toList=[z]:=by cases z <;> first|rfl|simp[BR]at u
   rw[e]at A;exact A.2 0 _ _ rfl rfl
  .simp at B
theorem eR {E:Env} {t:TypeId} {k:TK} (h:E.kindOf t=some k):∃d,E.tt t=some d/\d.kind=k:=by
 unfold Env.kindOf at h;simpa [ζf]using h
theorem Bu {d:TypeDesc} {k:IntKind} (h:kK d=.int k):d=.int k:=by cases d <;> simp_all [kK]
theorem GR {d:TypeDesc} (h:kK d=.bool):d=.bool:=by cases d <;> simp_all [kK]
theorem yq {d:TypeDesc} (h:kK d=.str):d=.string:=by cases d <;> simp_all [kK]
theorem iG {d:TypeDesc} {e:TypeId} (h:kK d=.slice e):d=.slice e:=by cases d <;> simp_all [kK]
theorem z_ {d:TypeDesc} {n:Nat} {e:TypeId} (h:kK d=.array n e):d=.array n e:=by cases d <;> simp_all [kK]
theorem xG {d:TypeDesc} {k e:TypeId} (h:kK d=.map k e):d=.map k e:=by cases d <;> simp_all [kK]
theorem xZ {d:TypeDesc} {fs:List (Nat×TypeId)} (h:kK d=.struct fs):∃B,d=.struct B/\fs=B.toList.map λf=>(f.offset,f.type):=by
 cases d <;> simp_all [kK]
theorem zj {I:b9} {μ:Mu} {cs r:List V} {vs:List Value} {off n:Nat} (h:cz I μ cs vs) (hc:cut cs off n=some r) :
 cz I μ r ((vs.drop off).take n)/\r.length=n/\off+n<=cs.length\/(n=0/\r=[]):=by
 unfold cut at hc;simp only at hc;split at hc
 .rename_i t;simp only[ζa]at hc;subst hc
  by_cases u:n=0
  .right;subst u;simp
  .left;refine⟨(h.drop off).take n,t,?_⟩;simp at t;omega
 .simp at hc
theorem KU {I:b9} {μ:Mu} {cs:List V} {x:V} {vs:Array Value} (h:mk true cs=some x) (r:cz I μ cs vs.toList):bA I μ x (.agg vs):=by
 simp only[mk,if_true,ζa]at h;subst h;exact .DS r
theorem mk_one {I:b9} {μ:Mu} {cs:List V} {x:V} {vs:List Value} (h:mk false cs=some x) (r:cz I μ cs vs):∃v,vs=[v]/\bA I μ x v:=by
 simp only[mk,Bool.false_eq_true,if_false]at h;split at h
 .simp only[ζa]at h;subst h;obtain⟨v,t,rfl,hv,hr⟩:=r.cons_inv;exact⟨v,by rw[hr.tK],hv⟩
 .simp at h
theorem FZ {P:Program} {w:World} {I:b9} {μ:Mu} {t:TypeId} {d:TD} {cs r:List V} {vs:Array Value} {x:V} {off:Nat} (D:mZ P t d) (h:cz I μ cs vs.toList)
 (hc:cut cs off d.size=some r) (B:mk d.agg r=some x):∃u,(part t vs off).run P w=.ok u w/\bA I μ x u:=by
 unfold part;simp only[Sem.run_bind,D.AK,Result.andThen_ok]
 cases z:d.agg with
 | true=>
  rw[z]at B;refine⟨.agg (vs.extract off (off+d.size)),by simp[D.gK],?_⟩
  refine KU B ?_;have e:(vs.extract off (off+d.size)).toList=(vs.toList.drop off).take d.size:=by simp
  rw[e];rcases zj h hc with⟨a,_⟩|⟨h0,rfl⟩
  .exact a
  .rw[h0];exact .nil
 | false=>
  rw[z]at B;rcases zj h hc with⟨a,G,_⟩|⟨h0,rfl⟩
  .obtain⟨v,hv,A⟩:=mk_one B a;refine⟨v,?_,A⟩;have C:d.size=1:=by
    have:=a.1;rw[hv]at this;simp at this;omega
   rw[C]at hv;have:vs[off]? = some v:=by
    have:=congrArg (·[0]?) hv;simpa [List.getElem?_take,List.getElem?_drop]using this
   simp[this]
  .simp[mk]at B
theorem Jf {I:b9} {μ:Mu}:∀(az:List V) (a:List Int) (B:List Value),gE az=some a->cz I μ az B->B=a.map (Value.int .i64)/\a.length=az.length:=by
 intro az
 induction az with
 | nil=>intro a B h t;simp only[gE,ζa]at h;subst h;rw[t.tK];simp
 | cons x az u=>
  intro a B h t;obtain⟨v,B,rfl,hv,hr⟩:=t.cons_inv;have w:∃y,x=.int .i64 y:=by
   cases x with
   | int k y=>cases k <;> simp[gE]at h ⊢
   | _=>simp[gE]at h
  obtain⟨y,rfl⟩:=w;simp only[gE,ζf]at h;obtain⟨b,z,rfl⟩:=h;obtain⟨g1,g2⟩:=u _ _ z hr;have:=hv.eP;subst this;exact⟨by simp[g1],by simp[g2]⟩
theorem oK {I:b9} {μ:Mu} {az:List V} {a:List Int} {B:Array Value} (h:gE az=some a) (D:cz I μ az B.toList):B=ic a/\a.length=az.length:=by
 obtain⟨h1,t⟩:=Jf _ _ _ h D;refine⟨?_,t⟩;have:=congrArg List.toArray h1;simpa [ic]using this
theorem vv {az B:List V} {r:Bool} (h:jH az B=some r):∃a b,gE az=some a/\gE B=some b/\a.length=b.length/\r=(a==b):=by
 unfold jH at h;split at h
 .rename_i a b h1 t;split at h
  .rename_i u;simp only[ζa]at h;exact⟨a,b,h1,t,u,h.symm⟩
  .simp at h
 .simp at h
end Go.VE
namespace Go.VE
variable [bN]
section
variable {P:Program} {E:Env} {I:b9} {μ:Mu} {n:Nat} {F:Frame} {a:Act} {w:World}
theorem Li (f:BinOp) (t:TypeId) (p q:Operand) (k B:IntKind) (m m':Int):(eqGuard f t p q (.int k m) (.int B m')).run P w=.ok () w:=by
 unfold eqGuard;cases f <;> simp
theorem Kl (f:BinOp) (t:TypeId) (p q:Operand) (s B:ByteArray):(eqGuard f t p q (.string s) (.string B)).run P w=.ok () w:=by
 unfold eqGuard;cases f <;> simp
theorem Jw (f:BinOp) (t:TypeId) (p q:Operand) (s B:Bool):(eqGuard f t p q (.bool s) (.bool B)).run P w=.ok () w:=by
 unfold eqGuard;cases f <;> simp
theorem FW (d:Nat) {t:TypeId} (x y:Bool) (h:P.underlying t=some .bool):(Op.equalIn (d+1) t (.bool x) (.bool y)).run P w=.ok (x==y) w:=by
 simp only[Op.equalIn,Sem.run_bind,dc h,Result.andThen_ok,Sem.run_pure]
theorem Bl {t:TypeId} (x y:Bool) (h:P.underlying t=some .bool):(Op.equal t (.bool x) (.bool y)).run P w=.ok (x==y) w:=
 FW 9999 x y h
theorem zx (d:Nat) {t:TypeId} {k:IntKind} (x y:Int) (h:P.underlying t=some (.int k)):(Op.equalIn (d+1) t (.int k x) (.int k y)).run P w=.ok (x==y) w:=by
 simp only[Op.equalIn,Sem.run_bind,dc h,Result.andThen_ok,Sem.run_pure,if_true]
theorem DF (d:Nat) {t e:TypeId} (B:Option Addr) (l c:Nat) (h:P.underlying t=some (.slice e)):(Op.equalIn (d+1) t (.slice B l c) (.slice none 0 0)).run P w=.ok B.isNone w:=by
 cases B <;> simp only[Op.equalIn,Sem.run_bind,dc h,Result.andThen_ok,Sem.run_pure] <;> rfl
theorem Gn (d:Nat) {t e:TypeId} (B:Option Addr) (h:P.underlying t=some (.pointer e)):(Op.equalIn (d+1) t (.pointer B) (.pointer none)).run P w=.ok B.isNone w:=by
 cases B <;> simp only[Op.equalIn,Sem.run_bind,dc h,Result.andThen_ok,Sem.run_pure] <;> rfl
theorem Gu (d:Nat) {t e D:TypeId} (B:Option Nat) (h:P.underlying t=some (.map e D)):(Op.equalIn (d+1) t (.map B) (.map none)).run P w=.ok B.isNone w:=by
 cases B <;> simp only[Op.equalIn,Sem.run_bind,dc h,Result.andThen_ok,Sem.run_pure] <;> rfl
theorem C7 (U:dV P E) {t:TypeId} {k:TK} {x y:V} {u v:Value} {b:Bool} (hk:E.kindOf t=some k) (h:sN k x y=some b) (B:bA I μ x u) (D:bA I μ y v) :
 (Op.equal t u v).run P w=.ok b w/\(∀op p q,(eqGuard op t p q u v).run P w=.ok () w)/\binOp .eql t u v=(do pure (.bool (<-Op.equal t u v)))/\binOp .neq t u v=(do pure (.bool (!(<-Op.equal t u v)))):=by
 obtain⟨d,S,L⟩:=eR hk;obtain⟨desc,h1,A,_⟩:=(U.ty S).dc;rw[L]at A;have hsl:∀(e:TypeId) (z:Option Addr) (l c:Nat),P.underlying t=some (.slice e)->b=z.isNone ->
  (Op.equal t (.slice z l c) (.slice none 0 0)).run P w=.ok b w/\(∀op p q,(eqGuard op t p q (.slice z l c) (.slice none 0 0)).run P w=.ok () w)/\binOp .eql t (.slice z l c) (.slice none 0 0)=(do pure (.bool (<-Op.equal t (.slice z l c) (.slice none 0 0))))/\binOp .neq t (.slice z l c) (.slice none 0 0)=(do pure (.bool (!(<-Op.equal t (.slice z l c) (.slice none 0 0))))):=by
  intro e z l c hu J;refine⟨?_,λop p q=>by unfold eqGuard;cases op <;> simp,rfl,rfl⟩
  rw[J];exact DF 9999 z l c hu
 have C:∀(e:TypeId) (z:Option Addr),P.underlying t=some (.pointer e)->b=z.isNone ->
  (Op.equal t (.pointer z) (.pointer none)).run P w=.ok b w/\(∀op p q,(eqGuard op t p q (.pointer z) (.pointer none)).run P w=.ok () w)/\binOp .eql t (.pointer z) (.pointer none)=(do pure (.bool (<-Op.equal t (.pointer z) (.pointer none))))/\binOp .neq t (.pointer z) (.pointer none)=(do pure (.bool (!(<-Op.equal t (.pointer z) (.pointer none))))):=by
  intro e z hu J;refine⟨?_,λop p q=>by unfold eqGuard;cases op <;> simp,rfl,rfl⟩
  rw[J];exact Gn 9999 z hu
 have G:∀(e Q:TypeId) (z:Option Nat),P.underlying t=some (.map e Q)->b=z.isNone ->
  (Op.equal t (.map z) (.map none)).run P w=.ok b w/\(∀op p q,(eqGuard op t p q (.map z) (.map none)).run P w=.ok () w)/\binOp .eql t (.map z) (.map none)=(do pure (.bool (<-Op.equal t (.map z) (.map none))))/\binOp .neq t (.map z) (.map none)=(do pure (.bool (!(<-Op.equal t (.map z) (.map none))))):=by
  intro e Q z hu J;refine⟨?_,λop p q=>by unfold eqGuard;cases op <;> simp,rfl,rfl⟩
  rw[J];exact Gu 9999 z hu
 unfold sN at h;split at h <;> (try (simp only[ζa]at h;subst h))
 .have:=iG A;subst this;rw[B.kB,D.kB];exact hsl _ none 0 0 h1 rfl
 .have:=iG A;subst this;rw[D.kB];have T:=B.kC
  cases T with
  | fsl0 _ z cap=>exact hsl _ _ _ _ h1 rfl
  | fsl=>exact hsl _ _ _ _ h1 rfl
 .have:=iG A;subst this;rw[D.kB];rcases B.kE with⟨p,cap,_,_,_,_,O⟩|⟨_,z,O⟩
  .rw[O];exact hsl _ _ _ _ h1 rfl
  .rw[O];exact hsl _ _ _ _ h1 rfl
 .obtain⟨e,rfl⟩:∃e,desc=.pointer e:=by cases desc <;> simp_all [kK]
  cases B with|c _ _ B=>cases B;cases D with|c _ _ D=>cases D;exact C _ none h1 rfl
 .obtain⟨e,rfl⟩:∃e,desc=.pointer e:=by cases desc <;> simp_all [kK]
  cases D with|c _ _ D=>cases D;cases B with|c _ _ B=>cases B;exact C _ _ h1 rfl
 .obtain⟨e,rfl⟩:∃e,desc=.pointer e:=by cases desc <;> simp_all [kK]
  cases D with
  | c _ _ D=>
   cases D
   cases B with
   | c _ _ B=>cases B
   | hptr=>exact C _ _ h1 rfl
 .have:=xG A;subst this;cases B with|c _ _ B=>cases B;cases D with|c _ _ D=>cases D;exact G _ _ none h1 rfl
 .have:=xG A;subst this;cases D with|c _ _ D=>cases D;cases B with|c _ _ B=>cases B;exact G _ _ _ h1 rfl
 .have:=xG A;subst this
  cases D with
  | c _ _ D=>
   cases D
   cases B with
   | c _ _ B=>cases B
   | hmap=>exact G _ _ _ h1 rfl
 .cases h
theorem Qk (G:dV P E) {op:BinOp} {t:TypeId} {x y z:V} {u v:Value} (p q:Operand) (h:E4 E op t x y=some z) (J:bA I μ x u) (O:bA I μ y v) :
 ∃r,(do eqGuard op t p q u v;binOp op t u v).run P w=.ok r w/\bA I μ z r:=by
 unfold E4 at h;split at h
 .
  rename_i k m k' m';rw[J.eP,O.eP];simp only[Sem.run_bind,Li,Result.andThen_ok];split at h
  .
   split at h
   .simp at h
   .rename_i A;simp only[ζa]at h;subst h;exact⟨_,by simp[binOp,Op.shift,A],.c _ _ (.int _ _)⟩
  .split at h
   .simp at h
   .rename_i A;simp only[ζa]at h;subst h;exact⟨_,by simp[binOp,Op.shift,A],.c _ _ (.int _ _)⟩
  .split at h
   .rename_i T U hk;subst hk
    cases op with
    | shl=>exact absurd rfl T
    | shr=>exact absurd rfl U
    | add=>simp only[ζa]at h;subst h;exact⟨_,by simp[binOp,Op.intArith],.c _ _ (.int _ _)⟩
    | sub=>simp only[ζa]at h;subst h;exact⟨_,by simp[binOp,Op.intArith],.c _ _ (.int _ _)⟩
    | mul=>simp only[ζa]at h;subst h;exact⟨_,by simp[binOp,Op.intArith],.c _ _ (.int _ _)⟩
    | quo=>
     simp only at h;split at h
     .simp at h
     .rename_i A;simp only[ζa]at h;subst h;exact⟨_,by simp[binOp,Op.intDiv,A],.c _ _ (.int _ _)⟩
    | rem=>
     simp only at h;split at h
     .simp at h
     .rename_i A;simp only[ζa]at h;subst h;exact⟨_,by simp[binOp,Op.intDiv,A],.c _ _ (.int _ _)⟩
    | and=>simp only[ζa]at h;subst h;exact⟨_,by simp[binOp,Op.intBits],.c _ _ (.int _ _)⟩
    | or=>simp only[ζa]at h;subst h;exact⟨_,by simp[binOp,Op.intBits],.c _ _ (.int _ _)⟩
    | xor=>simp only[ζa]at h;subst h;exact⟨_,by simp[binOp,Op.intBits],.c _ _ (.int _ _)⟩
    | andNot=>simp only[ζa]at h;subst h;exact⟨_,by simp[binOp,Op.intBits],.c _ _ (.int _ _)⟩
    | eql=>simp only[mA,Option.map_some,ζa]at h;subst h;exact⟨_,by simp[binOp,Op.intCmp],.c _ _ (.bool _)⟩
    | neq=>simp only[mA,Option.map_some,ζa]at h;subst h;exact⟨_,by simp[binOp,Op.intCmp],.c _ _ (.bool _)⟩
    | lss=>simp only[mA,Option.map_some,ζa]at h;subst h;exact⟨_,by simp[binOp,Op.intCmp],.c _ _ (.bool _)⟩
    | leq=>simp only[mA,Option.map_some,ζa]at h;subst h;exact⟨_,by simp[binOp,Op.intCmp],.c _ _ (.bool _)⟩
    | gtr=>simp only[mA,Option.map_some,ζa]at h;subst h;exact⟨_,by simp[binOp,Op.intCmp],.c _ _ (.bool _)⟩
    | geq=>simp only[mA,Option.map_some,ζa]at h;subst h;exact⟨_,by simp[binOp,Op.intCmp],.c _ _ (.bool _)⟩
   .simp at h
 .
  rename_i s s';rw[J.rI,O.rI];simp only[Sem.run_bind,Kl,Result.andThen_ok];split at h
  .split at h
   .simp at h
   .rename_i A;simp only[ζa]at h;subst h;exact⟨_,by simp only[binOp,Op.stringOp];rw[if_neg A];rfl,.c _ _ (.str _)⟩
  all_goals first
   | (simp only[ζa]at h;subst h;exact⟨_,by simp[binOp,Op.stringOp],.c _ _ (.bool _)⟩)
   | simp at h
 .
  rename_i b b';rw[J.qf,O.qf];simp only[Sem.run_bind,Jw,Result.andThen_ok];split at h
  .rename_i hk;obtain⟨d,W,C⟩:=eR hk;obtain⟨desc,h1,B,_⟩:=(G.ty W).dc;rw[C]at B;have:=GR B;subst this;simp only[ζa]at h;subst h;exact⟨_,by simp only[binOp,Sem.run_bind,Bl _ _ h1,Result.andThen_ok,Sem.run_pure],.c _ _ (.bool _)⟩
  .rename_i hk;obtain⟨d,W,C⟩:=eR hk;obtain⟨desc,h1,B,_⟩:=(G.ty W).dc;rw[C]at B;have:=GR B;subst this;simp only[ζa]at h;subst h;exact⟨_,by simp only[binOp,Sem.run_bind,Bl _ _ h1,Result.andThen_ok,Sem.run_pure],.c _ _ (.bool _)⟩
  .simp at h
 .
  rename_i az bs;obtain⟨va,rfl,L⟩:=J.gR;obtain⟨vb,rfl,Q⟩:=O.gR;split at h
  .rename_i m D;split at h
   .rename_i Z;simp only[ζf]at h;obtain⟨r,hr,rfl⟩:=h;obtain⟨X,Y,h1,B,S,rfl⟩:=vv hr;obtain⟨rfl,e1⟩:=oK h1 L;obtain⟨rfl,e2⟩:=oK B Q;exact⟨_,(G.eqN _ _ D).eq w p q X Y (by omega) (by omega),.c _ _ (.bool _)⟩
   .simp at h
  .rename_i m D;split at h
   .rename_i Z;simp only[ζf]at h;obtain⟨r,hr,rfl⟩:=h;obtain⟨X,Y,h1,B,S,rfl⟩:=vv hr;obtain⟨rfl,e1⟩:=oK h1 L;obtain⟨rfl,e2⟩:=oK B Q;exact⟨_,(G.eqN _ _ D).ne w p q X Y (by omega) (by omega),.c _ _ (.bool _)⟩
   .simp at h
  .simp at h
 .
  split at h
  .rename_i k hk;simp only[ζf]at h;obtain⟨b,A,rfl⟩:=h;obtain⟨h1,B,S,_⟩:=C7 (w:=w) G hk A J O;exact⟨.bool b,by rw[Sem.run_bind,B,S];simp[Result.andThen,h1],.c _ _ (.bool _)⟩
  .rename_i k hk;simp only[ζf]at h;obtain⟨b,A,rfl⟩:=h;obtain⟨h1,B,_,S⟩:=C7 (w:=w) G hk A J O;exact⟨.bool !b,by rw[Sem.run_bind,B,S];simp[Result.andThen,h1],.c _ _ (.bool _)⟩
  .simp at h
end
end Go.VE
namespace Go.VE
variable [bN]
section
variable {P:Program} {E:Env} {I:b9} {μ:Mu} {n:Nat} {F:Frame} {a:Act} {w:World}
theorem GN (off:Nat):∀(l:List Value) (k:Nat) (cells:Array Value),off+k+l.length<=cells.size ->
 ((l.zipIdx k).foldl (λcs (p:Value×Nat)=>cs.setIfInBounds (off+p.2) p.1) cells).toList=cells.toList.take (off+k)++l++cells.toList.drop (off+k+l.length):=by
 intro l
 induction l with
 | nil=>simp_all
 | cons v l t=>
  intro k cells h;simp  at h;simp;rw[t (k+1) _ (by simp;omega)]
  simp;rw[show off+(k+1)=off+k+1 from by omega,List.take_succ_eq_append_getElem (by grind)]
  rw[List.take_set_of_le (by omega),List.getElem_set_self]
  rw[List.drop_set_of_lt (by omega)]
  grind
theorem HS {cs xs:List V} {cells:Array Value} {v:Value} {off:Nat} (h:cz I μ cs cells.toList) (B:cz I μ xs v.cells.toList) (D:off+xs.length<=cs.length) :
 cz I μ (cs.take off++xs++cs.drop (off+xs.length)) (v.cells.zipIdx.foldl (λcs (p:Value×Nat)=>cs.setIfInBounds (off+p.2) p.1) cells).toList:=by
 have e:v.cells.zipIdx.foldl (λcs p=>cs.setIfInBounds (off+p.2) p.1) cells=(v.cells.toList.zipIdx 0).foldl (λcs p=>cs.setIfInBounds (off+p.2) p.1) cells:=by
  rw[<-Array.foldl_toList];simp
 have h1:=h.1;have t:=B.1;rw[e,GN off _ 0 _ (by grind)]
 rw[<-t];exact((h.take off).append B).append (h.drop _)
theorem Ae {place place':Nat->Option (Nat×Nat)} (O:∀i p,place i=some p->place' i=some p):∀(vs:List (Nat×V)) (B:List (Nat×Value)) (cs r:List V) (cells:Array Value),
 vs.length=B.length->(∀(j:Nat) x y,vs[j]? = some x->B[j]? = some y->x.1=y.1/\bA I μ x.2 y.2)->cz I μ cs cells.toList->sq place cs vs=some r ->
 ∃D,Instr.fill place' cells B=some D/\cz I μ r D.toList:=by
 intro vs
 induction vs with
 | nil=>
  intro B cs r cells G _ hc u
  cases B with
  | nil=>simp[sq]at u;subst u;exact⟨cells,rfl,hc⟩
  | cons _ _=>simp_all
 | cons x vs L=>
  intro B cs r cells G hr hc u
  cases B with
  | nil=>simp_all
  | cons y B=>
   obtain⟨i,x⟩:=x;obtain⟨Q,y⟩:=y;obtain⟨z,w⟩:=hr 0 (i,x) (Q,y) rfl rfl;subst z;simp only at w;simp only[sq]at u;split at u
   .simp at u
   .rename_i off size A;split at u
    .simp at u
    .rename_i S;have t:=w.cells;have J:x.cells.length=y.cells.size:=by simpa using t.1
     have T:cs.length=cells.size:=by simpa using hc.1
     have C:¬(decide (y.cells.size≠size)||decide (off+y.cells.size>cells.size))=true:=by
      grind
     simp  at S;obtain⟨D,h1,U⟩:=L B _ r _ (by simpa using G) (λj a b p q=>hr (j+1) a b (by simpa using p) (by simpa using q)) (HS hc t (by omega)) u
     refine⟨D,?_,U⟩;simp only[Instr.fill,O _ _ A];rw[if_neg C];omega
theorem Lh (ps:Array (Nat×Operand)) (f:Operand->Value):(ps.map λ(i,x)=>(i,f x)).toList=ps.toList.map λp=>(p.1,f p.2):=by simp
theorem C5 {ps:Array (Nat×Operand)} {vs:List (Nat×V)} (r:dQ I μ n F a.tmps) (h:kM F ps.toList=some vs) :
 vs.length=(ps.map λ(i,x)=>(i,a.eval x)).toList.length/\∀(j:Nat) x y,vs[j]? = some x->(ps.map λ(i,x)=>(i,a.eval x)).toList[j]? = some y->x.1=y.1/\bA I μ x.2 y.2:=by
 obtain⟨t,hr⟩:=Jx r h;rw[Lh]
 grind
theorem JL (D:dV P E):∀(B:List Field) (pl:List (Nat×Nat)),lN E (B.map λf=>(f.offset,f.type))=some pl ->
 ((B.mapM λf=>do pure (f.offset,<-sizeOf f.type)):Sem (List (Nat×Nat))).run P w=.ok pl w:=by
 intro B
 induction B with
 | nil=>intro pl h;simp[lN]at h;simp_all
 | cons f B u=>
  intro pl h;simp[lN]at h;split at h
  .rename_i d ps z t;simp  at h;subst h;have:=u _ t;simp only[List.mapM_cons,Sem.run_bind,(D.ty z).gK,Result.andThen_ok,Sem.run_pure,this]
  grind
theorem HU (D:dV P E) (B:Array Field) (pl:List (Nat×Nat)) (h:lN E (B.toList.map λf=>(f.offset,f.type))=some pl) :
 ((B.mapM λf=>do pure (f.offset,<-sizeOf f.type)):Sem (Array (Nat×Nat))).run P w=.ok pl.toArray w:=by
 rw[Array.mapM_eq_mapM_toList];simp only[Sem.run_map,JL D _ _ h,Result.andThen_ok]
theorem Lz (B:dV P E) (r:dQ I μ n F a.tmps) {t:TypeId} {ps:Array (Nat×Operand)} {x:V} (h:bE E F (.build t ps)=some x) :
 ∃v,(Instr.build t (ps.map λ(i,x)=>(i,a.eval x))).run P w=.ok v w/\bA I μ x v:=by
 simp[bE]at h;split at h
 .rename_i d Q S C;obtain⟨T,hr⟩:=C5 r C;obtain⟨z,W,u,_⟩:=(B.ty S).yg;obtain⟨desc,h1,A,X⟩:=(B.ty S).dc;unfold Instr.build;simp[Sem.run_bind,W,X,Result.andThen_ok];split at h
  .rename_i fs hk;rw[hk]at A;obtain⟨Y,rfl,rfl⟩:=xZ A;split at h
   .rename_i pl D;simp  at h;obtain⟨G,J,rfl⟩:=h;obtain⟨L,g1,g2⟩:=Ae (place':=λi=>pl.toArray[i]?) (by grind) Q _ d.zero G z.cells T hr (u I μ) J
    refine⟨.agg L,?_,.DS g2⟩;have:=HU (w:=w) B Y pl D;simp_all
   grind
  .rename_i e hk;rw[hk]at A;have:=z_ A;subst this;split at h
   .rename_i U O;simp  at h;obtain⟨G,J,rfl⟩:=h;obtain⟨L,g1,g2⟩:=Ae (place':=λi=>some (i*U.size,U.size)) (by grind) Q _ d.zero G z.cells T hr (u I μ) J
    refine⟨.agg L,?_,.DS g2⟩;simp[Sem.run_bind,(B.ty O).gK,Result.andThen_ok];simp_all
   grind
  grind
 grind
theorem oD (b o k:Nat):(⟨b,o,none⟩:Addr).add k=⟨b,o+k,none⟩:=by
 unfold Addr.add;grind
theorem CB {cs:List V} {b o:Nat} {c:Array Value} (k:Nat) (B:I b=some (.cells c)) (D:o+cs.length<=c.size)
 (hr:∀(j:Nat) y u,cs[j]? = some y->c[o+j]? = some u->dU I y u) (hk:k<=cs.length):bA I μ (.fptr (cs.drop k)) (.pointer (some ⟨b,o+k,none⟩)):=
 .c _ _ (.fptr _ b (o+k) c B (by simp;omega) λj y u h1 t=>hr (k+j) y u (by grind) (by grind))
theorem H7 (J:dV P E) (r:dQ I μ n F a.tmps) {s:TypeId} {o:Operand} {f:Nat} {x:V} (h:bE E F (.fieldAddr s o f)=some x) :
 ∃v,(Instr.fieldAt s (a.eval o) f).run P w=.ok v w/\bA I μ x v:=by
 simp[bE]at h;split at h
 .rename_i fs p hk Q;obtain⟨d,S,B⟩:=eR hk;obtain⟨desc,h1,L,T⟩:=(J.ty S).dc;rw[B]at L;obtain⟨U,rfl,rfl⟩:=xZ L;have hv:=c9 r Q;split at h
  .rename_i off t O;simp  at O;obtain⟨fd,W,rfl,rfl⟩:=O;have z:U[f]? = some fd:=by grind
   split at h
   .rename_i dt C;split at h
    .simp_all
    .rename_i D;have A:∀(b u:Nat),(Instr.fieldAt s (.pointer (some ⟨b,u,none⟩)) f).run P w=.ok (.pointer (some ⟨b,u+fd.offset,none⟩)) w:=by
      intro b u;unfold Instr.fieldAt;simp[Sem.run_bind,T,Result.andThen_ok,z,Instr.sureAddr,Sem.run_pure,fieldPlace,(J.ty C).gK,if_neg D,oD]
     split at h
     .split at h
      .rename_i G;simp  at h;subst h;obtain⟨b,u,c,e,X,Y,hr⟩:=hv.kI;rw[e];exact⟨_,A b u,CB _ X Y hr G⟩
      grind
     .rename_i id el u;simp  at h;obtain⟨p,Z,e⟩:=hv.rK;rw[e];have:=bA.hptr (I:=I)  id el (u+fd.offset) p Z
      grind
     grind
   grind
  grind
 grind
theorem L6 (D:dV P E) (r:dQ I μ n F a.tmps) {s:TypeId} {o:Operand} {f:Nat} {x:V} (h:bE E F (.field s o f)=some x) :
 ∃v,(Instr.field s (a.eval o) f).run P w=.ok v w/\bA I μ x v:=by
 simp[bE]at h;split at h
 .rename_i fs Y hk L;obtain⟨d,O,A⟩:=eR hk;obtain⟨desc,h1,G,Q⟩:=(D.ty O).dc;rw[A]at G;obtain⟨S,rfl,rfl⟩:=xZ G;obtain⟨Z,e,B⟩:=(c9 r L).gR;rw[e];split at h
  .rename_i off t J;simp  at J;obtain⟨fd,T,rfl,rfl⟩:=J;have z:S[f]? = some fd:=by grind
   split at h
   .rename_i dt C;simp[ζg]at h;obtain⟨q,U,W⟩:=h;obtain⟨u,hu,X⟩:=FZ (w:=w) (D.ty C) B U W;refine⟨u,?_,X⟩;unfold Instr.field;simp[Sem.run_bind,Q,Result.andThen_ok,z,asAgg,Sem.run_pure,hu]
   grind
  grind
 grind
theorem kq (k:IntKind) (m:Int):(asIntOf (.int k m)).run P w=.ok (k,m) w:=rfl
theorem Ij (U:dV P E) (r:dQ I μ n F a.tmps) {t:TypeId} {o i:Operand} {x:V} (h:bE E F (.indexAddr t o i)=some x) :
 ∃v,(Instr.indexAt t (a.eval o) (a.eval i)).run P w=.ok v w/\bA I μ x v:=by
 simp[bE]at h;split at h
 .
  rename_i e s k m hk W X;obtain⟨d,Y,D⟩:=eR hk;obtain⟨desc,h1,O,Z⟩:=(U.ty Y).dc;rw[D]at O;have:=iG O;subst this;have hv:=c9 r W;have G:=(c9 r X).eP;rw[G];split at h
  .rename_i S J;split at h
   .simp_all
   .have A:∀(b z len cap:Nat),m.toNat<len->(Instr.indexAt t (.slice (some ⟨b,z,none⟩) len cap) (.int k m)).run P w=.ok (.pointer (some ⟨b,z+m.toNat*S.size,none⟩)) w:=by
     intro b z len cap B;unfold Instr.indexAt;have hc:0<=m/\m<(len):=by omega
     simp[Sem.run_bind,kq,Z,Result.andThen_ok,Sem.run_pure,(U.ty J).gK,Sem.run_ite,if_pos hc,oD]
    split at h
    .rename_i es xs;split at h
     .rename_i C;simp only[ζf]at h;obtain⟨T,L,rfl⟩:=h;have B:m.toNat<xs.length:=(ζe.1 L).1;have hf:=hv.kC;generalize hg:a.eval o=g at hf
      cases hf with
      | fsl0=>simp_all
      | fsl _ _ b z cap c hI hc hu ho hb hr=>
       refine⟨_,A b z _ _ B,?_⟩;have Q:T∈xs:=List.mem_of_getElem? L;have ad:=hu T Q;have aa:(m.toNat+1)*es<=xs.length*es:=Nat.mul_le_mul_right _ B;rw[Nat.add_mul]at aa;rw[<-C];exact .c _ _ (.fptr T b _ c hI (by omega) λj y u p q=>hr m.toNat j T y u L p q)
     grind
    .rename_i id es off len;split at h
     .rename_i C;simp only[ζa]at h;obtain⟨C,B⟩:=C;rcases hv.kE with⟨p,cap,hm,he,hc,hb,e⟩|⟨h0,_⟩
      .rw[e];have:=bA.hptr (I:=I) (μ:=μ) id (off+m.toNat) 0 p hm
       grind
      omega
     grind
    grind
  grind
 .
  rename_i len e p k m hk W X;obtain⟨d,Y,D⟩:=eR hk;obtain⟨desc,h1,O,Z⟩:=(U.ty Y).dc;rw[D]at O;have:=z_ O;subst this;have hv:=c9 r W;have G:=(c9 r X).eP;rw[G];split at h
  .rename_i S J;split at h
   .rename_i hc;have A:∀(b z:Nat),(Instr.indexAt t (.pointer (some ⟨b,z,none⟩)) (.int k m)).run P w=.ok (.pointer (some ⟨b,z+m.toNat*S.size,none⟩)) w:=by
     intro b z;unfold Instr.indexAt;simp only[Sem.run_bind,kq,Z,Result.andThen_ok,Sem.run_pure,Instr.sureAddr,(U.ty J).gK,Sem.run_ite,if_pos hc,oD]
    split at h
    .split at h
     .rename_i ab;simp only[ζa]at h;subst h;obtain⟨b,z,c,e,hI,hb,hr⟩:=hv.kI;rw[e];exact⟨_,A b z,CB _ hI hb hr ab⟩
     grind
    .rename_i id el z;simp only[ζa]at h;obtain⟨p,hm,e⟩:=hv.rK;rw[e];have:=bA.hptr (I:=I) (μ:=μ) id el (z+m.toNat*S.size) p hm
     grind
    grind
   grind
  grind
 grind
end
end Go.VE
namespace Go.VE
variable [bN]
section
variable {P:Program} {E:Env} {I:b9} {μ:Mu} {n:Nat} {F:Frame} {a:Act} {w:World}
theorem Mg (D:dV P E) (r:dQ I μ n F a.tmps) {t:TypeId} {o i:Operand} {x:V} (h:bE E F (.index t o i)=some x) :
 ∃v,(Instr.index t (a.eval o) (a.eval i)).run P w=.ok v w/\bA I μ x v:=by
 simp[bE]at h;split at h
 .rename_i s k m hk C G;obtain⟨d,J,z⟩:=eR hk;obtain⟨desc,h1,A,L⟩:=(D.ty J).dc;rw[z]at A;have:=yq A;subst this;rw[(c9 r G).eP,(c9 r C).rI];split at h
  .rename_i hc;simp  at h;obtain⟨b,Q,rfl⟩:=h;refine⟨.int .u8 b.toNat,?_,.c _ _ (.int _ _)⟩;unfold Instr.index;simp[Sem.run_bind,kq,L,Result.andThen_ok,if_pos hc,Q,Sem.run_pure]
  grind
 .rename_i len e W k m hk C G;obtain⟨d,J,z⟩:=eR hk;obtain⟨desc,h1,A,L⟩:=(D.ty J).dc;rw[z]at A;have:=z_ A;subst this;obtain⟨X,ev,O⟩:=(c9 r C).gR;rw[(c9 r G).eP,ev];split at h
  .rename_i Y B;split at h
   .rename_i hc;simp[ζg]at h;obtain⟨q,S,T⟩:=h;obtain⟨u,hu,U⟩:=FZ (w:=w) (D.ty B) O S T;refine⟨u,?_,U⟩;unfold Instr.index;simp[Sem.run_bind,kq,L,Result.andThen_ok,Sem.run_ite,if_pos hc,(D.ty B).gK,hu]
   grind
  grind
 grind
theorem Jt (B:dV P E) (r:dQ I μ n F a.tmps) {s d:TypeId} {o:Operand} {x:V} (h:bE E F (.convert s d o)=some x) :
 ∃v,(convert s d (a.eval o)).run P w=.ok v w/\bA I μ x v:=by
 simp[bE]at h;split at h
 .rename_i D G k m u z A;split at h
  .rename_i J hk;simp  at h;subst h;obtain⟨d1,g1,_,g3⟩:=(B.ty u).dc;obtain⟨d2,h1,t,C⟩:=(B.ty z).dc;rw[hk]at t;have:=Bu t;subst this;rw[(c9 r A).eP];refine⟨_,?_,.c _ _ (.int _ _)⟩;unfold convert;simp[Sem.run_bind,g3,C,Result.andThen_ok,Conv.intToInt,Sem.run_pure]
  grind
 grind
theorem oF (r:dQ I μ n F a.tmps) {o:Option Operand} {m:Option Int} (h:iX F o=some m) :
 (m=none/\o.map a.eval=none)\/∃k z,m=some z/\o.map a.eval=some (.int k z):=by
 cases o with
 | none=>simp[iX]at h;grind
 | some x=>
  simp[iX]at h;split at h
  .rename_i k z t;simp  at h;subst h;exact .inr ⟨k,z,rfl,by simp[(c9 r t).eP]⟩
  grind
theorem kY (k:IntKind) (z:Int) (y:Nat) (code:BoundsCode) (h0:0<=z) (h1:z<=y):(Instr.sliceBound (.int k z) y code).run P w=.ok z.toNat w:=by
 unfold Instr.sliceBound;simp[Sem.run_bind,kq,Result.andThen_ok,if_pos (And.intro h0 h1),Sem.run_pure]
theorem kD (r:dQ I μ n F a.tmps) {G J:Option Operand} {l h:Option Int} (e1:iX F G=some l) (e2:iX F J=some h) (D:Bool) (len cap L H:Nat) (hc:len<=cap)
 (B:dD len l h=some (L,H)):(Instr.sliceBounds D len cap (G.map a.eval) (J.map a.eval) none).run P w=.ok (L,H,cap) w/\L<=H/\H<=len:=by
 unfold dD at B;simp only at B;split at B
 .rename_i t;obtain⟨rfl,rfl⟩:=B;obtain⟨A,S,C,T⟩:=t;refine⟨?_,by omega,by omega⟩
  unfold Instr.sliceBounds;rcases oF r e1 with⟨rfl,O⟩|⟨k1,z,rfl,O⟩ <;> rcases oF r e2 with⟨rfl,Q⟩|⟨k2,u,rfl,Q⟩ <;>
   simp only[O,Q,Option.getD_some]at A S C T ⊢
  .simp_all
  .simp only[Sem.run_pure,Result.andThen_ok,Sem.run_bind,kY k2 u _ _ A (show u<=cap by omega)]
   simp
  .simp only[Sem.run_pure,Result.andThen_ok,Sem.run_bind,kY k1 z _ _ C (show z<=len by omega)]
   simp
  .simp[Sem.run_pure,Result.andThen_ok,Sem.run_bind,kY k2 u _ _ A (show u<=cap by omega),kY k1 z _ _ C (show z<=u.toNat by omega)]
 grind
theorem Ch {es:Nat} {xs:List (List V)} {v:Value} {L H:Nat} (h:dU I (.fsl es xs) v) (h1:L<=H) (D:H<=xs.length) :
 ∃B len cap,v=.slice B len cap/\len=xs.length/\len<=cap/\dU I (.fsl es ((xs.take H).drop L)) (.slice (if cap=L then B else B.map (·.add (L*es))) (H-L) (cap-L)):=by
 cases h with
 | fsl0 _ B cap=>
  simp at D;have w:L=0:=by omega
  subst D;subst w;refine⟨some B,0,cap,rfl,rfl,Nat.zero_le _,?_⟩;have:=dU.fsl0 (I:=I) es B cap;split
  .grind
  .simpa [Addr.add]using dU.fsl0  es (B.add (0*es)) cap
 | fsl _ _ b o cap c z hc hu A G hr=>
  refine⟨_,_,cap,rfl,rfl,hc,?_⟩;have t:((xs.take H).drop L).length=H-L:=by simp_all
  by_cases C:H-L=0
  .have:(xs.take H).drop L=[]:=List.eq_nil_of_length_eq_zero (by grind)
   rw[this,C];split
   .exact .fsl0 es _ _
   .exact .fsl0 es _ _
  .simp[oD];have e:dU I (.fsl es ((xs.take H).drop L)) (.slice (some ⟨b,o+L*es,none⟩) ((xs.take H).drop L).length (cap-L)):=by
    refine .fsl es _ b (o+L*es) (cap-L) c z (by grind) (λx u=>hu x (List.mem_of_mem_take (List.mem_of_mem_drop u))) (λx u=>A x (List.mem_of_mem_take (List.mem_of_mem_drop u))) ?_ ?_
    .rw[t];have:L*es+(H-L)*es<=xs.length*es:=by rw[<-Nat.add_mul];exact Nat.mul_le_mul_right _ (by omega)
     omega
    grind
   grind
theorem LV (hE:dV P E) (r:dQ I μ n F a.tmps) {t:TypeId} {o:Operand} {lo hi Y:Option Operand} {x:V} (h:bE E F (.slice t o lo hi Y)=some x) :
 ∃v,(Instr.sliceAt t (a.eval o) (lo.map a.eval) (hi.map a.eval) (Y.map a.eval)).run P w=.ok v w/\bA I μ x v:=by
 simp[bE]at h;split at h
 .
  rename_i s l hh hk ho T B Q;obtain⟨d,hd,S⟩:=eR hk;obtain⟨desc,h1,X,h3⟩:=(hE.ty hd).dc;rw[S]at X;have:=yq X;rw[(c9 r ho).rI];simp only[ζf]at h;obtain⟨⟨L,H⟩,D,rfl⟩:=h;obtain⟨g,_,_⟩:=kD (P:=P) (w:=w) r T B false s.size s.size L H (Nat.le_refl _) D;have hm:Y.map a.eval=none:=by rcases oF r Q with⟨_,q⟩|⟨k,z,e,_⟩;exact q;cases e
  refine⟨.string (s.extract L H),?_,.c _ _ (.str _)⟩;unfold Instr.sliceAt Instr.slice;simp_all
 .rename_i e v l hh hk ho T B Q;obtain⟨d,hd,S⟩:=eR hk;obtain⟨desc,h1,X,h3⟩:=(hE.ty hd).dc;rw[S]at X;have:=iG X;subst this;have hv:=c9 r ho;have hm:Y.map a.eval=none:=by rcases oF r Q with⟨_,q⟩|⟨k,z,e,_⟩;exact q;cases e
  have A:∀(C:Option Addr) (len cap L H:Nat) (G:TD),E.tt e=some G->len<=cap->dD len l hh=some (L,H) ->
   (Instr.sliceAt t (.slice C len cap) (lo.map a.eval) (hi.map a.eval) (Y.map a.eval)).run P w=.ok (.slice (if cap=L then C else C.map (·.add (L*G.size))) (H-L) (cap-L)) w:=by
   intro C len cap L H G u hc D;obtain⟨g,_,_⟩:=kD (P:=P) (w:=w) r T B true len cap L H hc D;unfold Instr.sliceAt Instr.slice;simp[Sem.run_bind,h3,Result.andThen_ok,hm,g,(hE.ty u).gK,Sem.run_pure]
  split at h
  .rename_i G u;split at h
   .rename_i es xs;split at h
    .rename_i Z;simp only[ζf]at h;obtain⟨⟨L,H⟩,D,rfl⟩:=h;obtain⟨_,U,W⟩:=kD (P:=P) (w:=w) r T B true xs.length xs.length L H (Nat.le_refl _) D;obtain⟨C,len,cap,e1,e2,e3,e4⟩:=Ch hv.kC U W;rw[e1];subst e2;refine⟨_,A C _ cap L H G u e3 D,?_⟩;rw[<-Z];exact .c _ _ e4
    grind
   .rename_i id es off len;split at h
    .rename_i Z;simp only[ζf]at h;obtain⟨⟨L,H⟩,D,rfl⟩:=h;obtain⟨_,U,W⟩:=kD (P:=P) (w:=w) r T B true len len L H (Nat.le_refl _) D;rcases hv.kE with⟨p,cap,aa,he,hc,ab,J⟩|⟨h0,C,J⟩
     .rw[J];refine⟨_,A _ _ cap L H G u hc D,?_⟩
      by_cases hz:cap=L
      .have:H-L=0:=by omega
       rw[if_pos hz,this,show cap-L=0 by omega]
       exact .hsl0 id es (off+L) _
      .rw[if_neg hz];simp only[Option.map_some,oD];rw[<-Z];subst he;have:=bA.hsl (I:=I) (μ:=μ) id (off+L) (H-L) (cap-L) p aa (by omega) (by
        have:off+L+(cap-L)=off+cap:=by omega
        rw[this];exact ab)
       rwa [Nat.add_mul,<-Nat.add_assoc]at this
     .rw[J];subst h0;refine⟨_,A _ _ 0 L H G u (Nat.le_refl _) D,?_⟩;have hL:L=0:=by omega
      have hH:H=0:=by omega
      subst hL;subst hH;simpa using bA.hsl0   id es (off+0) C
    grind
   .simp only[ζf]at h;obtain⟨⟨L,H⟩,D,rfl⟩:=h;obtain⟨_,U,W⟩:=kD (P:=P) (w:=w) r T B true 0 0 L H (Nat.le_refl _) D;obtain⟨C,J⟩:=hv.qJ;rw[J];refine⟨_,A C 0 0 L H G u (Nat.le_refl _) D,?_⟩;have hL:L=0:=by omega
    have hH:H=0:=by omega
    subst hL;subst hH;exact .c _ _ (.dg _)
   .simp only[ζf]at h;obtain⟨⟨L,H⟩,D,rfl⟩:=h;obtain⟨_,U,W⟩:=kD (P:=P) (w:=w) r T B true 0 0 L H (Nat.le_refl _) D;have J:=hv.kB;rw[J];refine⟨_,A none 0 0 L H G u (Nat.le_refl _) D,?_⟩;have hL:L=0:=by omega
    have hH:H=0:=by omega
    subst hL;subst hH;exact .c _ _ .bB
   grind
  grind
 .rename_i e v hk ho T B Q;obtain⟨d,hd,S⟩:=eR hk;obtain⟨desc,h1,X,h3⟩:=(hE.ty hd).dc;rw[S]at X;have:=iG X;subst this;have hv:=c9 r ho;have q1:lo.map a.eval=none:=by rcases oF r T with⟨_,q⟩|⟨k,z,e,_⟩;exact q;cases e
  obtain⟨k2,q2⟩:∃k,hi.map a.eval=some (.int k 0):=by
   rcases oF r B with⟨q,_⟩|⟨k,z,e,q⟩
   .cases q
   .cases e;exact⟨k,q⟩
  obtain⟨k3,q3⟩:∃k,Y.map a.eval=some (.int k 0):=by
   rcases oF r Q with⟨q,_⟩|⟨k,z,e,q⟩
   .cases q
   .cases e;exact⟨k,q⟩
  have A:∀(C:Option Addr) (len cap:Nat) (G:TD),E.tt e=some G->∃O,(Instr.sliceAt t (.slice C len cap) (lo.map a.eval) (hi.map a.eval) (Y.map a.eval)).run P w=.ok (.slice O 0 0) w:=by
   intro C len cap G u;refine⟨C,?_⟩;unfold Instr.sliceAt Instr.slice Instr.sliceBounds;simp only[Sem.run_bind,h3,Result.andThen_ok,q1,q2,q3,kY k3 0 cap _ (Int.le_refl _) (by omega),kY k2 0 _ _ (Int.le_refl _) (by simp),(hE.ty u).gK]
   simp
  split at h
  .rename_i G es xs u;simp  at h;subst h;obtain⟨C,len,cap,e1,_⟩:=Ch   hv.kC (Nat.le_refl _) (Nat.zero_le _);rw[e1];obtain⟨O,g⟩:=A C len cap _ u;exact⟨_,g,.c _ _ (.dg _)⟩
  .rename_i G id es off len u;simp  at h;subst h;rcases hv.kE with⟨p,cap,_,_,_,_,J⟩|⟨_,C,J⟩
   .rw[J];obtain⟨O,g⟩:=A _ _ _ _ u;exact⟨_,g,.c _ _ (.dg _)⟩
   .rw[J];obtain⟨O,g⟩:=A _ _ _ _ u;exact⟨_,g,.c _ _ (.dg _)⟩
  .rename_i G u;simp  at h;subst h;obtain⟨C,J⟩:=hv.qJ;rw[J];obtain⟨O,g⟩:=A _ _ _ _ u;exact⟨_,g,.c _ _ (.dg _)⟩
  .rename_i G u;simp only[ζa]at h;subst h;have J:=hv.kB;rw[J];obtain⟨O,g⟩:=A _ _ _ _ u;exact⟨_,g,.c _ _ (.dg _)⟩
  .simp at h
 grind
end
end Go.VE
namespace Go.VE
variable [bN]
section
variable {P:Program} {E:Env} {I:b9} {μ:Mu} {n:Nat} {F:Frame} {a:Act} {w:World}
theorem cz.one {x:V} {vs:List Value} (h:cz I μ [x] vs):∃v,vs=[v]/\bA I μ x v:=by
 obtain⟨v,r,rfl,hv,hr⟩:=h.cons_inv;exact⟨v,by rw[hr.tK],hv⟩
theorem cz.two {x y:V} {vs:List Value} (h:cz I μ [x,y] vs):∃u v,vs=[u,v]/\bA I μ x u/\bA I μ y v:=by
 obtain⟨u,r,rfl,hu,hr⟩:=h.cons_inv;obtain⟨v,rfl,hv⟩:=hr.one;exact⟨u,v,rfl,hu,hv⟩
theorem cz.four {x y z t:V} {vs:List Value} (h:cz I μ [x,y,z,t] vs):∃u v p q,vs=[u,v,p,q]/\bA I μ x u/\bA I μ y v/\bA I μ z p/\bA I μ t q:=by
 obtain⟨u,r,rfl,hu,hr⟩:=h.cons_inv;obtain⟨v,r2,rfl,hv,hr⟩:=hr.cons_inv;obtain⟨p,q,rfl,w,A⟩:=hr.two;exact⟨u,v,p,q,rfl,hu,hv,w,A⟩
theorem qD {args:Array Operand} {l:List Value} (h:args.toList.map a.eval=l):args.map a.eval=l.toArray:=by
 subst h;apply Array.ext';simp
def vr:Option TK->V->Option V
 | some .str,.str s=>some (.int .i64 s.size)
 | some (.slice _),.fsl _ xs=>some (.int .i64 xs.length)
 | some (.slice _),.hsl _ _ _ len=>some (.int .i64 len)
 | some (.slice _),.dg=>some (.int .i64 0)
 | some (.slice _),.bB=>some (.int .i64 0)
 | _,_=>none
theorem Rn (U:dV P E) {t:TypeId} {x z:V} {v:Value} {ty:TypeId} {B:Array TypeId} (D:B[0]? = some t) (G:bA I μ x v)
 (h:vr (E.kindOf t) x=some z):∃u,(Builtin.len_ B ty #[v]).run P w=.ok u w/\bA I μ z u:=by
 cases hk:E.kindOf t with
 | none=>rw[hk]at h;simp[vr]at h
 | some k=>
  rw[hk]at h;obtain⟨d,T,O⟩:=eR hk;obtain⟨desc,h1,Q,S⟩:=(U.ty T).dc;rw[O]at Q
  cases k with
  | str=>
   have:=yq Q;subst this
   cases x with
   | str s=>
    simp only[vr,ζa]at h;subst h;rw[G.rI];refine⟨_,?_,.c _ _ (.int _ _)⟩;unfold Builtin.len_;simp[D,S,goInt]
   | _=>simp[vr]at h
  | slice e=>
   have:=iG Q;subst this;have A:∀C (len cap:Nat),(Builtin.len_ B ty #[.slice C len cap]).run P w=.ok (.int .i64 len) w:=by
    intro C len cap;unfold Builtin.len_;simp[D,S,goInt]
   cases x with
   | fsl es W=>
    simp only[vr,ζa]at h;subst h;obtain⟨C,len,cap,e1,e2,_⟩:=Ch (L:=0) (H:=0) G.kC (Nat.le_refl _) (Nat.zero_le _);rw[e1,<-e2];exact⟨_,A _ _ _,.c _ _ (.int _ _)⟩
   | hsl id es off len=>
    simp only[vr,ζa]at h;subst h;rcases G.kE with⟨p,cap,_,_,_,_,J⟩|⟨h0,C,J⟩
    .rw[J];exact⟨_,A _ _ _,.c _ _ (.int _ _)⟩
    .rw[J,h0];exact⟨_,A _ _ _,.c _ _ (.int _ _)⟩
   | dg=>
    simp only[vr,ζa]at h;subst h;obtain⟨C,J⟩:=G.qJ;rw[J];exact⟨_,A _ _ _,.c _ _ (.int _ _)⟩
   | bB=>
    simp only[vr,ζa]at h;subst h;rw[G.kB];exact⟨_,A _ _ _,.c _ _ (.int _ _)⟩
   | _=>simp[vr]at h
  | _=>simp[vr]at h
def RL:Option TK->V->Option V
 | some (.slice _),.bB=>some (.int .i64 0)
 | some (.slice _),.dg=>some (.int .i64 0)
 | _,_=>none
theorem Sa (O:dV P E) {t:TypeId} {x z:V} {v:Value} {ty:TypeId} {B:Array TypeId} (D:B[0]? = some t) (G:bA I μ x v)
 (h:RL (E.kindOf t) x=some z):∃u,(Builtin.cap_ B ty #[v]).run P w=.ok u w/\bA I μ z u:=by
 have key:∀e A,E.kindOf t=some (.slice e)->v=.slice A 0 0->(Builtin.cap_ B ty #[v]).run P w=.ok (.int .i64 0) w:=λe A hk hv=>by
  obtain⟨d,L,C⟩:=eR hk;obtain⟨desc,h1,J,Q⟩:=(O.ty L).dc;rw[C]at J;have:=iG J;subst this;unfold Builtin.cap_;simp[D,Q,goInt,hv]
 unfold RL at h;split at h
 .rename_i _ _ e hk;cases h;exact⟨_,key _ _ hk G.kB,.c _ _ (.int _ _)⟩
 .rename_i _ _ e hk;cases h;obtain⟨A,q⟩:=G.qJ;exact⟨_,key _ _ hk q,.c _ _ (.int _ _)⟩
 .cases h
theorem dx {s:Sem Value} {v:Value} {w':World} (h:s.run P w=.ok v w'):(do pure (Next.value (<-s)):Sem Next).run P w=.ok (.value v) w':=by
 rw[Sem.run_bind,h];rfl
theorem OZ (D:dV P E) (r:dQ I μ n F a.tmps) (o:Oper) {x:V} (h:bE E F o.op=some x) :
 ∃v,(execOp a.eval o).run P w=.ok (.value v) w/\bA I μ x v:=by
 obtain⟨dst,op,ty,pos,after,guard⟩:=o;simp only at h
 cases op with
 | move y=>exact⟨_,rfl,c9 r (by simpa [bE]using h)⟩
 | assign y=>exact⟨_,rfl,c9 r (by simpa [bE]using h)⟩
 | pick c y z=>
  simp only[bE]at h;simp only[execOp];split at h
  .rename_i t hc;have e:=(c9 r hc).qf;simp only[e,asBool,Sem.run_bind,Sem.run_pure,Result.andThen_ok]
   cases t with
   | true=>simp only[if_true]at h ⊢;exact⟨_,rfl,c9 r h⟩
   | false=>simp only[Bool.false_eq_true,if_false]at h ⊢;exact⟨_,rfl,c9 r h⟩
  .simp at h
 | nilCheck y=>
  simp only[bE]at h;simp only[execOp];split at h
  .rename_i id el off C;simp only[ζa]at h;subst h;have hv:=c9 r C;obtain⟨p,_,e⟩:=hv.rK;rw[e]at hv ⊢;exact⟨_,rfl,hv⟩
  .rename_i Y C;simp only[ζa]at h;subst h;have hv:=c9 r C;obtain⟨b,o,c,e,_⟩:=hv.kI;rw[e]at hv ⊢;exact⟨_,rfl,hv⟩
  .rename_i f u v C;simp only[ζa]at h;subst h;have hv:=c9 r C;obtain⟨b,c,e,_⟩:=hv.jk;rw[e]at hv ⊢;exact⟨_,rfl,hv⟩
  .simp at h
 | binOp op t y z Z=>
  simp only[bE]at h;split at h
  .rename_i u v hu hv;obtain⟨q,L,hr⟩:=Qk (w:=w) D y z h (c9 r hu) (c9 r hv);exact⟨q,dx L,hr⟩
  .simp at h
 | unOp op t y=>
  simp only[bE]at h;simp only[execOp];split at h
  .rename_i b C;simp only[ζa]at h;subst h;rw[(c9 r C).qf];exact⟨_,dx (by simp only[Op.unary];rfl),.c _ _ (.bool _)⟩
  .rename_i k m C;simp only[ζa]at h;subst h;rw[(c9 r C).eP];exact⟨_,dx (by simp only[Op.unary,Op.intArith];rfl),by simpa using bA.c _ _ (.int k _)⟩
  .simp at h
 | convert s d y=>
  obtain⟨v,h1,B⟩:=Jt (w:=w) D r h;exact⟨v,dx h1,B⟩
 | fieldAddr s y f=>
  obtain⟨v,h1,B⟩:=H7 (w:=w) D r h;exact⟨v,dx h1,B⟩
 | field s y f=>
  obtain⟨v,h1,B⟩:=L6 (w:=w) D r h;exact⟨v,dx h1,B⟩
 | indexAddr t y i=>
  obtain⟨v,h1,B⟩:=Ij (w:=w) D r h;exact⟨v,dx h1,B⟩
 | index t y i=>
  obtain⟨v,h1,B⟩:=Mg (w:=w) D r h;exact⟨v,dx h1,B⟩
 | slice t y lo hi mx=>
  obtain⟨v,h1,B⟩:=LV (w:=w) D r h;exact⟨v,dx h1,B⟩
 | build t ps=>
  obtain⟨v,h1,B⟩:=Lz (w:=w) D r h;exact⟨v,dx h1,B⟩
 | makeFunc f u v=>
  cases f with
  | func f=>
   simp only[bE]at h;split at h
   .rename_i O x2 h1 B;simp only[ζa]at h;subst h;have r1:=mm r h1;have r2:=mm r B;refine⟨.func (.func f) (u.map a.eval) (v.map a.eval),rfl,?_⟩;refine .clo f _ _ _ _ (by simpa using r1.1) (by simpa using r2.1) (λj p q s t=>r1.2 j p q s (by simpa using t)) (λj p q s t=>r2.2 j p q s (by simpa using t))
   .simp at h
  | _=>simp[bE]at h
 | extract y i=>
  simp only[bE]at h;simp only[execOp];split at h
  .rename_i vs C;obtain⟨Q,e,S⟩:=(c9 r C).oM;rw[e];have T:=(ζe.1 h).1;have G:i<Q.size:=by have:=S.1;simp at this;omega
   refine⟨Q[i],dx (by simp[Instr.extract,G]),S.2 i x _ h (by simp[G])⟩
  .simp at h
 | call c=>
  obtain⟨callee,args,U⟩:=c
  cases callee with
  | builtin b=>
   simp only[bE]at h;simp only[execOp,resolve,Sem.run_bind,Sem.run_pure,Result.andThen_ok,invoke];split at h
   .rename_i v t A J;obtain⟨u,hu,hr⟩:=(mm r A).one;rw[qD hu];obtain⟨q,h1,B⟩:=Rn (w:=w) (ty:=ty) D J hr (by rw[<-h];rfl)
    exact⟨q,by simp only[builtin];exact dx h1,B⟩
   .rename_i v t A J;obtain⟨u,hu,hr⟩:=(mm r A).one;rw[qD hu];obtain⟨q,h1,B⟩:=Sa (w:=w) (ty:=ty) D J hr (by rw[<-h];rfl)
    exact⟨q,by simp only[builtin];exact dx h1,B⟩
   .rename_i k O W x2 A;split at h
    .rename_i hk;simp only[ζa]at h;subst h;subst hk;obtain⟨u,v,e,hu,hv⟩:=(mm r A).two;rw[qD e,hu.eP,hv.eP];exact⟨_,by simp only[builtin];exact dx (by simp[Builtin.max_,Builtin.max2]),.c _ _ (.int _ _)⟩
    .simp at h
   .rename_i k O k1 x2 k2 x3 k3 x4 A;split at h
    .rename_i hk;simp only[ζa]at h;subst h;obtain⟨rfl,rfl,rfl⟩:=hk;obtain⟨u,v,p,q,e,hu,hv,X,L⟩:=(mm r A).four;rw[qD e,hu.eP,hv.eP,X.eP,L.eP];exact⟨_,by simp only[builtin];exact dx (by simp[Builtin.max_,Builtin.max2,Aw]),.c _ _ (.int _ _)⟩
    .simp at h
   .rename_i k O W x2 A;split at h
    .rename_i hk;simp only[ζa]at h;subst h;subst hk;obtain⟨u,v,e,hu,hv⟩:=(mm r A).two;rw[qD e,hu.eP,hv.eP];exact⟨_,by simp only[builtin];exact dx (by simp[Builtin.min_,Builtin.min2]),.c _ _ (.int _ _)⟩
    .simp at h
   .simp at h
  | _=>simp[bE]at h
 | _=>simp[bE]at h
end
end Go.VE
namespace Go.VE
variable [bN]
structure fC (I:b9) (μ:Mu) (p:Pl) (c:Array Value) (es:Nat) (xs:List (List V)):Prop where
 es_eq:p.es=es
 sz:c.size=p.sz
 nX:∀x∈xs,x.length=es
 one:∀x∈xs,∀y∈x,V.one y=true
 room:p.o+xs.length*es<=c.size
 rel:cz I μ xs.flatten ((c.toList.drop p.o).take (xs.length*es))
def tC (I:b9) (μ:Mu) (B:List (V×V)) (es:Array MapEntry):Prop:=
 B.length=es.size/\∀(j:Nat) q e,B[j]? = some q->es[j]? = some e->bA I μ q.1 e.key/\bA I μ q.2 e.val
def zJ.is:zJ->LoopState->Prop
 | .ready,.ready|.busy,.busy|.done,.done=>True
 | _,_=>False
structure tN (I:b9) (μ:Mu) (r:tO) (l:Loop):Prop where
 st:r.st.is l.state
 pend:l.pending=r.pend.bind jQ
 pendOk:r.pend≠some .norm
 frame:dQ I μ r.nt r.frame l.tmps
 params:l.params.toList=r.params
 assign:l.assign=r.assign
 body:l.body=r.body
def Ob.live:Ob->Bool
 | .row ..|.map _|.loop _=>true
 | _=>false
def q9 (I:b9) (μ:Mu) (w:World) (id:Nat):Ob->Prop
 | .free=>μ id=none
 | .dead=>True
 | .row es xs=>∃p c el,μ id=some p/\I p.b=none/\w.heap[p.b]? = some (.cells c el)/\fC I μ p c es xs
 | .frz es xs=>∃p c,μ id=some p/\I p.b=some (.cells c)/\fC I μ p c es xs
 | .map B=>∃p es clock,μ id=some p/\I p.b=none/\w.heap[p.b]? = some (.map es clock)/\tC I μ B es
 | .loop r=>∃p l,μ id=some p/\I p.b=none/\w.heap[p.b]? = some (.loop l)/\tN I μ r l
structure cG (I:b9) (μ:Mu) (H:bf) (w:World):Prop where
 dom:∀id,H.length<=id->μ id=none
 imm:∀b x,I b=some x->x.at w b
 obs:∀id ob,H[id]? = some ob->q9 I μ w id ob
 inj:∀id id' ob ob' p p',H[id]? = some ob->H[id']? = some ob'->ob.live=true->ob'.live=true->μ id=some p->μ id'=some p'->p.b=p'.b->id=id'
 gl:si I
def gC (μ:Mu) (H:bf) (b:Nat):Prop:=∃id p ob,H[id]? = some ob/\ob.live=true/\μ id=some p/\p.b=b
def Obj.nf (o:Obj):Prop:=∀c t fr,o=.cells c t fr->fr=(0,0)
theorem rZ (c:Array Value) (t:TypeId):Obj.nf (.cells c t):=λ_ _ _ h=>by grind
theorem qc {o:Obj} (h:(match o with|.cells ..=>false|_=>true)=true):Obj.nf o:=λc t fr e=>by grind
theorem A3 {w w':World} {o:Obj} {b:Nat} (B:Obj.nf o) (h1:w'.heap[b]? = some o) (D:∀k,k≠b->w'.heap[k]? = w.heap[k]?) (a:Addr) (h:w.frozen? a=false):w'.frozen? a=false:=by
 by_cases e:a.block=b
 .unfold World.frozen?;rw[e,h1];split
  .rename_i c t z A u;cases u;have:=B _ _ _ rfl
   grind
  .rfl
 .unfold World.frozen? at h ⊢
  grind
structure tB (w w':World):Prop where
 out:w'.output=w.output
 tape:w'.tape=w.tape
 dr:w.drawn<=w'.drawn
theorem tB.refl (w:World):tB w w:=⟨rfl,rfl,Nat.le_refl _⟩
theorem tB.trans {w w' w'':World} (h:tB w w') (B:tB w' w''):tB w w'':=⟨B.out.trans h.out,B.tape.trans h.tape,Nat.le_trans h.dr B.dr⟩
structure Step (I:b9) (μ:Mu) (H:bf) (w:World) (I':b9) (μ':Mu) (H':bf) (w':World):Prop where
 le:b9.le I I'
 mu:Mu.le μ μ'
 len:H.length<=H'.length
 size:w.heap.size<=w'.heap.size
 frame:∀b,b<w.heap.size->¬gC μ H b->w'.heap[b]? = w.heap[b]?
 terr:∀b,((I' b).isSome=true\/gC μ' H' b)->(I b).isSome=true\/gC μ H b\/w.heap.size<=b
 os:w'.os=w.os
 out:tB w w'
 fz:∀a:Addr,a.block<w.heap.size->w.frozen? a=false->w'.frozen? a=false
section
variable {I I' I'':b9} {μ μ' μ'':Mu} {H H' H'':bf} {w w' w'':World} {P:Program} {E:Env} {n:Nat} {F:Frame} {a:Act}
theorem IC.sx {x:IC} {b:Nat} (h:x.at w b):b<w.heap.size:=by
 cases x with
 | cells c=>obtain⟨_,_,h⟩:=h;grind
 | map es=>obtain⟨_,h⟩:=h;grind
theorem IC.ql {x:IC} {b:Nat} (h:x.at w b) (e:w'.heap[b]? = w.heap[b]?):x.at w' b:=by
 cases x with
 | cells c=>obtain⟨el,fr,h⟩:=h;exact⟨el,fr,by grind⟩
 | map es=>obtain⟨cl,h⟩:=h;exact⟨cl,by grind⟩
theorem Step.refl (I:b9) (μ:Mu) (H:bf) (w:World):Step I μ H w I μ H w:=
 ⟨b9.le_refl _,Mu.le_refl _,Nat.le_refl _,Nat.le_refl _,λ_ _ _=>rfl,λ_ h=>h.elim .inl λh=>.inr (.inl h),rfl,.refl _,λ_ _ h=>h⟩
theorem fq (s:cG I μ H w) {b:Nat} (h:gC μ H b):I b=none:=by
 obtain⟨id,p,ob,h1,z,B,rfl⟩:=h;have:=s.obs id ob h1
 cases ob with
 | row es C=>obtain⟨q,c,el,t,u,_⟩:=this;grind
 | map A=>obtain⟨q,c,el,t,u,_⟩:=this;grind
 | loop r=>obtain⟨q,c,t,u,_⟩:=this;grind
 | _=>simp[Ob.live]at z
theorem lU (s:cG I μ H w) {b:Nat} (h:gC μ H b):b<w.heap.size:=by
 obtain⟨id,p,ob,h1,A,C,rfl⟩:=h;have:=s.obs id ob h1
 cases ob with
 | row es D=>obtain⟨q,c,el,t,u,z,_⟩:=this;grind
 | map B=>obtain⟨q,c,el,t,u,z,_⟩:=this;grind
 | loop r=>obtain⟨q,c,t,u,z,_⟩:=this;grind
 | _=>simp[Ob.live]at A
theorem Step.trans (D:cG I' μ' H' w') (h1:Step I μ H w I' μ' H' w') (B:Step I' μ' H' w' I'' μ'' H'' w''):Step I μ H w I'' μ'' H'' w'' where
 fz:=λa t h=>B.fz a (Nat.lt_of_lt_of_le t h1.size) (h1.fz a t h)
 le:=b9.le_trans h1.le B.le
 mu:=λid p h=>B.mu id p (h1.mu id p h)
 len:=Nat.le_trans h1.len B.len
 size:=Nat.le_trans h1.size B.size
 frame:=by
  intro b t z;rw[B.frame b (Nat.lt_of_lt_of_le t h1.size) ?_,h1.frame b t z];intro u;rcases h1.terr b (.inr u)with h|h|h
  .have:=fq D u;obtain⟨x,A⟩:=Option.isSome_iff_exists.1 h;rw[h1.le _ _ A]at this;simp_all
  .simp_all
  omega
 terr:=by
  intro b h;rcases B.terr b h with h|h|h
  .exact h1.terr b (.inl h)
  .exact h1.terr b (.inr h)
  .exact .inr (.inr (Nat.le_trans h1.size h))
 os:=B.os.trans h1.os
 out:=h1.out.trans B.out
theorem fC.mono (h:b9.le I I') (B:Mu.le μ μ') {p:Pl} {c:Array Value} {es:Nat} {xs:List (List V)} (r:fC I μ p c es xs):fC I' μ' p c es xs:=
 ⟨r.es_eq,r.sz,r.nX,r.one,r.room,r.rel.mono h B⟩
theorem tC.mono (h:b9.le I I') (D:Mu.le μ μ') {B:List (V×V)} {es:Array MapEntry} (r:tC I μ B es):tC I' μ' B es:=
 ⟨r.1,λj q e a b=>⟨(r.2 j q e a b).1.mono h D,(r.2 j q e a b).2.mono h D⟩⟩
theorem tN.mono (h:b9.le I I') (B:Mu.le μ μ') {r:tO} {l:Loop} (x:tN I μ r l):tN I' μ' r l:=
 ⟨x.st,x.pend,x.pendOk,x.frame.mono h B,x.params,x.assign,x.body⟩
theorem q9.mono (h:b9.le I I') (B:Mu.le μ μ') {id:Nat} {ob:Ob} (r:q9 I μ w id ob)
 (D:∀p,μ id=some p->ob.live=true->w'.heap[p.b]? = w.heap[p.b]? /\ I' p.b=none) (G:ob=.free->μ' id=none):q9 I' μ' w' id ob:=by
 cases ob with
 | free=>exact G rfl
 | dead=>trivial
 | row es A=>
  obtain⟨p,c,el,h1,u,z,t⟩:=r;obtain⟨g1,g2⟩:=D p h1 rfl;exact⟨p,c,el,B _ _ h1,g2,by grind,t.mono h B⟩
 | frz es A=>
  obtain⟨p,c,h1,u,t⟩:=r;exact⟨p,c,B _ _ h1,h _ _ u,t.mono h B⟩
 | map C=>
  obtain⟨p,es,cl,h1,u,z,t⟩:=r;obtain⟨g1,g2⟩:=D p h1 rfl;exact⟨p,es,cl,B _ _ h1,g2,by grind,t.mono h B⟩
 | loop x=>
  obtain⟨p,l,h1,u,z,t⟩:=r;obtain⟨g1,g2⟩:=D p h1 rfl;exact⟨p,l,B _ _ h1,g2,by grind,t.mono h B⟩
theorem cG.nN (s:cG I μ H w) (e:w'.heap=w.heap):cG I μ H w' where
 dom:=s.dom
 imm:=λb x h=>IC.ql (s.imm b x h) (by rw[e])
 obs:=λid ob h=>(s.obs id ob h).mono (b9.le_refl _) (Mu.le_refl _) (λp t u=>⟨by rw[e],fq s ⟨id,p,ob,h,u,t,rfl⟩⟩) (λz=>by subst z;exact s.obs id _ h)
 inj:=s.inj
 gl:=s.gl
theorem Step.nN (e:w'.heap=w.heap) (h1:w'.os=w.os) (B:tB w w'):Step I μ H w I μ H w':=
 ⟨b9.le_refl _,Mu.le_refl _,Nat.le_refl _,by grind,λ_ _ _=>by rw[e],λb h=>h.elim .inl λh=>.inr (.inl h),h1,B,λa _ h=>by unfold World.frozen? at h ⊢;grind⟩
def Mu.fV (μ:Mu) (k:Nat) (p:Pl):Mu:=λid=>if id=k then some p else μ id
theorem Mu.fu (μ:Mu) (k:Nat) (p:Pl):μ.fV k p k=some p:=by simp[Mu.fV]
theorem Mu.gV (μ:Mu) {k id:Nat} (p:Pl) (h:id≠k):μ.fV k p id=μ id:=by simp[Mu.fV,h]
theorem Mu.pJ {k:Nat} {p:Pl} (h:μ k=none):Mu.le μ (μ.fV k p):=by
 intro id q t
 by_cases e:id=k
 .grind
 .rw[Mu.gV _ _ e];omega
theorem iJ (o:Obj) (b:Nat) (h:b<w.heap.size):(w.alloc o).heap[b]? = w.heap[b]? := by
 show (w.heap.push o)[b]? = _
 grind
theorem jK (o:Obj):(w.alloc o).heap[w.heap.size]? = some o:=by
 show (w.heap.push o)[w.heap.size]? = _;simp
theorem KK {o:Obj} (B:Obj.nf o) (a:Addr) (h:w.frozen? a=false):(w.alloc o).frozen? a=false:=
 A3  B (jK o) (λk hk=>by
  by_cases t:k<w.heap.size
  .exact iJ o k t
  .show (w.heap.push o)[k]? = _
   grind) a h
theorem cG.place (s:cG I μ H w) {k:Nat} {ob:Ob} {o:Obj} {p:Pl} (hk:μ k=none) (D:H.length<=H'.length) (aa:k<H'.length)
 (ab:∀id,id≠k->H'[id]? = some .free\/H'[id]? = H[id]?) (U:∀id,id≠k->H'[id]? = some .free->μ id=none) (ad:H'[k]? = some ob) (hp:p.b=w.heap.size)
 (ae:q9 I (μ.fV k p) (w.alloc o) k ob) (hz:Obj.nf o):cG I (μ.fV k p) H' (w.alloc o)/\Step I μ H w I (μ.fV k p) H' (w.alloc o):=by
 have hI:∀b x,I b=some x->b<w.heap.size:=λb x h=>IC.sx (s.imm b x h)
 have u:∀id t,id≠k->H'[id]? = some t->t≠.free->H[id]? = some t:=by
  grind
 have A:∀b,gC (μ.fV k p) H' b->gC μ H b\/b=w.heap.size:=by
  rintro b ⟨id,q,t,h1,J,Q,rfl⟩
  by_cases e:id=k
  .subst e;rw[Mu.fu]at Q;grind
  .rw[Mu.gV _ _ e]at Q;exact .inl ⟨id,q,t,u id t e h1 (by grind),J,Q,rfl⟩
 refine⟨⟨?_,?_,?_,?_,s.gl⟩,⟨b9.le_refl _,Mu.pJ hk,D,by simp,?_,?_,rfl,⟨rfl,rfl,Nat.le_refl _⟩,λa _=>A3 (b:=w.heap.size) hz (jK o) (λk hk=>?_) a⟩⟩
 .intro id h;rw[Mu.gV _ _ (by omega)]
  exact s.dom id (by omega)
 .intro b x h;exact IC.ql (s.imm b x h) (iJ o b (hI b x h))
 .intro id t h
  by_cases e:id=k
  .grind
  .by_cases S:t=.free
   .subst S;show (μ.fV k p) id=none;rw[Mu.gV _ _ e];grind
   .have X:=u id t e h S;refine(s.obs id t X).mono (b9.le_refl _) (Mu.pJ hk) (λq hq T=>?_) (λhe=>absurd he S)
    have Y:gC μ H q.b:=⟨id,q,t,X,T,hq,rfl⟩;exact⟨iJ o _ (lU s Y),fq s Y⟩
 .intro id z o1 o2 q Z h1 J L O B C W
  by_cases e:id=k <;> by_cases G:z=k
  .simp_all
  .subst e;rw[Mu.fu]at B;cases B;rw[Mu.gV _ _ G]at C;have:=lU s ⟨z,Z,o2,u z o2 G J (by rintro rfl;simp[Ob.live]at O),O,C,rfl⟩
   omega
  .subst G;rw[Mu.fu]at C;cases C;rw[Mu.gV _ _ e]at B;have:=lU s ⟨id,q,o1,u id o1 e h1 (by rintro rfl;simp[Ob.live]at L),L,B,rfl⟩
   omega
  .rw[Mu.gV _ _ e]at B;rw[Mu.gV _ _ G]at C;exact s.inj id z o1 o2 q Z (u id o1 e h1 (by rintro rfl;simp[Ob.live]at L)) (u z o2 G J (by rintro rfl;simp[Ob.live]at O)) L O B C W
 .intro b W _;exact iJ o b W
 .intro b h;rcases h with h|h
  .exact .inl h
  .rcases A b h with h|h
   .exact .inr (.inl h)
   omega
 .by_cases T:k<w.heap.size
  .exact iJ o k T
  .show (w.heap.push o)[k]? = _;rw[Array.getElem?_eq_none (by simp;omega),Array.getElem?_eq_none (by omega)]
theorem cG.push (s:cG I μ H w) {ob:Ob} {o:Obj} {p:Pl} (D:p.b=w.heap.size) (B:q9 I (μ.fV H.length p) (w.alloc o) H.length ob) (G:Obj.nf o:=by first|exact rZ _ _|exact qc rfl) :
 cG I (μ.fV H.length p) (H++[ob]) (w.alloc o)/\Step I μ H w I (μ.fV H.length p) (H++[ob]) (w.alloc o):=by
 refine s.place (s.dom _ (Nat.le_refl _)) (by simp) (by simp) (λid h=>.inr ?_) (λid h u=>?_) (by simp) D B G
 .grind
 .by_cases t:id<H.length
  .rw[List.getElem?_append_left t]at u;exact s.obs id _ u
  grind
theorem cG.fill (s:cG I μ H w) {k:Nat} {ob:Ob} {o:Obj} {p:Pl} (hk:H[k]? = some .free) (D:p.b=w.heap.size) (B:q9 I (μ.fV k p) (w.alloc o) k ob) (G:Obj.nf o:=by first|exact rZ _ _|exact qc rfl) :
 cG I (μ.fV k p) (H.set k ob) (w.alloc o)/\Step I μ H w I (μ.fV k p) (H.set k ob) (w.alloc o):=by
 have u:=(ζe.1 hk).1;refine s.place (s.obs k _ hk) (by simp) (by grind) (λid h=>.inr ?_) (λid h t=>?_) (by simp_all) D B G
 .grind
 .rw[List.getElem?_set_ne (Ne.symm h)]at t;exact s.obs id _ t
def eT (w:World) (b:Nat) (o:Obj):World:={ w with heap:=w.heap.setIfInBounds b o }
theorem eB (o:Obj) {b B:Nat} (h:B≠b):(eT w b o).heap[B]? = w.heap[B]? := by simp[eT,Array.getElem?_setIfInBounds_ne (Ne.symm h)]
theorem fH (o:Obj) {b:Nat} (h:b<w.heap.size):(eT w b o).heap[b]? = some o:=by simp[eT,h]
theorem qi (b:Nat) (o:Obj):(eT w b o).heap.size=w.heap.size:=by simp[eT]
theorem Ko (b:Nat) (o B:Obj):eT (eT w b o) b B=eT w b B:=by simp[eT]
theorem Rx {o:Obj} {b:Nat} (B:Obj.nf o) (a:Addr) (h:w.frozen? a=false):(eT w b o).frozen? a=false:=by
 by_cases t:b<w.heap.size
 .exact A3  B (fH o t) (λk hk=>eB o hk) a h
 .have:(eT w b o).heap=w.heap:=by simp[eT,Array.setIfInBounds,t]
  unfold World.frozen? at h ⊢
  grind
theorem cG.write (s:cG I μ H w) {id:Nat} {ob ob':Ob} {o:Obj} {p:Pl} (B:H[id]? = some ob) (U:ob.live=true) (W:μ id=some p)
 (Y:q9 I μ (eT w p.b o) id ob') (hz:Obj.nf o:=by first|exact rZ _ _|exact qc rfl):cG I μ (H.set id ob') (eT w p.b o)/\Step I μ H w I μ (H.set id ob') (eT w p.b o):=by
 have u:gC μ H p.b:=⟨id,p,ob,B,U,W,rfl⟩;have t:∀k x,(H.set id ob')[k]? = some x->∃y,H[k]? = some y/\(x.live=true->y.live=true)/\(k≠id->y=x):=by
  grind
 have G:∀b,gC μ (H.set id ob') b->gC μ H b:=by
  rintro b ⟨k,q,x,h1,J,T,rfl⟩;obtain⟨y,L,z,_⟩:=t k x h1;exact⟨k,q,y,L,z J,T,rfl⟩
 refine⟨⟨?_,?_,?_,?_,s.gl⟩,⟨b9.le_refl _,Mu.le_refl _,by simp,by rw[qi];grind,?_,?_,rfl,⟨rfl,rfl,Nat.le_refl _⟩,λa _=>A3  hz (fH o (lU s u)) (λk hk=>eB o hk) a⟩⟩
 .intro k h;exact s.dom k (by grind)
 .intro b x h;refine IC.ql (s.imm b x h) (eB o ?_);intro A;rw[A,fq s u]at h;cases h
 .intro k x h
  by_cases e:k=id
  .grind
  .rw[List.getElem?_set_ne (Ne.symm e)]at h;refine(s.obs k x h).mono (b9.le_refl _) (Mu.le_refl _) (λq Q C=>⟨eB o ?_,fq s ⟨k,q,x,h,C,Q,rfl⟩⟩) (λX=>by subst X;exact s.obs k _ h)
   intro A;exact e (s.inj k id x ob q p h B C U Q W A)
 .intro k S x Z q q' h1 J l1 l2 m1 m2 A;obtain⟨y,L,z,_⟩:=t k x h1;obtain⟨y',O,D,_⟩:=t S Z J;exact s.inj k S y y' q q' L O (z l1) (D l2) m1 m2 A
 .intro b _ hn;refine eB o ?_
  grind
 grind
theorem cG.kill (s:cG I μ H w) {id:Nat} {ob:Ob} (B:H[id]? = some ob):cG I μ (H.set id .dead) w/\Step I μ H w I μ (H.set id .dead) w:=by
 have u:=(ζe.1 B).1;have t:∀k x,(H.set id .dead)[k]? = some x->x.live=true->H[k]? = some x/\k≠id:=by
  intro k x h J
  by_cases e:k=id
  .subst e;rw[List.getElem?_set_self u]at h;cases h;simp[Ob.live]at J
  grind
 refine⟨⟨?_,s.imm,?_,?_,s.gl⟩,⟨b9.le_refl _,Mu.le_refl _,by simp,Nat.le_refl _,λ_ _ _=>rfl,?_,rfl,.refl _,λ_ _ h=>h⟩⟩
 .intro k h;exact s.dom k (by grind)
 .intro k x h
  by_cases e:k=id
  .subst e;rw[List.getElem?_set_self u]at h;cases h;trivial
  .rw[List.getElem?_set_ne (Ne.symm e)]at h;exact s.obs k x h
 .intro k A x C q L h1 z D G O Q S;exact s.inj k A x C q L (t k x h1 D).1 (t A C z G).1 D G O Q S
 .rintro b (h|⟨k,q,x,h1,z,T,rfl⟩)
  .grind
  .exact .inr (.inl ⟨k,q,x,(t k x h1 z).1,z,T,rfl⟩)
end
end Go.VE
namespace Go.VE
variable [bN]
section
variable {P:Program} {E:Env} {I:b9} {μ:Mu} {H:bf} {n:Nat} {F:Frame} {a:Act} {w:World}
theorem oQ {b:Nat} {c:Array Value} {el:TypeId} {fr:Nat×Nat} (h:w.heap[b]? = some (.cells c el fr)) (k:Nat):w.cell? ⟨b,k,none⟩=c[k]? := by
 simp[World.cell?,h]
theorem Gi {b o:Nat} {c:Array Value} (hc:∀k,w.cell? ⟨b,k,none⟩=c[k]?):∀(m i:Nat) (acc:Array Value),o+i+m<=c.size ->
 (loadCellsFrom ⟨b,o,none⟩ i m acc).run P w=.ok (acc++((c.toList.drop (o+i)).take m).toArray) w:=by
 intro m
 induction m with
 | zero=>intro i acc _;simp[loadCellsFrom]
 | succ m u=>
  intro i acc h;have t:o+i<c.size:=by omega
  have e:w.cell? ⟨b,o+i,none⟩=some c[o+i]:=by rw[hc];simp[t]
  simp only[loadCellsFrom,Sem.run_bind,oD,run_load,e,Result.andThen_ok];rw[u (i+1) _ (by omega)]
  congr 1
  rw[List.drop_eq_getElem_cons (show o+i<c.toList.length by simpa using t),List.take_succ_cons]
  apply Array.ext';simp[Nat.add_assoc]
theorem tJ {b o m:Nat} {c:Array Value} (hc:∀k,w.cell? ⟨b,k,none⟩=c[k]?) (h:o+m<=c.size\/m=0) :
 (loadCells ⟨b,o,none⟩ m).run P w=.ok ((c.toList.drop o).take m).toArray w:=by
 rcases h with h|h
 .have:=Gi (P:=P) hc m 0 #[] (o:=o) (by omega)
  simpa [loadCells]using this
 .subst h;simp[loadCells,loadCellsFrom]
theorem e9 {es:Nat} {xs:List (List V)} (hu:∀x∈xs,x.length=es):xs.flatten.length=xs.length*es:=by
 induction xs with
 | nil=>simp
 | cons x xs t=>
  simp only[List.flatten_cons,ζi,List.length_cons];rw[t (λy u=>hu y (List.mem_cons_of_mem _ u)),hu x (by simp),Nat.add_mul];omega
theorem Cu {es:Nat}:∀{xs:List (List V)} (_:∀x∈xs,x.length=es) {el:Nat} {cs:List V},xs[el]? = some cs->(xs.flatten.drop (el*es)).take es=cs:=by
 intro xs
 induction xs with
 | nil=>intro _ el cs h;simp at h
 | cons x xs u=>
  intro hu el cs h;have t:x.length=es:=hu x (by simp)
  cases el with
  | zero=>simp at h;subst h;simp[t]
  | succ el=>
   have:=u (λy w=>hu y (List.mem_cons_of_mem _ w)) (el:=el) (cs:=cs) (by simpa using h)
   rw[List.flatten_cons,show (el+1)*es=x.length+el*es by rw[t,Nat.add_mul];omega,<-List.drop_drop]
   simpa using this
theorem FL {es:Nat}:∀{xs:List (List V)} (_:∀x∈xs,x.length=es) {el:Nat} (cs:List V),el<xs.length->cs.length=es ->
 (xs.set el cs).flatten=xs.flatten.take (el*es)++cs++xs.flatten.drop (el*es+es):=by
 intro xs
 induction xs with
 | nil=>intro _ el cs h;simp at h
 | cons x xs u=>
  intro hu el cs h hc;have t:x.length=es:=hu x (by simp)
  cases el with
  | zero=>simp[t]
  | succ el=>
   have:=u (λy w=>hu y (List.mem_cons_of_mem _ w)) (el:=el) cs (by simpa using h) hc
   simp only[List.set_cons_succ,List.flatten_cons,this];rw[show (el+1)*es=x.length+el*es by rw[t,Nat.add_mul];omega]
   rw[show x.length+el*es+es=x.length+(el*es+es)by omega]
   rw[List.take_append,List.drop_append];simp[List.take_of_length_le,List.drop_eq_nil_of_le,Nat.add_sub_cancel_left]
theorem tY {es:Nat} {xs:List (List V)} (hu:∀x∈xs,x.length=es) {i j:Nat} {x:List V} {y:V} (h1:xs[i]? = some x) (B:x[j]? = some y):xs.flatten[i*es+j]? = some y:=by
 have:=Cu hu h1;have t:j<es:=by rw[<-hu x (List.mem_of_getElem? h1)];exact(ζe.1 B).1
 have e:=congrArg (·[j]?) this;simp only[List.getElem?_take,t,if_true,List.getElem?_drop]at e;rw[e];exact B
theorem fC.elem {p:Pl} {c:Array Value} {es:Nat} {xs:List (List V)} (r:fC I μ p c es xs) {el:Nat} {cs:List V} (h:xs[el]? = some cs) :
 cz I μ cs ((c.toList.drop (p.o+el*es)).take es)/\cs.length=es/\p.o+el*es+es<=c.size:=by
 have t:=(ζe.1 h).1;have w:=r.nX cs (List.mem_of_getElem? h);have h1:=(r.rel.drop (el*es)).take es;rw[Cu r.nX h]at h1;have z:el*es+es<=xs.length*es:=by
  have:=Nat.mul_le_mul_right es (show el+1<=xs.length from t)
  rwa [Nat.add_mul,Nat.one_mul]at this
 have u:=r.room;refine⟨?_,w,by omega⟩
 have e:(((c.toList.drop p.o).take (xs.length*es)).drop (el*es)).take es=(c.toList.drop (p.o+el*es)).take es:=by
  rw[List.drop_take,List.take_take,List.drop_drop,Nat.min_eq_left (by omega)]
 rw[e]at h1;exact h1
theorem fC.span {p:Pl} {c:Array Value} {es:Nat} {xs:List (List V)} (r:fC I μ p c es xs) {off len:Nat} (h:off+len<=xs.length) :
 cz I μ ((xs.drop off).take len).flatten ((c.toList.drop (p.o+off*es)).take (len*es))/\p.o+off*es+len*es<=c.size:=by
 have u:=r.room;have z:off*es+len*es<=xs.length*es:=by
  rw[<-Nat.add_mul];exact Nat.mul_le_mul_right _ h
 have e1:((xs.drop off).take len).flatten=(xs.flatten.drop (off*es)).take (len*es):=by
  have t:xs=xs.take off++((xs.drop off).take len++(xs.drop off).drop len):=by rw[List.take_append_drop,List.take_append_drop]
  have g1:(xs.take off).flatten.length=off*es:=by
   rw[e9 (λx t=>r.nX x (List.mem_of_mem_take t))];rw[List.length_take,Nat.min_eq_left (by omega)]
  have g2:((xs.drop off).take len).flatten.length=len*es:=by
   rw[e9 (λx t=>r.nX x (List.mem_of_mem_drop (List.mem_of_mem_take t))),List.length_take,List.length_drop,Nat.min_eq_left (by omega)]
  have w:=congrArg List.flatten t;simp only[List.flatten_append]at w;rw[w,<-g1,List.drop_left,<-g2,List.take_left]
 have h1:=(r.rel.drop (off*es)).take (len*es);rw[e1];refine⟨?_,by omega⟩
 have e:(((c.toList.drop p.o).take (xs.length*es)).drop (off*es)).take (len*es)=(c.toList.drop (p.o+off*es)).take (len*es):=by
  rw[List.drop_take,List.take_take,List.drop_drop,Nat.min_eq_left (by omega)]
 rw[e]at h1;exact h1
theorem Ep {ob:Ob} {es:Nat} {xs:List (List V)} (h:ob.rows=some (es,xs)):ob=.row es xs\/ob=.frz es xs:=by
 cases ob <;> simp_all [Ob.rows]
theorem cG.rows (s:cG I μ H w) {id es:Nat} {xs:List (List V)} (h:(H[id]?).bind Ob.rows=some (es,xs)) :
 ∃p c,μ id=some p/\(∀k,w.cell? ⟨p.b,k,none⟩=c[k]?)/\fC I μ p c es xs:=by
 obtain⟨ob,h1,t⟩:=ζg.1 h;have:=s.obs id ob h1;rcases Ep t with rfl|rfl
 .obtain⟨p,c,el,g1,_,g3,g4⟩:=this;exact⟨p,c,g1,oQ g3,g4⟩
 .obtain⟨p,c,g1,g2,g4⟩:=this;obtain⟨el,fr,g3⟩:=s.imm _ _ g2;exact⟨p,c,g1,oQ g3,g4⟩
theorem M5 (s:cG I μ H w) {p:V} {v:Value} (hv:bA I μ p v) {m:Nat} {cs:List V} (h:dL H p m=some cs) :
 ∃(b o:Nat) (c:Array Value),v=.pointer (some ⟨b,o,none⟩)/\(∀k,w.cell? ⟨b,k,none⟩=c[k]?)/\(o+m<=c.size\/m=0)/\cz I μ cs ((c.toList.drop o).take m):=by
 unfold dL at h;split at h
 .rename_i u;obtain⟨b,o,c,e,C,L,hr⟩:=hv.kI;obtain⟨el,fr,g⟩:=s.imm _ _ C;refine⟨b,o,c,e,oQ g,?_⟩;have D:cz I μ u ((c.toList.drop o).take u.length):=by
   refine⟨by simp;omega,λj x y h1 A=>?_⟩
   have G:=(ζe.1 h1).1;rw[List.getElem?_take,if_pos G,List.getElem?_drop]at A;exact .c _ _ (hr j x y h1 (by simpa using A))
  rcases zj D h with⟨g1,g2,g3⟩|⟨g1,g2⟩
  .refine⟨.inl (by omega),?_⟩
   rw[List.drop_zero,List.take_take,Nat.min_eq_left (by omega)]at g1
   exact g1
  .refine⟨.inr g1,?_⟩;rw[g2,g1];exact .nil
 .rename_i id el off;split at h
  .rename_i es u t;split at h
   .rename_i J z;obtain⟨p,c,g1,g2,g3⟩:=s.rows t;obtain⟨q,B,e⟩:=hv.rK;rw[g1]at B;cases B;refine⟨_,_,c,e,g2,?_⟩;obtain⟨k1,k2,k3⟩:=g3.elem z;rw[g3.es_eq];rcases zj k1 h with⟨f1,f2,f3⟩|⟨f1,f2⟩
    .refine⟨.inl (by omega),?_⟩
     rw[List.drop_take,List.take_take,Nat.min_eq_left (by omega),List.drop_drop]at f1
     exact f1
    .refine⟨.inr f1,?_⟩;rw[f2,f1];exact .nil
   .simp at h
  .simp at h
 .simp at h
theorem A4 (D:dV P E) (s:cG I μ H w) {t:TypeId} {d:TD} (G:E.tt t=some d) {p x:V} {v:Value} (hv:bA I μ p v) (h:(dL H p d.size).bind (mk d.agg)=some x) :
 ∃u,(Instr.loadAt t v).run P w=.ok u w/\bA I μ x u/\∃J,v=.pointer (some J)/\(loadVar t J).run P w=.ok u w:=by
 obtain⟨Q,hc,B⟩:=ζg.1 h;obtain⟨b,o,c,e,g1,g2,g3⟩:=M5 s hv hc;have key:∃u,(loadVar t ⟨b,o,none⟩).run P w=.ok u w/\bA I μ x u:=by
  unfold loadVar;simp only[Sem.run_bind,(D.ty G).AK,Result.andThen_ok]
  cases z:d.agg with
  | true=>
   rw[z]at B;refine⟨.agg ((c.toList.drop o).take d.size).toArray,?_,KU B (by simpa using g3)⟩
   simp only[if_true,Sem.run_bind,(D.ty G).gK,Result.andThen_ok,tJ g1 g2,Sem.run_pure]
  | false=>
   rw[z]at B;obtain⟨u,hu,C⟩:=mk_one B g3;refine⟨u,?_,C⟩;have L:d.size≠0:=by
    intro h0;rw[h0]at hu;simp at hu
   have A:c[o]? = some u:=by
    have:=congrArg (·[0]?) hu;simp only[List.getElem?_take,List.getElem?_drop,List.getElem?_cons_zero]at this;rw[if_pos (by omega)]at this
    simpa using this
   simp only[Bool.false_eq_true,if_false,run_load,g1,A]
 obtain⟨u,h1,O⟩:=key;refine⟨u,?_,O,_,e,h1⟩;rw[e];unfold Instr.loadAt;simp only[Sem.run_bind,Instr.sureAddr,Sem.run_pure,Result.andThen_ok,h1]
end
end Go.VE
namespace Go.VE
variable [bN]
section
variable {P:Program} {E:Env} {I:b9} {μ:Mu} {H:bf} {n:Nat} {F:Frame} {a:Act} {w:World}
theorem cG.FV (s:cG I μ H w) {b:Nat} {x:IC} (h:I b=some x):b<w.heap.size:=IC.sx (s.imm b x h)
theorem PX {b es:Nat} {c:Array Value} {xs:List (List V)} (h:cz I μ xs.flatten c.toList) (hu:∀x∈xs,x.length=es) (B:∀x∈xs,∀y∈x,V.one y=true) :
 fC I μ ⟨b,0,es,c.size⟩ c es xs:=by
 have t:xs.length*es=c.size:=by rw[<-e9 hu,h.1];simp
 exact⟨rfl,rfl,hu,B,by simp[t],by simpa [t,List.take_of_length_le]using h⟩
structure OD (I:b9) (μ:Mu) (w:World) (ob:Ob) (m:Mk) (o:Obj) (p:Pl) (u:Value):Prop where
 b:p.b=w.heap.size
 live:ob.live=true
 nf:Obj.nf o
 len:∀es xs,ob=.row es xs->p.sz=xs.length*es
 rel:∀k,μ k=none->q9 I (μ.fV k p) (w.alloc o) k ob/\bA I (μ.fV k p) (m.val k) u
theorem cG.wh (s:cG I μ H w):I w.heap.size=none:=by
 cases h:I w.heap.size with
 | none=>rfl
 | some x=>have:=s.FV h;omega
theorem uH (s:cG I μ H w) {es:Nat} {xs:List (List V)} {c:Array Value} {el:TypeId} {m:Mk} {u:Value} (h:cz I μ xs.flatten c.toList) (hu:∀x∈xs,x.length=es)
 (B:∀x∈xs,∀y∈x,V.one y=true) (hv:∀k,bA I (μ.fV k ⟨w.heap.size,0,es,c.size⟩) (m.val k) u):OD I μ w (.row es xs) m (.cells c el) ⟨w.heap.size,0,es,c.size⟩ u where
 nf:=rZ _ _
 b:=rfl
 live:=rfl
 len:=λt z e=>by cases e;rw[<-e9 hu,h.1];simp
 rel:=λk hk=>⟨⟨_,c,el,Mu.fu _ _ _,s.wh,jK _,(PX h hu B).mono (b9.le_refl _) (Mu.pJ hk)⟩,hv k⟩
theorem B6 (t:TypeId) (v:Value):(newVar t v).run P w=.ok ⟨w.heap.size,0,none⟩ (w.alloc (.cells v.cells t)):=by
 simp[newVar,newRow]
theorem uY {z:List V} {B:Array Value} (h:cz I μ z B.toList) (m:Nat) :
 cz I μ (List.replicate m z).flatten (((Array.range (m*B.size)).map (λi=>B[i % B.size]!)).toList):=by
 have C:z.length=B.size:=by simpa using h.1
 have hu:∀x∈List.replicate m z,x.length=z.length:=λx G=>by rw[List.eq_of_mem_replicate G]
 have u:=e9 hu;simp only[List.length_replicate]at u;refine⟨by rw[u,C];simp,λj x y h1 D=>?_⟩
 have w:=(ζe.1 h1).1;rw[u]at w;have t:0<z.length:=by
  rcases Nat.eq_zero_or_pos z.length with h0|h0
  .rw[h0]at w;simp at w
  .exact h0
 have J:j / z.length<m:=(Nat.div_lt_iff_lt_mul t).2 w;have hr:j % z.length<z.length:=Nat.mod_lt _ t;have e1:=tY hu (i:=j / z.length) (j:=j % z.length) (x:=z) (y:=z[j % z.length]) (by simp[J]) (by simp[hr])
 rw[Nat.mul_comm,Nat.div_add_mod]at e1;rw[e1]at h1;cases h1;have A:j % B.size<B.size:=by rw[<-C];exact hr
 have e2:y=B[j % B.size]:=by
  have L:j<(Array.range (m*B.size)).size:=by simp;rw[<-C];exact w
  simp only[Array.toList_map,List.getElem?_map,ζf]at D;obtain⟨q,O,rfl⟩:=D;have:q=j:=by
   have:=(ζe.1 O).2;simpa using this.symm
  subst this;simp[A]
 rw[e2];exact h.2 (j % z.length) _ _ (by simp[hr]) (by rw[C];simp[A])
theorem DI {es:Nat}:∀(vs:List (Nat×V)) (xs ys:List (List V)),(∀x∈xs,x.length=es)->(∀x∈xs,∀y∈x,V.one y=true)->fQ es xs vs=some ys ->
 sq (λi=>some (i*es,es)) xs.flatten vs=some ys.flatten/\(∀x∈ys,x.length=es)/\(∀x∈ys,∀y∈x,V.one y=true)/\ys.length=xs.length:=by
 intro vs
 induction vs with
 | nil=>intro xs ys hu t h;simp only[fQ,ζa]at h;subst h;exact⟨rfl,hu,t,rfl⟩
 | cons v vs C=>
  intro xs ys hu t h;obtain⟨i,v⟩:=v;simp only[fQ]at h;split at h
  .rename_i hc;obtain⟨h1,B,D⟩:=hc;have u:∀x∈xs.set i v.cells,x.length=es:=λx w=>by
    rcases List.mem_or_eq_of_mem_set w with h|h
    .exact hu x h
    .rw[h];exact h1
   have z:∀x∈xs.set i v.cells,∀y∈x,V.one y=true:=λx w=>by
    rcases List.mem_or_eq_of_mem_set w with h|h
    .exact t x h
    .rw[h];simpa using D
   obtain⟨g1,g2,g3,g4⟩:=C _ ys u z h;refine⟨?_,g2,g3,by simpa using g4⟩
   rw[FL hu _ B h1]at g1;have G:i*es+es<=xs.length*es:=by
    have:=Nat.mul_le_mul_right es (show i+1<=xs.length from B)
    rwa [Nat.add_mul,Nat.one_mul]at this
   have A:=e9 hu;simp only[sq];rw[if_neg (by simp[h1,A];omega),h1]
   exact g1
  .simp at h
theorem AD (G:dV P E) (r:dQ I μ n F a.tmps) (s:cG I μ H w) (o:Oper) {ob:Ob} {m:Mk} (h:eo E F o.op=some (ob,m)) :
 ∃x p u,(execOp a.eval o).run P w=.ok (.value u) (w.alloc x)/\OD I μ w ob m x p u:=by
 obtain⟨dst,op,ty,pos,after,guard⟩:=o;simp only at h
 cases op with
 | alloc t=>
  simp only[eo,ζf,ζc]at h;obtain⟨d,T,rfl,rfl⟩:=h;obtain⟨z,U,hr,W,J⟩:=(G.ty T).yg;refine⟨.cells z.cells t,_,.pointer (some ⟨w.heap.size,0,none⟩),?_,uH s (by simpa using hr I μ) (by simp[W]) (by simpa using J) (λk=>?_)⟩
  .simp only[execOp];refine dx ?_;unfold Instr.alloc;simp only[Sem.run_bind,U,Result.andThen_ok,B6,Sem.run_pure]
  .have:=bA.hptr (I:=I) k 0 0 _ (Mu.fu μ k ⟨w.heap.size,0,d.size,z.cells.size⟩);simp only[Nat.zero_mul,Nat.add_zero]at this;exact this
 | box t x=>
  simp only[eo]at h;split at h
  .rename_i v hv;split at h
   .rename_i J;simp only[ζa,ζc]at h;obtain⟨rfl,rfl⟩:=h;have hr:=c9 r hv;refine⟨.cells (a.eval x).cells t,_,.pointer (some ⟨w.heap.size,0,none⟩),?_,uH s (by simpa using hr.cells) (by simp) (by simpa using J) (λk=>?_)⟩
    .simp only[execOp];refine dx ?_;unfold Instr.box;simp only[Sem.run_bind,B6,Result.andThen_ok,Sem.run_pure]
    .have:=bA.hptr (I:=I) k 0 0 _ (Mu.fu μ k ⟨w.heap.size,0,v.cells.length,(a.eval x).cells.size⟩);simp only[Nat.zero_mul,Nat.add_zero]at this;exact this
   .simp at h
  .simp at h
 | makeSlice t l c=>
  simp only[eo]at h;split at h
  .rename_i e k1 ln k2 A hk W hc;obtain⟨d,T,L⟩:=eR hk;obtain⟨desc,h1,X,h3⟩:=(G.ty T).dc;rw[L]at X;have:=iG X;subst this;split at h
   .rename_i D C;split at h
    .rename_i O;obtain⟨rfl,rfl,am,an,hm,ao⟩:=O;simp only[ζa,ζc]at h;obtain⟨rfl,rfl⟩:=h;obtain⟨z,U,hr,Q,J⟩:=(G.ty C).yg;obtain⟨i,_,hi,al,ap,_⟩:=(G.ty C).info;have B:z.cells.size=D.size:=by have:=(hr I μ).1;simp at this;omega
     have Y:(0:Int)<=A:=by omega
     have w1:IntKind.i64.wrap ln=ln:=by simp[IntKind.wrap,IntKind.signed,IntKind.bits];omega
     have w2:IntKind.i64.wrap A=A:=by simp[IntKind.wrap,IntKind.signed,IntKind.bits];omega
     have Z:∀y:Int,0<=y->y<=2147483648->((i.bytes:Int)*y>2 ^ 48)=False:=by
      intro y ad hy;simp only[eq_iff_iff,iff_false,Int.not_lt,gt_iff_lt];have ae:(i.bytes:Int)<=4096:=by omega
      calc (i.bytes:Int)*y<=4096*2147483648:=Int.mul_le_mul ae hy ad (by omega)
       _<=2 ^ 48:=by decide
     have aa:(Instr.makeSlice t (.int .i64 ln) (.int .i64 A)).run P w =
      .ok (.slice (some ⟨w.heap.size,0,none⟩) ln.toNat A.toNat) (w.alloc (.cells ((Array.range (A.toNat*z.cells.size)).map (λi=>z.cells[i % z.cells.size]!)) e)):=by
      unfold Instr.makeSlice;have t1:(decide (A<0)||decide ((i.bytes:Int)*A>2 ^ 48))=false:=by
       rw[Bool.or_eq_false_iff];exact⟨by simp;omega,by simp only[Z A Y hm,decide_false]⟩
      have q1:(((decide (A<0)||decide ((i.bytes:Int)*A>2 ^ 48))||decide (ln<0))||decide (ln>A))=false:=by rw[t1];simp;omega
      simp only[Sem.run_bind,h3,Result.andThen_ok,asInt,kq,Sem.run_pure,nq hi,w1,w2,q1,Bool.false_eq_true,if_false,run_askRoom,(G.ty C).gK];rw[B]
      by_cases h0:A.toNat*D.size=0
      .have er:Array.range 0=(#[]:Array Nat):=rfl;simp[h0,newRow,er]
      .simp[h0,U,B,newRow]
     refine⟨.cells ((Array.range (A.toNat*z.cells.size)).map (λi=>z.cells[i % z.cells.size]!)) e,_,.slice (some ⟨w.heap.size,0,none⟩) ln.toNat A.toNat,?_,uH s (uY (hr I μ) A.toNat) (λx S=>by rw[List.eq_of_mem_replicate S,Q]) (λx S=>by rw[List.eq_of_mem_replicate S];simpa using J) (λk=>?_)⟩
     .simp only[execOp];refine dx ?_;rw[(c9 r W).eP,(c9 r hc).eP];exact aa
     .have:=bA.hsl (I:=I) (μ:=μ.fV k ⟨w.heap.size,0,D.size,((Array.range (A.toNat*z.cells.size)).map (λi=>z.cells[i % z.cells.size]!)).size⟩) k 0 ln.toNat A.toNat _ (Mu.fu _ _ _) (by omega) (by simp[B])
      simpa [Mk.val]using this
    .simp at h
   .simp at h
  .simp at h
 | buildSlice t len ps=>
  simp only[eo]at h;split at h
  .rename_i e vs hk af;obtain⟨d,T,L⟩:=eR hk;obtain⟨desc,h1,X,h3⟩:=(G.ty T).dc;rw[L]at X;have:=iG X;subst this;split at h
   .rename_i D C;split at h
    .rename_i ah;simp only[ζf,ζc]at h;obtain⟨ys,ai,rfl,rfl⟩:=h;obtain⟨z,U,hr,Q,J⟩:=(G.ty C).yg;have B:z.cells.size=D.size:=by have:=(hr I μ).1;simp at this;omega
     obtain⟨W,aj⟩:=C5 r af;obtain⟨g1,g2,g3,g4⟩:=DI vs _ ys (λx S=>by rw[List.eq_of_mem_replicate S,Q]) (λx S=>by rw[List.eq_of_mem_replicate S];simpa using J) ai
     obtain⟨r',f1,f2⟩:=Ae (place':=λi=>some (i*D.size,D.size)) (λi p hp=>hp) vs _ _ _ ((Array.range (len*z.cells.size)).map (λi=>z.cells[i % z.cells.size]!)) W aj (uY (hr I μ) len) g1
     have ab:r'.size=len*D.size:=by
      have e1:=f2.1;rw[e9 g2,g4]at e1;simpa using e1.symm
     refine⟨.cells r' e,_,.slice (some ⟨w.heap.size,0,none⟩) len len,?_,uH s f2 g2 g3 (λk=>?_)⟩
     .simp only[execOp];refine dx ?_;unfold Instr.buildSlice;have ak:¬(len*D.size>2 ^ 24):=by omega
      simp only[Sem.run_bind,h3,Result.andThen_ok,(G.ty C).gK,if_neg ak]
      by_cases h0:len*D.size=0
      .have e0:(Array.range (len*z.cells.size)).map (λi=>z.cells[i % z.cells.size]!)=#[]:=by rw[B,h0];simp
       rw[e0]at f1;have er:Array.range 0=(#[]:Array Nat):=rfl;simp only[h0,if_true,Sem.run_pure,Result.andThen_ok,er,Array.map_empty];rw[f1];simp[newRow]
      .simp only[if_neg h0,Sem.run_bind,U,Result.andThen_ok,Sem.run_pure];rw[B]at f1;rw[B,f1];simp[newRow]
     .have:=bA.hsl (I:=I) (μ:=μ.fV k ⟨w.heap.size,0,D.size,r'.size⟩) k 0 len len _ (Mu.fu _ _ _) (Nat.le_refl _) (by simp[ab])
      simpa [Mk.val]using this
    .simp at h
   .simp at h
  .simp at h
 | makeMap t r=>
  cases r with
  | none=>
   simp only[eo,ζa,ζc]at h;obtain⟨rfl,rfl⟩:=h;refine⟨.map #[] 0,⟨w.heap.size,0,0,0⟩,.map (some w.heap.size),?_,⟨rfl,rfl,qc rfl,λ_ _ e=>(nomatch e),λk hk=>⟨⟨_,#[],0,Mu.fu _ _ _,s.wh,jK _,rfl,by simp⟩,?_⟩⟩⟩
   .simp only[execOp];refine dx ?_;unfold Instr.makeMap;simp[run_newObj]
   .exact bA.hmap (I:=I) k ⟨w.heap.size,0,0,0⟩ (Mu.fu _ _ _)
  | some x=>simp[eo]at h
 | _=>simp[eo]at h
end
end Go.VE
namespace Go.VE
variable [bN]
section
variable {P:Program} {E:Env} {I:b9} {μ:Mu} {H H':bf} {n:Nat} {F:Frame} {a:Act} {w:World}
theorem bA.one {x:V} {v:Value} (h:bA I μ x v) (B:x.one=true):v.oneCell'=true:=by
 cases h with
 | c _ _ h=>cases h <;> first|rfl|simp[V.one]at B
 | agg=>simp[V.one]at B
 | tup=>simp[V.one]at B
 | _=>rfl
theorem cz.ND {xs:List V} {vs:List Value} (h:cz I μ xs vs) (B:∀x∈xs,V.one x=true):∀v∈vs,v.oneCell'=true:=by
 intro v hv;obtain⟨j,u,rfl⟩:=List.mem_iff_getElem.1 hv;have t:j<xs.length:=by rw[h.1];exact u
 exact(h.2 j xs[j] vs[j] (by simp[t]) (by simp[u])).one (B _ (List.getElem_mem t))
theorem K7 {b:Nat} {o:Obj} (h:w.heap[b]? = some o):eT w b o=w:=by
 unfold eT;have:w.heap.setIfInBounds b o=w.heap:=by
  apply Array.ext
  .simp
  .intro i h1 t;obtain⟨u,e⟩:=Array.getElem?_eq_some_iff.1 h;rw[Array.getElem_setIfInBounds];split
   .subst_vars;rfl
   .rfl
 rw[this]
theorem Eh {b o:Nat} {c:Array Value} {el:TypeId} {v:Value} (h:w.heap[b]? = some (.cells c el)) :
 w.setCell ⟨b,o,none⟩ v=eT w b (.cells (c.setIfInBounds o v) el):=by
 unfold World.setCell eT
 congr 1
 obtain⟨A,e⟩:=Array.getElem?_eq_some_iff.1 h;apply Array.ext
 .simp
 .intro i h1 z
  by_cases u:i=b
  .subst u;simp[Array.getElem_modify,e]
  .have t:i<w.heap.size:=by simpa using z
   rw[Array.getElem_modify_of_ne (Ne.symm u) _ (by simpa using t),Array.getElem_setIfInBounds]
   .simp[Ne.symm u]
   .exact t
theorem nj {b o:Nat} {el:TypeId}:∀(vs:List Value) (i:Nat) (w:World) (c:Array Value),w.heap[b]? = some (.cells c el)->(∀v∈vs,v.oneCell'=true)->o+i+vs.length<=c.size ->
 ∃c',(storeCells ⟨b,o,none⟩ vs i).run P w=.ok () (eT w b (.cells c' el))/\c'.toList=c.toList.take (o+i)++vs++c.toList.drop (o+i+vs.length):=by
 intro vs
 induction vs with
 | nil=>
  intro i w c h _ _;exact⟨c,by simp[storeCells,K7 h],by simp⟩
 | cons v vs C=>
  intro i w c h B D;simp only[List.length_cons]at D;have u:o+i<c.size:=by omega
  have t:w.cell? ⟨b,o+i,none⟩=some c[o+i]:=by rw[oQ h];simp[u]
  have A:w.frozen? ⟨b,o+i,none⟩=false:=by simp[World.frozen?,h]
  have G:=(Array.getElem?_eq_some_iff.1 h).1;obtain⟨c',g1,g2⟩:=C (i+1) (eT w b (.cells (c.setIfInBounds (o+i) v) el)) (c.setIfInBounds (o+i) v) (fH _ G) (λx I=>B x (List.mem_cons_of_mem _ I)) (by simp;omega)
  refine⟨c',?_,?_⟩
  .simp only[storeCells,Sem.run_bind,oD,run_store P w _ v _ (B v (by simp)),t,A,Bool.false_eq_true,if_false,Result.andThen_ok,Eh h]
   rw[g1,Ko]
  .rw[g2];have z:o+i<c.toList.length:=by simpa using u
   simp only[Array.toList_setIfInBounds,List.length_cons];rw[show o+(i+1)=o+i+1 from by omega,List.take_succ_eq_append_getElem (by simpa using z),List.take_set_of_le (by omega),List.getElem_set_self,List.drop_set_of_lt (by omega)]
   simp[List.append_assoc];omega
structure Ar (P:Program) (I:b9) (μ:Mu) (H:bf) (w:World) (s:Sem Next) (x:V) (H':bf):Prop where
 run:∃nx u w' μ',s.run P w=.ok nx w'/\(nx=.value u\/(nx=.skip/\u=undef))/\bA I μ' x u/\cG I μ' H' w'/\Step I μ H w I μ' H' w'
theorem zL {α:Type} (L vs:List α) (o m k:Nat) (D:o+m<=L.length) (hk:k+vs.length<=m) :
 ((L.take (o+k)++vs++L.drop (o+k+vs.length)).drop o).take m=((L.drop o).take m).take k++vs++((L.drop o).take m).drop (k+vs.length):=by
 obtain⟨A,B,C,rfl,t,u⟩:∃A B C:List α,L=A++(B++C)/\A.length=o/\B.length=m:=
  ⟨L.take o,(L.drop o).take m,(L.drop o).drop m,by rw[List.take_append_drop,List.take_append_drop],by simp;omega,by simp;omega⟩
 subst t;subst u;have e1:(A++(B++C)).take (A.length+k)=A++B.take k:=by
  rw[List.take_append,List.take_of_length_le (by omega),Nat.add_sub_cancel_left,List.take_append_of_le_length (by omega)]
 have e2:(A++(B++C)).drop (A.length+k+vs.length)=B.drop (k+vs.length)++C:=by
  rw[List.drop_append,List.drop_eq_nil_of_le (by omega),List.nil_append,List.drop_append_of_le_length (by omega)]
  congr 2;omega
 have e3:((A++(B++C)).drop A.length).take B.length=B:=by simp
 rw[e1,e2,e3];simp only[List.append_assoc,List.drop_left];have w:(B.take k++(vs++B.drop (k+vs.length))).length=B.length:=by simp;omega
 have:B.take k++(vs++(B.drop (k+vs.length)++C))=(B.take k++(vs++B.drop (k+vs.length)))++C:=by simp[List.append_assoc]
 rw[this,<-w,List.take_left]
theorem fC.splice {p:Pl} {c c':Array Value} {es el off:Nat} {xs:List (List V)} {cs ys:List V} {vs:List Value} (r:fC I μ p c es xs) (B:xs[el]? = some cs) (U:cz I μ ys vs)
 (W:∀y∈ys,V.one y=true) (Y:off+ys.length<=cs.length) (hc:c'.toList=c.toList.take (p.o+el*es+off)++vs++c.toList.drop (p.o+el*es+off+vs.length)) :
 fC I μ p c' es (xs.set el (cs.take off++ys++cs.drop (off+ys.length))):=by
 obtain⟨k1,k2,k3⟩:=r.elem B;have A:=(ζe.1 B).1;have O:=U.1;have t:=r.room;have S:el*es+es<=xs.length*es:=by
  have:=Nat.mul_le_mul_right es (show el+1<=xs.length from A)
  rwa [Nat.add_mul,Nat.one_mul]at this
 have C:c'.size=c.size:=by
  have:=congrArg List.length hc;simp at this;omega
 have D:(cs.take off++ys++cs.drop (off+ys.length)).length=es:=by simp;omega
 have w:∀x∈xs.set el (cs.take off++ys++cs.drop (off+ys.length)),x∈xs\/x=cs.take off++ys++cs.drop (off+ys.length):=λx G=>List.mem_or_eq_of_mem_set G
 refine⟨r.es_eq,by rw[C];exact r.sz,?_,?_,by rw[C];simpa using t,?_⟩
 .intro x G;rcases w x G with h|h
  .exact r.nX x h
  .rw[h];exact D
 .intro x G y u;rcases w x G with h|h
  .exact r.one x h y u
  .rw[h]at u;have J:=r.one cs (List.mem_of_getElem? B);simp only[List.mem_append]at u;rcases u with (h|h)|h
   .exact J y (List.mem_of_mem_take h)
   .exact W y h
   .exact J y (List.mem_of_mem_drop h)
 .rw[FL r.nX _ A D,hc,List.length_set];have z:=r.rel;have L:=Cu r.nX B;have e:List.take (xs.length*es) (List.drop p.o (List.take (p.o+el*es+off) c.toList++vs++List.drop (p.o+el*es+off+vs.length) c.toList)) =
   (((c.toList.drop p.o).take (xs.length*es)).take (el*es+off))++vs++(((c.toList.drop p.o).take (xs.length*es)).drop (el*es+off+vs.length)):=by
   have:=zL c.toList vs p.o (xs.length*es) (el*es+off) (by simpa using t) (by omega)
   simpa only[Nat.add_assoc]using this
  rw[e];have e2:xs.flatten.take (el*es)++(cs.take off++ys++cs.drop (off+ys.length))++xs.flatten.drop (el*es+es) =
   xs.flatten.take (el*es+off)++ys++xs.flatten.drop (el*es+off+ys.length):=by
   have Q:=e9 r.nX;have f1:xs.flatten.take (el*es+off)=xs.flatten.take (el*es)++cs.take off:=by
    rw[<-L,List.take_add,List.take_take,Nat.min_eq_left (by omega)]
   have f2:xs.flatten.drop (el*es+off+ys.length)=cs.drop (off+ys.length)++xs.flatten.drop (el*es+es):=by
    rw[<-L,List.drop_take];have:xs.flatten.drop (el*es+es)=(xs.flatten.drop (el*es+(off+ys.length))).drop (es-(off+ys.length)):=by rw[List.drop_drop];congr 1;omega
    rw[this,List.drop_drop,List.take_append_drop,Nat.add_assoc]
   rw[f1,f2];simp[List.append_assoc]
  rw[e2,<-O];exact((z.take _).append U).append (z.drop _)
theorem ME (U:dV P E) (r:dQ I μ n F a.tmps) (s:cG I μ H w) {t:TypeId} {p q:Operand} {x:V} (h:cO E F H (.store t p q)=some (x,H')) :
 Ar P I μ H w (do Instr.storeAt t (a.eval p) (a.eval q);pure .skip) x H':=by
 simp only[cO]at h;split at h
 .rename_i d id el off v T W X;split at h
  .rename_i es O z;split at h
   .rename_i C A;split at h
    .rename_i hc;obtain⟨Y,Z,D⟩:=hc;simp only[ζa,ζc]at h;obtain⟨rfl,rfl⟩:=h;obtain⟨pl,c,ty,g1,g2,g3,g4⟩:=s.obs id _ z;obtain⟨aa,Q,e⟩:=(c9 r W).rK;rw[g1]at Q;cases Q;have u:=(c9 r X).cells;have S:∀y∈v.cells,V.one y=true:=by simpa using D
     obtain⟨k1,k2,k3⟩:=g4.elem A;have G:=u.1;have hb:pl.o+el*es+off+0+(a.eval q).cells.toList.length<=c.size:=by omega
     obtain⟨c',f1,f2⟩:=nj (P:=P) (o:=pl.o+el*es+off) (a.eval q).cells.toList 0 w c g3 (u.ND S) hb;have B:fC I μ pl c' es (O.set el (C.take off++v.cells++C.drop (off+v.cells.length))):=g4.splice A u S (by omega) (by simpa using f2)
     have J:=(Array.getElem?_eq_some_iff.1 g3).1;obtain⟨s1,s2⟩:=s.write (ob':=.row es (O.set el (C.take off++v.cells++C.drop (off+v.cells.length)))) (o:=.cells c' ty) z rfl g1
      ⟨pl,c',ty,g1,g2,fH _ J,B⟩
     refine⟨.skip,undef,_,μ,?_,.inr ⟨rfl,rfl⟩,.undef I μ,s1,s2⟩;rw[e];have L:¬((a.eval q).cells.size≠d.size):=by simp at G;omega
     rw[g4.es_eq];unfold Instr.storeAt storeVar;simp only[Sem.run_bind,Instr.sureAddr,Sem.run_pure,Result.andThen_ok,(U.ty T).gK,if_neg L,f1]
    .simp at h
   .simp at h
  .simp at h
 .simp at h
end
end Go.VE
namespace Go.VE
variable [bN]
section
variable {P:Program} {E:Env} {I:b9} {μ:Mu} {H H':bf} {n:Nat} {F:Frame} {a:Act} {w:World}
theorem yI (s:cG I μ H w) {x:V} {v:Value} (W:bA I μ x v) {es:Nat} {ys:List (List V)} (h:dh H es x=some ys) :
 ∃B cap arr,v=.slice B ys.length cap/\ys.length<=cap/\(∀D:World,D.heap=w.heap->(Builtin.firstCells es ys.length v).run P D=.ok arr D)/\cz I μ ys.flatten arr.toList/\(∀y∈ys,y.length=es) /\
  (∀y∈ys,∀z∈y,V.one z=true):=by
 have u:∀(B:Option Addr) (cap:Nat) (D:World),D.heap=w.heap->(Builtin.firstCells es 0 (.slice B 0 cap)).run P D=.ok #[] D:=by
  intro B cap D _
  cases B with
  | none=>rfl
  | some B=>simp[Builtin.firstCells,loadCells,loadCellsFrom]
 cases x with
 | dg=>
  simp only[dh,ζa]at h;subst h;obtain⟨B,rfl⟩:=W.qJ;exact⟨B,0,#[],rfl,Nat.le_refl _,u B 0,.nil,by simp,by simp⟩
 | bB=>
  simp only[dh,ζa]at h;subst h;rw[W.kB];exact⟨none,0,#[],rfl,Nat.le_refl _,u none 0,.nil,by simp,by simp⟩
 | fsl t G=>
  simp only[dh]at h;split at h
  .rename_i X;simp only[ζa]at h;subst h;subst X;have hf:=W.kC
   cases hf with
   | fsl0 _ B cap=>exact⟨some B,cap,#[],rfl,Nat.zero_le _,u (some B) cap,.nil,by simp,by simp⟩
   | fsl _ _ b o cap c hI hc hu ho hb hr=>
    obtain⟨el,fr,Y⟩:=s.imm _ _ hI;refine⟨_,cap,((c.toList.drop o).take (G.length*t)).toArray,rfl,hc,?_,?_,hu,ho⟩
    .intro D J;simp only[Builtin.firstCells];exact tJ (oQ (w:=D) (by rw[J];exact Y)) (.inl hb)
    .have O:=e9 hu;refine⟨by simp[O];omega,λj p q h1 h2=>?_⟩
     have Q:=(ζe.1 h1).1;rw[O]at Q;have C:0<t:=by
      rcases Nat.eq_zero_or_pos t with h0|h0
      .rw[h0]at Q;simp at Q
      .exact h0
     have Z:j / t<G.length:=(Nat.div_lt_iff_lt_mul C).2 Q;have S:j % t<t:=Nat.mod_lt _ C;have T:=hu _ (List.getElem_mem Z);have e1:=tY hu (i:=j / t) (j:=j % t) (x:=G[j / t]) (y:=(G[j / t])[j % t]) (by simp[Z]) (by simp[T,S])
     have ej:j / t*t+j % t=j:=by rw[Nat.mul_comm,Nat.div_add_mod]
     rw[ej,h1]at e1;cases e1;simp only[List.getElem?_take,if_pos Q,List.getElem?_drop]at h2;refine .c _ _ (hr (j / t) (j % t) G[j / t] _ q (by simp[Z]) (by simp[T,S]) ?_)
     rw[Nat.add_assoc,ej];simpa using h2
  .simp at h
 | hsl id t off len=>
  simp only[dh]at h;split at h
  .rename_i X;subst X;split at h
   .rename_i L G U;split at h
    .rename_i aa;simp only[ζa]at h;subst h;obtain⟨p,c,g1,g2,g3⟩:=s.rows U;have A:((G.drop off).take len).length=len:=by simp;omega
     rcases W.kE with⟨q,cap,S,hq,hc,hb,e⟩|⟨h0,B,e⟩
     .rw[g1]at S;cases S;have C:L=t:=by rw[<-g3.es_eq,hq]
      subst C;obtain⟨k1,k2⟩:=g3.span aa;refine⟨_,cap,((c.toList.drop (p.o+off*L)).take (len*L)).toArray,by rw[e,A],by omega,?_,by simpa using k1,?_,?_⟩
      .intro D J;rw[e,A];simp only[Builtin.firstCells];exact tJ (λk=>by rw[<-g2 k];simp[World.cell?,J]) (.inl k2)
      .exact λy hy=>g3.nX y (List.mem_of_mem_drop (List.mem_of_mem_take hy))
      .exact λy hy=>g3.one y (List.mem_of_mem_drop (List.mem_of_mem_take hy))
     .subst h0;simp only[List.take_zero]at A ⊢;exact⟨_,0,#[],by rw[e];rfl,Nat.le_refl _,by rw[e];exact u _ 0,.nil,by simp,by simp⟩
    .simp at h
   .simp at h
  .simp at h
 | _=>simp[dh]at h
theorem o7 (z:Array Value) (k:Nat):(Builtin.zeroCells z k).size=k*z.size:=by simp[Builtin.zeroCells]
theorem cG.drew (s:cG I μ H w):cG I μ H w.drew:=s.nN rfl
theorem zu (s:cG I μ H w) {es B:Nat} {xs ys:List (List V)} {old new rest:Array Value} {el:TypeId} (Y:cz I μ xs.flatten old.toList) (hn:cz I μ ys.flatten new.toList)
 (G:∀x∈xs,x.length=es) (J:∀x∈ys,x.length=es) (U:∀x∈xs,∀y∈x,V.one y=true) (W:∀x∈ys,∀y∈x,V.one y=true)
 (D:xs.length+ys.length<=B) (hr:rest.size=(B-(xs.length+ys.length))*es) :
 ∃μ',bA I μ' (.hsl H.length es 0 (xs.length+ys.length)) (.slice (some ⟨w.heap.size,0,none⟩) (xs.length+ys.length) B)/\cG I μ' (H++[.row es (xs++ys)]) (w.alloc (.cells (old++new++rest) el)) /\
  Step I μ H w I μ' (H++[.row es (xs++ys)]) (w.alloc (.cells (old++new++rest) el)):=by
 have A:=e9 G;have C:=e9 J;have u:=Y.1;have z:=hn.1;simp only[Array.length_toList]at u z;have L:(old++new++rest).size=B*es:=by
  simp only[Array.size_append];rw[<-u,<-z,A,C,hr,<-Nat.add_mul,<-Nat.add_mul];congr 1;omega
 have t:(xs.length+ys.length)*es<=B*es:=Nat.mul_le_mul_right _ D;rw[Nat.add_mul]at t;have O:fC I μ ⟨w.heap.size,0,es,(old++new++rest).size⟩ (old++new++rest) es (xs++ys):=by
  refine⟨rfl,rfl,?_,?_,?_,?_⟩
  .intro x Q;rcases List.mem_append.1 Q with h|h;exact G x h;exact J x h
  .intro x Q;rcases List.mem_append.1 Q with h|h;exact U x h;exact W x h
  .rw[L];simp only[ζi,Nat.zero_add,Nat.add_mul];exact t
  .have e:((old++new++rest).toList.drop 0).take ((xs++ys).length*es)=old.toList++new.toList:=by
    simp only[List.drop_zero,Array.toList_append];rw[List.take_left' (by simp[<-u,<-z,A,C,Nat.add_mul])]
   rw[e,List.flatten_append];exact Y.append hn
 obtain⟨s1,S⟩:=s.push (ob:=.row es (xs++ys)) (o:=.cells (old++new++rest) el) (p:=⟨w.heap.size,0,es,(old++new++rest).size⟩) rfl
  ⟨_,_,el,Mu.fu _ _ _,s.wh,jK _,O.mono (b9.le_refl _) (Mu.pJ (s.dom _ (Nat.le_refl _)))⟩
 refine⟨_,?_,s1,S⟩;have:=bA.hsl (I:=I) H.length 0 (xs.length+ys.length) B _ (Mu.fu μ H.length ⟨w.heap.size,0,es,(old++new++rest).size⟩) D (by simp only[Nat.zero_add];rw[L];exact Nat.le_refl _)
 simpa using this
theorem Jo (s:cG I μ H w) {id:Nat} {ob ob':Ob} {p p':Pl} {o:Obj} (B:H[id]? = some ob) (U:ob.live=true) (W:μ id=some p) (Y:p'.b=p.b)
 (aa:q9 I (μ.fV H.length p') (eT w p.b o) H.length ob') (hz:Obj.nf o:=by first|exact rZ _ _|exact qc rfl):cG I (μ.fV H.length p') (H.set id .dead++[ob']) (eT w p.b o)/\Step I μ H w I (μ.fV H.length p') (H.set id .dead++[ob']) (eT w p.b o):=by
 have Z:=(ζe.1 B).1;have u:gC μ H p.b:=⟨id,p,ob,B,U,W,rfl⟩;have hk:=s.dom H.length (Nat.le_refl _);have t:∀k x,(H.set id .dead++[ob'])[k]? = some x->(k=H.length/\x=ob')\/(k≠H.length/\k=id/\x=.dead)\/(k≠H.length/\k≠id/\H[k]? = some x):=by
  intro k x h
  by_cases e:k<H.length
  .rw[List.getElem?_append_left (by simpa using e)]at h
   by_cases A:k=id
   .subst A;rw[List.getElem?_set_self Z]at h;cases h;exact .inr (.inl ⟨by omega,rfl,rfl⟩)
   .rw[List.getElem?_set_ne (Ne.symm A)]at h;exact .inr (.inr ⟨by omega,A,h⟩)
  .have:=(ζe.1 h).1;simp at this;have e2:k=H.length:=by omega
   subst e2;simp at h;exact .inl ⟨rfl,h.symm⟩
 have z:∀b,gC (μ.fV H.length p') (H.set id .dead++[ob']) b->gC μ H b:=by
  rintro b ⟨k,q,x,h1,L,Q,rfl⟩;rcases t k x h1 with⟨rfl,rfl⟩|⟨_,_,rfl⟩|⟨e,A,h⟩
  .rw[Mu.fu]at Q;cases Q;rw[Y];exact u
  .simp[Ob.live]at L
  .rw[Mu.gV _ _ e]at Q;exact⟨k,q,x,h,L,Q,rfl⟩
 refine⟨⟨?_,?_,?_,?_,s.gl⟩,⟨b9.le_refl _,Mu.pJ hk,by simp,by rw[qi];exact Nat.le_refl _,?_,?_,rfl,⟨rfl,rfl,Nat.le_refl _⟩,λa _=>A3 (b:=p.b) hz (fH o (lU s u)) (λk hk=>eB o hk) a⟩⟩
 .intro k h;simp at h;rw[Mu.gV _ _ (by omega)]
  exact s.dom k (by omega)
 .intro b x h;refine IC.ql (s.imm b x h) (eB o ?_);intro C;rw[C,fq s u]at h;cases h
 .intro k x h;rcases t k x h with⟨rfl,rfl⟩|⟨_,_,rfl⟩|⟨e,A,h⟩
  .exact aa
  .trivial
  .refine(s.obs k x h).mono (b9.le_refl _) (Mu.pJ hk) (λq hq O=>⟨eB o ?_,fq s ⟨k,q,x,h,O,hq,rfl⟩⟩) (λhe=>?_)
   .intro C;exact A (s.inj k id x ob q p h B O U hq W C)
   .subst he;rw[Mu.gV _ _ e];exact s.obs k _ h
 .intro k S x T q q' h1 L l1 X G J D;rcases t k x h1 with⟨rfl,rfl⟩|⟨_,_,rfl⟩|⟨e,A,h⟩
  .rcases t S T L with⟨rfl,rfl⟩|⟨_,_,rfl⟩|⟨f,f',g⟩
   .rfl
   .simp[Ob.live]at X
   .rw[Mu.fu]at G;cases G;rw[Mu.gV _ _ f]at J;exact absurd (s.inj S id T ob q' p g B X U J W (by rw[<-D,Y])) f'
  .simp[Ob.live]at l1
  .rcases t S T L with⟨rfl,rfl⟩|⟨_,_,rfl⟩|⟨f,f',g⟩
   .rw[Mu.fu]at J;cases J;rw[Mu.gV _ _ e]at G;exact absurd (s.inj k id x ob q p h B l1 U G W (by rw[D,Y])) A
   .simp[Ob.live]at X
   .rw[Mu.gV _ _ e]at G;rw[Mu.gV _ _ f]at J;exact s.inj k S x T q q' h g l1 X G J D
 .intro b _ hn;refine eB o ?_;rintro rfl;exact hn u
 .intro b h;rcases h with h|h
  .exact .inl h
  .exact .inr (.inl (z b h))
end
end Go.VE
namespace Go.VE
variable [bN]
section
variable {P:Program} {E:Env} {I:b9} {μ:Mu} {H H':bf} {n:Nat} {F:Frame} {a:Act} {w:World}
theorem BI (hE:dV P E) {t t' e:TypeId} {d:TD} {D:TypeDesc} (ht:P.underlying t=some (.slice e)) (W:P.underlying t'=some D) (Y:∃e',D=.slice e') (hd:E.tt e=some d)
 (U J:Option Addr) (sl sc B xc:Nat) (new:Array Value) (aa:(Builtin.firstCells d.size B (.slice J B xc)).run P w=.ok new w) (ty:TypeId) :
 (sl+B<=sc->∀w',(match U with|some b=>(storeCells (b.add (sl*d.size)) new.toList).run P w=.ok () w'|none=>w'=w) ->
  (Builtin.append_ #[t,t'] ty #[.slice U sl sc,.slice J B xc]).run P w=.ok (.slice U (sl+B) sc) w') /\
 (sc<sl+B->sl+B<=2147483648->d.bytes<=4096->0<d.bytes->∀old,(∀O,O.heap=w.heap->(Builtin.firstCells d.size sl (.slice U sl sc)).run P O=.ok old O) ->
  (∀O,O.heap=w.heap->(Builtin.firstCells d.size B (.slice J B xc)).run P O=.ok new O) ->
  ∃G rest,sl+B<=G/\rest.size=(G-(sl+B))*d.size /\
   (Builtin.append_ #[t,t'] ty #[.slice U sl sc,.slice J B xc]).run P w=.ok (.slice (some ⟨w.heap.size,0,none⟩) (sl+B) G) (w.drew.alloc (.cells (old++new++rest) e))):=by
 obtain⟨i,z,I,Z,af,hz,L,ah,_⟩:=(hE.ty hd).info;have u:∀w,(zeroValue e).run P w=.ok z w:=λw=>by simp[zeroValue,nq I,hz]
 have Q:z.cells.size=d.size:=by have:=(L (λ_=>none) (λ_=>none)).1;grind
 obtain⟨e',rfl⟩:=Y;constructor
 .intro S w' ai;unfold Builtin.append_;simp only[Sem.run_bind,List.getElem?_toArray,List.getElem?_cons_zero,List.getElem?_cons_succ,dc ht,dc W,Result.andThen_ok,(hE.ty hd).gK,Sem.run_pure,Builtin.lenOf,Bool.false_eq_true,if_false,Bool.not_false,if_true,if_pos S,aa]
  cases U with
  | none=>simp_all
  | some b=>simp_all
 .intro T ab aj ae old hold A;have X  := nextslicecap_le T;have c1:¬(Builtin.nextslicecap (sl+B) sc*i.bytes>2 ^ 48):=by
   have:Builtin.nextslicecap (sl+B) sc*i.bytes<=(2*2147483648)*4096:=Nat.mul_le_mul (by omega) (by omega)
   omega
  have C:¬(sl+B<=sc):=by omega
  refine⟨(Question.appendCap (sl+B) sc e).cut (w.tape w.drawn (Question.appendCap (sl+B) sc e)),Builtin.zeroCells z.cells (((Question.appendCap (sl+B) sc e).cut (w.tape w.drawn (Question.appendCap (sl+B) sc e)))-(sl+B)),?_,?_,?_⟩
  .simp[Question.cut]
  .rw[o7,Q]
  .unfold Builtin.append_;simp only[Sem.run_bind,List.getElem?_toArray,List.getElem?_cons_zero,List.getElem?_cons_succ,dc ht,dc W,Result.andThen_ok,(hE.ty hd).gK,Sem.run_pure,Builtin.lenOf,Bool.false_eq_true,if_false,Bool.not_false,if_true,if_neg C,nq I];rw[if_neg (by grind)]
   simp only[Sem.run_bind,nq I,if_neg c1,run_choose,Question.forced,Bool.false_eq_true,if_false,Result.andThen_ok,run_askRoom,u,newRow,run_newObj,Sem.run_pure];rw[hold { w with drawn:=w.drawn+1 } rfl];simp only[Result.andThen_ok];rw[A { w with drawn:=w.drawn+1 } rfl];rfl
theorem wrap_small {m:Nat} (h:m<=2147483648):IntKind.i64.wrap (m:Int)=m:=by simp[IntKind.wrap,IntKind.bits];omega
theorem Di (U:dV P E) {t W e:TypeId} {d:TD} {kk k:IntKind} (ht:P.underlying t=some (.slice e)) (G:P.underlying W=some (.int kk)) (Y:E.tt e=some d) (ty:TypeId) (m:Nat) (D:m<=2147483648) :
 (m=0->(Builtin.append_ #[t,W] ty #[.slice none 0 0,.int k m]).run P w=.ok (.slice none 0 0) w) /\
 (0<m->d.bytes<=4096->0<d.bytes->∃B z rest,m<=B/\rest.size=(B-m)*d.size/\cz I μ d.zero z.toList /\
  (Builtin.append_ #[t,W] ty #[.slice none 0 0,.int k m]).run P w=.ok (.slice (some ⟨w.heap.size,0,none⟩) m B) (w.drew.alloc (.cells (#[]++Builtin.zeroCells z m++rest) e))):=by
 obtain⟨i,z,O,X,ab,hz,A,ad,_⟩:=(U.ty Y).info;have u:∀w,(zeroValue e).run P w=.ok z w:=λw=>by simp[zeroValue,nq O,hz]
 have C:z.cells.size=d.size:=by have:=(A (λ_=>none) (λ_=>none)).1;grind
 have hw:=wrap_small D;constructor
 .rintro rfl;unfold Builtin.append_;have Q:IntKind.i64.wrap 0=0:=by omega
  simp[dc ht,dc G,(U.ty Y).gK,asInt,nq O,kq,Q]
 .intro Z ae aa;have S:Builtin.nextslicecap (0+m) 0<=2*(0+m):=nextslicecap_le (by omega)
  have c1:¬(Builtin.nextslicecap (0+m) 0*i.bytes>2 ^ 48):=by
   have:Builtin.nextslicecap (0+m) 0*i.bytes<=(2*2147483648)*4096:=Nat.mul_le_mul (by omega) (by omega)
   omega
  have c0:¬(m*(i.bytes:Int)>2 ^ 48):=by
   have h1:m*i.bytes<=2147483648*4096:=Nat.mul_le_mul D (by omega)
   grind
  have c2:¬((0+m:Nat)>IntKind.i64.max):=by
   have:IntKind.i64.max=9223372036854775807:=by rfl
   omega
  have J:¬(0+m<=0):=by omega
  have L:¬((m:Int)<0):=by omega
  refine⟨(Question.appendCap (0+m) 0 e).cut (w.tape w.drawn (Question.appendCap (0+m) 0 e)),z.cells,Builtin.zeroCells z.cells (((Question.appendCap (0+m) 0 e).cut (w.tape w.drawn (Question.appendCap (0+m) 0 e)))-(0+m)),?_,?_,A _ _,?_⟩
  .simp[Question.cut]
  .rw[o7,C,Nat.zero_add]
  .unfold Builtin.append_;have T:(if m*d.size=0 then pure #[]else do pure (Builtin.zeroCells (<-zeroValue e).cells m))=(do pure (Builtin.zeroCells (<-zeroValue e).cells m))\/(m*d.size=0/\Builtin.zeroCells z.cells m=#[]):=by
    by_cases h:m*d.size=0
    .right;exact⟨h,Array.eq_empty_of_size_eq_zero (by rw[o7,C,h])⟩
    .left;rw[if_neg h]
   simp only[Sem.run_bind,List.getElem?_toArray,List.getElem?_cons_zero,List.getElem?_cons_succ,dc ht,dc G,Result.andThen_ok,(U.ty Y).gK,Sem.run_pure,if_true,asInt,kq,hw,if_neg L,nq O,if_neg c0,Int.toNat_natCast,if_neg J,if_false];rw[if_neg (λh=>c2 h.1)]
   simp only[Sem.run_bind,nq O,if_neg c1,run_choose,Question.forced,Result.andThen_ok,u,newRow,Builtin.firstCells];rcases T with h|⟨h,h'⟩
   .rw[h];simp[u,run_newObj]
   .rw[if_pos h,h'];simp[run_newObj]
theorem KP (hE:dV P E) (r:dQ I μ n F a.tmps) (s:cG I μ H w) {args:Array Operand} {O:Array TypeId} {x:V} {ty:TypeId}
 (h:cO E F H (.call { callee:=.builtin .append,args,argTypes:=O })=some (x,H')) :
 Ar P I μ H w (do let d <-resolve a.eval { callee:=.builtin .append,args,argTypes:=O } ty;invoke d.target d.args) x H':=by
 simp[cO]at h;split at h
 .rename_i t t' vs vx ax ai;obtain⟨us,ux,U,hs,T⟩:=(mm r ai).two;split at h
  .rename_i e e' hk aj;obtain⟨d0,ak,al⟩:=eR hk;obtain⟨desc,h1,h2,h3⟩:=(hE.ty ak).dc;rw[al]at h2;have:=iG h2;subst this;obtain⟨d1,iY,W⟩:=eR aj;obtain⟨am,g1,g2,g3⟩:=(hE.ty iY).dc;rw[W]at g2;have:=iG g2;subst this;have B:∀v w',(Builtin.append_ #[t,t'] ty #[us,ux]).run P w=.ok v w' ->
    (do let d <-resolve a.eval { callee:=.builtin .append,args,argTypes:=O } ty;invoke d.target d.args).run P w=.ok (.value v) w':=by
    simp[resolve,Sem.run_bind,Sem.run_pure,Result.andThen_ok,invoke,builtin];rw[qD U];have ea:O=#[t,t']:=by grind
    simp_all
   split at h
   .rename_i d hd;split at h
    .
     rename_i xs A an;obtain⟨ad,cap,arr,e1,e2,e3,e4,_⟩:=yI (P:=P) s hs A;obtain⟨ao,X,C,f1,f2,f3,f4,_⟩:=yI  s T an;simp  at f1 f3;have ay:C=#[]:=by
      have:=f4.1;grind
     have f3:=f3 w rfl;rw[f1]at f3;have key:=(BI hE h1 g1 ⟨_,rfl⟩ hd ad ao xs.length cap 0 X C f3 ty).1 (by omega) w
      (by
       cases ad with
       | none=>rfl
       | some b=>simp[ay,storeCells])
     rw[<-f1,<-e1,Nat.add_zero,<-e1]at key;have ap:x=vs/\H'=H:=by
      grind
     obtain⟨rfl,rfl⟩:=ap;exact⟨_,us,w,μ,B _ _ key,.inl rfl,hs,s,.refl _ _ _ _⟩
    .rename_i xs ys aG A an;obtain⟨ad,cap,arr,e1,e2,e3,e4,e5,e6⟩:=yI  s hs A;obtain⟨ao,X,C,f1,f2,f3,f4,f5,f6⟩:=yI  s T an;split at h
     .rename_i hc;obtain⟨aA,aq,ar⟩:=hc;have aH:0<ys.length:=by
       rcases Nat.eq_zero_or_pos ys.length with h0|h0
       .exact absurd (List.eq_nil_of_length_eq_zero h0) aG
       .exact h0
      have key:=BI hE h1 g1 ⟨_,rfl⟩ hd ad ao xs.length cap ys.length X C (by rw[<-f1];exact f3 w rfl) ty
      rw[<-f1,<-e1]at key;have Q:cap<xs.length+ys.length->∃D rest,xs.length+ys.length<=D/\rest.size=(D-(xs.length+ys.length))*d.size /\
       (Builtin.append_ #[t,t'] ty #[us,ux]).run P w=.ok (.slice (some ⟨w.heap.size,0,none⟩) (xs.length+ys.length) D) (w.drew.alloc (.cells (arr++C++rest) e)):=by
       intro au;refine key.2 au aA aq ar arr ?_ ?_
       .intro w2 av;exact e3 w2 av
       .intro w2 av;exact f3 w2 av
      simp  at h;obtain⟨H1,J,rfl,rfl⟩:=h
      cases vs with
      | dg=>
       simp[gb]at J;subst J;simp[dh]at A;subst A;obtain⟨aI,q⟩:=hs.qJ;have af:cap=0:=by rw[q]at e1;cases e1;rfl
       obtain⟨D,rest,k1,k2,k3⟩:=Q (by simp;omega)
       obtain⟨μ',m1,m2,m3⟩:=zu  s.drew e4 f4 e5 f5 e6 f6 k1 k2;refine⟨_,_,_,μ',B _ _ k3,.inl rfl,m1,m2,?_⟩;exact Step.trans s.drew (Step.nN rfl rfl ⟨rfl,rfl,Nat.le_succ _⟩) m3
      | bB=>
       simp[gb]at J;subst J;simp[dh]at A;subst A;have q:=hs.kB;have af:cap=0:=by rw[q]at e1;cases e1;rfl
       obtain⟨D,rest,k1,k2,k3⟩:=Q (by simp;omega)
       obtain⟨μ',m1,m2,m3⟩:=zu  s.drew e4 f4 e5 f5 e6 f6 k1 k2;refine⟨_,_,_,μ',B _ _ k3,.inl rfl,m1,m2,?_⟩;exact Step.trans s.drew (Step.nN rfl rfl ⟨rfl,rfl,Nat.le_succ _⟩) m3
      | hsl id es off len=>
       simp[gb]at J;split at J
       .rename_i u aJ ab;simp  at J;subst J;have aB:(H[id]?).bind Ob.rows=some (u,aJ):=by rw[ab];rfl
        have aW:=A;simp only[dh]at A;split at A
        .rename_i aK;rw[aB]at A;simp only at A;split at A
         .rename_i aL;simp  at A;obtain⟨p,c,aC,q1,q2,q3,q4⟩:=s.obs id _ ab;have Y:xs.length=len:=by rw[<-A];simp;omega
          have G:cap<xs.length+ys.length->Ar P I μ H w (do let d <-resolve a.eval { callee:=.builtin .append,args,argTypes:=O } ty;invoke d.target d.args)
           (.hsl H.length d.size 0 (xs.length+ys.length)) (H.set id .dead++[.row d.size (xs++ys)]):=by
           intro au;obtain⟨D,rest,k1,k2,k3⟩:=Q au;obtain⟨s1,s2⟩:=s.drew.kill ab;obtain⟨μ',m1,m2,m3⟩:=zu  s1 e4 f4 e5 f5 e6 f6 k1 k2;rw[List.length_set]at m1;exact⟨_,_,_,μ',B _ _ k3,.inl rfl,m1,m2,Step.trans s.drew (Step.nN rfl rfl ⟨rfl,rfl,Nat.le_succ _⟩) (Step.trans s1 s2 m3)⟩
          rcases hs.kE with⟨p',S,hm,aM,aX,aN,ee⟩|⟨h0,aI,ee⟩
          .rw[q1]at hm;cases hm;have aw:S=cap/\ad=some ⟨p.b,p.o+off*es,none⟩:=by rw[ee]at e1;cases e1;exact⟨rfl,rfl⟩
           obtain⟨rfl,rfl⟩:=aw
           by_cases ah:xs.length+ys.length<=S
           .have aD:u=es:=by rw[<-q4.es_eq,aM]
            subst aD;have L  := aK;obtain⟨r1,r2⟩:=q4.span aL;rw[A]at r1;have ae:=f4.1;simp only[Array.length_toList]at ae;rw[e9 f5]at ae;have aO:(len+ys.length)*u<=S*u:=Nat.mul_le_mul_right _ (by omega)
            rw[Nat.add_mul]at aO;rw[Nat.add_mul]at aN;have aP:=q4.sz;rw[<-L]at ae;have Z:p.o+off*u+len*u+0+C.toList.length<=c.size:=by simp;omega
            obtain⟨c',u1,u2⟩:=nj   C.toList 0 w c q3 (f4.ND (λx T=>by
             obtain⟨l,hl,aQ⟩:=List.mem_flatten.1 T;exact f6 l hl x aQ)) Z
            have aE:c'.size=c.size:=by
             have:=congrArg List.length u2;simp at this Z;omega
            have aF:=key.1 ah (eT w p.b (.cells c' aC)) (by
             simp[oD,Y];rw[<-L];exact u1)
            have aa:fC I μ ⟨p.b,p.o+off*u,u,p.sz⟩ c' u (xs++ys):=by
             refine⟨rfl,by rw[aE];exact aP,?_,?_,?_,?_⟩
             .intro x T;rcases List.mem_append.1 T with h|h;exact(e5 x h).trans L.symm;exact(f5 x h).trans L.symm
             .intro x T;rcases List.mem_append.1 T with h|h;exact e6 x h;exact f6 x h
             .rw[aE,ζi,Y,Nat.add_mul];simp only;omega
             .have e:(c'.toList.drop (p.o+off*u)).take ((xs++ys).length*u)=(c.toList.drop (p.o+off*u)).take (len*u)++C.toList:=by
               rw[u2,ζi,Y,Nat.add_mul,ae];simp only[Nat.add_zero];have aR:(List.take (p.o+off*u+len*u) c.toList).length=p.o+off*u+len*u:=by simp;omega
               rw[List.append_assoc,List.drop_append_of_le_length (by rw[aR];omega),List.drop_take,show p.o+off*u+len*u-(p.o+off*u)=len*u by omega]
               have aS:(List.take (len*u) (List.drop (p.o+off*u) c.toList)).length=len*u:=by simp;omega
               rw[<-List.append_assoc,List.take_left' (by rw[ζi,aS];simp)]
              rw[e,List.flatten_append];exact r1.append f4
            obtain⟨s1,s2⟩:=Jo (ob':=.row u (xs++ys)) (p':=⟨p.b,p.o+off*u,u,p.sz⟩)  s ab rfl q1 rfl
             ⟨_,c',aC,Mu.fu _ _ _,q2,fH _ (Array.getElem?_eq_some_iff.1 q3).1,aa.mono (b9.le_refl _) (Mu.pJ (s.dom _ (Nat.le_refl _)))⟩
            rw[<-L];refine⟨_,_,_,_,B _ _ aF,.inl rfl,?_,s1,s2⟩;have:=bA.hsl (I:=I) H.length 0 (xs.length+ys.length) S _ (Mu.fu μ H.length ⟨p.b,p.o+off*u,u,p.sz⟩) ah (by simp ;omega)
            simpa using this
           .exact G (by omega)
          .have af  := by rw[ee]at e1;simp[Value.slice.injEq]at e1;exact e1.2.2.symm
           exact G (by omega)
         .simp at A
        .simp at A
       .simp at J
      | _=>simp[gb]at J
     grind
    grind
   grind
  .
   rename_i e kk hk aj;obtain⟨d0,ak,al⟩:=eR hk;obtain⟨desc,h1,h2,h3⟩:=(hE.ty ak).dc;rw[al]at h2;have:=iG h2;subst this;obtain⟨d1,iY,W⟩:=eR aj;obtain⟨am,g1,g2,g3⟩:=(hE.ty iY).dc;rw[W]at g2;have:=Bu g2;subst this;have B:∀v w',(Builtin.append_ #[t,t'] ty #[us,ux]).run P w=.ok v w' ->
    (do let d <-resolve a.eval { callee:=.builtin .append,args,argTypes:=O } ty;invoke d.target d.args).run P w=.ok (.value v) w':=by
    intro v w' hv;simp[resolve,Sem.run_bind,Sem.run_pure,Result.andThen_ok,invoke,builtin];rw[qD U];have ea:O=#[t,t']:=by apply Array.ext';simpa using ax
    rw[ea,hv];rfl
   split at h
   .rename_i d hd;unfold mkApp at h;split at h
    .rename_i k m;have q:=hs.kB;subst q;have q:=T.eP;subst q;split at h
     .rename_i h0;subst h0;cases h;have key:=(Di (μ:=μ) (I:=I) (w:=w) (k:=k) hE h1 g1 hd ty 0 (by omega)).1 rfl
      exact⟨_,_,w,μ,B _ _ key,.inl rfl,hs,s,.refl _ _ _ _⟩
     .split at h
      .rename_i hc;obtain⟨aT,aA,aq,ar⟩:=hc;cases h;obtain⟨m,rfl⟩:=Int.eq_ofNat_of_zero_le (Int.le_of_lt aT);obtain⟨D,z,rest,k1,k2,k3,k4⟩:=(Di     hE h1 g1 hd ty m (by omega)).2 (by omega) aq ar
       have aU  := (hE.ty hd).info.choose_spec.choose_spec.2.2.2.2.2.1;have aV  := (hE.ty hd).info.choose_spec.choose_spec.2.2.2.2.2.2.1;have hu:∀x∈List.replicate m d.zero,x.length=d.size:=λx T=>by rw[List.eq_of_mem_replicate T];exact aU
       have ho:∀x∈List.replicate m d.zero,∀y∈x,V.one y=true:=λx T y hy=>by rw[List.eq_of_mem_replicate T]at hy;exact List.all_eq_true.1 aV y hy
       obtain⟨μ',m1,m2,m3⟩:=zu  (xs:=[]) (ys:=List.replicate m d.zero) (old:=#[]) (new:=Builtin.zeroCells z m) (rest:=rest) s.drew .nil (uY k3 m) (by simp) hu (by simp) ho (by simpa using k1) (by simpa using k2)
       simp  at m1 m2 m3;refine⟨_,_,_,μ',B _ _ k4,.inl rfl,by simpa using m1,by simpa using m2,?_⟩
       exact Step.trans s.drew (Step.nN rfl rfl ⟨rfl,rfl,Nat.le_succ _⟩) (by simpa using m3)
      .cases h
    .cases h
   .cases h
  grind
 grind
theorem xL {es:Nat} {xs:List (List V)} (hu:∀x∈xs,x.length=es) (k:Nat) (hk:k<=xs.length):(xs.take k).flatten=xs.flatten.take (k*es)/\(xs.drop k).flatten=xs.flatten.drop (k*es):=by
 have t:xs.flatten=(xs.take k).flatten++(xs.drop k).flatten:=by rw[<-List.flatten_append,List.take_append_drop]
 have g1:(xs.take k).flatten.length=k*es:=by
  rw[e9 (λx t=>hu x (List.mem_of_mem_take t)),List.length_take,Nat.min_eq_left hk]
 grind
theorem Nr (hE:dV P E) (r:dQ I μ n F a.tmps) (s:cG I μ H w) {args:Array Operand} {B:Array TypeId} {x:V} {ty:TypeId}
 (h:cO E F H (.call { callee:=.builtin .clear,args,argTypes:=B })=some (x,H')) :
 Ar P I μ H w (do let d <-resolve a.eval { callee:=.builtin .clear,args,argTypes:=B } ty;invoke d.target d.args) x H':=by
 simp[cO]at h;split at h
 .rename_i t v ae L;obtain⟨u,hu,hr⟩:=(mm r L).one;split at h
  .rename_i e hk;obtain⟨d0,af,ah⟩:=eR hk;obtain⟨desc,h1,h2,h3⟩:=(hE.ty af).dc;rw[ah]at h2;have:=iG h2;split at h
   .rename_i d hd;obtain⟨i,z,hi,ar,av,hz,S,ai,aj,_⟩:=(hE.ty hd).info;have ak:∀w,(zeroValue e).run P w=.ok z w:=λw=>by simp[zeroValue,nq hi,hz]
    have al:z.cells.size=d.size:=by have:=(S (λ_=>none) (λ_=>none)).1;grind
    have J:∀v w',(Builtin.clear_ B ty #[u]).run P w=.ok v w' ->
     (do let d <-resolve a.eval { callee:=.builtin .clear,args,argTypes:=B } ty;invoke d.target d.args).run P w=.ok (.value v) w':=by
     intro v w' hv;simp[resolve,Sem.run_bind,Sem.run_pure,Result.andThen_ok,invoke,builtin];rw[qD hu,hv];rfl
    have T:∀U cap,u=.slice U 0 cap->Ar P I μ H w (do let d <-resolve a.eval { callee:=.builtin .clear,args,argTypes:=B } ty;invoke d.target d.args) .undef H:=λU cap q=>by
     subst q;refine⟨_,.tuple #[],w,μ,J (.tuple #[]) w ?_,.inl rfl,bA.undef _ _,s,.refl _ _ _ _⟩;unfold Builtin.clear_;cases U <;> simp[ae,h3]
    unfold AT at h;split at h
    .cases h;exact T _ _ hr.kB
    .obtain⟨U,q⟩:=hr.qJ;grind
    .rename_i id es off len;split at h
     .rename_i O;subst O;split at h
      .rcases hr.kE with⟨p,cap,_,_,_,_,q⟩|⟨_,U,q⟩
       .grind
       grind
      .rename_i len;split at h
       .rename_i am Q W;split at h
        .rename_i X;cases h;obtain⟨p,c,el,hp,hI,C,A⟩:=s.obs id _ W;rcases hr.kE with⟨q,cap,hq,an,au,ao,rfl⟩|⟨h0,_⟩
         .rw[hp]at hq;cases hq;have O:am=d.size:=by rw[<-A.es_eq,an]
          subst O;have G:(Builtin.zeroCells z.cells (len+1)).size=(len+1)*d.size:=by rw[o7,al]
          have aw:=A.room;have Y:(off+(len+1))*d.size<=Q.length*d.size:=Nat.mul_le_mul_right _ X;rw[Nat.add_mul]at Y;have D:=uY   (S I μ) (len+1);have ap:∀x∈List.replicate (len+1) d.zero,x.length=d.size:=λx hx=>by rw[List.eq_of_mem_replicate hx];exact ai
          have Z:∀x∈List.replicate (len+1) d.zero,∀y∈x,V.one y=true:=λx hx y hy=>by rw[List.eq_of_mem_replicate hx]at hy;exact List.all_eq_true.1 aj y hy
          obtain⟨c',u1,u2⟩:=nj (P:=P) (o:=p.o+off*d.size) (Builtin.zeroCells z.cells (len+1)).toList 0 w c C (cz.ND D (λx hx=>by
           obtain⟨l,hl,aq⟩:=List.mem_flatten.1 hx;exact Z l hl x aq)) (by simp[G];omega)
          rw[Nat.add_zero]at u2;have aa:c'.size=c.size:=by
           have:=congrArg List.length u2;simp[G]at this;omega
          obtain⟨s2,st2⟩:=s.write  (ob':=.row d.size (Q.take off++List.replicate (len+1) d.zero++Q.drop (off+(len+1)))) W rfl hp
           ⟨p,c',el,hp,hI,fH _ (Array.getElem?_eq_some_iff.1 C).1,by
            have ab:(Q.take off++List.replicate (len+1) d.zero++Q.drop (off+(len+1))).length=Q.length:=by simp;omega
            refine⟨A.es_eq,by rw[aa];exact A.sz,?_,?_,by rw[ab,aa];exact A.room,?_⟩
            .intro x hx;rcases List.mem_append.1 hx with hx|hx
             .rcases List.mem_append.1 hx with hx|hx
              .exact A.nX x (List.mem_of_mem_take hx)
              .exact ap x hx
             .exact A.nX x (List.mem_of_mem_drop hx)
            .intro x hx;rcases List.mem_append.1 hx with hx|hx
             .rcases List.mem_append.1 hx with hx|hx
              .exact A.one x (List.mem_of_mem_take hx)
              .exact Z x hx
             .exact A.one x (List.mem_of_mem_drop hx)
            .rw[ab,u2];have hL:=zL c.toList (Builtin.zeroCells z.cells (len+1)).toList p.o (Q.length*d.size) (off*d.size) (by simp;omega) (by simp[G];omega)
             rw[hL,List.flatten_append,List.flatten_append,(xL A.nX off (by omega)).1,(xL A.nX _ X).2]
             have e:off*d.size+(Builtin.zeroCells z.cells (len+1)).toList.length=(off+(len+1))*d.size:=by simp[G,Nat.add_mul]
             rw[e];exact((A.rel.take _).append D).append (A.rel.drop _)⟩
          refine⟨_,.tuple #[],_,μ,J (.tuple #[]) (eT w p.b (.cells c' el)) ?_,.inl rfl,bA.undef _ _,s2,st2⟩;unfold Builtin.clear_;simp_all
         simp_all
        simp_all
       simp_all
     simp_all
    simp_all
   simp_all
  simp_all
 simp_all
end
end Go.VE
namespace Go.VE
variable [bN]
section
variable {P:Program} {E:Env} {I:b9} {μ:Mu} {H H':bf} {n:Nat} {F:Frame} {a:Act} {w:World}
theorem Sw (s t:ByteArray) (h:(s==t)=true):s=t:=by
 cases s with|mk a=>cases t with|mk b=>
 have u:(a==b)=true:=h
 grind
inductive wK (P:Program) (E:Env) (t:TypeId):V->Value->Prop
 | int (k:IntKind) (m:Int) (h:P.underlying t=some (.int k)):wK P E t (.int k m) (.int k m)
 | str (s:ByteArray) (h:P.underlying t=some .string):wK P E t (.str s) (.string s)
 | agg (m:Nat) (cs:List V) (l:List Int) (h:rM P t m) (hl:l.length=m) (hi:gE cs=some l):wK P E t (.agg cs) (.agg (ic l))
theorem KI (B:dV P E) {t:TypeId} {k:V} {v:Value} (h:u_ E t k=true) (hv:bA I μ k v):wK P E t k v:=by
 unfold u_ at h;split at h
 .rename_i k1 k2 m hk;obtain⟨d,z,u⟩:=eR hk;obtain⟨desc,h1,w,G⟩:=(B.ty z).dc;rw[u]at w;have:=Bu w;subst this;have e:k1=k2:=by grind
  subst e;rw[hv.eP];exact .int _ _ h1
 .rename_i s hk;obtain⟨d,z,u⟩:=eR hk;obtain⟨desc,h1,w,G⟩:=(B.ty z).dc;rw[u]at w;have:=yq w;subst this;rw[hv.rI];exact .str _ h1
 .rename_i J _;split at h
  .rename_i m A;simp[Option.isSome_iff_exists]at h;obtain⟨L,l,D⟩:=h;obtain⟨O,rfl,C⟩:=hv.gR;obtain⟨rfl,e⟩:=oK D C;exact .agg m J l (B.eqN _ _ A) (by omega) D
  grind
 grind
theorem Lq (d:Nat) (e:Bool) {t:TypeId} {k:IntKind} {m:Int} (h:P.underlying t=some (.int k)):(Instr.checkKey e (d+1) t (.int k m)).run P w=.ok () w:=by
 simp[Instr.checkKey,Sem.run_bind,dc h,Result.andThen_ok,Sem.run_pure]
theorem Lc (d:Nat) (e:Bool) {t:TypeId} {m:ByteArray} (h:P.underlying t=some .string):(Instr.checkKey e (d+1) t (.string m)).run P w=.ok () w:=by
 simp[Instr.checkKey,Sem.run_bind,dc h,Result.andThen_ok,Sem.run_pure]
theorem wQ {t:TypeId} {k:V} {v:Value} (h:wK P E t k v) (e:Bool):(Instr.checkKey e 10000 t v).run P w=.ok () w:=by
 cases h with
 | int k m h=>exact Lq 9999 e h
 | str s h=>exact Lc 9999 e h
 | agg m z l h u A=>exact h.check w e l u
def kF (I:b9) (μ:Mu) (es:List MapEntry) (i:Nat):Option (Nat×V)->Option (Nat×Value)->Prop
 | none,none=>True
 | some (j,x),some (B,v)=>j=B/\bA I μ x v/\i<=j/\∃e,es[j-i]? = some e/\e.val=v
 | _,_=>False
theorem A5 {d:TypeDesc} {k:V} {v:Value} (O:(∃kk m,d=.int kk/\k=.int kk m/\v=.int kk m)\/(∃s,d=.string/\k=.str s/\v=.string s)) :
 ∀(B:List (V×V)) (es:List MapEntry) (i:Nat) (r:Option (Nat×V)),B.length=es.length->(∀(j:Nat) q e,B[j]? = some q->es[j]? = some e->bA I μ q.1 e.key/\bA I μ q.2 e.val) ->
 gA k B i=some r->∃D,Instr.findNow d v es i=some D/\kF I μ es i r D/\∀j x,r=some (j,x)->∃e,es[j-i]? = some e/\e.key=v:=by
 intro B
 induction B with
 | nil=>
  intro es i r J _ h
  cases es with
  | nil=>simp only[gA,ζa]at h;subst h;exact⟨none,rfl,trivial,by simp⟩
  | cons _ _=>simp_all
 | cons q B L=>
  intro es i r J hr h
  cases es with
  | nil=>simp_all
  | cons e es=>
   obtain⟨A,Q⟩:=q;obtain⟨g1,g2⟩:=hr 0 (A,Q) e rfl rfl;simp only[gA]at h;have t:∀b,uI k A=some b->Instr.sameNow d v e.key=some b/\(b=true->e.key=v):=by
    intro b u;rcases O with⟨kk,m,rfl,rfl,rfl⟩|⟨s,rfl,rfl,rfl⟩
    .cases A <;> simp only[uI]at u <;> (try grind)
     rename_i k2 m2;split at u
     .rename_i C;simp only[ζa]at u;subst u;subst C;rw[g1.eP];exact⟨by simp[Instr.sameNow],by simp;grind⟩
     grind
    .cases A <;> simp only[uI]at u <;> (try (simp at u;done))
     simp only[ζa]at u;subst u;rw[g1.rI];exact⟨by simp[Instr.sameNow],λS=>by rw[Sw _ _ S]⟩
   split at h
   .rename_i hk;obtain⟨f1,f2⟩:=t true hk;simp only[ζa]at h;subst h;refine⟨some (i,e.val),by simp[Instr.findNow,f1],⟨rfl,g2,Nat.le_refl _,e,by simp,rfl⟩,?_⟩
    intro j x w;simp only[ζa,ζc]at w;obtain⟨rfl,_⟩:=w;exact⟨e,by simp,f2 rfl⟩
   .rename_i hk;obtain⟨f1,_⟩:=t false hk;obtain⟨D,p1,p2,p3⟩:=L es (i+1) r (by simpa using J) (λj a b x y=>hr (j+1) a b (by simpa using x) (by simpa using y)) h
    refine⟨D,by simp[Instr.findNow,f1,p1],?_,?_⟩
    .cases r with
     | none=>cases D <;> simp_all [kF]
     | some z=>
      cases D with
      | none=>simp[kF]at p2
      | some T=>
       obtain⟨U,W,c3,G,X,Y⟩:=p2;exact⟨U,W,by omega,G,by rw[show z.1-i=(z.1-(i+1))+1 by omega];simpa using X,Y⟩
    .intro j x w;obtain⟨G,Z,u2⟩:=p3 j x w;subst w;have:i+1<=j:=by
      cases D with
      | none=>simp[kF]at p2
      | some T=>exact p2.2.2.1
     exact⟨G,by rw[show j-i=(j-(i+1))+1 by omega];simpa using Z,u2⟩
   grind
theorem Jl {t:TypeId} {m:Nat} (U:rM P t m) {cs:List V} {l:List Int} (W:l.length=m) (Y:gE cs=some l) :
 ∀(B:List (V×V)) (es:List MapEntry) (i:Nat) (r:Option (Nat×V)),B.length=es.length->(∀(j:Nat) q e,B[j]? = some q->es[j]? = some e->bA I μ q.1 e.key/\bA I μ q.2 e.val) ->
 gA (.agg cs) B i=some r->∃D,(Instr.findAsking t (.agg (ic l)) es i).run P w=.ok D w/\kF I μ es i r D/\∀j x,r=some (j,x)->∃e,es[j-i]? = some e/\e.key=.agg (ic l):=by
 intro B
 induction B with
 | nil=>
  intro es i r A _ h
  cases es with
  | nil=>simp[gA]at h;subst h;exact⟨none,rfl,trivial,by simp⟩
  | cons _ _=>simp_all
 | cons q B S=>
  intro es i r A hr h
  cases es with
  | nil=>simp_all
  | cons e es=>
   obtain⟨C,T⟩:=q;obtain⟨g1,g2⟩:=hr 0 (C,T) e rfl rfl;simp[gA]at h;have u:∀b,uI (.agg cs) C=some b->(Op.equal t (.agg (ic l)) e.key).run P w=.ok b w/\(b=true->e.key=.agg (ic l)):=by
    intro b G;cases C <;> simp[uI]at G <;> (try (simp at G))
    obtain⟨ia,X,O,x2,x3,rfl⟩:=vv G;rw[Y]at O;cases O;obtain⟨vb,ev,J⟩:=g1.gR;obtain⟨rfl,e2⟩:=oK x2 J;rw[ev];refine⟨U.key w l X W (by omega),?_⟩
    grind
   split at h
   .rename_i hk;obtain⟨f1,f2⟩:=u true hk;simp  at h;subst h;refine⟨some (i,e.val),by simp[Instr.findAsking,f1],⟨rfl,g2,Nat.le_refl _,e,by simp,rfl⟩,?_⟩
    grind
   .rename_i hk;obtain⟨f1,_⟩:=u false hk;obtain⟨D,p1,p2,p3⟩:=S es (i+1) r (by grind) (λj a b x y=>hr (j+1) a b (by grind) (by simpa using y)) h
    refine⟨D,by simp[Instr.findAsking,f1,p1],?_,?_⟩
    .cases r with
     | none=>cases D <;> simp_all [kF]
     | some z=>
      cases D with
      | none=>simp[kF]at p2
      | some Z=>
       obtain⟨c1,c2,c3,L,c4,c5⟩:=p2;exact⟨c1,c2,by omega,L,by rw[show z.1-i=(z.1-(i+1))+1 by omega];simpa using c4,c5⟩
    .intro j x Q;obtain⟨L,u1,u2⟩:=p3 j x Q;subst Q;have  := by
      cases D with
      | none=>simp[kF]at p2
      | some Z=>exact p2.2.2.1
     exact⟨L,by rw[show j-i=(j-(i+1))+1 by omega];simpa using u1,u2⟩
   grind
theorem tj {t:TypeId} {k:V} {v:Value} (h:wK P E t k v) {B:List (V×V)} {es:Array MapEntry} (hr:tC I μ B es) {r:Option (Nat×V)} (G:gA k B 0=some r) :
 ∃D,(Instr.findKey t v es.toList).run P w=.ok D w/\kF I μ es.toList 0 r D/\∀j x,r=some (j,x)->∃e,es[j]? = some e/\e.key=v:=by
 have u  := by simpa using hr.1
 have z:∀(j:Nat) q e,B[j]? = some q->es.toList[j]? = some e->bA I μ q.1 e.key/\bA I μ q.2 e.val:=λj q e x y=>hr.2 j q e x (by grind)
 have fin:∀(D:Option (Nat×Value)),(∀j x,r=some (j,x)->∃e,es.toList[j-0]? = some e/\e.key=v)->∀j x,r=some (j,x)->∃e,es[j]? = some e/\e.key=v:=by
  grind
 cases h with
 | int kk m h=>
  obtain⟨D,g1,g2,g3⟩:=A5 (.inl ⟨kk,m,rfl,rfl,rfl⟩) B es.toList 0 r u z G;exact⟨D,by simp[Instr.findKey,Sem.run_bind,dc h,Result.andThen_ok,g1,Sem.run_pure],g2,fin D g3⟩
 | str s h=>
  obtain⟨D,g1,g2,g3⟩:=A5 (.inr ⟨s,rfl,rfl,rfl⟩) B es.toList 0 r u z G;exact⟨D,by simp[Instr.findKey,Sem.run_bind,dc h,Result.andThen_ok,g1,Sem.run_pure],g2,fin D g3⟩
 | agg m Q l h J L=>
  obtain⟨D,g1,g2,g3⟩:=Jl (w:=w) h J L B es.toList 0 r u z G;obtain⟨d,O,A⟩:=h.kind;refine⟨D,?_,g2,fin D g3⟩;simp[Instr.findKey,Sem.run_bind,dc O,Result.andThen_ok]
  cases C:es.toList with
  | nil=>
   rw[C]at g1;simp[Instr.findNow,Sem.run_pure];simpa [Instr.findAsking]using g1
  | cons e rest=>
   have:Instr.findNow d (.agg (ic l)) (e::rest) 0=none:=by
    rcases A with⟨_,_,rfl⟩|⟨_,rfl⟩ <;> simp[Instr.findNow,Instr.sameNow]
   grind
theorem xA {b:Nat} {o:Obj} (h:w.heap[b]? = some o) (B:∀c e f,o≠.cells c e f):(getObj b).run P w=.ok o w:=by
 simp[getObj,Sem.run,h]
theorem Nz (s:cG I μ H w) {m:V} {v:Value} (hv:bA I μ m v) {B:List (V×V)} (h:lG H m=some B) :
 (v=.map none/\B=[])\/∃b es clock,v=.map (some b)/\w.heap[b]? = some (.map es clock)/\tC I μ B es:=by
 cases m with
 | fB=>simp only[lG,ζa]at h;exact .inl ⟨hv.NJ,h.symm⟩
 | fmap k=>
  simp[lG]at h;subst h
  cases hv with
  | c _ _ hv=>cases hv with
   | fmap _ b es z A hk t=>
    obtain⟨cl,g⟩:=s.imm _ _ z;exact .inr ⟨b,es,cl,rfl,g,A,λj q e x y=>⟨.c _ _ (hk j q e x y),.c _ _ (t j q e x y)⟩⟩
 | hmap id=>
  simp[lG]at h;split at h
  .rename_i C u;simp  at h;obtain⟨p,es,cl,g1,g2,g3,g4⟩:=s.obs id _ u;obtain⟨q,D,e⟩:=hv.z7
   grind
  grind
 | _=>simp[lG]at h
theorem KN (O:dV P E) (r:dQ I μ n F a.tmps) (s:cG I μ H w) {t:TypeId} {m k:Operand} {ok:Bool} {x:V} (h:dF E F H (.lookup t m k ok)=some x) :
 ∃v,(Instr.lookup t (a.eval m) (a.eval k) ok).run P w=.ok v w/\bA I μ x v:=by
 simp[dF]at h;split at h
 .rename_i kt et mv kv hk hm Q;obtain⟨d,hd,S⟩:=eR hk;obtain⟨desc,h1,Z,h3⟩:=(O.ty hd).dc;rw[S]at Z;have:=xG Z;subst this;split at h
  .rename_i de T U G;split at h
   .rename_i W;have C:=KI O W (c9 r Q);obtain⟨z,hz,X⟩:=(O.ty U).PC;obtain⟨es,J,D⟩:∃es:Array MapEntry,tC I μ T es/\∀u,(Instr.findKey kt (a.eval k) es.toList).run P w=.ok u w->(Instr.lookup t (a.eval m) (a.eval k) ok).run P w =
     .ok (if ok then .tuple #[(u.map (·.2)).getD z,.bool u.isSome]else(u.map (·.2)).getD z) w:=by
     rcases Nz s (c9 r hm) G with⟨e1,rfl⟩|⟨b,es,cl,e1,e2,e3⟩
     .refine⟨#[],⟨rfl,by simp⟩,λu B=>?_⟩
      unfold Instr.lookup;rw[e1];simp[Sem.run_bind,h3,Result.andThen_ok,Sem.run_pure,wQ C,B];cases u <;> cases ok <;> simp[hz]
     .refine⟨es,e3,λu B=>?_⟩
      unfold Instr.lookup;rw[e1];simp[Sem.run_bind,h3,Result.andThen_ok,Sem.run_pure,xA e2 (by simp),wQ C,B]
      cases u <;> cases ok <;> simp[hz]
    split at h
    .rename_i j y _ A;simp  at h;obtain⟨u,Y,L,_⟩:=tj  C J A
     cases u with
     | none=>simp[kF]at L
     | some q=>
      obtain⟨_,hv,_⟩:=L;refine⟨_,D _ Y,?_⟩;subst h
      cases ok with
      | true=>exact .Oy (.cons hv (.cons (.c _ _ (.bool _)) .nil))
      | false=>exact hv
    .rename_i y A hy;simp  at h;obtain⟨u,Y,L,_⟩:=tj  C J A
     cases u with
     | some q=>simp[kF]at L
     | none=>
      refine⟨_,D _ Y,?_⟩;subst h
      cases ok with
      | true=>exact .Oy (.cons (X _ _ _ hy) (.cons (.c _ _ (.bool _)) .nil))
      | false=>grind
    grind
   grind
  grind
 grind
end
end Go.VE
namespace Go.VE
variable [bN]
section
variable {P:Program} {E:Env} {I:b9} {μ:Mu} {H H':bf} {n:Nat} {F:Frame} {a:Act} {w:World}
theorem Gr (l:List Int) (d:Nat):Instr.sameBits (d+2) (.agg (ic l)) (.agg (ic l))=true:=by
 simp only[Instr.sameBits,beq_self_eq_true,Bool.true_and,List.all_eq_true];intro p t;obtain⟨j,u,rfl⟩:=List.mem_iff_getElem.1 t;simp[ic,Instr.sameBits]
theorem LD {t:TypeId} {k:V} {v:Value} (h:wK P E t k v):(Instr.keyThatStays v v).run P w=.ok v w:=by
 have:Instr.sameBits 10000 v v=true:=by
  cases h with
  | int k m h=>simp[Instr.sameBits]
  | str s h=>simp[Instr.sameBits];exact(by cases s;exact beq_self_eq_true (α:=Array UInt8) _)
  | agg m u l h z A=>exact Gr l 9998
 unfold Instr.keyThatStays;rw[this];rfl
theorem CE {b:Nat} {es:Array MapEntry} {clock:Nat} (o:Obj) (h:w.heap[b]? = some (.map es clock)):(setObj b o).run P w=.ok () (eT w b o):=by
 simp only[setObj,Sem.run,h];rfl
theorem xM (hE:dV P E) (r:dQ I μ n F a.tmps) (s:cG I μ H w) {t:TypeId} {m k y:Operand} {x:V} (h:cO E F H (.mapUpdate t m k y)=some (x,H')) :
 Ar P I μ H w (do Instr.mapUpdate t (a.eval m) (a.eval k) (a.eval y);pure .skip) x H':=by
 simp only[cO]at h;split at h
 .rename_i kt et id Y Z hk hm U hy;obtain⟨d,hd,aa⟩:=eR hk;obtain⟨desc,h1,A,h3⟩:=(hE.ty hd).dc;rw[aa]at A;have:=xG A;subst this;split at h
  .rename_i C T;split at h
   .rename_i ab;simp only[ζf,ζc]at h;obtain⟨af,u,rfl,rfl⟩:=h;have D:=KI hE ab (c9 r U);obtain⟨p,es,cl,g1,g2,g3,g4⟩:=s.obs id _ T;obtain⟨q,hq,em⟩:=(c9 r hm).z7;rw[g1]at hq;cases hq;have S:=(Array.getElem?_eq_some_iff.1 g3).1;have ah:∀(f:Unit->Sem Next) ,True:=λ_=>trivial
    unfold oI at u;have G:=c9 r U;have J:=c9 r hy;split at u
    .rename_i j z B;simp only[ζa]at u;subst u;obtain⟨L,q1,q2,q3⟩:=tj (w:=w) D g4 B
     cases L with
     | none=>simp[kF]at q2
     | some L=>
      obtain⟨j',zv⟩:=L;obtain⟨rfl,_,_,e',ai,_⟩:=q2;obtain⟨e2,W,ad⟩:=q3 j z rfl;have hj:=(Array.getElem?_eq_some_iff.1 W).1;have O:tC I μ (C.set j (Y,Z)) (es.modify j λe=>{ e with key:=a.eval k,val:=a.eval y }):=by
       refine⟨by simpa using g4.1,λi q e h1 A=>?_⟩
       by_cases Q:i=j
       .subst Q;rw[List.getElem?_set_self (by rw[g4.1];exact hj)]at h1
        cases h1;rw[Array.getElem?_modify]at A;simp only[if_true,ζf]at A;obtain⟨_,_,rfl⟩:=A;exact⟨G,J⟩
       .rw[List.getElem?_set_ne (Ne.symm Q)]at h1;rw[Array.getElem?_modify]at A;rw[if_neg (Ne.symm Q)]at A;exact g4.2 i q e h1 A
      obtain⟨s1,s2⟩:=s.write (ob':=.map (C.set j (Y,Z))) (o:=.map (es.modify j λe=>{ e with key:=a.eval k,val:=a.eval y }) cl) T rfl g1
       ⟨p,_,cl,g1,g2,fH _ S,O⟩
      refine⟨.skip,undef,_,μ,?_,.inr ⟨rfl,rfl⟩,.undef I μ,s1,s2⟩;unfold Instr.mapUpdate;rw[em];have X:((es[j]?).map (·.key)).getD (a.eval k)=a.eval k:=by rw[W];simpa using ad
      simp only[Sem.run_bind,h3,Result.andThen_ok,xA g3 (by simp),wQ D,q1,X,LD D,CE _ g3,Sem.run_pure]
    .rename_i B;simp only[ζa]at u;subst u;obtain⟨L,q1,q2,q3⟩:=tj (w:=w) D g4 B
     cases L with
     | some q=>simp[kF]at q2
     | none=>
      have O:tC I μ (C++[(Y,Z)]) (es.push { key:=a.eval k,val:=a.eval y,born:=cl }):=by
       refine⟨by simp[g4.1],λi q e h1 A=>?_⟩
       by_cases Q:i<C.length
       .rw[List.getElem?_append_left Q]at h1;rw[Array.getElem?_push]at A;rw[if_neg (by rw[<-g4.1];omega)]at A
        exact g4.2 i q e h1 A
       .have ae:=(ζe.1 h1).1;simp at ae;have:i=C.length:=by omega
        subst this;simp at h1;subst h1;rw[Array.getElem?_push,if_pos g4.1]at A;cases A;exact⟨G,J⟩
      obtain⟨s1,s2⟩:=s.write (ob':=.map (C++[(Y,Z)])) (o:=.map (es.push { key:=a.eval k,val:=a.eval y,born:=cl }) (cl+1)) T rfl g1
       ⟨p,_,_,g1,g2,fH _ S,O⟩
      refine⟨.skip,undef,_,μ,?_,.inr ⟨rfl,rfl⟩,.undef I μ,s1,s2⟩;unfold Instr.mapUpdate;rw[em];simp only[Sem.run_bind,h3,Result.andThen_ok,xA g3 (by simp),wQ D,q1,CE _ g3,Sem.run_pure]
    .simp at u
   .simp at h
  .simp at h
 .simp at h
theorem Pu (B:dV P E) (r:dQ I μ n F a.tmps) (s:cG I μ H w) (o:Oper) {x:V} (h:dF E F H o.op=some x) :
 ∃v,(execOp a.eval o).run P w=.ok (.value v) w/\bA I μ x v:=by
 obtain⟨dst,op,ty,pos,after,guard⟩:=o;simp only at h
 cases op with
 | load t p=>
  simp only[dF]at h;split at h
  .rename_i d D A C;obtain⟨u,h1,z,_⟩:=A4 B s A (c9 r C) h;exact⟨u,dx h1,z⟩
  .simp at h
 | lookup t m k ok=>
  obtain⟨u,h1,z⟩:=KN B r s h;exact⟨u,dx h1,z⟩
 | _=>simp[dF]at h
theorem P6 (B:dV P E) (r:dQ I μ n F a.tmps) (s:cG I μ H w) (o:Oper) {x:V} (h:cO E F H o.op=some (x,H')):Ar P I μ H w (execOp a.eval o) x H':=by
 obtain⟨dst,op,ty,pos,after,guard⟩:=o;simp only at h
 cases op with
 | store t p q=>exact ME B r s h
 | mapUpdate t m k y=>exact xM B r s h
 | insert t m k y=>exact xM (t:=t) (m:=m) (k:=k) (y:=y) B r s h
 | call c=>
  obtain⟨callee,args,u⟩:=c
  cases callee with
  | builtin b=>
   cases b with
   | append=>exact KP B r s h
   | clear=>exact Nr B r s h
   | _=>simp[cO]at h
  | _=>simp[cO]at h
 | _=>simp[cO]at h
end
end Go.VE
namespace Go.VE
variable [bN]
theorem sw {xs:List V} (h:V.jT xs=true):∀x∈xs,V.closed x=true:=by
 induction xs with
 | nil=>simp
 | cons x r t=>
  simp[V.jT]at h
  grind
theorem sn {xs:List V} (h:V.cH xs=true):∀x∈xs,V.scalar x=true:=by
 induction xs with
 | nil=>simp
 | cons x r t=>
  simp[V.cH]at h
  grind
section
variable {I I':b9} {μ:Mu} {H H':bf} {w:World}
theorem bA.closed {x:V} {v:Value} (h:bA I μ x v) (hc:x.closed=true):dU I x v:=by
 induction h with
 | c x v h=>omega
 | hsl id off len cap p t h1 L=>simp[V.closed]at hc
 | hsl0 id es off a=>simp[V.closed]at hc
 | hptr id el off p t=>simp[V.closed]at hc
 | yld id p t=>simp[V.closed]at hc
 | hmap id p t=>simp[V.closed]at hc
 | clo f x y u v G J _ _ w z=>
  simp[V.closed]at hc;exact .clo f x y u v G J (λj a b p q=>w j a b p q (sw hc.1 a (List.mem_of_getElem? p))) (λj a b p q=>z j a b p q (sw hc.2 a (List.mem_of_getElem? p)))
 | agg A B C _ D=>
  exact .agg A B C λj a b p q=>D j a b p q (sw hc a (List.mem_of_getElem? p))
 | tup A B C _ D=>
  exact .tup A B C λj a b p q=>D j a b p q (sw hc a (List.mem_of_getElem? p))
theorem dU.scalar {x:V} {v:Value} (h:dU I x v) (B:x.scalar=true):dU I' x v:=by
 induction h with
 | bool b=>exact .bool b
 | int k n=>exact .int k n
 | str s=>exact .str s
 | dg a=>exact .dg a
 | bB=>exact .bB
 | gx=>exact .gx
 | fB=>exact .fB
 | qB=>exact .qB
 | agg t u w _ z=>
  exact .agg t u w λj a b p q=>z j a b p q (sn B a (List.mem_of_getElem? p))
 | tup t u w _ z=>
  exact .tup t u w λj a b p q=>z j a b p q (sn B a (List.mem_of_getElem? p))
 | _=>simp[V.scalar]at B
theorem h_ {f:V->Option V}:∀{xs ys:List V},gH f xs=some ys->ys.length=xs.length/\∀(j:Nat) y,ys[j]? = some y->∃x,xs[j]? = some x/\f x=some y:=by
 intro xs
 induction xs with
 | nil=>intro ys h;simp[gH]at h;grind
 | cons x xs t=>
  intro ys h;simp[gH]at h;split at h
  .grind
  grind
theorem IG {f:V->Option V}:∀{xs ys:List (List V)},ki f xs=some ys->ys.length=xs.length/\∀(j:Nat) y,ys[j]? = some y->∃x,xs[j]? = some x/\gH f x=some y:=by
 intro xs
 induction xs with
 | nil=>intro ys h;simp[ki]at h;grind
 | cons x xs t=>
  intro ys h;simp[ki]at h
  grind
theorem HV {f:V->Option V}:∀{xs ys:List (V×V)},j7 f xs=some ys->ys.length=xs.length/\∀(j:Nat) y,ys[j]? = some y->∃x,xs[j]? = some x/\f x.1=some y.1/\f x.2=some y.2:=by
 intro xs
 induction xs with
 | nil=>intro ys h;simp only[j7]at h;grind
 | cons x xs t=>
  intro ys h;simp only[j7]at h
  grind
def Obj.ic:Obj->Option IC
 | .cells c _ _=>some (.cells c)
 | .map es _=>some (.map es)
 | _=>none
def zl (μ:Mu) (H:bf) (T:List Nat) (b:Nat):Prop:=∃id p ob,id∈T/\H[id]? = some ob/\ob.live=true/\μ id=some p/\p.b=b
open Classical in
noncomputable def plus (I:b9) (μ:Mu) (H:bf) (w:World) (T:List Nat):b9:=λb=>
 match I b with
 | some x=>some x
 | none=>if zl μ H T b then(w.heap[b]?).bind Obj.ic else none
theorem nK (I:b9) (μ:Mu) (H:bf) (w:World) (T:List Nat):b9.le I (plus I μ H w T):=by
 intro b x h;simp[plus,h]
theorem rE (s:cG I μ H w) (T:List Nat):∀b x,plus I μ H w T b=some x->x.at w b:=by
 intro b x h;unfold plus at h;split at h
 .rename_i y z;cases h;exact s.imm b _ z
 .split at h
  .obtain⟨o,u,t⟩:=ζg.1 h;cases o <;> simp[Obj.ic]at t
   .subst t;exact⟨_,_,u⟩
   .subst t;exact⟨_,u⟩
  grind
theorem wJ {T:List Nat} {b:Nat} (h:(plus I μ H w T b).isSome=true):(I b).isSome=true\/zl μ H T b:=by
 unfold plus at h
 grind
theorem zC {T:List Nat} {b:Nat} (h:zl μ H T b):gC μ H b:=by
 obtain⟨id,p,ob,_,h1,t,u,w⟩:=h;exact⟨id,p,ob,h1,t,u,w⟩
theorem As (s:cG I μ H w) {T:List Nat} {id es:Nat} {xs:List (List V)} (B:id∈T) (h:(H[id]?).bind Ob.rows=some (es,xs)) :
 ∃p c,μ id=some p/\plus I μ H w T p.b=some (.cells c)/\fC I μ p c es xs:=by
 obtain⟨ob,h1,u⟩:=ζg.1 h;have t:=s.obs id ob h1;rcases Ep u with rfl|rfl
 .obtain⟨p,c,el,g1,g2,g3,g4⟩:=t;refine⟨p,c,g1,?_,g4⟩;have z:zl μ H T p.b:=⟨id,p,_,B,h1,rfl,g1,rfl⟩;unfold plus;rw[g2];simp[z,g3,Obj.ic]
 .obtain⟨p,c,g1,g2,g4⟩:=t;exact⟨p,c,g1,nK _ _ _ _ _ _ _ g2,g4⟩
theorem fC.idx {p:Pl} {c:Array Value} {es:Nat} {xs:List (List V)} (r:fC I μ p c es xs) {i j:Nat} {x:List V} {y:V} {v:Value} (h1:xs[i]? = some x) (B:x[j]? = some y)
 (D:c[p.o+i*es+j]? = some v):bA I μ y v:=by
 have u:=tY r.nX h1 B;refine r.rel.2 (i*es+j) y v u ?_;have t:=(ζe.1 u).1;rw[e9 r.nX]at t
 grind
theorem jl {f:V->List Nat} {xs:List V} {x:V} {k:Nat} (B:x∈xs) (hk:k∈f x):k∈cE f xs:=by
 induction xs with
 | nil=>simp_all
 | cons y r t=>
  simp[cE]
  grind
theorem jo (n:Nat) (H:bf) {x:V} (h:x.closed=true):borrow n H x=some x:=by
 cases n <;> simp[borrow,h]
theorem sQ (s:cG I μ H w) (T:List Nat):∀(n:Nat) (x y:V) (v:Value),borrow n H x=some y->(∀k∈bW n H x,k∈T)->bA I μ x v ->
 dU (plus I μ H w T) y v/\(x.one=true->y.one=true):=by
 intro n
 induction n with
 | zero=>
  intro x y v h _ hv;simp only[borrow]at h;split at h
  .rename_i hc;simp  at h;subst h;exact⟨(hv.closed hc).mono (nK _ _ _ _ _),id⟩
  grind
 | succ n Z=>
  intro x y v h J hv;simp[borrow]at h;split at h
  .rename_i hc;simp  at h;subst h;exact⟨(hv.closed hc).mono (nK _ _ _ _ _),id⟩
  .rename_i ak;simp[bW,if_neg ak]at J;split at h
   .
    rename_i id es off len;split at h
    .rename_i t xs D;split at h
     .rename_i hc;obtain⟨rfl,al⟩:=hc;simp only[D]at J;simp  at h;obtain⟨Q,hz,rfl⟩:=h;obtain⟨aa,S⟩:=IG hz;refine⟨?_,λ_=>rfl⟩
      have ai:Q.length=len:=by grind
      rcases hv.kE with⟨p,cap,hm,hp,aq,hb,rfl⟩|⟨h0,a,rfl⟩
      .obtain⟨p',c,g1,g2,g3⟩:=As s  (J id (by simp)) D
       rw[hm]at g1;cases g1;have U:∀i z,Q[i]? = some z->∃L,xs[off+i]? = some L/\gH (borrow n H) L=some z:=by
        grind
       have aj:∀i L,i<len->xs[off+i]? = some L->∀q∈L,∀k∈bW n H q,k∈T:=by
        intro i L hi am q hq k hk;refine J k ?_;refine List.mem_cons_of_mem _ (jl (List.mem_flatten.2 ⟨L,List.mem_of_getElem? (i:=i) ?_,hq⟩) hk);rw[List.getElem?_take,if_pos hi,List.getElem?_drop];exact am
       have ar:dU (plus I μ H w T) (.fsl t Q) (.slice (some ⟨p.b,p.o+off*t,none⟩) Q.length cap):=by
        refine .fsl t Q p.b (p.o+off*t) cap c g2 (by omega) ?_ ?_ ?_ ?_
        .intro z ae;obtain⟨i,hi⟩:=List.mem_iff_getElem?.1 ae;obtain⟨L,C,W⟩:=U i z hi;rw[(h_ W).1];exact g3.nX L (List.mem_of_getElem? C)
        .intro z ae q hq;obtain⟨i,hi⟩:=List.mem_iff_getElem?.1 ae;obtain⟨L,C,W⟩:=U i z hi;obtain⟨j,hj⟩:=List.mem_iff_getElem?.1 hq;obtain⟨G,B,X⟩:=(h_ W).2 j q hj;have ab:=List.mem_of_getElem? C;have ad:=List.mem_of_getElem? B;have an:=g3.room;have av:=g3.nX L ab;have aw:=(ζe.1 B).1;have ao:=(ζe.1 C).1;have au:(off+i)*t+t<=xs.length*t:=by
          have:=Nat.mul_le_mul_right t (ao)
          grind
         have ap  := by omega
         have Y:=g3.idx C B (v:=c[p.o+(off+i)*t+j]) (by simp[ap])
         exact(Z G q _ X (aj i L (by have:=(ζe.1 hi).1;omega) C G ad) Y).2 (g3.one L ab G ad)
        .have h1:=(g3.span al).2
         grind
        .intro i j z q u hi hj hu;obtain⟨L,C,W⟩:=U i z hi;obtain⟨G,B,X⟩:=(h_ W).2 j q hj;have Y:=g3.idx C B (v:=u) (by grind)
         exact(Z G q u X (aj i L (by have:=(ζe.1 hi).1;omega) C G (List.mem_of_getElem? B)) Y).1
       grind
      .subst h0;have  := List.eq_nil_of_length_eq_zero ai;subst this;exact .fsl0 t _ _
     grind
    grind
   .
    rename_i id el off;split at h
    .rename_i t xs D;split at h
     .rename_i cs af;split at h
      .simp only[D]at J;simp  at h;obtain⟨Q,hz,rfl⟩:=h;obtain⟨aa,S⟩:=h_ hz;refine⟨?_,λ_=>rfl⟩
       obtain⟨p,hm,rfl⟩:=hv.rK;obtain⟨p',c,g1,g2,g3⟩:=As s  (J id (by simp)) D
       rw[hm]at g1;cases g1;obtain⟨k1,k2,k3⟩:=g3.elem af;rw[g3.es_eq];refine .fptr Q p.b _ c g2 ?_ ?_
       .rw[aa,List.length_drop];omega
       .intro j q u hj hu;obtain⟨G,B,X⟩:=S j q hj;rw[List.getElem?_drop]at B;have Y:=g3.idx af B  (by rw[<-Nat.add_assoc];exact hu)
        refine(Z G q u X (λk hk=>J k ?_) Y).1
        exact List.mem_cons_of_mem _ (jl (List.mem_of_getElem? (i:=j) (by rw[af,Option.getD_some,List.getElem?_drop];exact B)) hk)
      .simp at h
     .simp at h
    .simp at h
   .
    rename_i id;split at h
    .rename_i ax ah;simp  at h;obtain⟨Q,hz,rfl⟩:=h;simp only[ah]at J;obtain⟨aa,S⟩:=HV hz;refine⟨?_,λ_=>rfl⟩
     obtain⟨p,hm,rfl⟩:=hv.z7;obtain⟨p',es,cl,g1,g2,g3,g4⟩:=s.obs id _ ah;rw[hm]at g1;cases g1;have ht:zl μ H T p.b:=⟨id,p,_,J id (by simp),ah,rfl,hm,rfl⟩
     have hI:plus I μ H w T p.b=some (.map es):=by
      unfold plus;rw[g2];simp[ht,g3,Obj.ic]
     refine .fmap Q p.b es hI (by rw[aa];exact g4.1) ?_ ?_
     .intro j q e hj he;obtain⟨G,h1,h2,h3⟩:=S j q hj;refine(Z G.1 q.1 e.key h2 (λk hk=>J k ?_) (g4.2 j G e h1 he).1).1
      exact List.mem_cons_of_mem _ (List.mem_append.2 (.inl (jl (List.mem_map.2 ⟨G,List.mem_of_getElem? h1,rfl⟩) hk)))
     .intro j q e hj he;obtain⟨G,h1,h2,h3⟩:=S j q hj;refine(Z G.2 q.2 e.val h3 (λk hk=>J k ?_) (g4.2 j G e h1 he).2).1
      exact List.mem_cons_of_mem _ (List.mem_append.2 (.inr (jl (List.mem_map.2 ⟨G,List.mem_of_getElem? h1,rfl⟩) hk)))
    .simp at h
   .rename_i f p q;split at h
    .rename_i p' q' hp hq;simp  at h;subst h;obtain⟨u1,u2,rfl,r1,r2⟩:=hv.jk;obtain⟨l1,m1⟩:=h_ hp;obtain⟨l2,m2⟩:=h_ hq;refine⟨.clo f p' q' u1 u2 (by rw[l1];simpa using r1.1) (by rw[l2];simpa using r2.1) ?_ ?_,λ_=>rfl⟩
     .intro j a b ha hb;obtain⟨a0,A,O⟩:=m1 j a ha;exact(Z a0 a b O (λk hk=>J k (List.mem_append.2 (.inl (jl (List.mem_of_getElem? A) hk)))) (r1.2 j a0 b A (by simpa using hb))).1
     .intro j a b ha hb;obtain⟨a0,A,O⟩:=m2 j a ha;exact(Z a0 a b O (λk hk=>J k (List.mem_append.2 (.inr (jl (List.mem_of_getElem? A) hk)))) (r2.2 j a0 b A (by simpa using hb))).1
    .simp at h
   .rename_i cs;simp  at h;obtain⟨Q,hz,rfl⟩:=h;obtain⟨l1,m1⟩:=h_ hz;obtain⟨u1,rfl,r1⟩:=hv.gR;refine⟨.agg Q u1 (by rw[l1];simpa using r1.1) ?_,λh=>by simp[V.one]at h⟩
    intro j a b ha hb;obtain⟨a0,A,O⟩:=m1 j a ha;exact(Z a0 a b O (λk hk=>J k (jl (List.mem_of_getElem? A) hk)) (r1.2 j a0 b A (by simpa using hb))).1
   .rename_i cs;simp  at h;obtain⟨Q,hz,rfl⟩:=h;obtain⟨l1,m1⟩:=h_ hz;obtain⟨u1,rfl,r1⟩:=hv.oM;refine⟨.tup Q u1 (by rw[l1];simpa using r1.1) ?_,λh=>by simp[V.one]at h⟩
    intro j a b ha hb;obtain⟨a0,A,O⟩:=m1 j a ha;exact(Z a0 a b O (λk hk=>J k (jl (List.mem_of_getElem? A) hk)) (r1.2 j a0 b A (by simpa using hb))).1
   grind
end
end Go.VE
namespace Go.VE
variable [bN]
def fr (ro:Option Nat):Fence:={ fn:=λ_=>True,depth:=none,alive:=false,round:=ro }
def vE (I:b9) (μ:Mu) (H:bf) (w:World) (r:V) (H':bf):Ending->World->Prop:=
 λe w'=>∃u I' μ',e=.returned u/\bA I' μ' r u/\cG I' μ' H' w'/\Step I μ H w I' μ' H' w'
def v_ (P:Program) (f:FuncId):Prop:=∃fn,P.funcs[f]? = some fn/\fn.body.isSome=true/\(fn.name == "runtime.NumGoroutine")=false
structure jI (P:Program) (call:c7):Prop where
 fn:∀f args H r H',call (.fn f) args H=some (r,H')->v_ P f/\∀I μ w vs,cG I μ H w->cz I μ args vs->CallsIn (fr none) 0 P f vs.toArray w (vE I μ H w r H')
 yld:∀id args H r H',call (.yld id) args H=some (r,H')->∀I μ w vs p,cG I μ H w->cz I μ args vs->μ id=some p ->
  ∃l f tmps assign body,(Instr.yield p.b vs.toArray).run P w=.ok (.round l f tmps assign body) w/\RoundIn (fr none) 0 P l f tmps assign body w (vE I μ H w r H')
def qZ:Ob->Ob
 | .row es xs=>.frz es xs
 | .map _=>.dead
 | o=>o
theorem DJ (H:bf) (k id:Nat):(sM H k)[id]? = (H[id]?).map λob=>if id=k then qZ ob else ob:=by
 unfold sM
 by_cases e:id=k
 .subst e
  cases h:H[id]? with
  | none=>simp[h]
  | some ob=>
   have t:=(ζe.1 h).1;cases ob <;> simp[qZ,t] <;> exact(ζe.1 h).2
 grind
theorem zN (o:Ob):qZ (qZ o)=qZ o:=by cases o <;> rfl
theorem gT:∀(T:List Nat) (H:bf) (id:Nat),(ct H T)[id]? = (H[id]?).map λob=>if id∈T then qZ ob else ob:=by
 intro T
 induction T with
 | nil=>simp[ct]
 | cons k T t=>
  intro H id;have:=t (sM H k) id;simp[ct]at this ⊢;rw[this,DJ]
  cases h:H[id]? with
  | none=>simp
  | some ob=>
   by_cases e:id=k <;> by_cases u:id∈T <;> simp[zN] <;> (simp_all) <;> simp_all [zN]
theorem ji (T:List Nat) (H:bf):(ct H T).length=H.length:=by
 induction T generalizing H with
 | nil=>rfl
 | cons k T t=>
  simp[ct]at t ⊢;rw[t];unfold sM
  grind
section
variable {P:Program} {I I':b9} {μ μ':Mu} {H H':bf} {w w':World}
theorem cG.kept (s:cG I μ H w) (hk:∀b,b<w.heap.size->w'.heap[b]? = w.heap[b]?):cG I μ H w' where
 dom:=s.dom
 imm:=λb x h=>IC.ql (s.imm b x h) (hk b (s.FV h))
 obs:=λid ob h=>(s.obs id ob h).mono (b9.le_refl _) (Mu.le_refl _) (λp u z=>by
  have t:gC μ H p.b:=⟨id,p,ob,h,z,u,rfl⟩;exact⟨hk _ (lU s t),fq s t⟩) (λA=>by subst A;exact s.obs id _ h)
 inj:=s.inj
 gl:=s.gl
theorem p8 (μ:Mu) (b:Nat):¬gC μ [] b:=by
 rintro⟨id,p,ob,h,_⟩;simp_all
theorem AM {call:c7} (hc:jI P call) {f:FuncId} {args:List V} {y:V} (h:bU call f args H=some y) (s:cG I μ H w) {vs:List Value} (hv:cz I μ args vs) :
 v_ P f/\CallsIn (fr none) 0 P f vs.toArray w (vE I μ H w y (if y.scalar then H else ct H (cE (bW call.lv H) args))):=by
 unfold bU at h;split at h
 .rename_i az has;split at h
  .rename_i r H1 U;split at h
   .rename_i y' hy;split at h
    .rename_i Z;simp  at h;subst h;generalize hT:cE (bW call.lv H) args=T;obtain⟨aa,B⟩:=h_ has;have s0:cG (plus I μ H w T) (λ_=>none) [] w:=⟨λ_ _=>rfl,rE s T,by simp,by simp,s.gl.mono (nK I μ H w T)⟩
     have W:cz (plus I μ H w T) (λ_=>none) az vs:=by
      refine⟨aa.trans hv.1,λj a b h1 t=>?_⟩
      obtain⟨x,J,ae⟩:=B j a h1;refine .c _ _ (sQ s T call.lv x a b ae (λk hk=>?_) (hv.2 j x b J t)).1
      rw[<-hT];exact jl (List.mem_of_getElem? J) hk
     obtain⟨hf,L⟩:=hc.fn f az [] r H1 U;refine⟨hf,(L _ _ w vs s0 W).mono ?_⟩;rintro e w' ⟨u,I1,μ1,rfl,hr,s1,st⟩;have z  := λb B=>st.frame b B (p8 _ _)
     generalize aj:bW call.lv H1 r=T1;have ab:=(sQ s1 T1 call.lv r y' u hy (λk hk=>by grind) hr).1
     cases af:y'.scalar with
     | true=>
      exact⟨u,I,μ,rfl,.c _ _ (ab.scalar af),s.kept z,⟨b9.le_refl _,Mu.le_refl _,Nat.le_refl _,st.size,λb B _=>z b B,λ_ h=>h.elim .inl λh=>.inr (.inl h),st.os,st.out,st.fz⟩⟩
     | false=>
      simp only[Bool.false_eq_true,if_false]
      let I2:=plus I1 μ1 H1 w' T1
      have C:b9.le I I2:=b9.le_trans (nK I μ H w T) (b9.le_trans st.le (nK _ _ _ _ _));have D:∀b,(I2 b).isSome=true->(I b).isSome=true\/zl μ H T b\/w.heap.size<=b:=by
       intro b B;have h1:(I1 b).isSome=true\/gC μ1 H1 b:=by
        rcases wJ B with h|h
        .grind
        .exact .inr (zC h)
       rcases st.terr b h1 with h|h|h
       .rcases wJ h with h|h
        .grind
        grind
       .exact absurd h (p8 _ _)
       grind
      have X:∀id ob p,H[id]? = some ob->ob.live=true->id∉T->μ id=some p->I2 p.b=none:=by
       intro id ob p h1 t h3 h4
       cases hI:I2 p.b with
       | none=>rfl
       | some x=>
        have ho:gC μ H p.b:=⟨id,p,ob,h1,t,h4,rfl⟩;rcases D p.b (by grind)with h|⟨O,p',ah,g0,g1,g2,g3,g4⟩|h
        .rw[fq s ho]at h;cases h
        .have:=s.inj O id ah ob p' p g1 h1 g2 t g3 h4 g4;simp_all
        .have:=lU s ho;omega
      have Q:∀id x,(ct H T)[id]? = some x->∃ob,H[id]? = some ob/\x=(if id∈T then qZ ob else ob):=by
       intro id x J;rw[gT]at J;obtain⟨ob,h1,t⟩:=ζf.1 J;exact⟨ob,h1,t.symm⟩
      have A:∀id x,(ct H T)[id]? = some x->x.live=true->H[id]? = some x/\(id∉T\/∃r,x=.loop r):=by
       intro id x J Y;obtain⟨ob,h1,t⟩:=Q id x J
       by_cases S:id∈T
       .rw[if_pos S]at t;cases ob <;> simp[qZ]at t <;> subst t <;> simp[Ob.live]at Y;exact⟨h1,.inr ⟨_,rfl⟩⟩
       .rw[if_neg S]at t;subst t;exact⟨h1,.inl S⟩
      refine⟨u,I2,μ,rfl,.c _ _ ab,⟨?_,?_,?_,?_,s.gl.mono C⟩,⟨C,Mu.le_refl _,by rw[ji];exact Nat.le_refl _,st.size,λb B _=>z b B,?_,st.os,st.out,st.fz⟩⟩
      .intro id h;rw[ji]at h;exact s.dom id h
      .exact rE s1 T1
      .intro id x J;obtain⟨ob,h1,t⟩:=Q id x J;have G:=s.obs id ob h1
       by_cases S:id∈T
       .rw[if_pos S]at t
        cases ob with
        | row es xs=>
         subst t;obtain⟨p,c,g1,g2,g3⟩:=As s  S    (by rw[h1];rfl)
         exact⟨p,c,g1,nK _ _ _ _ _ _ _ (st.le _ _ g2),g3.mono C (Mu.le_refl _)⟩
        | frz es xs=>
         subst t;exact G.mono C (Mu.le_refl _) (λp _ Y=>by simp[Ob.live]at Y) (λhe=>by cases he)
        | map ak=>subst t;trivial
        | free=>simp[qZ]at t;subst t;exact G
        | dead=>subst t;trivial
        | loop r=>
         simp[qZ]at t;subst t;obtain⟨p,l,g1,g2,g3,g4⟩:=G;refine⟨p,l,g1,?_,?_,g4.mono C (Mu.le_refl _)⟩
         .
          cases hI:I2 p.b with
          | none=>rfl
          | some x=>
           have ad:=rE s1 T1 p.b x hI;have ai  := (Array.getElem?_eq_some_iff.1 g3).1;have hh:=z p.b ai;rw[g3]at hh
           cases x with
           | cells c=>obtain⟨_,_,q⟩:=ad;rw[hh]at q;cases q
           | map es=>obtain⟨_,q⟩:=ad;rw[hh]at q;cases q
         .rw[z p.b (Array.getElem?_eq_some_iff.1 g3).1];omega
       .rw[if_neg S]at t;subst t;refine G.mono C (Mu.le_refl _) (λp hp Y=>⟨z _ (lU s ⟨id,p,x,h1,Y,hp,rfl⟩),X id x p h1 Y S hp⟩) (λhe=>by subst he;exact G)
      .intro id O o1 o2 p p' h1 t l1 l2 m1 m2 B;exact s.inj id O o1 o2 p p' (A id o1 h1 l1).1 (A O o2 t l2).1 l1 l2 m1 m2 B
      .intro b B;rcases B with h|⟨id,p,x,h1,t,h3,rfl⟩
       .rcases D b h with h|h|h
        .exact .inl h
        .exact .inr (.inl (zC h))
        .exact .inr (.inr h)
       .exact .inr (.inl ⟨id,p,x,(A id x h1 t).1,t,h3,rfl⟩)
    grind
   grind
  grind
 grind
theorem bA.scalar {x:V} {v:Value} (h:bA I μ x v) (B:x.scalar=true):bA I' μ' x v:=by
 have key:∀(l:List V) (t:List Value),(∀x∈l,∀v,bA I μ x v->x.scalar=true->bA I' μ' x v)->V.cH l=true->(∀(j:Nat) a b,l[j]? = some a->t[j]? = some b->bA I μ a b) ->
  ∀(j:Nat) a b,l[j]? = some a->t[j]? = some b->bA I' μ' a b:=by
  intro l
  induction l with
  | nil=>grind
  | cons x l A=>
   intro t h1 G J j a b C u;simp only[V.cH,ζh]at G
   cases j with
   | zero=>
    grind
   | succ j=>
    cases t with
    | nil=>simp at u
    | cons v t=>exact A t (λy w=>h1 y (List.mem_cons_of_mem _ w)) G.2 (λj a b p q=>J (j+1) a b (by grind) (by grind)) j a b (by grind) (by simpa using u)
 have main:∀(k:Nat) (x:V) (v:Value),SizeOf.sizeOf x<k->bA I μ x v->x.scalar=true->bA I' μ' x v:=by
  intro k
  induction k with
  | zero=>grind
  | succ k A=>
   intro x v hk h B
   cases h with
   | c _ _ h=>exact .c _ _ (h.scalar B)
   | agg z t D h=>
    refine .agg z t D (λj a b C u=>key z t.toList (λy w v hv B=>A y v ?_ hv B) B (λj a b p q=>h j a b p (by simpa using q)) j a b C (by simpa using u))
    have:=List.sizeOf_lt_of_mem w;simp at hk;omega
   | tup z t D h=>
    refine .tup z t D (λj a b C u=>key z t.toList (λy w v hv B=>A y v ?_ hv B) B (λj a b p q=>h j a b p (by simpa using q)) j a b C (by simpa using u))
    have:=List.sizeOf_lt_of_mem w;simp at hk;omega
   | _=>simp[V.scalar]at B
 exact main (SizeOf.sizeOf x+1) x v (by omega) h B
theorem cG.Jo (s:cG I μ H w) {ob:Ob} {p:Pl} (O:ob≠.free) (Y:I p.b=none) (D:¬gC μ H p.b) (U:q9 I (μ.fV H.length p) w H.length ob) :
 cG I (μ.fV H.length p) (H++[ob]) w:=by
 have hk  := s.dom _ (Nat.le_refl _);have t:∀id x,(H++[ob])[id]? = some x->(id≠H.length/\H[id]? = some x)\/(id=H.length/\x=ob):=by
  grind
 refine⟨?_,s.imm,?_,?_,s.gl⟩
 .intro id h;simp at h;rw[Mu.gV _ _ (by omega)];exact s.dom id (by omega)
 .intro id x h;rcases t id x h with⟨e,h⟩|⟨rfl,rfl⟩
  .refine(s.obs id x h).mono (b9.le_refl _) (Mu.pJ hk) (λq L Q=>?_) (λS=>by subst S;rw[Mu.gV _ _ e];exact s.obs id _ h)
   exact⟨rfl,fq s ⟨id,q,x,h,Q,L,rfl⟩⟩
  grind
 .intro id u o1 o2 q C h1 T G J z A B;rcases t id o1 h1 with⟨e1,k1⟩|⟨a1,X⟩ <;> rcases t u o2 T with⟨e2,k2⟩|⟨W,Z⟩
  .rw[Mu.gV _ _ e1]at z;rw[Mu.gV _ _ e2]at A;exact s.inj id u o1 o2 q C k1 k2 G J z A B
  .subst W;rw[Mu.gV _ _ e1]at z;rw[Mu.fu]at A;cases A;exact absurd ⟨id,q,o1,k1,G,z,B⟩ D
  .subst a1;rw[Mu.gV _ _ e2]at A;rw[Mu.fu]at z;cases z;exact absurd ⟨u,C,o2,k2,J,A,B.symm⟩ D
  grind
theorem Rm {call:c7} (hc:jI P call) {f:FuncId} {args:List V} {y:V} (h:jx call f args H=some (y,H')) (s:cG I μ H w) {vs:List Value} (hv:cz I μ args vs) :
 v_ P f/\CallsIn (fr none) 0 P f vs.toArray w (vE I μ H w y H'):=by
 unfold jx at h;split at h
 .rename_i az has;split at h
  .rename_i r H1 J;generalize hT:cE (bW call.lv H) args=T;obtain⟨U,z⟩:=h_ has;have s0:cG (plus I μ H w T) (λ_=>none) [] w:=⟨λ_ _=>rfl,rE s T,by simp,by simp,s.gl.mono (nK I μ H w T)⟩
   have L:cz (plus I μ H w T) (λ_=>none) az vs:=by
    refine⟨U.trans hv.1,λj a b h1 W=>?_⟩
    obtain⟨x,hx,aa⟩:=z j a h1;refine .c _ _ (sQ s T call.lv x a b aa (λk hk=>?_) (hv.2 j x b hx W)).1
    rw[<-hT];exact jl (List.mem_of_getElem? hx) hk
   obtain⟨hf,C⟩:=hc.fn f az [] r H1 J;refine⟨hf,(C _ _ w vs s0 L).mono ?_⟩;rintro e w' ⟨u,I1,μ1,rfl,hr,s1,st⟩;have t:∀b,b<w.heap.size->w'.heap[b]? = w.heap[b]? := λb z=>st.frame b z (p8 _ _)
   have sk:cG I μ H w':=s.kept t;have ab:Step I μ H w I μ H w':=⟨b9.le_refl _,Mu.le_refl _,Nat.le_refl _,st.size,λb z _=>t b z,λ_ h=>h.elim .inl λh=>.inr (.inl h),st.os,st.out,st.fz⟩
   split at h
   .rename_i ae;simp only[ζa,ζc]at h;obtain⟨rfl,rfl⟩:=h;exact⟨u,I,μ,rfl,hr.scalar ae,sk,ab⟩
   .
    have key:∀(id es off len:Nat) (v:V) (ob:Ob) (u:Value),pq H.length H1 id es off len=some (v,ob)->bA I1 μ1 (.hsl id es off len) u ->
     ∃p,bA I (μ.fV H.length p) v u/\cG I (μ.fV H.length p) (H++[ob]) w'/\Step I μ H w I (μ.fV H.length p) (H++[ob]) w':=by
     intro id es off len v ob u A hu;unfold pq at A;split at A
     .rename_i X xs G;split at A
      .rename_i O;obtain⟨rfl,al⟩:=O;obtain⟨rfl,rfl⟩:=A;obtain⟨p,c,el,g1,g2,g3,g4⟩:=s1.obs id _ G;have Y:w.heap.size<=p.b:=by
        rcases st.terr p.b (.inr ⟨id,p,_,G,rfl,g1,rfl⟩)with h|h|h
        .obtain⟨x,hx⟩:=Option.isSome_iff_exists.1 h;have:=st.le _ _ hx
         grind
        .exact absurd h (p8 _ _)
        simp_all
       have hI:I p.b=none:=by
        cases hx:I p.b with
        | none=>rfl
        | some x=>have:=s.FV hx;omega
       have hn:¬gC μ H p.b:=λho=>by have:=lU s ho;omega
       have af:fC I (μ.fV H.length p) p c X xs:=by
        refine⟨g4.es_eq,g4.sz,g4.nX,g4.one,g4.room,g4.rel.1,λj a b A z=>(g4.rel.2 j a b A z).scalar ?_⟩
        have hm:=List.mem_of_getElem? A;rw[List.mem_flatten]at hm
        grind
       have sa:=sk.Jo (ob:=.row X xs)  (by simp) hI hn ⟨p,c,el,Mu.fu _ _ _,hI,g3,af⟩
       refine⟨p,?_,sa,⟨b9.le_refl _,Mu.pJ (s.dom _ (Nat.le_refl _)),by simp,st.size,λb z _=>t b z,?_,st.os,st.out,st.fz⟩⟩
       .rcases hu.kE with⟨p',cap,hm,ah,ai,aj,ee⟩|⟨h0,ad,ee⟩
        .rw[g1]at hm;cases hm;rw[ee];subst ah;exact .hsl _ off len cap p (Mu.fu _ _ _) ai aj
        .rw[ee,h0];exact .hsl0 _ _ _ _
       .rintro b (h|⟨k,q,x,h1,W,h3,rfl⟩)
        .exact .inl h
        .by_cases e:k=H.length
         .subst e;rw[Mu.fu]at h3;cases h3;exact .inr (.inr Y)
         .rw[Mu.gV _ _ e]at h3;have ak:k<H.length:=by
           have:=(ζe.1 h1).1;simp at this;omega
          rw[List.getElem?_append_left ak]at h1;exact .inr (.inl ⟨k,q,x,h1,W,h3,rfl⟩)
      grind
     grind
    split at h
    .rename_i id es off len _;simp only[ζf]at h;obtain⟨⟨v,ob⟩,A,rfl,rfl⟩:=h;obtain⟨p,k1,k2,k3⟩:=key id es off len v ob u A hr;exact⟨u,I,_,rfl,k1,k2,k3⟩
    .rename_i id es off len rest _;split at h
     .rename_i Q;simp only[ζf,ζc]at h;obtain⟨⟨v,ob⟩,A,rfl,rfl⟩:=h;obtain⟨us,rfl,B⟩:=hr.oM;have Z:0<us.toList.length:=by have:=B.1;simp at this ⊢;omega
      obtain⟨u0,ur,S⟩:∃u0 ur,us.toList=u0::ur:=by
       cases hl:us.toList with
       | nil=>rw[hl]at Z;simp at Z
       | cons a b=>exact⟨a,b,rfl⟩
      rw[S]at B;obtain⟨p,k1,k2,k3⟩:=key id es off len v ob u0 A (B.2 0 _ _ rfl rfl);refine⟨_,I,_,rfl,.tup _ _ ?_ ?_,k2,k3⟩
      .have:=B.1;simp at this;have W:us.toList.length=ur.length+1:=by rw[S];rfl
       simp at W ⊢;omega
      .intro j a b hj z;have D:(u0::ur)[j]? = some b:=by rw[<-S];simpa using z
       cases j with
       | zero=>simp at hj D;subst hj;subst D;exact k1
       | succ j=>
        simp at hj D;refine(B.2 (j+1) a b (by simpa using hj) (by simpa using D)).scalar ?_
        have:∀(l:List V),V.cH l=true->∀x∈l,x.scalar=true:=by
         intro l
         induction l with
         | nil=>intro _ x hx;simp at hx
         | cons y l ih=>
          intro hl x hx;simp[V.cH]at hl;rcases List.mem_cons.1 hx with rfl|hx
          .exact hl.1
          .exact ih hl.2 x hx
        exact this rest Q a (List.mem_of_getElem? hj)
     .simp at h
    grind
  grind
 grind
theorem RM {E:Env} {call:c7} (hc:jI P call) {f:FuncId} {args:List V} {y:V} (h:eH E call f args H=some (y,H')) (s:cG I μ H w) {vs:List Value} (hv:cz I μ args vs) :
 v_ P f/\CallsIn (fr none) 0 P f vs.toArray w (vE I μ H w y H'):=by
 unfold eH at h;split at h
 .exact Rm hc h s hv
 .obtain⟨k1,k2⟩:=hc.fn f args H y H' h
  grind
end
end Go.VE
namespace Go.VE
variable [bN]
def Ob.mp:Ob->Option (List (V×V))
 | .map B=>some B
 | _=>none
def lz (H H2:bf):Prop:=∀id:Nat,(H[id]?).bind Ob.rows=(H2[id]?).bind Ob.rows/\(H[id]?).bind Ob.mp=(H2[id]?).bind Ob.mp
theorem lz.refl (H:bf):lz H H:=λ_=>⟨rfl,rfl⟩
theorem lz.symm {H H2:bf} (h:lz H H2):lz H2 H:=λid=>⟨(h id).1.symm,(h id).2.symm⟩
theorem lz.trans {H H2 B:bf} (h:lz H H2) (k:lz H2 B):lz H B:=λid=>⟨(h id).1.trans (k id).1,(h id).2.trans (k id).2⟩
theorem lz.of_eq {H H2:bf} (h:H=H2):lz H H2:=by subst h;exact .refl _
theorem Gt {H H2:bf} (h:lz H H2):∀n,borrow n H=borrow n H2:=by
 intro n
 induction n with
 | zero=>funext x;rfl
 | succ n t=>
  funext x
  cases x with
  | hsl id es off len=>simp only[borrow,(h id).1,t]
  | hptr id el off=>simp only[borrow,(h id).1,t]
  | hmap id=>
   have:=(h id).2;simp only[borrow,t];split
   .rfl
   .cases h1:H[id]? with
    | none=>
     cases u:H2[id]? with
     | none=>rfl
     | some o2=>rw[h1,u]at this;cases o2 <;> simp[Ob.mp]at this <;> rfl
    | some o=>
     cases u:H2[id]? with
     | none=>rw[h1,u]at this;cases o <;> simp[Ob.mp]at this <;> rfl
     | some o2=>rw[h1,u]at this;cases o <;> cases o2 <;> simp[Ob.mp]at this <;> first|rfl|(subst this;rfl)
  | _=>simp only[borrow,t]
theorem HY {H H2:bf} (h:lz H H2):∀n,bW n H=bW n H2:=by
 intro n
 induction n with
 | zero=>funext x;rfl
 | succ n t=>
  funext x
  cases x with
  | hsl id es off len=>simp only[bW,(h id).1,t]
  | hptr id el off=>simp only[bW,(h id).1,t]
  | hmap id=>
   have:=(h id).2;simp only[bW,t];split
   .rfl
   .cases h1:H[id]? with
    | none=>
     cases u:H2[id]? with
     | none=>rfl
     | some o2=>rw[h1,u]at this;cases o2 <;> simp[Ob.mp]at this <;> rfl
    | some o=>
     cases u:H2[id]? with
     | none=>rw[h1,u]at this;cases o <;> simp[Ob.mp]at this <;> rfl
     | some o2=>rw[h1,u]at this;cases o <;> cases o2 <;> simp[Ob.mp]at this <;> first|rfl|(subst this;rfl)
  | _=>simp only[bW,t]
theorem yf {H H2:bf} (h:lz H H2) (call:c7) (f:FuncId) (args:List V):bU call f args H=bU call f args H2:=by
 unfold bU borrows;rw[Gt h]
theorem D7 {H H2:bf} (h:lz H H2) (p:V) (n:Nat):dL H p n=dL H2 p n:=by
 cases p with
 | hptr id el off=>simp only[dL,(h id).1]
 | _=>rfl
theorem Jb {H H2:bf} (h:lz H H2) (p:V):lG H p=lG H2 p:=by
 cases p with
 | hmap id=>
  have:=(h id).2;simp only[lG]
  cases h1:H[id]? with
  | none=>
   cases t:H2[id]? with
   | none=>rfl
   | some o2=>rw[h1,t]at this;cases o2 <;> simp[Ob.mp]at this <;> rfl
  | some o=>
   cases t:H2[id]? with
   | none=>rw[h1,t]at this;cases o <;> simp[Ob.mp]at this <;> rfl
   | some o2=>rw[h1,t]at this;cases o <;> cases o2 <;> simp[Ob.mp]at this <;> first|rfl|(subst this;rfl)
 | _=>rfl
theorem xm {E:Env} {F:Frame} {H H2:bf} (h:lz H H2) (op:Op):dF E F H op=dF E F H2 op:=by
 cases op <;> simp only[dF,D7 h,Jb h]
theorem s_ {H H2:bf} (h:lz H H2) (T:List Nat):g_ H T=g_ H2 T:=by
 unfold g_
 congr 1
 funext id
 rw[(h id).1]
theorem yh {H:bf} {T:List Nat} (h:g_ H T=true) {id:Nat} (B:id∈T):∃es xs,H[id]? = some (.row es xs)\/H[id]? = some (.frz es xs):=by
 unfold g_ at h;rw[List.all_eq_true]at h;have:=h id B
 cases h1:H[id]? with
 | none=>rw[h1]at this;simp at this
 | some o=>rw[h1]at this;cases o <;> simp[Ob.rows]at this <;> exact⟨_,_,by first|exact .inl rfl|exact .inr rfl⟩
theorem ox {H:bf} {b id:Nat}:(H.take b)[id]? = if id<b then H[id]? else none:=by
 rw[List.getElem?_take]
theorem pN {H:bf} {T:List Nat} {b:Nat} (h:g_ (H.take b) T=true):lz (ct H T) H:=by
 intro id;rw[gT]
 by_cases t:id∈T
 .obtain⟨es,w,hx⟩:=yh h t;rw[ox]at hx
  by_cases u:id<b
  .rw[if_pos u]at hx;rcases hx with hx|hx <;> simp[hx,t,qZ,Ob.rows,Ob.mp]
  .rw[if_neg u]at hx;rcases hx with hx|hx <;> cases hx
 .cases H[id]? <;> simp[t]
theorem lz.take {H H2:bf} (h:lz H H2) (b:Nat):lz (H.take b) (H2.take b):=by
 intro id;rw[ox,ox]
 by_cases t:id<b
 .rw[if_pos t,if_pos t];exact h id
 .rw[if_neg t,if_neg t];exact⟨rfl,rfl⟩
theorem yB {H:bf} {T:List Nat} {b:Nat} (h:g_ (H.take b) T=true) {id:Nat} (B:id∈T):id<b:=by
 obtain⟨es,u,hx⟩:=yh h B;rw[ox]at hx
 by_cases t:id<b
 .exact t
 .rw[if_neg t]at hx;rcases hx with hx|hx <;> cases hx
theorem BD {H:bf} {T:List Nat} {k:Nat} {ob:Ob} (h:k∉T):ct (H.set k ob) T=(ct H T).set k ob:=by
 apply List.ext_getElem?;intro i;rw[gT]
 by_cases e:i=k
 .subst e
  by_cases t:i<H.length
  .rw[List.getElem?_set_self t,List.getElem?_set_self (by rw[ji];exact t)];simp[h]
  .rw[List.getElem?_eq_none (by simp;omega),List.getElem?_eq_none (by rw[List.length_set,ji];omega)];rfl
 .rw[List.getElem?_set_ne (Ne.symm e),List.getElem?_set_ne (Ne.symm e),gT]
theorem Gz (H:bf) (T B:List Nat):ct (ct H T) B=ct (ct H B) T:=by
 apply List.ext_getElem?;intro i;simp only[gT]
 cases H[i]? with
 | none=>rfl
 | some o=>by_cases h1:i∈T <;> by_cases t:i∈B <;> simp[h1,t]
theorem HO {H:bf} {b:Nat}:∀(n:Nat) (x:V),(∀id∈bW n (H.take b) x,id<b)->bW n H x=bW n (H.take b) x:=by
 intro n
 induction n with
 | zero=>intro x _;rfl
 | succ n A=>
  have t:∀l:List V,(∀id∈cE (bW n (H.take b)) l,id<b)->cE (bW n H) l=cE (bW n (H.take b)) l:=by
   intro l
   induction l with
   | nil=>intro _;rfl
   | cons x r z=>
    intro h;simp only[cE,List.mem_append]at h ⊢;rw[A x λid u=>h id (.inl u),z λid u=>h id (.inr u)]
  intro x h;simp only[bW]at h ⊢;split
  .rfl
  .rename_i hc;rw[if_neg hc]at h
   cases x with
   | hsl id es off len=>
    simp only at h ⊢;have w:id<b:=h id (List.mem_cons_self ..);rw[ox,if_pos w]at h ⊢
    cases hr:(H[id]?).bind Ob.rows with
    | none=>rfl
    | some q=>
     rw[hr]at h;simp only at h ⊢;rw[t _ λi u=>h i (List.mem_cons_of_mem _ u)]
   | hptr id el off=>
    simp only at h ⊢;have w:id<b:=h id (List.mem_cons_self ..);rw[ox,if_pos w]at h ⊢
    cases hr:(H[id]?).bind Ob.rows with
    | none=>rfl
    | some q=>
     rw[hr]at h;simp only at h ⊢;rw[t _ λi u=>h i (List.mem_cons_of_mem _ u)]
   | hmap id=>
    simp only at h ⊢;have w:id<b:=h id (List.mem_cons_self ..);rw[ox,if_pos w]at h ⊢;split
    .rename_i B hk;rw[hk]at h;simp only[List.mem_cons,List.mem_append]at h;rw[t _ λi u=>h i (.inr (.inl u)),t _ λi u=>h i (.inr (.inr u))]
    .rfl
   | clo f a c=>
    simp only[List.mem_append]at h ⊢;rw[t _ λi u=>h i (.inl u),t _ λi u=>h i (.inr u)]
   | agg C=>simp only at h ⊢;exact t _ h
   | tup C=>simp only at h ⊢;exact t _ h
   | _=>rfl
theorem r_ {H:bf} {b n:Nat}:∀(l:List V),(∀id∈cE (bW n (H.take b)) l,id<b)->cE (bW n H) l=cE (bW n (H.take b)) l
 | [],_=>rfl
 | x::r,h=>by
  simp only[cE,List.mem_append]at h ⊢;rw[HO n x λid B=>h id (.inl B),r_ r λid B=>h id (.inr B)]
end Go.VE
namespace Go.VE
variable [bN]
theorem Nn {H:bf} {b id:Nat} {ob:Ob} (h:(H.take b)[id]? = some ob):H[id]? = some ob:=by
 grind
theorem CS {H:bf} {b id es:Nat} {xs:List (List V)} (h:((H.take b)[id]?).bind Ob.rows=some (es,xs)):(H[id]?).bind Ob.rows=some (es,xs):=by
 grind
theorem Ft {H:bf} {b:Nat} {p:V} {n:Nat} {cs:List V} (h:dL (H.take b) p n=some cs):dL H p n=some cs:=by
 unfold dL at h ⊢;split at h
 .omega
 .grind
 grind
theorem HI {H:bf} {b:Nat} {m:V} {B:List (V×V)} (h:lG (H.take b) m=some B):lG H m=some B:=by
 unfold lG at h ⊢
 grind
theorem xk {E:Env} {F:Frame} {H:bf} {b:Nat} {op:Op} {x:V} (h:dF E F (H.take b) op=some x):dF E F H op=some x:=by
 cases op with
 | load t a=>
  simp[dF]at h ⊢;split at h
  .obtain⟨A,h1,w⟩:=ζg.1 h;rw[Ft h1];exact w
  grind
 | lookup t m k ok=>
  simp[dF]at h ⊢;split at h
  .split at h
   .rename_i z u;rw[z,HI u];omega
   grind
  grind
 | _=>simp[dF]at h
theorem lu {f g:V->Option V} (B:∀x y,f x=some y->g x=some y):∀{xs ys:List V},gH f xs=some ys->gH g xs=some ys:=by
 intro xs
 induction xs with
 | nil=>intro ys h;exact h
 | cons x xs t=>
  intro ys h;simp[gH]at h ⊢
  grind
theorem GB {f g:V->Option V} (B:∀x y,f x=some y->g x=some y):∀{xs ys:List (List V)},ki f xs=some ys->ki g xs=some ys:=by
 intro xs
 induction xs with
 | nil=>intro ys h;exact h
 | cons x xs t=>
  intro ys h;simp[ki]at h ⊢;split at h
  .rename_i y s u w;rw[lu B u,t w];omega
  grind
theorem Gg {f g:V->Option V} (B:∀x y,f x=some y->g x=some y):∀{xs ys:List (V×V)},j7 f xs=some ys->j7 g xs=some ys:=by
 intro xs
 induction xs with
 | nil=>intro ys h;exact h
 | cons x xs t=>
  intro ys h;simp[j7]at h ⊢
  grind
theorem zV {H:bf} {b:Nat}:∀(n:Nat) (x y:V),borrow n (H.take b) x=some y->borrow n H x=some y:=by
 intro n
 induction n with
 | zero=>intro x y h;exact h
 | succ n w=>
  intro x y h;simp[borrow]at h ⊢;split at h
  .grind
  .rename_i hc;rw[if_neg hc];split at h
   .split at h
    .rename_i hr;simp only[CS hr];split at h
     .rename_i z;rw[if_pos z];obtain⟨A,u,t⟩:=ζf.1 h;rw[GB w u,<-t];rfl
     grind
    grind
   .split at h
    .rename_i hr;simp[CS hr];split at h
     .split at h
      .rename_i B;rw[if_pos B];obtain⟨A,u,t⟩:=ζf.1 h;rw[lu w u,<-t];rfl
      grind
     grind
    grind
   .split at h
    .rename_i hr;simp only[Nn hr];obtain⟨A,u,t⟩:=ζf.1 h;rw[Gg w u,<-t];rfl
    grind
   .split at h
    .rename_i h1 C;rw[lu w h1,lu w C];omega
    grind
   .obtain⟨A,u,t⟩:=ζf.1 h;rw[lu w u,<-t];rfl
   .obtain⟨A,u,t⟩:=ζf.1 h;rw[lu w u,<-t];rfl
   grind
theorem og {call:c7} {f:FuncId} {args:List V} {H:bf} {b:Nat} {y:V} (h:bU call f args (H.take b)=some y):bU call f args H=some y:=by
 unfold bU borrows at h ⊢;split at h
 .rename_i az has;rw[lu (zV call.lv) has];omega
 grind
theorem Gc (n:Nat) (H:bf) {x:V} (h:x.closed=true):bW n H x=[]:=by
 cases n with
 | zero=>rfl
 | succ n=>simp[bW,h]
section
variable {P:Program} {E:Env} {I I':b9} {μ μ':Mu} {H H':bf} {n:Nat} {F:Frame} {a:Act} {w w':World}
theorem vo {f:FuncId} (h:v_ P f) (args:Array Value):(callFunc f args).run P w=.ok (.enter f args) w:=by
 obtain⟨fn,h1,z,t⟩:=h;unfold callFunc;have u:fn.body.isNone=false:=by simp_all
 simp only[Sem.run_bind,run_program,Result.andThen_ok,h1,t,u,Bool.false_eq_true,if_false,Sem.run_pure]
theorem Bb {o:Oper} {ro:Option Nat} {K:Act->World->Prop} {Q:Exit->Act->World->Prop} {f:FuncId} {args:Array Value} {r:V}
 (B:CallsIn (fr none) 0 P f args w (vE I μ H w r H')) (D:∀u I' μ' w',bA I' μ' r u->cG I' μ' H' w'->Step I μ H w I' μ' H' w'->K (a.put o.dst u) w') :
 o.uponIn (fr ro) 0 P a K Q (.ok (.enter f args) w):=by
 refine⟨λh=>by simp[fr]at h,?_⟩
 have t  := B;refine t.mono ?_;rintro e w' ⟨u,I',μ',rfl,h1,t,z⟩
 grind
theorem DH {x:V} (h:x.scalar=true) {I:b9} {μ:Mu} {v:Value} (r:bA I μ x v):dU I x v:=by
 induction r with
 | c x v A=>omega
 | agg t u w _ z=>
  exact .agg t u w λj a b p q=>z j a b p q (sn h a (List.mem_of_getElem? p))
 | tup t u w _ z=>
  exact .tup t u w λj a b p q=>z j a b p q (sn h a (List.mem_of_getElem? p))
 | _=>simp[V.scalar]at h
theorem Pm (hE:dV P E) (r:dQ I μ n F a.tmps) (s:cG I μ H w) (o:Oper) {x:V} (h:pV E F o.op=some x) :
 ∃u I' w',(execOp a.eval o).run P w=.ok (.value u) w'/\bA I' μ x u/\cG I' μ H w'/\Step I μ H w I' μ H w':=by
 unfold pV at h;split at h
 rotate_left
 .cases h
 rename_i es D t n W;split at h
 rotate_left
 .cases h
 rename_i hc;obtain⟨rfl,rfl,X⟩:=hc;obtain⟨obj,p,u,h1,U⟩:=AD hE r s o W;have Y:=U.len _ _ rfl;obtain⟨⟨q,c,el,g1,g2,g3,g4⟩,Z⟩:=U.rel _ (s.dom _ (Nat.le_refl _));rw[Mu.fu]at g1;cases g1;have G:=U.b;have O:obj=.cells c el:=by
  rw[G,jK]at g3;cases g3;rfl
 subst O
 let I':b9:=λb=>if b=w.heap.size then some (.cells c)else I b
 have A:b9.le I I':=λb y B=>by
  show (if b=w.heap.size then some (IC.cells c)else I b)=some y;rw[if_neg (λe=>by have:=IC.sx (s.imm b y B);omega)];exact B
 have C:I' p.b=some (.cells c):=by show (if p.b=w.heap.size then some (IC.cells c)else I p.b)=_;rw[if_pos G]
 have aa:∀y∈D,∀z∈y,z.scalar=true:=λy B z hz=>List.all_eq_true.1 (List.all_eq_true.1 X y B) z hz
 have hw:∀b,b<w.heap.size->(w.alloc (.cells c el)).heap[b]? = w.heap[b]? := λb hb=>iJ _ b hb
 have ab:∀b,b<w.heap.size->I' b=I b:=λb hb=>by show (if b=w.heap.size then some (IC.cells c)else I b)=_;rw[if_neg (by omega)]
 refine⟨u,I',_,h1,?_,⟨s.dom,?_,?_,s.inj,s.gl.mono A⟩,⟨A,Mu.le_refl _,Nat.le_refl _,by simp,λb hb _=>hw b hb,?_,rfl,⟨rfl,rfl,Nat.le_refl _⟩,λa hb=>KK U.nf a⟩⟩
 .refine .c _ _ ?_;have ad:∀cap,D.length<=cap->p.o+(0+cap)*t<=p.sz->u=.slice (some ⟨p.b,p.o+0*t,none⟩) D.length cap->dU I' x u:=by
   rintro cap k1 k2 rfl;rw[Nat.zero_mul,Nat.add_zero];split at h
   .split at h
    .rename_i L;simp only[ζa]at h;subst h;simp only[ζh,List.isEmpty_iff,bne_iff_ne,ne_eq]at L;obtain⟨L,ae⟩:=L;subst L;have:cap=0:=by
      simp only[List.length_nil,Nat.zero_mul]at Y;rcases Nat.eq_zero_or_pos cap with k|k
      .exact k
      .have:=Nat.mul_pos k (Nat.pos_of_ne_zero ae);rw[Nat.zero_add]at k2;omega
     subst this;exact .dg _
    .cases h
   .simp only[ζa]at h;subst h;refine .fsl t D p.b p.o cap c C k1 g4.nX g4.one g4.room λi j y z v m1 m2 m3=>?_
    exact dU.mono A (DH (aa y (List.mem_of_getElem? m1) z (List.mem_of_getElem? m2)) (g4.idx m1 m2 m3))
  have hp:p.es=t:=g4.es_eq;change bA I _ (.hsl H.length t 0 D.length) u at Z;generalize Q:D.length=ln at Z
  cases Z with
  | c _ _ af=>cases af
  | hsl id off len cap p' hm k1 k2=>
   rw[Mu.fu]at hm;cases hm;rw[hp]at *;subst Q;exact ad cap k1 k2 rfl
  | hsl0 id es off a=>
   have L:D=[]:=List.length_eq_zero_iff.1 Q;subst L;split at h
   .split at h
    .simp only[ζa]at h;subst h;exact .dg _
    .cases h
   .simp only[ζa]at h;subst h;exact .fsl0 _ _ _
 .intro b y B
  by_cases e:b=w.heap.size
  .subst e;have:y=.cells c:=by have:=C;rw[G]at this;rw[this]at B;cases B;rfl
   subst this;exact⟨el,_,jK _⟩
  .have S:I b=some y:=by have:(if b=w.heap.size then some (IC.cells c)else I b)=some y:=B;rw[if_neg e]at this;exact this
   exact IC.ql (s.imm b y S) (hw b (IC.sx (s.imm b y S)))
 .intro id ob J;refine(s.obs id ob J).mono A (Mu.le_refl _) (λq hq hl=>?_) (λe=>by subst e;exact s.obs id _ J)
  have ho:gC μ H q.b:=⟨id,q,ob,J,hl,hq,rfl⟩;have T:=lU s ho;exact⟨hw _ T,by rw[ab _ T];exact fq s ho⟩
 .intro b hb;rcases hb with hb|hb
  .by_cases e:b=w.heap.size
   .exact .inr (.inr (by omega))
   .have:(if b=w.heap.size then some (IC.cells c)else I b).isSome=true:=hb;rw[if_neg e]at this;exact .inl this
  .exact .inr (.inl hb)
theorem Dg:∀{ys:List (List V)} {l:List Int},ow ys=some l->ys.flatten=l.map (V.int .u8)/\l.length=ys.length
 | [],l,h=>by cases h;exact⟨rfl,rfl⟩
 | x::r,l,h=>by
  unfold ow at h;split at h
  .rename_i e;cases e
  .rename_i n B e;cases e;obtain⟨k,h1,rfl⟩:=ζf.1 h;obtain⟨t,u⟩:=Dg h1;exact⟨by simp[t],by simp[u]⟩
  .cases h
theorem Pp (O:dV P E) (r:dQ I μ n F a.tmps) (s:cG I μ H w) (o:Oper) {x:V} (h:evalConv E F H o.op=some x):∃u,(execOp a.eval o).run P w=.ok (.value u) w/\bA I μ x u:=by
 unfold evalConv at h;split at h
 .rename_i st L y A;split at h
  .rename_i e v Q S hv;split at h
   .rename_i T;obtain⟨G,h1,U⟩:=ζg.1 h;obtain⟨l,W,rfl⟩:=ζf.1 U;obtain⟨X,b2⟩:=Dg W;have B:∀{t:TypeId} {k:TK},E.kindOf t=some k->∃d desc,E.tt t=some d/\P.underlying t=some desc/\kK desc=k:=λ{t k} hk=>by
     unfold Env.kindOf at hk;obtain⟨d,g1,g2⟩:=ζf.1 hk;obtain⟨desc,C,D,_⟩:=(O.ty g1).dc;exact⟨d,desc,g1,C,by rw[D,g2]⟩
    obtain⟨_,d1,_,p1,C⟩:=B Q;obtain⟨_,d2,_,p2,D⟩:=B S;obtain⟨_,d3,_,p3,Y⟩:=B T;rw[iG C]at p1;rw[yq D]at p2;rw[Bu Y]at p3;obtain⟨J,cap,arr,e1,_,e2,e3,_⟩:=yI s (c9 r hv) h1;have z:arr=(l.map (Value.int .u8)).toArray:=by
     apply Array.ext';rw[X]at e3;refine List.ext_getElem (by simpa using e3.1.symm) λj g1 g2=>?_
     have g3:j<l.length:=by simpa using g2
     have:=e3.2 j (V.int .u8 l[j]) arr.toList[j] (by simp[g3]) (ζd g1)
     rw[this.eP];simp
    refine⟨.string (Jm l),?_,.c _ _ (.str _)⟩;rw[show execOp a.eval o=_ from by unfold execOp;rw[A]]
    refine dx ?_;rw[e1];rw[run_convert_bytes_string w st L e J G.length cap p1 p3 p2]
    cases J with
    | none=>
     have:=e2 w rfl;rw[e1]at this;simp only[Builtin.firstCells,Sem.run_pure]at this;cases this;have Z:l=[]:=by
      have:=congrArg Array.size z;simp at this;exact List.eq_nil_of_length_eq_zero this.symm
     subst Z;rfl
    | some q=>
     have:=e2 w rfl;rw[e1]at this;simp only[Builtin.firstCells,Nat.mul_one]at this;rw[z]at this;exact run_bytesToString w q G.length cap l this
   .cases h
  .cases h
 .cases h
theorem M6 (U:dV P E) {call:c7} (hc:jI P call) {ops:List Oper} {place:Option (Nat×Nat)} {o:Oper} {x:V} (h:c6 E call ops place F H o.op=some (x,H'))
 (r:dQ I μ n F a.tmps) (s:cG I μ H w) (ro:Option Nat) {K:Act->World->Prop} {Q:Exit->Act->World->Prop}
 (Y:∀u I' μ' w',bA I' μ' x u->cG I' μ' H' w'->Step I μ H w I' μ' H' w'->K (a.put o.dst u) w'):o.wpIn (fr ro) 0 P a w K Q:=by
 refine⟨λ_ _=>trivial,?_⟩
 have nr:∀c,o.op≠.defer c:=by
  intro c ad;rw[ad]at h;simp[c6,cT,ri,bE]at h;cases place <;> simp[evalConv]at h
 show o.uponIn (fr ro) 0 P a K Q ((o.semAt ro a.eval).run P w);rw[Oper.semAt_eq ro a.eval o nr];have aa:∀v,(execOp a.eval o).run P w=.ok (.value v) w->bA I μ x v->H'=H->o.uponIn (fr ro) 0 P a K Q ((execOp a.eval o).run P w):=by
  intro v e hv hH;rw[e,Oper.uponIn_value];subst hH;exact Y v I μ w hv s (.refl _ _ _ _)
 unfold c6 at h;split at h
 .
  simp  at h;obtain⟨v,hv,rfl,rfl⟩:=h;unfold ri at hv;split at hv
  .rename_i hp;cases hv;obtain⟨u,h1,z⟩:=OZ (w:=w) U r o hp
   grind
  .split at hv
   .obtain⟨u,h1,z⟩:=Pp U r s o hv;exact aa u h1 z rfl
   .cases hv
 .
  have hr:dF E F H o.op=some x/\H'=H:=by
   split at h
   .simp  at h
    grind
   .split at h
    .split at h
     .rename_i v hv;obtain⟨rfl,rfl⟩:=h;exact⟨xk hv,rfl⟩
     .split at h
      .simp  at h
       grind
      grind
    grind
  obtain⟨u,h1,z⟩:=Pu U r s o hr.1
  grind
 .
  by_cases D:pT ops place=true
  .rw[if_pos D]at h;obtain⟨v,hv,e⟩:=ζf.1 h;obtain⟨u,I',w',k1,k2,k3,k4⟩:=Pm U r s o hv;rw[k1,Oper.uponIn_value]
   grind
  rw[if_neg D]at h;split at h
  .rename_i ob m T;obtain⟨obj,p,u,h1,z⟩:=AD U r s o T;rw[h1,Oper.uponIn_value];obtain⟨g1,g2⟩:=z.rel _ (s.dom _ (Nat.le_refl _));obtain⟨s1,s2⟩:=s.push z.b g1 z.nf
   grind
  .rename_i ob m b i T;split at h
   .rename_i G;obtain⟨obj,p,u,h1,z⟩:=AD U r s o T;rw[h1,Oper.uponIn_value];obtain⟨g1,g2⟩:=z.rel _ (s.obs _ _ G);obtain⟨s1,s2⟩:=s.fill G z.b g1 z.nf
    grind
   grind
  grind
 .
  have hl:cO E F H o.op=some (x,H'):=by
   split at h
   .exact h
   .split at h
    .exact h
    .simp at h
  obtain⟨nx,u,w',μ',h1,z,Z,h4,h5⟩:=(P6 U r s o hl).run;rw[h1];rcases z with rfl|⟨rfl,rfl⟩
  .exact Y u I μ' w' Z h4 h5
  .exact Y _ I μ' w' Z h4 h5
 .
  have A:∀c args,jc F o.op=some (c,args)->∃L:List Value,cz I μ args L /\
   (∀f,c=.fn f->v_ P f->(execOp a.eval o).run P w=.ok (.enter f L.toArray) w) /\
   (∀id,c=.yld id->∃p,μ id=some p/\(execOp a.eval o).run P w=(Instr.yield p.b L.toArray).run P w):=by
   intro c args t;obtain⟨dst,op,ty,pos,after,guard⟩:=o
   cases op with
   | call cl=>
    obtain⟨callee,J,ai⟩:=cl
    cases callee with
    | value f=>
     simp only[jc]at t;split at t
     .rename_i g p q L hf W;obtain⟨rfl,rfl⟩:=t;obtain⟨u,v,ef,hu,hv⟩:=(c9 r hf).jk;have B:=mm r W;refine⟨u.toList++J.toList.map a.eval++v.toList,(hu.append B).append hv,?_,by simp⟩
      intro f' ae af;cases ae;simp[execOp,resolve,Sem.run_bind];rw[ef];simp only[Deferred.ofValue,Sem.run_pure,Result.andThen_ok,invoke,vo af]
      congr 2
      apply Array.ext';simp
     .rename_i id L hf W;simp  at t;obtain⟨rfl,rfl⟩:=t;obtain⟨p,hm,ef⟩:=(c9 r hf).PF;have B:=mm r W;refine⟨J.toList.map a.eval,B,by simp,?_⟩
      intro aj ab;cases ab;refine⟨p,hm,?_⟩;simp[execOp,resolve,Sem.run_bind];rw[ef];simp[Deferred.ofValue,Sem.run_pure,Result.andThen_ok,invoke]
      congr 1
      congr 1
      apply Array.ext';simp
     .simp at t
    | _=>simp[jc]at t
   | _=>simp[jc]at t
  have C:∀f args y,jc F o.op=some (.fn f,args)->bU call f args H=some y->x=y->H'=(if y.scalar then H else ct H (cE (bW call.lv H) args)) ->
   o.uponIn (fr ro) 0 P a K Q ((execOp a.eval o).run P w):=by
   intro f args y h1 z Z h4;obtain⟨L,g1,g2,_⟩:=A _ _ h1;obtain⟨k1,k2⟩:=AM hc z s g1;rw[g2 f rfl k1];subst Z;subst h4;exact Bb k2 Y
  have O:∀f args,jc F o.op=some (.fn f,args)->eH E call f args H=some (x,H')->o.uponIn (fr ro) 0 P a K Q ((execOp a.eval o).run P w):=by
   intro f args h1 z;obtain⟨L,g1,g2,_⟩:=A _ _ h1;obtain⟨k1,k2⟩:=RM hc z s g1;rw[g2 f rfl k1];exact Bb k2 Y
  have S:∀id args,jc F o.op=some (.yld id,args)->call (.yld id) args H=some (x,H')->o.uponIn (fr ro) 0 P a K Q ((execOp a.eval o).run P w):=by
   intro id args h1 z;obtain⟨L,g1,_,g3⟩:=A _ _ h1;obtain⟨p,hm,e⟩:=g3 id rfl;obtain⟨l,f,tmps,assign,body,k1,k2⟩:=hc.yld id args H x H' z I μ w L p s g1 hm;rw[e,k1,Oper.uponIn_round];refine⟨λh=>by simp[fr]at h,?_⟩
   have z  := k2;refine z.mono ?_;rintro e w' ⟨u,I',μ',rfl,h1,z,Z⟩;exact Y u I' μ' w' h1 z Z
  split at h
  .rename_i f args t;split at h
   .split at h
    .exact O f args t h
    .split at h
     .exact O f args t h
     .simp at h
   .split at h
    .split at h
     .rename_i y hy;simp  at h;exact C f args y t hy h.1.symm h.2.symm
     .simp at h
    .split at h
     .rename_i y hy;split at h
      .rename_i X;simp  at h;refine C f args y t (og hy) h.1.symm ?_;rw[<-h.2,if_pos X]
      .rename_i X;split at h
       .rename_i ah;simp  at h;refine C f args y t (og hy) h.1.symm ?_;rw[<-h.2,if_neg X,r_ _ λid hi=>yB ah hi]
       .simp at h
     .split at h
      .split at h
       .rename_i y hy;simp  at h;exact C f args y t hy h.1.symm h.2.symm
       .simp at h
      .simp at h
  .rename_i id args t;split at h
   .exact S id args t h
   .split at h
    .exact S id args t h
    .simp at h
  .simp at h
end
end Go.VE
namespace Go.VE
variable [bN]
structure iI (B:Nat) (ds:List Deferred) (w:World):Prop where
 all:∀d∈ds,∃r,d.target=.collected r/\B<=r/\w.heap[r]? = some (.deferred (some []))
 apart:ds.Pairwise λd d'=>∀r,d.target=.collected r->d'.target≠.collected r
section
variable {P:Program} {E:Env} {I I' I'':b9} {μ μ' μ'':Mu} {H H' H'':bf} {n B:Nat} {F F':Frame} {a:Act} {w w' w'':World}
theorem sK (s:cG I μ H w) {r:Nat} {c:Option (List Deferred)} (h:w.heap[r]? = some (.deferred c)):¬gC μ H r:=by
 rintro⟨id,p,ob,h1,A,z,rfl⟩;have:=s.obs id ob h1
 cases ob with
 | row es C=>obtain⟨q,c,el,t,_,u,_⟩:=this;rw[z]at t;cases t;rw[h]at u;cases u
 | map B=>obtain⟨q,c,el,t,_,u,_⟩:=this;rw[z]at t;cases t;rw[h]at u;cases u
 | loop x=>obtain⟨q,c,t,_,u,_⟩:=this;rw[z]at t;cases t;rw[h]at u;cases u
 | _=>simp[Ob.live]at A
theorem iI.step {ds:List Deferred} (h:iI B ds w) (s:cG I μ H w) (st:Step I μ H w I' μ' H' w'):iI B ds w' where
 all:=by
  intro d u;obtain⟨r,h1,z,t⟩:=h.all d u;refine⟨r,h1,z,?_⟩;rw[st.frame r (Array.getElem?_eq_some_iff.1 t).1 (sK s t)];exact t
 apart:=h.apart
structure At (B n:Nat) (I0:b9) (μ0:Mu) (H0:bf) (w0:World) (F:Frame) (H:bf) (ds:List Deferred) (a:Act) (w:World):Prop where
 rel:∃I μ,dQ I μ n F a.tmps/\cG I μ H w/\Step I0 μ0 H0 w0 I μ H w
 defers:a.defers=ds
 marks:iI B ds w
theorem JZ (r:dQ I μ n F a.tmps) (ops:Array Oper) (o:Oper):fc ops.toList F o=Region.wanted o (yielded ops a.tmps):=by
 unfold fc Region.wanted
 cases hg:o.guard with
 | none=>rfl
 | some g=>
  obtain⟨j,b⟩:=g;simp only;unfold yielded;have e:ops.toList[j]? = ops[j]? := by simp
  rw[e]
  cases A:(ops[j]?).bind (·.dst)with
  | none=>simp
  | some d=>
   simp only[ζb];have hr:=r.2 d
   by_cases u:d<a.tmps.size
   .have t:a.tmps[d]? = some a.tmps[d]:=by simp[u]
    have w:a.tmps.getD d undef=a.tmps[d]:=by simp[u]
    rw[w]at hr;rw[t]
    cases z:get F d with
    | bool c=>rw[z]at hr;rw[hr.qf];cases c <;> cases b <;> rfl
    | _=>
     cases hv:a.tmps[d]with
     | bool c=>rw[hv]at hr;have:=hr.of_bool;rw[z]at this;cases this
     | _=>rfl
   .have t:a.tmps[d]? = none:=Array.getElem?_eq_none (Nat.le_of_not_lt u);have w:a.tmps.getD d undef=undef:=by simp[u]
    rw[w]at hr;rw[t]
    cases z:get F d with
    | bool c=>rw[z]at hr;have:=hr.qf;simp[undef]at this
    | _=>rfl
theorem AW (G:dV P E) {call:c7} (hc:jI P call) {ops:Array Oper} {place:Option (Nat×Nat)} {o:Oper} (h:fI E call n ops.toList place o F H=some (F',H'))
 (r:dQ I μ n F a.tmps) (s:cG I μ H w) (ro:Option Nat) {K:Act->World->Prop} {Q:Exit->Act->World->Prop}
 (D:∀a' I' μ' w',dQ I' μ' n F' a'.tmps->a'.defers=a.defers->cG I' μ' H' w'->Step I μ H w I' μ' H' w'->K a' w') :
 if Region.wanted o (yielded ops a.tmps)then o.wpIn (fr ro) 0 P a w K Q else(∀f,o.about P w a.eval=some f->(fr ro).fn f)/\K (a.put o.dst undef) w:=by
 unfold fI at h;rw[<-JZ r];have t:∀v,(a.put o.dst v).defers=a.defers:=λv=>by cases o.dst <;> rfl
 split at h
 .rename_i A;rw[if_pos A];split at h
  .rename_i x H2 B;simp only[ζf,ζc]at h;obtain⟨J,C,rfl,rfl⟩:=h;refine M6 G hc B r s ro (λu I' μ' w' L O z=>?_)
   exact D _ I' μ' w' ((r.mono z.le z.mu).put L C) (t u) O z
  .simp at h
 .rename_i A;rw[if_neg A];simp only[ζf,ζc]at h;obtain⟨J,C,rfl,rfl⟩:=h;exact⟨λ_ _=>trivial,D _ I μ w (r.put (.undef I μ) C) (t _) s (.refl _ _ _ _)⟩
theorem JB (O:dV P E) {call:c7} (hc:jI P call) {ops:Array Oper} (ro:Option Nat) {Q:Exit->Act->World->Prop}:∀(rest:List Oper) (k:Nat) (I:b9) (μ:Mu) (F:Frame) (H:bf) (a:Act) (w:World),
 (∀j,rest[j]? = ops[k+j]?)->kN E call n ops.toList rest F H=some (F',H')->dQ I μ n F a.tmps->cG I μ H w ->
 (∀a' I' μ' w',dQ I' μ' n F' a'.tmps->a'.defers=a.defers->cG I' μ' H' w'->Step I μ H w I' μ' H' w'->Q .normal a' w') ->
 wpOpsIn (fr ro) 0 P ops Q (List.range' k rest.length) a w:=by
 intro rest
 induction rest with
 | nil=>
  intro k I μ F H a w _ h r s A;simp only[kN,ζa,ζc]at h;obtain⟨rfl,rfl⟩:=h;exact A a I μ w r rfl s (.refl _ _ _ _)
 | cons o rest L=>
  intro k I μ F H a w t h r s A;simp only[kN]at h;split at h
  .rename_i F1 H1 u;have h0:ops[k]? = some o:=by simpa using (t 0).symm
   simp only[List.length_cons,List.range'_succ,wpOpsIn,h0];refine AW O hc u r s ro (λa' I' μ' w' hr S J B=>?_)
   refine L (k+1) I' μ' F1 H1 a' w' (λj=>by have:=t (j+1);simpa [Nat.add_assoc,Nat.add_comm 1 j]using this) h hr J ?_
   intro T I2 U W C D G z;exact A T I2 U W C (D.trans S) G (Step.trans J B z)
  .simp at h
end
end Go.VE
namespace Go.VE
variable [bN]
def l8 (F F':Frame) (op:Op):Prop:=∀x∈op.operands,ev F x=ev F' x
theorem qK {F F':Frame}:∀{l:List Operand},(∀x∈l,ev F x=ev F' x)->eY F l=eY F' l:=by
 intro l
 induction l with
 | nil=>intro _;rfl
 | cons x l t=>
  simp[eY]
  grind
theorem xY {F F':Frame}:∀{l:List (Nat×Operand)},(∀x∈l,ev F x.2=ev F' x.2)->kM F l=kM F' l:=by
 intro l
 induction l with
 | nil=>intro _;rfl
 | cons x l t=>
  intro h;simp[kM];simp_all
theorem vi {F F':Frame} {o:Option Operand} (h:∀x∈o.toArray,ev F x=ev F' x):iX F o=iX F' o:=by
 cases o with
 | none=>rfl
 | some x=>simp[iX];grind
theorem Cm {E:Env} {F F':Frame} {op:Op} (h:l8 F F' op):bE E F op=bE E F' op:=by
 cases op with
 | move x=>exact h x (by simp[Op.operands])
 | assign x=>exact h x (by simp[Op.operands])
 | pick c a b=>
  simp[bE];rw[h c (by simp[Op.operands]),h a (by simp[Op.operands]),h b (by simp[Op.operands])]
 | nilCheck x=>simp[bE];rw[h x (by simp[Op.operands])]
 | binOp op t x y A=>simp[bE];rw[h x (by simp[Op.operands]),h y (by simp[Op.operands])]
 | unOp op t x=>simp[bE];rw[h x (by simp[Op.operands])]
 | convert s d x=>simp[bE];rw[h x (by simp[Op.operands])]
 | fieldAddr s x f=>simp[bE];rw[h x (by simp[Op.operands])]
 | field s x f=>simp[bE];rw[h x (by simp[Op.operands])]
 | indexAddr t x i=>simp[bE];rw[h x (by simp[Op.operands]),h i (by simp[Op.operands])]
 | index t x i=>simp[bE];rw[h x (by simp[Op.operands]),h i (by simp[Op.operands])]
 | slice t x B C D=>
  simp[bE];rw[h x (by simp[Op.operands]),vi  (λy u=>h y (by simp[Op.operands]at u ⊢;simp_all)),vi  (λy u=>h y (by simp[Op.operands]at u ⊢;simp_all)),
   vi  (λy u=>h y (by simp[Op.operands]at u ⊢;simp_all))]
 | build t ps=>
  simp[bE];rw[xY  (λx w=>h x.2 (by simp[Op.operands];grind))]
 | makeFunc f a b=>
  cases f with
  | func f=>
   simp[bE];rw[qK  (λx w=>h x (by simp[Op.operands];grind)),qK  (λx w=>h x (by simp[Op.operands];grind))]
  | _=>rfl
 | extract x i=>simp[bE];rw[h x (by simp[Op.operands])]
 | call c=>
  obtain⟨callee,args,z⟩:=c
  cases callee with
  | builtin b=>
   simp[bE];rw[qK  (λx w=>h x (by simp[Op.operands,Call.operands];grind))]
  | _=>rfl
 | _=>rfl
theorem vI {E:Env} {F F':Frame} {H:bf} {op:Op} (h:l8 F F' op):dF E F H op=dF E F' H op:=by
 cases op with
 | load t x=>simp[dF];rw[h x (by simp[Op.operands])]
 | lookup t m k ok=>simp[dF];rw[h m (by simp[Op.operands]),h k (by simp[Op.operands])]
 | _=>rfl
theorem uU {E:Env} {F F':Frame} {op:Op} (h:l8 F F' op):eo E F op=eo E F' op:=by
 cases op with
 | alloc t=>rfl
 | box t x=>simp[eo];rw[h x (by simp[Op.operands])]
 | makeSlice t l c=>simp[eo];rw[h l (by simp[Op.operands]),h c (by simp[Op.operands])]
 | buildSlice t len ps=>
  simp[eo];rw[xY  (λx u=>h x.2 (by simp[Op.operands];grind))]
 | makeMap t r=>cases r <;> rfl
 | _=>rfl
theorem B9 {E:Env} {F F':Frame} {H:bf} {op:Op} (h:l8 F F' op):cO E F H op=cO E F' H op:=by
 cases op with
 | store t p x=>simp[cO];rw[h p (by simp[Op.operands]),h x (by simp[Op.operands])]
 | mapUpdate t m k x=>simp[cO];rw[h m (by simp[Op.operands]),h k (by simp[Op.operands]),h x (by simp[Op.operands])]
 | insert t m k x=>simp[cO];rw[h m (by simp[Op.operands]),h k (by simp[Op.operands]),h x (by simp[Op.operands])]
 | call c=>
  obtain⟨callee,args,u⟩:=c
  cases callee with
  | builtin b=>
   cases b with
   | append=>
    simp[cO];rw[qK  (λx w=>h x (by simp[Op.operands,Call.operands];grind))]
   | clear=>
    simp[cO];rw[qK  (λx w=>h x (by simp[Op.operands,Call.operands];grind))]
   | _=>rfl
  | _=>rfl
 | _=>rfl
theorem BZ {F F':Frame} {op:Op} (h:l8 F F' op):jc F op=jc F' op:=by
 cases op with
 | call c=>
  obtain⟨callee,args,t⟩:=c
  cases callee with
  | value f=>
   simp[jc];rw[h f (by simp[Op.operands,Call.operands]),qK  (λx u=>h x (by simp[Op.operands,Call.operands];grind))]
  | _=>rfl
 | _=>rfl
theorem Gj {E:Env} {F F':Frame} {op:Op} (h:l8 F F' op):pV E F op=pV E F' op:=by unfold pV;rw[uU h]
theorem Ji {F F':Frame} {ops:List Oper} {i b:Nat} {H:bf} {op:Op} (h:l8 F F' op):wE ops i b F H op=wE ops i b F' H op:=by
 have:om F op=om F' op:=by
  unfold om;split
  .rename_i args _;split
   .rename_i x r t;rw[h x (by
     have:x∈args.toList:=by rw[t];simp
     simp only[Op.operands,Call.operands,Array.mem_append];right;simpa using this)]
   .rfl
  .rfl
 unfold wE;rw[this]
theorem GF {E:Env} {place:Option (Nat×Nat)} {F F':Frame} {H:bf} {op:Op} (h:l8 F F' op):ri E F H place op=ri E F' H place op:=by
 unfold ri;rw[Cm h];have:evalConv E F H op=evalConv E F' H op:=by
  unfold evalConv;split
  .rw[h _ (by simp[Op.operands])]
  .rfl
 rw[this]
theorem tD {E:Env} {b:Nat×Nat} {F:Frame} {H:bf} {op:Op}:ri E F H (some b) op=bE E F op:=by
 unfold ri;split <;> simp_all
theorem BB {E:Env} {call:c7} {ops:List Oper} {place:Option (Nat×Nat)} {F F':Frame} {H:bf} {op:Op} (h:l8 F F' op) (B:∀b i,place=some (b,i)->qe ops i F=qe ops i F'/\mG ops i F op=mG ops i F' op):c6 E call ops place F H op=c6 E call ops place F' H op:=by
 unfold c6;rw[GF h,uU h,B9 h,BZ h,vI (H:=H) h,Gj h];split <;> (try rfl)
 .split <;> (try rfl)
  rename_i i;rw[vI h,(B _ i rfl).2]
 .split <;> (try rfl)
  rename_i b i;rw[(B _ i rfl).1,Ji h]
section
variable {E:Env} {call:c7} {n:Nat} {ops:List Oper} {base:Nat}
theorem Jq {o:Oper} {t:Nat} (h:.tmp t∈o.op.operands):t∈tmpsOf o ops:=by
 refine List.mem_append.2 (.inl (List.mem_filterMap.2 ⟨.tmp t,by grind,rfl⟩))
theorem CU {F F':Frame} {o:Oper} {dst:Option Nat} {v:V} (B:jg n F dst v=some F') (h:∀d,dst=some d->d∉tmpsOf o ops):l8 F' F o.op:=by
 intro x w
 cases x with
 | tmp t=>
  cases dst with
  | none=>simp[jg]at B;grind
  | some d=>
   simp only[jg]at B;split at B
   .simp  at B;subst B;have u:d≠t:=λe=>h d rfl (by rw[e];exact Jq w)
    simp[ev];rw[gw _ _ u]
   grind
 | const v=>rfl
 | func f=>rfl
 | global g=>rfl
theorem zU {F F':Frame} {o:Oper} {dst:Option Nat} {v:V} (B:jg n F dst v=some F') (h:∀d,dst=some d->d∉tmpsOf o ops):fc ops F' o=fc ops F o:=by
 unfold fc
 cases hg:o.guard with
 | none=>rfl
 | some g=>
  obtain⟨j,b⟩:=g;simp only
  cases w:(ops[j]?).bind (·.dst)with
  | none=>rfl
  | some t=>
   simp only
   cases dst with
   | none=>simp[jg]at B;grind
   | some d=>
    simp only[jg]at B;split at B
    .simp  at B;subst B;have u:d≠t:=λe=>h d rfl (by
      unfold tmpsOf
      grind)
     rw[gw _ _ u]
    grind
theorem KC {F F1 J:Frame} {d G:Option Nat} {u v:V} (h1:jg n F d u=some F1) (B:jg n F1 G v=some J) (O:∀x,d=some x->G≠some x) :
 ∃D,jg n F G v=some D/\jg n D d u=some J:=by
 cases d with
 | none=>
  simp[jg]at h1;subst h1;exact⟨J,B,rfl⟩
 | some x=>
  cases G with
  | none=>
   simp[jg]at B;subst B;exact⟨F,rfl,h1⟩
  | some y=>
   simp only[jg]at h1 B ⊢;split at h1
   .rename_i t;split at B
    .simp  at h1 B;subst h1;subst B;have:x≠y:=λe=>O x rfl (by rw[e])
     exact⟨set F y v,by grind,by rw[if_pos t,Ef _ _ _ (Ne.symm this)]⟩
    grind
   grind
theorem ve {i k:Nat} {B ok:Oper} (h:dm ops i=true) (G:ops[i]? = some B) (hk:ops[k]? = some ok) (D:k≠i):cT ok.op=.pure\/(if k<i then before ops i k else before ops k i)=true\/(isApp B.op=true/\cT ok.op=.alloc/\i<k):=by
 unfold dm at h
 grind
theorem uP {H:bf} {j es:Nat} {ob:Ob} {x:V} {xs:List (List V)} (B:H[j]? = some .free) (h:dh H es x=some xs):dh (H.set j ob) es x=some xs:=by
 unfold dh at h ⊢;split at h <;> first|omega|skip
 rename_i id t off len
 by_cases e:j=id
 .subst e;rw[B]at h;simp only[ζb,Ob.rows]at h
  grind
 grind
theorem M0 {H H1:bf} {j:Nat} {ob:Ob} {x:V} (h:gb H x=some H1):H1.length=H.length/\(H1[j]? = some .free->H[j]? = some .free)/\(H[j]? = some .free->gb (H.set j ob) x=some (H1.set j ob)):=by
 unfold gb at h ⊢;split at h
 .grind
 .grind
 .rename_i id a b c;split at h
  .rename_i hr;cases h;refine⟨by simp,λh=>?_,λh=>?_⟩
   .grind
   .have e:id≠j:=λe=>by grind
    rw[List.getElem?_set_ne (Ne.symm e),hr];rw[List.set_comm _ _ e]
  simp_all
 simp_all
theorem EZ {H:bf} {o:Ob} {j:Nat} (B:o≠.free) (h:(H++[o])[j]? = some .free):j<H.length/\H[j]? = some .free:=by
 grind
theorem OV {F:Frame} {H H1:bf} {op:Op} {v:V} {j:Nat} {ob:Ob} (J:isApp op=true) (h:cO E F H op=some (v,H1)) (B:H1[j]? = some .free):H[j]? = some .free/\cO E F (H.set j ob) op=some (v,H1.set j ob):=by
 unfold isApp at J;split at J
 .simp only[cO]at h ⊢;split at h
  .split at h
   .rename_i e _ u t;split at h
    .rename_i d A;split at h
     .rename_i C D;obtain⟨rfl,rfl⟩:=h;refine⟨B,?_⟩;simp[u,t,A,uP  B C,uP  B D]
     .rename_i O Q I C D;split at h
      .obtain⟨H0,hg,L⟩:=ζf.1 h;obtain⟨rfl,rfl⟩:=L;obtain⟨G,w⟩:=EZ (by simp) B
       obtain⟨g1,g2,g3⟩:=M0  (ob:=ob) hg;have z:=g2 w;simp[u,t,A,uP  z C,uP  z D]
       grind
      simp_all
     simp_all
    simp_all
   .rename_i e _ u t;split at h
    .rename_i d A;unfold mkApp at h;split at h
     .split at h
      .obtain⟨rfl,rfl⟩:=h;simp only[u,t,A,mkApp]
       grind
      .split at h
       .obtain⟨rfl,rfl⟩:=h;obtain⟨G,w⟩:=EZ (by simp) B
        simp only[t,mkApp]
        grind
       simp_all
     simp_all
    simp_all
   simp_all
  simp_all
 simp_all
theorem sE {i:Nat} {F:Frame} {H H':bf} {op:Op} {v:V} (h:c6 E call ops (some (base,i)) F H op=some (v,H')) (O:dm ops i=false) (B:cT op≠.loud) :
 (H'=H/\∀H2:bf,lz (H2.take base) (H.take base)->c6 E call ops (some (base,i)) F H2 op=some (v,H2)) \/
 (∃ob,H[base+i]? = some .free/\H'=H.set (base+i) ob/\∀H2:bf,H2[base+i]? = some .free->c6 E call ops (some (base,i)) F H2 op=some (v,H2.set (base+i) ob)) \/
 (∃T,g_ (H.take base) T=true/\H'=ct H T/\∀H2:bf,lz (H2.take base) (H.take base)->c6 E call ops (some (base,i)) F H2 op=some (v,ct H2 T)):=by
 unfold c6 at h;split at h
 .rename_i G;simp  at h;obtain⟨x,A,rfl,rfl⟩:=h;refine .inl ⟨rfl,λH2 _=>?_⟩
  rw[tD]at A;unfold c6;rw[G];simp only[tD,A,Option.map_some]
 .rename_i B;simp only at h;split at h
  .rename_i I;split at h
   .rename_i x A;obtain⟨rfl,rfl⟩:=h;refine .inl ⟨rfl,λH2 t=>?_⟩
    unfold c6;rw[B];simp[xm t,A,I]
   grind
  grind
 .split at h
  .obtain⟨x,A,e⟩:=ζf.1 h;obtain⟨rfl,rfl⟩:=e;refine .inl ⟨rfl,λH2 _=>?_⟩
   unfold c6;grind
  split at h
  .grind
  .rename_i ob m S U Q J;obtain⟨rfl,rfl⟩:=J;split at h
   .rename_i u;obtain⟨rfl,rfl⟩:=h;refine .inr (.inl ⟨ob,u,rfl,λH2 t=>?_⟩)
    unfold c6;grind
   grind
  grind
 .grind
 .rename_i B;split at h
  .rename_i f args C;split at h
   .grind
   .rename_i w;simp only at h;split at h
    .rename_i y L;split at h
     .rename_i z;obtain⟨rfl,rfl⟩:=h;refine .inl ⟨rfl,λH2 t=>?_⟩
      unfold c6;rw[B];simp[C];rw[if_neg w];simp[yf t,L,z]
     .split at h
      .rename_i D;obtain⟨rfl,rfl⟩:=h;refine .inr (.inr ⟨_,D,rfl,λH2 t=>?_⟩)
       unfold c6;simp[C];simp[yf t,L,HY t,s_ t,D]
       grind
      grind
    grind
  .grind
  grind
theorem Dj {i:Nat}:∀{r l:List Nat},AG ops i r=some l->∀k∈r,∃a,DY ops i k=some a/\∀s∈a,s∈l
 | [],l,h,k,hk=>by simp_all
 | q::r,l,h,k,hk=>by
  simp[AG]at h;split at h
  .rename_i a b h1 B;simp  at h;rcases List.mem_cons.1 hk with rfl|hk
   .grind
   .obtain⟨a',g1,g2⟩:=Dj B k hk
    grind
  grind
theorem Ei {i:Nat}:∀{r l:List Nat},AG ops i r=some l->∀s∈l,s∉dstsOf ops
 | [],l,h,s,hs=>by simp[AG]at h;grind
 | q::r,l,h,s,hs=>by
  simp[AG]at h;split at h
  .rename_i a b h1 B;simp  at h;subst h;rcases List.mem_append.1 hs with hs|hs
   .unfold DY at h1
    grind
   .exact Ei B s hs
  grind
theorem Ds {i a:Nat} {l:List Nat} {B:Oper} (D:ops[i]? = some B) (h:x_ ops i=some (a,l)):(∃t x,B.op=.store t (.tmp a) x)/\a∉dstsOf ops/\(∀s∈l,s∉dstsOf ops) /\
 ∀k ok,ops[k]? = some ok->k≠i->cT ok.op=.pure\/(if k<i then before ops i k else before ops k i)=true\/∃G a',ok.op=.load G (.tmp a')/\(a'∈l\/a'∈dstsOf ops):=by
 unfold x_ at h;rw[D]at h;simp  at h;split at h
 .rename_i t a0 x w;simp  at w;split at h
  .simp_all
  .obtain⟨C,z,e⟩:=ζf.1 h;obtain⟨rfl,rfl⟩:=e;refine⟨⟨t,x,w⟩,by grind,Ei z,λk ok hk A=>?_⟩
   obtain⟨b,h1,I⟩:=Dj z k (List.mem_range.2 (ζe.1 hk).1);unfold DY at h1;rw[hk]at h1;simp only at h1;split at h1
   .rename_i u;simp  at u;rcases u with (u|u)|u
    .grind
    .grind
    .exact .inr (.inl u)
   .split at h1
    .grind
    grind
 grind
theorem Ew {F F':Frame} {dst:Option Nat} {v:V} {s:Nat} (B:jg n F dst v=some F') (h:∀d,dst=some d->s≠d):get F' s=get F s:=by
 unfold jg at B;split at B
 .grind
 .rename_i d;split at B
  .simp  at B;subst B;exact gw _ _ (Ne.symm (h d rfl))
  grind
theorem Ed {k d:Nat} {ok:Oper} (hk:ops[k]? = some ok) (B:ok.dst=some d):d∈dstsOf ops:=
 List.mem_filterMap.2 ⟨ok,List.mem_of_getElem? hk,B⟩
theorem Df {F F':Frame} {k i:Nat} {ok B:Oper} {v:V} (hk:ops[k]? = some ok) (D:ops[i]? = some B) (G:jg n F ok.dst v=some F'):qe ops i F'=qe ops i F:=by
 unfold qe
 cases t:x_ ops i with
 | none=>rfl
 | some u=>
  obtain⟨a,l⟩:=u;obtain⟨_,A,C,_⟩:=Ds D t;have hg:∀s,s∉dstsOf ops->get F' s=get F s:=λs w=>Ew G λd z e=>w (e▸Ed hk z)
  grind
theorem JJ {i k a a':Nat} {t:TypeId} {x:Operand} {B:Oper} (D:ops[i]? = some B) (e1:B.op=.store t (.tmp a) x) (h1:a'∈dstsOf ops) (G:a∉dstsOf ops) (J:ua ops i k=false):a∈nU ops k a':=by
 unfold nU
 grind
theorem wO {k a' s:Nat} (h:s∈nU ops k a'):s∉dstsOf ops/\∃i B t x,ops[i]? = some B/\B.op=.store t (.tmp s) x/\ua ops i k=false:=by
 unfold nU at h
 grind
theorem C2 {F F':Frame} {k i:Nat} {ok:Oper} {op:Op} {v:V} (hk:ops[k]? = some ok) (D:jg n F ok.dst v=some F') (B:l8 F' F op):mG ops i F' op=mG ops i F op:=by
 have hg:∀s,s∉dstsOf ops->get F' s=get F s:=λs h=>Ew D λd u e=>h (e▸Ed hk u)
 unfold mG;split
 .rename_i t w;have z  := by
   have:=B (.tmp w) (by simp[Op.operands])
   simpa [ev]using this
  rw[z,Bool.eq_iff_iff];simp;exact⟨λh s B=>by rw[<-hg s (wO B).1];grind,λh s B=>by rw[hg s (wO B).1];grind⟩
 .rfl
theorem Bs {k a':Nat} {ok:Oper} {t:TypeId} (hk:ops[k]? = some ok) (e:ok.op=.load t (.tmp a')) (h:dm ops k=true):nU ops k a'=[]:=by
 refine List.eq_nil_iff_forall_not_mem.2 λs w=>?_
 obtain⟨_,i,B,C,x,h1,z,A⟩:=wO w;have u:i≠k:=λe2=>by grind
 rcases ve h hk h1 u with g|g|g
 .rw[z]at g;cases g
 .unfold ua at A
  grind
 .rw[e]at g;exact absurd g.1 (by simp[isApp])
theorem Gl {F:Frame} {H H':bf} {t:TypeId} {a:Nat} {x:Operand} {id el off:Nat} {u:V} (B:get F a=.hptr id el off) (h:cO E F H (.store t (.tmp a) x)=some (u,H')):∃r,H'=H.set id r:=by
 simp only[cO,ev]at h;split at h
 .grind
 grind
theorem Iz {F:Frame} {H:bf} {t:TypeId} {a id b:Nat} {r:Ob} (B:pG id (get F a)=true):dF E F ((H.set id r).take b) (.load t (.tmp a))=dF E F (H.take b) (.load t (.tmp a)):=by
 have:∀m,dL ((H.set id r).take b) (get F a) m=dL (H.take b) (get F a) m:=λm=>by
  unfold pG at B;split at B
  .rename_i u el off hg;rw[hg];simp[dL]
   grind
  .rename_i w hg;rw[hg];rfl
  grind
 unfold dF;simp[ev]
 grind
theorem Fz {k i:Nat} {ok G:Oper} (hk:ops[k]? = some ok) (Y:ops[i]? = some G) (U:k≠i) (J:(if k<i then before ops i k else before ops k i)=false) (lk:dm ops k=false) (pk:cT ok.op≠.pure) (hl:cT G.op=.loud) (li:dm ops i=false) (W:isApp G.op=false)
 {F:Frame} {H0 H1 H2 Hs O:bf} {u v:V} (D:c6 E call ops (some (base,i)) F Hs G.op=some (u,O)) (B:c6 E call ops (some (base,k)) F H0 ok.op=some (v,H1)) :
 H1=H0/\∃id,(∀(H:bf) (r:Ob),dF E F ((H.set id r).take base) ok.op=dF E F (H.take base) ok.op)/\(∃r,O=Hs.set id r)/\cT ok.op=.read/\dF E F (H0.take base) ok.op=some v/\mG ops k F ok.op=true:=by
 unfold c6 at D;rw[hl]at D;simp only[li,Bool.false_or,show ∀F b H,wE ops i b F H G.op=false from λF b H=>by unfold wE;rw[W];simp,Bool.or_false]at D
 split at D
 .rename_i A;unfold qe at A;split at A
  .rename_i a l I;split at A
   .rename_i id el off hg;obtain⟨⟨t,x,C⟩,T,h3,X⟩:=Ds Y I;rcases X k ok hk U with h|h|⟨t',S,w,hmem⟩
    .exact absurd h pk
    .rw[J]at h;cases h
    .unfold c6 at B;rw[w]at B;simp only[cT]at B;split at B
     rotate_left
     .simp at B
     rename_i z;have L:pG id (get F S)=true:=by
      rcases hmem with hmem|hmem
      .exact List.all_eq_true.1 A S hmem
      .have Q:ua ops i k=false:=by
        unfold ua
        by_cases e:k<i
        .rw[if_pos e]at J ⊢;exact J
        .rw[if_neg e]at J ⊢;exact J
       have Z:=JJ Y C hmem T Q;unfold mG at z;simp only[List.all_eq_true]at z;have:=z a Z;rw[hg]at this;exact this
     rw[C]at D;obtain⟨r,hr⟩:=Gl hg D;split at B
     .rename_i v' hv;simp only[ζa,ζc]at B;obtain⟨rfl,rfl⟩:=B;refine⟨rfl,id,λH r=>by rw[w];exact Iz L,⟨r,hr⟩,by rw[w];rfl,by rw[w];exact hv,by rw[w];exact z⟩
     .rw[lk]at B;simp at B
   .simp at A
  .simp at A
 .simp at D
theorem AV {place:Nat×Nat} {F:Frame} {H H':bf} {op:Op} {v:V} (B:cT op=.pure\/cT op=.alloc/\pT ops (some place)=true) (h:c6 E call ops (some place) F H op=some (v,H')) :
 H'=H/\∀H2:bf,c6 E call ops (some place) F H2 op=some (v,H2):=by
 rcases B with B|⟨B,t⟩
 rotate_left
 .unfold c6 at h;rw[B]at h;simp only[t]at h;obtain⟨x,u,e⟩:=ζf.1 h;obtain⟨rfl,rfl⟩:=e;refine⟨rfl,λH2=>?_⟩
  unfold c6;grind
 unfold c6 at h;rw[B]at h;simp  at h;obtain⟨x,u,rfl,rfl⟩:=h;refine⟨rfl,λH2=>?_⟩
 rw[tD]at u;unfold c6;rw[B];simp only[tD,u,Option.map_some]
theorem take_set_of_le {H:bf} {b k:Nat} {x:Ob} (h:b<=k):(H.set k x).take b=H.take b:=List.take_set_of_le h
theorem apart_spec {a b:Oper} (h:vL ops a b=true):(∀d,a.dst=some d->d∉tmpsOf b ops/\b.dst≠some d)/\(∀d,b.dst=some d->d∉tmpsOf a ops):=by
 unfold vL at h
 grind
theorem Bc {i k:Nat} {ok:Oper} (h:u7 ops i=true) (hk:ops[k]? = some ok) (B:k≠i) (D:ua ops i k=false):cT ok.op=.pure\/cT ok.op=.read\/cT ok.op=.alloc/\(vF ops k=true\/i<k):=by
 unfold u7 at h;split at h
 .simp only[ζh,List.all_eq_true,List.mem_range]at h;have:=h.2 k (ζe.1 hk).1;rw[hk]at this;simp only[Bool.or_eq_true,beq_iff_eq,ζh,decide_eq_true_eq,D,Bool.false_eq_true,or_false]at this;rcases this with ((h|h)|h)|h
  .exact absurd h B
  .exact .inl h
  .exact .inr (.inl h)
  .exact .inr (.inr h)
 .cases h
theorem yD {op:Op} (h:isApp op=true):cT op=.loud:=by
 unfold isApp at h;split at h
 .rfl
 .cases h
theorem EV {F:Frame} {H H1:bf} {op:Op} {v:V} {b:Nat} (D:isApp op=true) (B:om F op=true) (G:b<=H.length) (h:cO E F H op=some (v,H1)):H1.take b=H.take b:=by
 unfold isApp at D;split at D
 rotate_left
 .cases D
 rename_i args z;simp only[cO]at h;split at h
 rotate_left
 .cases h
 rename_i t J s x A u;have C:s=.dg\/s=.bB:=by
  simp only[om]at B;split at B
  .rename_i y r I;rw[I]at u;have h1:ev F y=some s:=by
    simp only[eY]at u;split at u
    .rename_i a b h1 w;simp only[ζa,List.cons.injEq]at u;rw[h1,u.1]
    .cases u
   rw[h1]at B;cases s <;> simp at B <;> simp
  .cases B
 have hg:∀H2,gb H s=some H2->H2=H:=λH2 h=>by rcases C with rfl|rfl <;> (simp only[gb,ζa]at h;exact h.symm)
 split at h
 .split at h
  .split at h
   .simp only[ζa,ζc]at h;rw[h.2]
   .split at h
    .obtain⟨H0,h1,w⟩:=ζf.1 h;simp only[ζc]at w;rw[<-w.2,hg H0 h1,List.take_append_of_le_length G]
    .cases h
   .cases h
  .cases h
 .split at h
  .unfold mkApp at h;split at h
   .split at h
    .simp only[ζa,ζc]at h;rw[h.2]
    .split at h
     .simp only[ζa,ζc]at h;rw[<-h.2,List.take_append_of_le_length G]
     .cases h
   .cases h
  .cases h
 .cases h
theorem Ct {i:Nat} {F:Frame} {H H':bf} {op:Op} {u:V} (B:isApp op=true) (D:dm ops i=false) (G:(ops[i]?).map Oper.op=some op) (h:c6 E call ops (some (base,i)) F H op=some (u,H')) :
 u7 ops i=true/\om F op=true/\base<=H.length/\cO E F H op=some (u,H'):=by
 unfold c6 at h;rw[yD B]at h;have t:qe ops i F=false:=by
  unfold qe x_;rw[G];unfold isApp at B;split at B
  .rfl
  .cases B
 simp only[D,t,Bool.false_or]at h;split at h
 .rename_i hc;unfold wE at hc;simp only[ζh,decide_eq_true_eq]at hc;exact⟨hc.1,hc.2.1.2,hc.2.2,h⟩
 .cases h
theorem JC {i:Nat} {F:Frame} {H H':bf} {op:Op} {u:V} (B:isApp op=true) (h:cO E F H op=some (u,H')) (hc:dm ops i=true\/u7 ops i=true/\om F op=true/\base<=H.length):c6 E call ops (some (base,i)) F H op=some (u,H'):=by
 unfold c6;rw[yD B];rcases hc with hc|⟨h1,t,w⟩
 .simp only[hc,Bool.true_or,if_true,h]
 .have:wE ops i base F H op=true:=by unfold wE;simp[h1,B,t,w]
  simp only[this,Bool.or_true,if_true,h]
theorem By {i:Nat} {F:Frame} {H H':bf} {op:Op} {v:V} (B:cT op=.read) (D:dm ops i=false) (h:c6 E call ops (some (base,i)) F H op=some (v,H')) :
 H'=H/\∀H2:bf,lz (H2.take base) (H.take base)->c6 E call ops (some (base,i)) F H2 op=some (v,H2):=by
 unfold c6 at h;rw[B]at h;simp only at h;split at h
 .rename_i t;split at h
  .rename_i x u;simp only[ζa,ζc]at h;obtain⟨rfl,rfl⟩:=h;refine⟨rfl,λH2 w=>?_⟩
   unfold c6;rw[B];simp only[xm w,u,t,if_true]
  .rw[D]at h;simp at h
 .simp at h
theorem swap {k i:Nat} {ok D:Oper} (hk:ops[k]? = some ok) (W:ops[i]? = some D) (ab:k<i) (O:before ops i k=false) (J:vL ops ok D=true) {F F1 F2:Frame} {H H1 H2:bf}
 (h1:fI E call n ops (some (base,k)) ok F H=some (F1,H1)) (h2:fI E call n ops (some (base,i)) D F1 H1=some (F2,H2)) :
 ∃G B,fI E call n ops (some (base,i)) D F H=some (G,B)/\fI E call n ops (some (base,k)) ok G B=some (F2,H2):=by
 obtain⟨a1,a2⟩:=apart_spec J;have ad:∃v,jg n F ok.dst v=some F1/\((fc ops F ok=true/\c6 E call ops (some (base,k)) F H ok.op=some (v,H1))\/(fc ops F ok=false/\v=.undef/\H1=H)):=by
  unfold fI at h1;split at h1
  .rename_i hw;split at h1
   .rename_i v H' L;simp only[ζf,ζc]at h1;obtain⟨Fx,hp,rfl,rfl⟩:=h1;exact⟨v,hp,.inl ⟨hw,L⟩⟩
   .simp at h1
  .rename_i hw;simp only[ζf,ζc]at h1;obtain⟨Fx,hp,rfl,rfl⟩:=h1;exact⟨_,hp,.inr ⟨by simpa using hw,rfl,rfl⟩⟩
 have ae:∃v,jg n F1 D.dst v=some F2/\((fc ops F1 D=true/\c6 E call ops (some (base,i)) F1 H1 D.op=some (v,H2))\/(fc ops F1 D=false/\v=.undef/\H2=H1)):=by
  unfold fI at h2;split at h2
  .rename_i hw;split at h2
   .rename_i v H' L;simp only[ζf,ζc]at h2;obtain⟨Fx,hp,rfl,rfl⟩:=h2;exact⟨v,hp,.inl ⟨hw,L⟩⟩
   .simp at h2
  .rename_i hw;simp only[ζf,ζc]at h2;obtain⟨Fx,hp,rfl,rfl⟩:=h2;exact⟨_,hp,.inr ⟨by simpa using hw,rfl,rfl⟩⟩
 obtain⟨v,Q,iY⟩:=ad;obtain⟨u,av,af⟩:=ae;have aw:fc ops F1 D=fc ops F D:=zU Q λd L=>(a1 d L).1
 have an:l8 F1 F D.op:=CU Q λd L=>(a1 d L).1
 have ax:∀(b j:Nat),(some (base,i):Option (Nat×Nat))=some (b,j)->qe ops j F1=qe ops j F/\mG ops j F1 D.op=mG ops j F D.op:=λb j e=>by cases e;exact⟨Df hk W Q,C2 hk Q an⟩
 rw[aw,BB an ax]at af;obtain⟨G,I,ao⟩:=KC Q av λx hx=>(a1 x hx).2
 have ay:fc ops G ok=fc ops F ok:=zU I λd L=>a2 d L
 have ap:l8 G F ok.op:=CU I λd L=>a2 d L
 have aA:∀(b j:Nat),(some (base,k):Option (Nat×Nat))=some (b,j)->qe ops j G=qe ops j F/\mG ops j G ok.op=mG ops j F ok.op:=λb j e=>by cases e;exact⟨Df W hk I,C2 W I ap⟩
 have fin:∀B,((fc ops F D=true/\c6 E call ops (some (base,i)) F H D.op=some (u,B))\/(fc ops F D=false/\u=.undef/\B=H)) ->
  ((fc ops F ok=true/\c6 E call ops (some (base,k)) F B ok.op=some (v,H2))\/(fc ops F ok=false/\v=.undef/\H2=B)) ->
  ∃G B,fI E call n ops (some (base,i)) D F H=some (G,B)/\fI E call n ops (some (base,k)) ok G B=some (F2,H2):=by
  intro B e1 e2;refine⟨G,B,?_,?_⟩
  .unfold fI;rcases e1 with⟨x1,x2⟩|⟨x1,x2,x3⟩
   .rw[if_pos x1,x2];simp[I]
   .rw[if_neg (by simp[x1])];subst x2;subst x3;simp[I]
  .unfold fI;rw[ay];rcases e2 with⟨x1,x2⟩|⟨x1,x2,x3⟩
   .rw[if_pos x1,BB ap aA,x2];simp[ao]
   .rw[if_neg (by simp[x1])];subst x2;subst x3;simp[ao]
 rcases iY with⟨w,d1⟩|⟨w,rfl,rfl⟩
 .rcases af with⟨t,d2⟩|⟨t,rfl,rfl⟩
  .by_cases pk:cT ok.op=.pure\/cT ok.op=.alloc/\pT ops (some (base,k))=true
   .obtain⟨rfl,q⟩:=AV pk d1;exact fin H2 (.inl ⟨t,d2⟩) (.inl ⟨w,q H2⟩)
   .by_cases pi:cT D.op=.pure\/cT D.op=.alloc/\pT ops (some (base,i))=true
    .obtain⟨rfl,q⟩:=AV pi d2;exact fin H (.inl ⟨t,q H⟩) (.inl ⟨w,d1⟩)
    .by_cases J:isApp ok.op=true/\cT D.op=.alloc
     .
      obtain⟨J,ah⟩:=J;have aB:=yD J;have ai:(dm ops k=true\/u7 ops k=true/\om F ok.op=true/\base<=H.length)/\cO E F H ok.op=some (v,H1):=by
       cases hl:dm ops k with
       | true=>
        refine⟨.inl rfl,?_⟩;unfold c6 at d1;rw[aB]at d1;simpa only[hl,Bool.true_or,if_true]using d1
       | false=>
        obtain⟨a,b,c,d⟩:=Ct J hl (by rw[hk];rfl) d1
        exact⟨.inr ⟨a,b,c⟩,d⟩
      obtain⟨ai,e1⟩:=ai;have aq:pT ops (some (base,i))=false:=by
       cases hc:pT ops (some (base,i))with
       | false=>rfl
       | true=>exact absurd (.inr ⟨ah,hc⟩) pi
      have e2:∃ob m,eo E F D.op=some (ob,m)/\H1[base+i]? = some .free/\u=m.val (base+i)/\H2=H1.set (base+i) ob:=by
       unfold c6 at d2;rw[ah]at d2;simp only[aq,Bool.false_eq_true,if_false]at d2;split at d2
       .rename_i aj;cases aj
       .rename_i ob m b' i' ak aj;cases aj;split at d2
        .rename_i z;simp only[ζa,ζc]at d2;exact⟨ob,m,ak,z,d2.1.symm,d2.2.symm⟩
        .cases d2
       .cases d2
      obtain⟨ob,m,ak,z,rfl,rfl⟩:=e2;obtain⟨f0,f1⟩:=OV (ob:=ob) J e1 z;refine fin (H.set (base+i) ob) (.inl ⟨t,?_⟩) (.inl ⟨w,?_⟩)
      .unfold c6;rw[ah];simp only[aq,Bool.false_eq_true,if_false,ak,f0]
      .exact JC J f1 (ai.imp id λ⟨a,b,c⟩=>⟨a,b,by rw[List.length_set];exact c⟩)
     have lk:dm ops k=false:=by
      cases hl:dm ops k with
      | false=>rfl
      | true=>
       rcases ve hl hk W (by omega)with h|h|h
       .exact absurd (.inl h) pi
       .rw[if_neg (by omega)]at h;rw[O]at h;cases h
       .exact absurd ⟨h.1,h.2.1⟩ J
     have li:dm ops i=false:=by
      cases hl:dm ops i with
      | false=>rfl
      | true=>
       rcases ve hl W hk (by omega)with h|h|h
       .exact absurd (.inl h) pk
       .rw[if_pos ab]at h;rw[O]at h;cases h
       .exact absurd h.2.2 (by omega)
     by_cases al:isApp D.op=true
     .obtain⟨g1,g2,g3,g4⟩:=Ct al li (by rw[W];rfl) d2
      rcases Bc g1 hk (by omega) (by unfold ua;rw[if_pos ab];exact O)with h|h|⟨h,h2⟩
      .exact absurd (.inl h) pk
      .obtain⟨rfl,q⟩:=By h lk d1;exact fin H2 (.inl ⟨t,d2⟩) (.inl ⟨w,q H2 (lz.of_eq (EV al g2 g3 g4))⟩)
      .rcases h2 with h2|h2
       .exact absurd (.inr ⟨h,h2⟩) pk
       .omega
     by_cases Y:isApp ok.op=true
     .obtain⟨g1,g2,g3,g4⟩:=Ct Y lk (by rw[hk];rfl) d1
      rcases Bc g1 W (by omega) (by unfold ua;rw[if_neg (by omega)];exact O)with h|h|⟨h,h2⟩
      .exact absurd (.inl h) pi
      .obtain⟨rfl,q⟩:=By h li d2;exact fin H (.inl ⟨t,q H (lz.of_eq (EV Y g2 g3 g4).symm)⟩) (.inl ⟨w,d1⟩)
      .exact absurd ⟨Y,h⟩ J
     by_cases A:cT D.op=.loud
     .obtain⟨rfl,id,q1,⟨r,hr⟩,q3,q4,q5⟩:=Fz (H2:=H2) hk W (by omega) (by rw[if_pos ab];exact O) lk (λh=>pk (.inl h)) A li (by simpa using al) d2 d1
      refine fin H2 (.inl ⟨t,d2⟩) (.inl ⟨w,?_⟩);unfold c6;rw[q3];subst hr;simp only[q1,q4,q5,if_true]
     by_cases aa:cT ok.op=.loud
     .obtain⟨rfl,id,q1,⟨r,hr⟩,q3,q4,q5⟩:=Fz (H2:=H2) W hk (by omega) (by rw[if_neg (by omega)];exact O) li (λh=>pi (.inl h)) aa lk (by simpa using Y) d1 d2
      refine fin H (.inl ⟨t,?_⟩) (.inl ⟨w,d1⟩);unfold c6;rw[q3];subst hr;rw[q1]at q4;simp only[q4,q5,if_true]
     have tk:∀(X:bf) (k:Nat) (o:Ob),lz ((X.set (base+k) o).take base) (X.take base):=λX k o=>lz.of_eq (take_set_of_le (by omega))
     rcases sE d1 lk aa with⟨rfl,qk⟩|⟨ob,fk,rfl,qk⟩|⟨T,tr,rfl,qk⟩
     .rcases sE d2 li A with⟨rfl,C⟩|⟨Z,fi,rfl,C⟩|⟨T2,S,rfl,C⟩
      .exact fin H2 (.inl ⟨t,d2⟩) (.inl ⟨w,d1⟩)
      .exact fin _ (.inl ⟨t,d2⟩) (.inl ⟨w,qk _ (tk _ _ _)⟩)
      .exact fin _ (.inl ⟨t,d2⟩) (.inl ⟨w,qk _ ((pN S).take base)⟩)
     .rcases sE d2 li A with⟨rfl,C⟩|⟨Z,fi,rfl,C⟩|⟨T2,S,rfl,C⟩
      .refine fin H (.inl ⟨t,C H (tk _ _ _).symm⟩) (.inl ⟨w,d1⟩)
      .have am:H[base+i]? = some .free:=by rw[List.getElem?_set_ne (by omega)]at fi;exact fi
       refine fin (H.set (base+i) Z) (.inl ⟨t,C H am⟩) (.inl ⟨w,?_⟩);rw[qk _ (by rw[List.getElem?_set_ne (by omega)];exact fk)]
       rw[List.set_comm _ _ (by omega)]
      .have U:g_ (H.take base) T2=true:=by rw[<-s_ (tk H k ob)];exact S
       have ar:base+k∉T2:=λhm=>absurd (yB U hm) (by omega)
       refine fin (ct H T2) (.inl ⟨t,C H (tk _ _ _).symm⟩) (.inl ⟨w,?_⟩);rw[qk _ (by rw[gT,fk];simp[ar]),BD ar]
     .rcases sE d2 li A with⟨rfl,C⟩|⟨Z,fi,rfl,C⟩|⟨T2,S,rfl,C⟩
      .refine fin H (.inl ⟨t,C H ((pN tr).take base).symm⟩) (.inl ⟨w,d1⟩)
      .have au:base+i∉T:=λhm=>absurd (yB tr hm) (by omega)
       have am:H[base+i]? = some .free:=by
        rw[gT]at fi;obtain⟨o,ho,hf⟩:=ζf.1 fi;rw[if_neg au]at hf;rw[ho,hf]
       refine fin (H.set (base+i) Z) (.inl ⟨t,C H am⟩) (.inl ⟨w,?_⟩);rw[qk _ (tk _ _ _),BD au]
      .have U:g_ (H.take base) T2=true:=by rw[<-s_ ((pN tr).take base)];exact S
       refine fin (ct H T2) (.inl ⟨t,C H ((pN tr).take base).symm⟩) (.inl ⟨w,?_⟩);rw[qk _ ((pN U).take base),Gz]
  .exact fin H (.inr ⟨t,rfl,rfl⟩) (.inl ⟨w,d1⟩)
 .rcases af with⟨t,d2⟩|⟨t,rfl,rfl⟩
  .exact fin H2 (.inl ⟨t,d2⟩) (.inr ⟨w,rfl,rfl⟩)
  .exact fin _ (.inr ⟨t,rfl,rfl⟩) (.inr ⟨w,rfl,rfl⟩)
theorem Gq (h:uk ops=true) {k i:Nat} {ok B:Oper} (hk:ops[k]? = some ok) (G:ops[i]? = some B) (D:k<i):BY B k=true\/vL ops ok B=true:=by
 unfold uk at h;simp  at h
 grind
theorem MD (G:uk ops=true) {i:Nat} {D:Oper} (B:ops[i]? = some D):∀(l r:List Nat),(∀k∈l,k<i/\BY D k=false/\before ops i k=false)->∀{F F':Frame} {H H':bf},
 iW E call n ops base (l++i::r) F H=some (F',H')->iW E call n ops base (i::(l++r)) F H=some (F',H'):=by
 intro l
 induction l with
 | nil=>grind
 | cons k l A=>
  intro r z F F' H H' h;obtain⟨t,C,u⟩:=z k (by simp)
  simp[iW]at h;split at h
  .rename_i ok hk;split at h
   .rename_i F1 H1 h1;have:=A r (λx I=>z x (List.mem_cons_of_mem _ I)) h
    simp[iW,B]at this;split at this
    .rename_i Q H2 J;have w:vL ops ok D=true:=by
      rcases Gq G hk B t with h|h
      .grind
      omega
     obtain⟨L,O,g1,g2⟩:=swap hk B t u w h1 J;simp[iW,B,g1,hk,g2];simp_all
    grind
   grind
  grind
inductive Reach (ops:List Oper):Nat->Nat->Prop
 | one (i k:Nat) (o:Oper) (e:Edge) (hi:ops[i]? = some o) (he:e∈o.after) (hb:jY e=true) (hk:e.on=k):Reach ops i k
 | more (i j k:Nat) (o:Oper) (e:Edge) (hi:ops[i]? = some o) (he:e∈o.after) (hb:jY e=true) (hk:e.on=j) (h:Reach ops j k):Reach ops i k
theorem Br:∀(B l:List Nat) (k:Nat),k∈B.foldl (λl k=>if l.contains k then l else k::l) l->k∈B\/k∈l
 | [],_,_,h=>.inr h
 | x::B,l,k,h=>by
  rcases Br B _ k h with h|h
  .grind
  grind
theorem IP {acc:List (List Nat)} {o:Oper} {k:Nat} (h:k∈E6 acc o):∃e∈o.after,jY e=true/\(k=e.on\/∃S,acc[e.on]? = some S/\k∈S):=by
 have key:∀(es:List Edge) (l:List Nat),k∈es.foldl (λl e=>(e.on::(acc[e.on]?).getD []).foldl (λl k=>if l.contains k then l else k::l) l) l->k∈l\/∃e∈es,k=e.on\/∃S,acc[e.on]? = some S/\k∈S:=by
  intro es
  induction es with
  | nil=>grind
  | cons e es u=>
   intro l h;rcases u _ h with h|⟨w,h1,t⟩
   .rcases Br _ _ _ h with h|h
    .refine .inr ⟨e,by simp,?_⟩
     rcases List.mem_cons.1 h with h|h
     .grind
     .cases z:acc[e.on]? with
      | none=>rw[z]at h;simp at h
      | some S=>grind
    grind
   .exact .inr ⟨w,List.mem_cons_of_mem _ h1,t⟩
 rcases key _ _ h with h|⟨e,h1,t⟩
 .simp at h
 grind
theorem vR (ops:List Oper):∀(l:List Oper) (acc:List (List Nat)) (pre:List Oper),ops=pre++l->acc.length=pre.length->(∀(i:Nat) S,acc[i]? = some S->∀k∈S,Reach ops i k) ->
 ∀(i:Nat) S,(l.foldl (λacc o=>acc++[E6 acc o]) acc)[i]? = some S->∀k∈S,Reach ops i k
 | [],_,_,_,_,h=>h
 | o::l,acc,pre,G,J,h=>by
  refine vR ops l _ (pre++[o]) (by simp_all) (by simp_all) ?_
  intro i S B k hk
  by_cases O:i<acc.length
  .grind
  .rw[List.getElem?_append_right (by omega)]at B
   have D:i=acc.length:=by
    grind
   subst D;simp at B;subst B;have t:ops[acc.length]? = some o:=by grind
   obtain⟨e,u,w,hk⟩:=IP hk;rcases hk with hk|⟨S,B,hk⟩
   .exact .one _ _ o e t u w hk.symm
   .exact .more _ e.on _ o e t u w rfl (h _ S B k hk)
theorem Ea {i k:Nat} (h:before ops i k=true):Reach ops i k:=by
 unfold before at h
 cases t:(Ek ops)[i]? with
 | none=>grind
 | some S=>
  exact vR ops ops [] [] rfl rfl (by simp) i S t k (by grind)
end
end Go.VE
namespace Go.VE
variable [bN]
section
variable {P:Program} {E:Env} {I I':b9} {μ μ':Mu} {H H':bf} {n B:Nat} {F F':Frame} {a:Act} {w w':World}
theorem CP (e:Edge):Region.binds .any e=jY e:=by
 unfold Region.binds jY
 grind
def todo (ops:Array Oper) (listed:Array Bool):List Nat:=(List.range ops.size).filter λi => !listed.getD i true
theorem vu (ops:Array Oper) (listed:Array Bool):(todo ops listed).Pairwise (·<·):=List.pairwise_lt_range.filter _
theorem Ns {ops:Array Oper} {listed:Array Bool} {i:Nat} (G:listed.size=ops.size) (J:i<ops.size) {B D:List Nat} (h:todo ops listed=B++i::D) :
 todo ops (listed.setIfInBounds i true)=B++D:=by
 have A:∀j∈List.range ops.size,(!(listed.setIfInBounds i true).getD j true)=((!listed.getD j true)&&(j != i)):=by
  intro j _
  by_cases e:j=i
  .simp_all
  .have:(listed.setIfInBounds i true).getD j true=listed.getD j true:=by simp[Array.getElem?_setIfInBounds_ne (Ne.symm e)]
   grind
 have:todo ops (listed.setIfInBounds i true)=(todo ops listed).filter (· != i):=by
  unfold todo;rw[List.filter_filter]
  grind
 rw[this,h];have t:=vu ops listed;rw[h]at t;rw[List.pairwise_append]at t;obtain⟨_,w,z⟩:=t;rw[List.pairwise_cons]at w;rw[List.filter_append,List.filter_cons];simp;rw[List.filter_eq_self.2 (λx u=>by have:=z x u i (by simp);simp;omega),List.filter_eq_self.2 (λx u=>by grind)]
def Down (ops:Array Oper) (listed:Array Bool):Prop:=∀j o,listed.getD j false=true->ops[j]? = some o->∀e∈o.after,jY e=true->listed.getD e.on false=true
theorem HX {ops:Array Oper} {listed:Array Bool} (B:Down ops listed) {i k:Nat} (h:Reach ops.toList i k) (D:∀o,ops[i]? = some o->∀e∈o.after,jY e=true->listed.getD e.on false=true):listed.getD k false=true:=by
 induction h with
 | one i k o e z u w hk=>grind
 | more i j k o e z u w hk _ A=>
  subst hk;exact A λC t=>B _ _ (D o (by grind) e u w) t
theorem CF (hE:dV P E) {call:c7} (hc:jI P call) {ops:Array Oper} (hd:uk ops.toList=true) (hb:yJ ops.toList=true) (ro:Option Nat) {Q:Exit->Act->World->Prop} (base:Nat) :
 ∀(B:Nat) (listed:Array Bool) (I:b9) (μ:Mu) (F:Frame) (H:bf) (a:Act) (w:World),listed.size=ops.size->Down ops listed->(todo ops listed).length=B ->
 iW E call n ops.toList base (todo ops listed) F H=some (F',H')->dQ I μ n F a.tmps->cG I μ H w ->
 (∀a' I' μ' w',dQ I' μ' n F' a'.tmps->a'.defers=a.defers->cG I' μ' H' w'->Step I μ H w I' μ' H' w'->Q .normal a' w') ->
 wpAnyIn (fr ro) 0 P .any ops Q B listed a w:=by
 intro B
 induction B with
 | zero=>
  intro listed I μ F H a w J G hl h r s hQ;have L:todo ops listed=[]:=List.eq_nil_of_length_eq_zero hl;rw[L]at h;obtain⟨rfl,rfl⟩:=h;refine⟨?_,hQ a I μ w r rfl s (.refl _ _ _ _)⟩;unfold Region.ready;rw[List.filter_eq_nil_iff];intro i hi;have:i∉todo ops listed:=by grind
  unfold todo at this
  grind
 | succ B ih=>
  intro listed I μ F H a w J G hl h r s hQ;have T:∀i,i∈Region.ready .any ops listed->i<ops.size/\i∈todo ops listed/\∃o,ops[i]? = some o/\∀e∈o.after,jY e=true->listed.getD e.on false=true:=by
   intro i hi;unfold Region.ready at hi;rw[List.mem_filter]at hi;obtain⟨h1,h2⟩:=hi;simp only[ζh]at h2;have C:i<ops.size:=by grind
   refine⟨C,by unfold todo;grind,ops[i],by simp_all,?_⟩
   have h5:(ops[i].after.all λe => !Region.binds .any e||listed.getD e.on false)=true:=by
    grind
   rw[Array.all_eq_true_iff_forall_mem]at h5;intro e S U;have:=h5 e S;rw[CP,U]at this
   grind
  refine⟨?_,?_⟩
  .
   intro L
   cases W:todo ops listed with
   | nil=>rw[W]at hl;simp at hl
   | cons X rest=>
    have u:X∈todo ops listed:=by rw[W];simp
    have hs:=vu ops listed;rw[W,List.pairwise_cons]at hs;unfold todo at u;rw[List.mem_filter]at u;have C:X<ops.size:=by simpa using u.1
    have:X∈Region.ready .any ops listed:=by
     unfold Region.ready;rw[List.mem_filter];refine⟨u.1,?_⟩;simp only[ζh];refine⟨u.2,?_⟩;have e0:ops[X]? = some ops[X]:=by simp[C]
     rw[e0];simp only[Option.map_some,Option.getD_some];rw[Array.all_eq_true_iff_forall_mem];intro e S;rw[CP]
     cases ak:jY e with
     | false=>simp
     | true=>
      simp only[Bool.not_true];have al:e.on<X:=by
       unfold yJ at hb;simp only[List.all_eq_true]at hb;have:=hb X (by simpa using C)
       have e1:ops.toList[X]? = some ops[X]:=by simp[C]
       rw[e1]at this;simp only[Array.all_eq_true_iff_forall_mem]at this;have:=this e S;rw[ak]at this;simpa using this
      cases am:listed.getD e.on false with
      | true=>rfl
      | false=>
       exfalso;have af:e.on∈todo ops listed:=by
        unfold todo;rw[List.mem_filter];refine⟨by simp;omega,?_⟩
        have ah:e.on<listed.size:=by omega
        have:listed.getD e.on true=listed.getD e.on false:=by simp[ah]
        rw[this,am];rfl
       rw[W]at af;rcases List.mem_cons.1 af with h|h
       .omega
       .have:=hs.1 _ h;omega
    rw[L]at this;simp at this
  .intro i hi;obtain⟨C,u,o,ho,A⟩:=T i hi;obtain⟨l1,l2,t⟩:=List.append_of_mem u;have D:=vu ops listed;rw[t,List.pairwise_append]at D;have Y:∀k∈l1,k<i/\BY o k=false/\before ops.toList i k=false:=by
    intro k hk;have an:listed.getD k false=false:=by
     have z:k∈todo ops listed:=by rw[t];simp[hk]
     unfold todo at z;rw[List.mem_filter]at z;have ab:k<listed.size:=by rw[J];simpa using z.1
     have:listed.getD k true=listed.getD k false:=by simp[ab]
     rw[this]at z;simpa using z.2
    refine⟨D.2.2 k hk i (by simp),?_,?_⟩
    rotate_left
    .cases ao:before ops.toList i k with
     | false=>rfl
     | true=>
      have:=HX G (Ea ao) (λo' Z=>by rw[ho]at Z;cases Z;exact A)
      rw[an]at this;cases this
    cases S:BY o k with
    | false=>rfl
    | true=>
     exfalso;unfold BY at S;rw[Array.any_eq_true]at S;obtain⟨ix,ap,aa⟩:=S;have ai:o.after[ix]∈o.after:=Array.getElem_mem ap;generalize o.after[ix]=e at ai aa;simp only[ζh,beq_iff_eq]at aa;have h1:=A e ai aa.2;rw[aa.1]at h1;have z:k∈todo ops listed:=by rw[t];simp[hk]
     unfold todo at z;rw[List.mem_filter]at z;have ab:k<listed.size:=by rw[J];simpa using z.1
     have:listed.getD k true=listed.getD k false:=by simp[ab]
     rw[this,h1]at z;simp at z
   rw[t]at h;have h':=MD hd (by simpa using ho) l1 l2 Y h
   simp only[iW]at h';have Z:ops.toList[i]? = some o:=by simpa using ho
   rw[Z]at h';simp only at h';split at h'
   .rename_i F1 H1 ad;unfold wpOpIn;rw[ho];simp only;refine AW hE hc ad r s ro (λa' I' μ' w' hr aq hs ar=>?_)
    have ht:=Ns J C t;refine ih (listed.setIfInBounds i true) I' μ' F1 H1 a' w' (by simpa using J) ?_ ?_ (by rw[ht];exact h') hr hs ?_
    .have O:∀j,listed.getD j false=true->(listed.setIfInBounds i true).getD j false=true:=by
      intro j hj
      by_cases e:i=j
      .subst e;simp[J,C]
      .simpa [Array.getD_eq_getD_getElem?,Array.getElem?_setIfInBounds_ne e]using hj
     intro j oj hj ae e S U
     by_cases e':i=j
     .subst e';rw[ho]at ae;cases ae;exact O _ (A e S U)
     .refine O _ (G j oj ?_ ae e S U);simpa [Array.getD_eq_getD_getElem?,Array.getElem?_setIfInBounds_ne e']using hj
    .rw[ht];rw[t]at hl;simp at hl ⊢;omega
    .intro a2 I2 μ2 w2 au av aw aj;exact hQ a2 I2 μ2 w2 au (av.trans aq) aw (Step.trans hs ar aj)
   .simp at h'
theorem cG.D4 (s:cG I μ H w) (k:Nat):cG I μ (H++List.replicate k .free) w:=by
 have t:∀id ob,(H++List.replicate k Ob.free)[id]? = some ob->H[id]? = some ob\/(ob=.free/\H.length<=id):=by
  grind
 refine⟨λid h=>s.dom id (by grind),s.imm,?_,?_,s.gl⟩
 .intro id ob h;rcases t id ob h with h|⟨rfl,u⟩
  .exact s.obs id ob h
  .exact s.dom id u
 .intro id z ob A p D h1 u B C;rcases t id ob h1 with h1|⟨rfl,_⟩
  .rcases t z A u with u|⟨rfl,_⟩
   .exact s.inj id z ob A p D h1 u B C
   .simp[Ob.live]at C
  .simp[Ob.live]at B
theorem Gp (k:Nat) (b:Nat):gC μ (H++List.replicate k .free) b↔gC μ H b:=by
 constructor
 .rintro⟨id,p,ob,h1,t,u,w⟩
  by_cases z:id<H.length
  .rw[List.getElem?_append_left z]at h1;exact⟨id,p,ob,h1,t,u,w⟩
  .rw[List.getElem?_append_right (by omega),List.getElem?_replicate]at h1
   split at h1
   .simp at h1;subst h1;simp[Ob.live]at t
   grind
 .rintro⟨id,p,ob,h1,t,u,w⟩;exact⟨id,p,ob,by grind,t,u,w⟩
theorem Step.D4 (k:Nat):Step I μ H w I μ (H++List.replicate k .free) w:=
 ⟨b9.le_refl _,Mu.le_refl _,by simp,Nat.le_refl _,λ_ _ _=>rfl,λb h=>h.elim .inl λh=>.inr (.inl ((Gp k b).1 h)),rfl,.refl _,λ_ _ h=>h⟩
theorem E8 (D:dV P E) (O:P.follows .mixedOrders=true) {call:c7} (hc:jI P call) {id:Nat} {ops:Array Oper} {B:Bool} (ro:Option Nat) {Q:Exit->Act->World->Prop}
 (h:iL E call n ops.toList B F H=some (F',H')) (r:dQ I μ n F a.tmps) (s:cG I μ H w)
 (G:∀a' I' μ' w',dQ I' μ' n F' a'.tmps->a'.defers=a.defers->cG I' μ' H' w'->Step I μ H w I' μ' H' w'->Q .normal a' w') :
 (Code.region id ops B).wpIn (fr ro) 0 P Q a w:=by
 unfold iL at h
 cases B with
 | false=>
  refine wpIn_region ?_;rw[List.range_eq_range',<-Array.length_toList];exact JB D hc ro ops.toList 0 I μ F H a w (by simp) h r s G
 | true=>
  simp only[if_true]at h;split at h
  .rename_i u;simp  at u;refine wpIn_region_draw λt=>?_
   simp[Region.schedule,O];have s0:cG I μ H { w with drawn:=w.drawn+1 }:=s.nN rfl;have st0:Step I μ H w I μ H { w with drawn:=w.drawn+1 }:=Step.nN rfl rfl ⟨rfl,rfl,Nat.le_succ _⟩;have z:todo ops (Array.replicate ops.size false)=List.range ops.toList.length:=by
    unfold todo;simp_all
   have A:Down ops (Array.replicate ops.size false):=by
    intro j o S;simp[Array.getElem?_replicate]at S
    grind
   refine wpAnyIn_sound ops.size t _ a _ ?_;split at h
   .refine CF D hc u.1 u.2 ro H.length ops.size _ I μ F (H++List.replicate ops.toList.length .free) a _ (by simp) A (by grind) (by rw[z];omega) r (s0.D4 _) ?_
    intro a' I' μ' w' h1 C J L;exact G a' I' μ' w' h1 C J (Step.trans s0 st0 (Step.trans (s0.D4 _) (Step.D4 _) L))
   .refine CF D hc u.1 u.2 ro H.length ops.size _ I μ F H a _ (by simp) A (by grind) (by rw[z];omega) r s0 ?_
    intro a' I' μ' w' h1 C J L;exact G a' I' μ' w' h1 C J (Step.trans s0 st0 L)
  grind
end
end Go.VE
