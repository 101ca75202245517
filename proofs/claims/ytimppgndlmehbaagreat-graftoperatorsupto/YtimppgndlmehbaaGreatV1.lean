/-
 The engine: runs of it are runs of the program.
-/
import Derived.RangeFuncLeaves
import Derived.Sort.Defs
import Derived.Lib.BitFns
import Derived.Laws.Sem
import Derived.Laws.World
import Derived.Laws.Append
import Derived.OrdersIn
import Derived.RangeFuncRecord
set_option linter.all false
namespace Go.VE
theorem ζa{α:Type _}(a b:α):(some a=some b)=(a=b):=Option.some.injEq a b
theorem ζb{α β:Type _}(a:α)(f:α->Option β):(some a).bind f=f a:=rfl
theorem ζc{α β:Type _}(a:α)(b:β)(c:α)(d:β):((a,b)=(c,d))=(a=c/\b=d):=Prod.mk.injEq a b c d
theorem ζd{α:Type _}{l:List α}{i:Nat}(h:i<l.length):l[i]?=some l[i]:=List.getElem?_eq_getElem h
theorem ζe{α:Type _}{l:List α}{i:Nat}{a:α}:l[i]?=some a↔∃h:i<l.length,l[i]=a:=List.getElem?_eq_some_iff
theorem ζf{α β:Type _}{b:β}{x:Option α}{f:α->β}:x.map f=some b↔∃a,x=some a/\f a=b:=Option.map_eq_some_iff
theorem ζg{α β:Type _}{b:β}{x:Option α}{f:α->Option β}:x.bind f=some b↔∃a,x=some a/\f a=some b:=Option.bind_eq_some_iff
theorem ζh(a b:Bool):((a&&b)=true)=(a=true/\b=true):=Bool.and_eq_true a b
theorem ζi{α:Type _}{a b:List α}:(a++b).length=a.length+b.length:=List.length_append
inductive V where
 | bool (b:Bool)
 | int (k:IntKind) (n:Int)
 | str (s:ByteArray)
 | c9
 | bH
 | fsl (es:Nat) (xs:List (List V))
 | hsl (id es off len:Nat)
 | gV
 | fptr (cs:List V)
 | hptr (id el off:Nat)
 | clo (f:FuncId) (first cap:List V)
 | yld (id:Nat)
 | gw
 | rI
 | fmap (kvs:List (V×V))
 | hmap (id:Nat)
 | agg (cs:List V)
 | tup (vs:List V)
 deriving Inhabited
def V.undef:V:=.tup []
def V.one:V->Bool
 | .agg _|.tup _=>false
 | _=>true
def V.cells:V->List V
 | .agg cs=>cs
 | v=>[v]
mutual
def V.scalar:V->Bool
 | .bool _|.int ..|.str _|.gV|.gw|.rI|.c9|.bH=>true
 | .agg cs=>V.cS cs
 | .tup cs=>V.cS cs
 | _=>false
def V.cS:List V->Bool
 | []=>true
 | v::r=>V.scalar v&&V.cS r
end
mutual
def V.closed:V->Bool
 | .hsl ..|.hptr ..|.yld ..|.hmap ..=>false
 | .clo _ a b=>V.kR a&&V.kR b
 | .agg cs=>V.kR cs
 | .tup cs=>V.kR cs
 | _=>true
def V.kR:List V->Bool
 | []=>true
 | v::r=>V.closed v&&V.kR r
end
inductive TK where
 | bool|int (k:IntKind)|str|ptr (e:TypeId)|slice (e:TypeId)
 | struct (fs:List (Nat×TypeId))|array (n:Nat) (e:TypeId)|map (k e:TypeId)|other
 deriving Inhabited
structure TD where
 size:Nat
 bytes:Nat
 zero:List V
 kind:TK
 deriving Inhabited
def TD.agg (d:TD):Bool:=match d.kind with|.struct _|.array _ _=>true|_=>false
abbrev Frame:=List V
def get:Frame->Nat->V
 | [],_=>.undef
 | x::_,0=>x
 | _::r,i+1=>get r i
def set:Frame->Nat->V->Frame
 | [],0,v=>[v]
 | [],i+1,v=>.undef::set [] i v
 | _::r,0,v=>v::r
 | x::r,i+1,v=>x::set r i v
inductive AS where
 | ready|busy|done
inductive Out where
 | norm
 | exit (id:Nat)
 | ret
 deriving DecidableEq,Inhabited
structure vk where
 st:AS
 pend:Option Out
 frame:Frame
 nt:Nat
 params:List Nat
 assign:Code
 body:Code
inductive Ob where
 | free
 | dead
 | row (es:Nat) (xs:List (List V))
 | frz (es:Nat) (xs:List (List V))
 | map (kvs:List (V×V))
 | loop (r:vk)
def Ob.rows:Ob->Option (Nat×List (List V))
 | .row es xs|.frz es xs=>some (es,xs)
 | _=>none
abbrev bl:=List Ob
structure FI where
 ntmps:Nat
 results:List ResultVar
 body:Code
structure Env where
 tt:TypeId->Option TD
 ft:FuncId->Option FI
 keep:FuncId->Bool
 own:FuncId->Bool
 eqN:TypeId->Option Nat
 sort:FuncId->Bool
 known:FuncId->List V->Option V:=λ_ _=>none
def Env.dB (E:Env) (t:TypeId):Option TK:=(E.tt t).map TD.kind
def ofValue:Nat->Value->Option V
 | 0,_=>none
 | n+1,v=>
  match v with
  | .bool b=>some (.bool b)
  | .int k n=>some (.int k n)
  | .string s=>some (.str s)
  | .pointer none=>some .gV
  | .slice none 0 0=>some .bH
  | .map none=>some .gw
  | .nilFunc=>some .rI
  | .agg cs=>(cs.toList.mapM (ofValue n)).map .agg
  | _=>none
class bX where
 gl:Nat->Option (List V)
 sc:∀g cs,gl g=some cs->∃(k:IntKind) (l:List Int),cs=l.map (V.int k)
variable [bX]
def ev (F:Frame):Operand->Option V
 | .tmp t=>some (get F t)
 | .const v=>ofValue 4 v
 | .func f=>some (.clo f [] [])
 | .global g=>(bX.gl g).map .fptr
def fI (F:Frame):List Operand->Option (List V)
 | []=>some []
 | x::r=>match ev F x,fI F r with
  | some v,some vs=>some (v::vs)
  | _,_=>none
def mk (agg:Bool) (cs:List V):Option V:=
 if agg then some (.agg cs)else match cs with|[v]=>some v|_=>none
def cut (cs:List V) (off n:Nat):Option (List V):=
 let r:=(cs.drop off).take n
 if r.length=n then some r else none
def iC:List V->Option (List Int)
 | []=>some []
 | .int .i64 a::r=>(iC r).map (a::·)
 | _=>none
def kD (az B:List V):Option Bool:=
 match iC az,iC B with
 | some a,some b=>if a.length=b.length then some (a==b)else none
 | _,_=>none
def nZ (op:BinOp) (x y:Int):Option Bool:=
 match op with
 | .eql=>some (x==y)|.neq=>some (x != y)|.lss=>some (decide (x<y))|.leq=>some (decide (x<=y))
 | .gtr=>some (decide (x>y))|.geq=>some (decide (x>=y))|_=>none
def uA (k:TK) (x y:V):Option Bool:=
 match k,x,y with
 | .slice _,.bH,.bH=>some true
 | .slice _,.fsl ..,.bH=>some false
 | .slice _,.hsl ..,.bH=>some false
 | .ptr _,.gV,.gV=>some true
 | .ptr _,.fptr _,.gV=>some false
 | .ptr _,.hptr ..,.gV=>some false
 | .map ..,.gw,.gw=>some true
 | .map ..,.fmap _,.gw=>some false
 | .map ..,.hmap _,.gw=>some false
 | _,_,_=>none
def Hq (E:Env) (op:BinOp) (t:TypeId) (x y:V):Option V:=
 match x,y with
 | .int k a,.int q b=>
  match op with
  | .shl=>if b<0 then none else some (.int k (k.wrap (a*2 ^ (min b.toNat k.bits))))
  | .shr=>if b<0 then none else some (.int k (a.fdiv (2 ^ (min b.toNat k.bits))))
  | _=>if k=q then
   match op with
   | .add=>some (.int k (k.wrap (a+b)))
   | .sub=>some (.int k (k.wrap (a-b)))
   | .mul=>some (.int k (k.wrap (a*b)))
   | .quo=>if b=0 then none else some (.int k (k.wrap (a.tdiv b)))
   | .rem=>if b=0 then none else some (.int k (a.tmod b))
   | .and=>some (.int k (k.wrap (BitVec.ofInt k.bits a &&& BitVec.ofInt k.bits b).toNat))
   | .or=>some (.int k (k.wrap (BitVec.ofInt k.bits a ||| BitVec.ofInt k.bits b).toNat))
   | .xor=>some (.int k (k.wrap (BitVec.ofInt k.bits a ^^^ BitVec.ofInt k.bits b).toNat))
   | .andNot=>some (.int k (k.wrap (BitVec.ofInt k.bits a &&& ~~~ BitVec.ofInt k.bits b).toNat))
   | op=>(nZ op a b).map .bool
   else none
 | .str a,.str b=>
  match op with
  | .add=>if((a.size+b.size:Nat):Int)>IntKind.i64.max then none else some (.str (a++b))
  | .eql=>some (.bool (a.toList==b.toList))
  | .neq=>some (.bool !(a.toList==b.toList))
  | .lss=>some (.bool (Op.bytesLess a.toList b.toList))
  | .leq=>some (.bool (Op.bytesLess a.toList b.toList||a.toList==b.toList))
  | .gtr=>some (.bool !(Op.bytesLess a.toList b.toList||a.toList==b.toList))
  | .geq=>some (.bool !(Op.bytesLess a.toList b.toList))
  | _=>none
 | .bool a,.bool b=>
  match E.dB t,op with
  | some .bool,.eql=>some (.bool (a==b))
  | some .bool,.neq=>some (.bool !(a==b))
  | _,_=>none
 | .agg a,.agg b=>
  match E.eqN t,op with
  | some n,.eql=>if a.length=n then(kD a b).map .bool else none
  | some n,.neq=>if a.length=n then(kD a b).map (λt=>.bool !t)else none
  | _,_=>none
 | x,y=>
  match E.dB t,op with
  | some k,.eql=>(uA k x y).map .bool
  | some k,.neq=>(uA k x y).map λt=>.bool !t
  | _,_=>none
def tS (place:Nat->Option (Nat×Nat)) (cells:List V):List (Nat×V)->Option (List V)
 | []=>some cells
 | (i,v)::rest=>
  match place i with
  | none=>none
  | some (off,size)=>
   if v.cells.length≠size||off+v.cells.length>cells.length then none
   else tS place (cells.take off++v.cells++cells.drop (off+v.cells.length)) rest
def mb (F:Frame):List (Nat×Operand)->Option (List (Nat×V))
 | []=>some []
 | (i,x)::r=>match ev F x,mb F r with
  | some v,some vs=>some ((i,v)::vs)
  | _,_=>none
def mT (E:Env):List (Nat×TypeId)->Option (List (Nat×Nat))
 | []=>some []
 | (off,t)::r=>match E.tt t,mT E r with
  | some d,some ps=>some ((off,d.size)::ps)
  | _,_=>none
def jM (F:Frame):Option Operand->Option (Option Int)
 | none=>some none
 | some x=>match ev F x with
  | some (.int _ n)=>some (some n)
  | _=>none
def dN (len:Nat) (B D:Option Int):Option (Nat×Nat):=
 let h:=D.getD len
 let l:=B.getD 0
 if 0<=h/\h<=len/\0<=l/\l<=h then some (l.toNat,h.toNat)else none
def Bd (a b:Int):Int:=if b>a then b else a
def bR (E:Env) (F:Frame) (op:Op):Option V:=
 match op with
 | .move x|.assign x=>ev F x
 | .pick c a b=>match ev F c with
  | some (.bool t)=>if t then ev F a else ev F b
  | _=>none
 | .nilCheck x=>match ev F x with
  | some (.hptr id el off)=>some (.hptr id el off)
  | some (.fptr q)=>some (.fptr q)
  | some (.clo f a b)=>some (.clo f a b)
  | _=>none
 | .binOp op t x y _=>match ev F x,ev F y with
  | some a,some b=>Hq E op t a b
  | _,_=>none
 | .unOp op _ x=>match op,ev F x with
  | .not,some (.bool b)=>some (.bool !b)
  | .neg,some (.int k n)=>some (.int k (k.wrap (0-n)))
  | _,_=>none
 | .convert s d x=>match E.tt s,E.tt d,ev F x with
  | some _,some B,some (.int _ n)=>match B.kind with
   | .int k=>some (.int k (k.wrap n))
   | _=>none
  | _,_,_=>none
 | .fieldAddr s x f=>match E.dB s,ev F x with
  | some (.struct fs),some p=>match fs[f]? with
   | some (off,t)=>match E.tt t with
    | some d=>if d.size=0 then none else match p with
     | .fptr q=>if off<=q.length then some (.fptr (q.drop off))else none
     | .hptr id el o=>some (.hptr id el (o+off))
     | _=>none
    | none=>none
   | none=>none
  | _,_=>none
 | .field s x f=>match E.dB s,ev F x with
  | some (.struct fs),some (.agg q)=>match fs[f]? with
   | some (off,t)=>match E.tt t with
    | some d=>(cut q off d.size).bind (mk d.agg)
    | none=>none
   | none=>none
  | _,_=>none
 | .indexAddr t x i=>match E.dB t,ev F x,ev F i with
  | some (.slice e),some s,some (.int _ n)=>match E.tt e with
   | some d=>if n<0 then none else match s with
    | .fsl es u=>if es=d.size then(u[n.toNat]?).map .fptr else none
    | .hsl id es off len=>if es=d.size/\n.toNat<len then some (.hptr id (off+n.toNat) 0)else none
    | _=>none
   | none=>none
  | some (.array len e),some p,some (.int _ n)=>match E.tt e with
   | some d=>if 0<=n/\n<len then match p with
    | .fptr q=>if n.toNat*d.size<=q.length then some (.fptr (q.drop (n.toNat*d.size)))else none
    | .hptr id el o=>some (.hptr id el (o+n.toNat*d.size))
    | _=>none
    else none
   | none=>none
  | _,_,_=>none
 | .index t x i=>match E.dB t,ev F x,ev F i with
  | some .str,some (.str s),some (.int _ n)=>if 0<=n then(s[n.toNat]?).map (λb=>.int .u8 b.toNat)else none
  | some (.array len e),some (.agg q),some (.int _ n)=>match E.tt e with
   | some d=>if 0<=n/\n<len then(cut q (n.toNat*d.size) d.size).bind (mk d.agg)else none
   | none=>none
  | _,_,_=>none
 | .slice t x C D G=>match E.dB t,ev F x,jM F C,jM F D,jM F G with
  | some .str,some (.str s),some l,some h,some none=>(dN s.size l h).map λ(l,h)=>.str (s.extract l h)
  | some (.slice e),some v,some l,some h,some none=>match E.tt e with
   | some d=>match v with
    | .fsl es u=>if es=d.size then(dN u.length l h).map λ(l,h)=>.fsl es ((u.take h).drop l)else none
    | .hsl id es off len=>if es=d.size then(dN len l h).map λ(l,h)=>.hsl id es (off+l) (h-l)else none
    | .c9=>(dN 0 l h).map λ_=>.c9
    | .bH=>(dN 0 l h).map λ_=>.bH
    | _=>none
   | none=>none
  | some (.slice e),some v,some none,some (some 0),some (some 0)=>match E.tt e,v with
   | some _,.fsl ..|some _,.hsl ..|some _,.c9|some _,.bH=>some .c9
   | _,_=>none
  | _,_,_,_,_=>none
 | .build t H=>match E.tt t,mb F H.toList with
  | some d,some w=>match d.kind with
   | .struct fs=>match mT E fs with
    | some pl=>(tS (λi=>pl[i]?) d.zero w).map .agg
    | none=>none
   | .array _ e=>match E.tt e with
    | some A=>(tS (λi=>some (i*A.size,A.size)) d.zero w).map .agg
    | none=>none
   | _=>none
  | _,_=>none
 | .makeFunc (.func f) a b=>match fI F a.toList,fI F b.toList with
  | some a,some b=>some (.clo f a b)
  | _,_=>none
 | .extract x i=>match ev F x with
  | some (.tup w)=>w[i]?
  | _=>none
 | .call { callee:=.builtin b,args,argTypes }=>match b,fI F args.toList,argTypes[0]? with
  | .len,some [v],some t=>match E.dB t,v with
   | some .str,.str s=>some (.int .i64 s.size)
   | some (.slice _),.fsl _ u=>some (.int .i64 u.length)
   | some (.slice _),.hsl _ _ _ len=>some (.int .i64 len)
   | some (.slice _),.c9=>some (.int .i64 0)
   | some (.slice _),.bH=>some (.int .i64 0)
   | _,_=>none
  | .cap,some [v],some t=>match E.dB t,v with
   | some (.slice _),.bH=>some (.int .i64 0)
   | some (.slice _),.c9=>some (.int .i64 0)
   | _,_=>none
  | .max,some [.int k a,.int z b],_=>if k=z then some (.int k (if b>a then b else a))else none
  | .max,some [.int k a,.int k1 b,.int k2 c,.int k3 d],_=>if k=k1/\k=k2/\k=k3 then some (.int k (Bd (Bd (Bd a b) c) d))else none
  | .min,some [.int k a,.int z b],_=>if k=z then some (.int k (if b<a then b else a))else none
  | _,_,_=>none
 | _=>none
def dY (H:bl) (p:V) (n:Nat):Option (List V):=
 match p with
 | .fptr q=>cut q 0 n
 | .hptr id el off=>match (H[id]?).bind Ob.rows with
  | some (_,t)=>match t[el]? with
   | some q=>cut q off n
   | none=>none
  | none=>none
 | _=>none
def wu:V->V->Option Bool
 | .int k a,.int B b=>if k=B then some (a==b)else none
 | .str a,.str b=>some (a==b)
 | .agg a,.agg b=>kD a b
 | _,_=>none
def iL (k:V):List (V×V)->Nat->Option (Option (Nat×V))
 | [],_=>some none
 | (B,v)::r,i=>match wu k B with
  | some true=>some (some (i,v))
  | some false=>iL k r (i+1)
  | none=>none
def wq (E:Env) (t:TypeId) (k:V):Bool:=
 match E.dB t,k with
 | some (.int k),.int u _=>k==u
 | some .str,.str _=>true
 | some _,.agg q=>match E.eqN t with|some n=>q.length==n&&(iC q).isSome|none=>false
 | _,_=>false
def mC (H:bl):V->Option (List (V×V))
 | .gw=>some []
 | .fmap B=>some B
 | .hmap id=>match H[id]? with
  | some (.map B)=>some B
  | _=>none
 | _=>none
def dO (E:Env) (F:Frame) (H:bl) (op:Op):Option V:=
 match op with
 | .load t a=>match E.tt t,ev F a with
  | some d,some p=>(dY H p d.size).bind (mk d.agg)
  | _,_=>none
 | .lookup t m k ok=>match E.dB t,ev F m,ev F k with
  | some (.map u w),some m,some k=>match E.tt w,mC H m with
   | some d,some q=>if wq E u k then match iL k q 0,mk d.agg d.zero with
    | some (some (_,v)),_=>some (if ok then .tup [v,.bool true]else v)
    | some none,some z=>some (if ok then .tup [z,.bool false]else z)
    | _,_=>none
    else none
   | _,_=>none
  | _,_,_=>none
 | _=>none
inductive Mk where
 | ptr|sl (es len:Nat)|map
def Mk.val (id:Nat):Mk->V
 | .ptr=>.hptr id 0 0
 | .sl es len=>.hsl id es 0 len
 | .map=>.hmap id
def gE (es:Nat) (xs:List (List V)):List (Nat×V)->Option (List (List V))
 | []=>some xs
 | (i,v)::r=>if v.cells.length=es/\i<xs.length/\v.cells.all V.one=true then gE es (xs.set i v.cells) r else none
def eN (E:Env) (F:Frame) (op:Op):Option (Ob×Mk):=
 match op with
 | .alloc t=>(E.tt t).map λd=>(.row d.size [d.zero],.ptr)
 | .box _ x=>match ev F x with
  | some v=>if v.cells.all V.one then some (.row v.cells.length [v.cells],.ptr)else none
  | none=>none
 | .makeSlice t l c=>match E.dB t,ev F l,ev F c with
  | some (.slice e),some (.int k n),some (.int q m)=>match E.tt e with
   | some d=>if k=.i64/\q=.i64/\0<=n/\n<=m/\m<=2147483648/\d.bytes<=4096 then some (.row d.size (List.replicate m.toNat d.zero),.sl d.size n.toNat)else none
   | none=>none
  | _,_,_=>none
 | .buildSlice t len u=>match E.dB t,mb F u.toList with
  | some (.slice e),some w=>match E.tt e with
   | some d=>if len*d.size<=16777216 then(gE d.size (List.replicate len d.zero) w).map λz=>(.row d.size z,.sl d.size len)else none
   | none=>none
  | _,_=>none
 | .makeMap _ none=>some (.map [],.map)
 | _=>none
def qG (E:Env) (F:Frame) (op:Op):Option V:=
 match eN E F op with
 | some (.row es q,.sl t n)=>if t=es/\n=q.length/\(q.all λx=>x.all V.scalar)=true then match op with
  | .buildSlice ..=>if q.isEmpty&&es != 0 then some .c9 else none
  | _=>some (.fsl es q)
  else none
 | _=>none
def dM (H:bl) (es:Nat):V->Option (List (List V))
 | .c9=>some []
 | .bH=>some []
 | .fsl B xs=>if B=es then some xs else none
 | .hsl id B off len=>if B=es then match (H[id]?).bind Ob.rows with
  | some (_,xs)=>if off+len<=xs.length then some ((xs.drop off).take len)else none
  | none=>none
  else none
 | _=>none
def pG (k v:V) (B:List (V×V)):Option (List (V×V)):=
 match iL k B 0 with
 | some (some (j,_))=>some (B.set j (k,v))
 | some none=>some (B++[(k,v)])
 | none=>none
def gQ (H:bl):V->Option bl
 | .c9=>some H
 | .bH=>some H
 | .hsl id _ _ _=>match H[id]? with
  | some (.row _ _)=>some (H.set id .dead)
  | _=>none
 | _=>none
def mkApp (H:bl) (size bytes:Nat) (zero:List V) (s x:V):Option (V×bl):=
 match s,x with
 | .bH,.int _ n=>if n=0 then some (.bH,H)else if 0<n/\n<=2147483648/\bytes<=4096/\0<bytes then some (.hsl H.length size 0 n.toNat,H++[.row size (List.replicate n.toNat zero)])else none
 | _,_=>none
def Cq (H:bl) (size:Nat) (zero:List V):V->Option (V×bl)
 | .bH|.c9=>some (.undef,H)
 | .hsl id es off len=>if es=size then match len with
  | 0=>some (.undef,H)
  | len+1=>match H[id]? with
   | some (.row B xs)=>if off+(len+1)<=xs.length then some (.undef,H.set id (.row B (xs.take off++List.replicate (len+1) zero++xs.drop (off+(len+1)))))else none
   | _=>none
  else none
 | _=>none
def cO (E:Env) (F:Frame) (H:bl) (op:Op):Option (V×bl):=
 match op with
 | .store t a x=>match E.tt t,ev F a,ev F x with
  | some d,some (.hptr id el off),some v=>match H[id]? with
   | some (.row es u)=>match u[el]? with
    | some w=>if v.cells.length=d.size/\off+d.size<=w.length/\v.cells.all V.one=true then
     some (.undef,H.set id (.row es (u.set el (w.take off++v.cells++w.drop (off+v.cells.length)))))else none
    | none=>none
   | _=>none
  | _,_,_=>none
 | .mapUpdate t m k x|.insert t m k x=>match E.dB t,ev F m,ev F k,ev F x with
  | some (.map A _),some (.hmap id),some k,some v=>match H[id]? with
   | some (.map q)=>if wq E A k then(pG k v q).map λq=>(.undef,H.set id (.map q))else none
   | _=>none
  | _,_,_,_=>none
 | .call { callee:=.builtin .append,args,argTypes }=>match argTypes.toList,fI F args.toList with
  | [t,B],some [s,x]=>match E.dB t,E.dB B with
   | some (.slice e),some (.slice _)=>match E.tt e with
    | some d=>match dM H d.size s,dM H d.size x with
     | some _,some []=>some (s,H)
     | some u,some z=>
      if u.length+z.length<=2147483648/\d.bytes<=4096/\0<d.bytes then
       (gQ H s).map λH1=>(.hsl H.length d.size 0 (u.length+z.length),H1++[.row d.size (u++z)])
      else none
     | _,_=>none
    | none=>none
   | some (.slice e),some (.int _)=>match E.tt e with
    | some d=>mkApp H d.size d.bytes d.zero s x
    | none=>none
   | _,_=>none
  | _,_=>none
 | .call { callee:=.builtin .clear,args,argTypes }=>match argTypes[0]?,fI F args.toList with
  | some t,some [v]=>match E.dB t with
   | some (.slice e)=>match E.tt e with
    | some d=>Cq H d.size d.zero v
    | none=>none
   | _=>none
  | _,_=>none
 | _=>none
inductive Callee where
 | fn (f:FuncId)
 | yld (id:Nat)
def jS (F:Frame) (op:Op):Option (Callee×List V):=
 match op with
 | .call { callee:=.value f,args,.. }=>match ev F f,fI F args.toList with
  | some (.clo g a b),some q=>some (.fn g,a++q++b)
  | some (.yld id),some q=>some (.yld id,q)
  | _,_=>none
 | _=>none
inductive Ra where
 | pure|read|alloc|loud|call
 deriving DecidableEq
def cV:Op->Ra
 | .load ..|.lookup ..=>.read
 | .alloc ..|.box ..|.makeSlice ..|.buildSlice ..|.makeMap ..=>.alloc
 | .store ..|.mapUpdate ..|.insert ..=>.loud
 | .call { callee:=.builtin .append,.. }=>.loud
 | .call { callee:=.builtin .clear,.. }=>.loud
 | .call { callee:=.value _,.. }=>.call
 | _=>.pure
def ko (f:V->Option V):List V->Option (List V)
 | []=>some []
 | x::r=>match f x,ko f r with
  | some y,some s=>some (y::s)
  | _,_=>none
def tP (f:V->Option V):List (List V)->Option (List (List V))
 | []=>some []
 | x::r=>match ko f x,tP f r with
  | some y,some s=>some (y::s)
  | _,_=>none
def tX (f:V->Option V):List (V×V)->Option (List (V×V))
 | []=>some []
 | (k,x)::r=>match f k,f x,tX f r with
  | some k,some y,some s=>some ((k,y)::s)
  | _,_,_=>none
def borrow:Nat->bl->V->Option V
 | 0,_,x=>if x.closed then some x else none
 | n+1,H,x=>
  if x.closed then some x else
  match x with
  | .hsl id es off len=>match (H[id]?).bind Ob.rows with
   | some (B,xs)=>if B=es/\off+len<=xs.length then(tP (borrow n H) ((xs.drop off).take len)).map (.fsl es)else none
   | none=>none
  | .hptr id el off=>match (H[id]?).bind Ob.rows with
   | some (_,xs)=>match xs[el]? with
    | some cs=>if off<=cs.length then(ko (borrow n H) (cs.drop off)).map .fptr else none
    | none=>none
   | none=>none
  | .hmap id=>match H[id]? with
   | some (.map D)=>(tX (borrow n H) D).map .fmap
   | _=>none
  | .clo f a b=>match ko (borrow n H) a,ko (borrow n H) b with
   | some a,some b=>some (.clo f a b)
   | _,_=>none
  | .agg cs=>(ko (borrow n H) cs).map .agg
  | .tup cs=>(ko (borrow n H) cs).map .tup
  | _=>none
def borrows (n:Nat) (H:bl) (l:List V):Option (List V):=ko (borrow n H) l
def dx (f:V->List Nat):List V->List Nat
 | []=>[]
 | x::r=>f x++dx f r
def cr:Nat->bl->V->List Nat
 | 0,_,_=>[]
 | n+1,H,x=>
  if x.closed then []else
  match x with
  | .hsl id _ _ _=>id::(match (H[id]?).bind Ob.rows with|some (_,xs)=>dx (cr n H) xs.flatten|none=>[])
  | .hptr id _ _=>id::(match (H[id]?).bind Ob.rows with|some (_,xs)=>dx (cr n H) xs.flatten|none=>[])
  | .hmap id=>id::(match H[id]? with|some (.map B)=>dx (cr n H) (B.map (·.1))++dx (cr n H) (B.map (·.2))|_=>[])
  | .clo _ a b=>dx (cr n H) a++dx (cr n H) b
  | .agg cs=>dx (cr n H) cs
  | .tup cs=>dx (cr n H) cs
  | _=>[]
def uj (H:bl) (id:Nat):bl:=
 match H[id]? with
 | some (.row es q)=>H.set id (.frz es q)
 | some (.map _)=>H.set id .dead
 | _=>H
def cu (H:bl) (l:List Nat):bl:=l.foldl uj H
abbrev dn:=Callee->List V->bl->Option (V×bl)
def iS (H:bl) (T:List Nat):Bool:=T.all λid=>((H[id]?).bind Ob.rows).isSome
def cz (call:dn) (f:FuncId) (args:List V) (H:bl):Option V:=
 match borrows 8 H args with
 | some az=>match call (.fn f) az []with
  | some (r,H1)=>match borrow 8 H1 r with
   | some y=>if y.closed then some y else none
   | none=>none
  | none=>none
 | none=>none
def qo (k:Nat) (H1:bl) (id es off len:Nat):Option (V×Ob):=
 match H1[id]? with
 | some (.row q t)=>if q=es/\(t.all λx=>x.all V.scalar)=true then some (.hsl k es off len,.row es t)else none
 | _=>none
def kW (call:dn) (f:FuncId) (args:List V) (H:bl):Option (V×bl):=
 match borrows 8 H args with
 | some az=>match call (.fn f) az []with
  | some (r,H1)=>
   if r.scalar then some (r,H)else
   match r with
   | .hsl id es off len=>(qo H.length H1 id es off len).map λ(v,ob)=>(v,H++[ob])
   | .tup (.hsl id es off len::rest)=>if V.cS rest then(qo H.length H1 id es off len).map λ(v,ob)=>(.tup (v::rest),H++[ob])else none
   | _=>none
  | none=>none
 | none=>none
def e9 (E:Env) (call:dn) (f:FuncId) (args:List V) (H:bl):Option (V×bl):=
 if E.own f then kW call f args H else call (.fn f) args H
def k8 (e:Edge):Bool:=match e.ground with|.textOnly _|.gcOnly _=>false|_=>true
def C4 (o:Oper) (i:Nat):Bool:=o.after.any λe=>e.on==i&&k8 e
def Fh (acc:List (List Nat)) (o:Oper):List Nat:=
 (o.after.toList.filter k8).foldl (λl e=>(e.on::(acc[e.on]?).getD []).foldl (λl k=>if l.contains k then l else k::l) l) []
def Gu (ops:List Oper):List (List Nat):=ops.foldl (λacc o=>acc++[Fh acc o]) []
def before (ops:List Oper) (i k:Nat):Bool:=(((Gu ops)[i]?).getD []).contains k
def isApp:Op->Bool
 | .call { callee:=.builtin .append,.. }=>true
 | _=>false
def dD (ops:List Oper) (i:Nat):Bool:=
 match ops[i]? with
 | some o=>(List.range ops.length).all λk=>match ops[k]? with
  | some p=>k==i||cV p.op==.pure||(if k<i then before ops i k else before ops k i)||(isApp o.op&&cV p.op==.alloc&&decide (i<k))
  | none=>true
 | none=>false
def dstsOf (ops:List Oper):List Nat:=ops.filterMap (·.dst)
def vr (ops:List Oper) (i k:Nat):Bool:=if k<i then before ops i k else before ops k i
def ES (ops:List Oper) (i k:Nat):Option (List Nat):=
 match ops[k]? with
 | some p=>
  if k==i||cV p.op==.pure||vr ops i k then some []else
  match p.op with
  | .load _ (.tmp a)=>if(dstsOf ops).contains a then some []else some [a]
  | _=>none
 | none=>some []
def A6 (ops:List Oper) (i:Nat):List Nat->Option (List Nat)
 | []=>some []
 | k::r=>match ES ops i k,A6 ops i r with
  | some a,some b=>some (a++b)
  | _,_=>none
def zy (ops:List Oper) (i:Nat):Option (Nat×List Nat):=
 match (ops[i]?).map Oper.op with
 | some (.store _ (.tmp a) _)=>if(dstsOf ops).contains a then none else(A6 ops i (List.range ops.length)).map λl=>(a,l)
 | _=>none
def qn (id:Nat):V->Bool
 | .hptr B _ _=>B != id
 | .fptr _=>true
 | _=>false
def qZ (ops:List Oper) (i:Nat) (F:Frame):Bool:=
 match zy ops i with
 | some (a,l)=>match get F a with
  | .hptr id _ _=>l.all λs=>qn id (get F s)
  | _=>false
 | none=>false
def oV (ops:List Oper) (k a':Nat):List Nat:=
 if(dstsOf ops).contains a' then(List.range ops.length).filterMap λi=>match (ops[i]?).map Oper.op with
  | some (.store _ (.tmp a) _)=>if vr ops i k||(dstsOf ops).contains a then none else some a
  | _=>none
 else []
def nJ (ops:List Oper) (k:Nat) (F:Frame) (op:Op):Bool:=
 match op with
 | .load _ (.tmp q)=>(oV ops k q).all λa=>match get F a with
  | .hptr id _ _=>qn id (get F q)
  | _=>true
 | _=>true
def ER (d:Nat) (op:Op):Bool:=op.operands.any λx=>match x with|.tmp t=>t==d|_=>false
def NP (d:Nat):Op->Bool
 | .call { callee:=.builtin .append,args,.. }=>match args.toList with
  | .tmp t::r=>t==d&&r.all λx=>match x with|.tmp t=>t != d|_=>true
  | _=>false
 | _=>false
def xC (ops:List Oper) (i:Nat):Bool:=
 match ops[i]? with
 | some o=>match o.op,o.dst with
  | .makeSlice ..,some d=>(ops.any λp=>ER d p.op)&&ops.all λp => !ER d p.op||cV p.op==.call
  | .buildSlice _ len q,some d=>len==0&&q.size==0&&((List.range ops.length).any λk=>match ops[k]? with|some p=>ER d p.op && !dD ops k|none=>false)&&ops.all λp => !ER d p.op||NP d p.op
  | _,_=>false
 | none=>false
def qN (ops:List Oper):Option (Nat×Nat)->Bool
 | some (_,i)=>xC ops i
 | none=>false
def kE (E:Env) (ops:List Oper) (place:Option (Nat×Nat)) (f:FuncId):Bool:=E.keep f&&(match place with|none=>true|some (_,i)=>dD ops i || !E.own f)
def we (ops:List Oper) (i:Nat):Bool:=
 match ops[i]? with
 | some o=>isApp o.op&&(List.range ops.length).all λk=>match ops[k]? with
  | some p=>k==i||cV p.op==.pure||vr ops i k||cV p.op==.read||(cV p.op==.alloc&&(xC ops k||decide (i<k)))
  | none=>true
 | none=>false
def o7 (F:Frame):Op->Bool
 | .call { callee:=.builtin .append,args,.. }=>match args.toList with
  | x::_=>match ev F x with|some .c9|some .bH=>true|_=>false
  | _=>false
 | _=>false
def xX (ops:List Oper) (i b:Nat) (F:Frame) (H:bl) (op:Op):Bool:=we ops i&&(isApp op&&o7 F op&&decide (b<=H.length))
def c8 (E:Env) (call:dn) (ops:List Oper) (place:Option (Nat×Nat)) (F:Frame) (H:bl) (op:Op):Option (V×bl):=
 match cV op with
 | .pure=>(bR E F op).map λv=>(v,H)
 | .read=>match place with
  | none=>(dO E F H op).map λv=>(v,H)
  | some (b,i)=>if nJ ops i F op then match dO E F (H.take b) op with
   | some v=>some (v,H)
   | none=>if dD ops i then(dO E F H op).map λv=>(v,H)else none
   else none
 | .alloc=>if qN ops place then(qG E F op).map λv=>(v,H)else match eN E F op,place with
  | some (ob,m),none=>some (m.val H.length,H++[ob])
  | some (ob,m),some (b,i)=>match H[b+i]? with
   | some .free=>some (m.val (b+i),H.set (b+i) ob)
   | _=>none
  | none,_=>none
 | .loud=>match place with
  | none=>cO E F H op
  | some (b,i)=>if dD ops i||qZ ops i F||xX ops i b F H op then cO E F H op else none
 | .call=>match jS F op with
  | some (.fn f,args)=>
   if kE E ops place f then
    match place with
    | none=>e9 E call f args H
    | some (_,i)=>if dD ops i then e9 E call f args H else none
   else match place with
    | none=>match cz call f args H with
     | some y=>some (y,if y.scalar then H else cu H (dx (cr 8 H) args))
     | none=>none
    | some (b,i)=>match cz call f args (H.take b)with
     | some y=>if y.scalar then some (y,H)else if iS (H.take b) (dx (cr 8 (H.take b)) args)then some (y,cu H (dx (cr 8 (H.take b)) args))else none
     | none=>if dD ops i then match cz call f args H with
      | some y=>some (y,if y.scalar then H else cu H (dx (cr 8 H) args))
      | none=>none
      else none
  | some (.yld id,args)=>match place with
   | none=>call (.yld id) args H
   | some (_,i)=>if dD ops i then call (.yld id) args H else none
  | none=>none
def jW (n:Nat) (F:Frame) (dst:Option Nat) (v:V):Option Frame:=
 match dst with
 | none=>some F
 | some d=>if d<n then some (set F d v)else none
def fP (ops:List Oper) (F:Frame) (o:Oper):Bool:=
 match o.guard with
 | none=>true
 | some (j,b)=>match (ops[j]?).bind (·.dst)with
  | some d=>match get F d with
   | .bool c=>c==b
   | _=>false
  | none=>false
def gu (E:Env) (call:dn) (n:Nat) (ops:List Oper) (place:Option (Nat×Nat)) (o:Oper) (F:Frame) (H:bl):Option (Frame×bl):=
 if fP ops F o then
  match c8 E call ops place F H o.op with
  | some (v,H')=>(jW n F o.dst v).map λF'=>(F',H')
  | none=>none
 else(jW n F o.dst .undef).map λF'=>(F',H)
def mh (E:Env) (call:dn) (n:Nat) (ops:List Oper):List Oper->Frame->bl->Option (Frame×bl)
 | [],F,H=>some (F,H)
 | o::r,F,H=>match gu E call n ops none o F H with
  | some (F',H')=>mh E call n ops r F' H'
  | none=>none
def jQ (E:Env) (call:dn) (n:Nat) (ops:List Oper) (base:Nat):List Nat->Frame->bl->Option (Frame×bl)
 | [],F,H=>some (F,H)
 | i::r,F,H=>match ops[i]? with
  | some o=>match gu E call n ops (some (base,i)) o F H with
   | some (F',H')=>jQ E call n ops base r F' H'
   | none=>none
  | none=>none
def tmpsOf (o:Oper) (ops:List Oper):List Nat:=
 (o.op.operands.toList.filterMap λ|.tmp t=>some t|_=>none) ++
 (match o.guard with|some (g,_)=>((ops[g]?).bind (·.dst)).toList|none=>[])
def xA (ops:List Oper) (a b:Oper):Bool:=
 (match a.dst with|some d => !(tmpsOf b ops).contains d&&b.dst != some d|none=>true) &&
 (match b.dst with|some d => !(tmpsOf a ops).contains d|none=>true)
def vT (ops:List Oper):Bool:=
 (List.range ops.length).all λj=>(List.range j).all λi=>
  match ops[i]?,ops[j]? with
  | some a,some b=>C4 b i||xA ops a b
  | _,_=>false
def zD (ops:List Oper):Bool:=
 (List.range ops.length).all λj=>match ops[j]? with
  | some o=>o.after.all λe => !k8 e||decide (e.on<j)
  | none=>true
def ri (ops:List Oper):Bool:=ops.any λo=>cV o.op==.alloc
def jt (E:Env) (call:dn) (n:Nat) (ops:List Oper) (B:Bool) (F:Frame) (H:bl):Option (Frame×bl):=
 if B then
  if vT ops&&zD ops then
   jQ E call n ops H.length (List.range ops.length) F (if ri ops then H++List.replicate ops.length .free else H)
  else none
 else mh E call n ops ops F H
def ku (step:Frame->bl->Option (Out×Frame×bl)):Nat->Frame->bl->Option (Out×Frame×bl)
 | 0,_,_=>none
 | k+1,F,H=>match step F H with
  | some (.norm,F',H')=>ku step k F' H'
  | r=>r
def kU:Out->Option Code
 | .norm=>none
 | .ret=>some .ret
 | .exit id=>some (.exit id)
def exec (E:Env) (call:dn) (lf:Nat) (ro:Bool) (n:Nat):Code->Frame->bl->Option (Out×Frame×bl)
 | .skip,F,H=>some (.norm,F,H)
 | .label _,F,H=>some (.norm,F,H)
 | .region _ ops B,F,H=>(jt E call n ops.toList B F H).map λ(F',H')=>(.norm,F',H')
 | .seq a b,F,H=>match exec E call lf ro n a F H with
  | some (.norm,F',H')=>exec E call lf ro n b F' H'
  | r=>r
 | .cond c x y,F,H=>match ev F c with
  | some (.bool t)=>if t then exec E call lf ro n x F H else exec E call lf ro n y F H
  | _=>none
 | .block id c,F,H=>match exec E call lf ro n c F H with
  | some (.exit D,F',H')=>if D=id then some (.norm,F',H')else some (.exit D,F',H')
  | r=>r
 | .loop c,F,H=>ku (exec E call lf ro n c) lf F H
 | .rangeFunc g ps assign body,F,H=>match ro,ev F g with
  | false,some (.clo f a b)=>
   match call (.fn f) (a++.yld H.length::b) (H++[.loop ⟨.ready,none,F,n,ps.toList,assign,body⟩])with
   | some (_,H')=>match H'[H.length]? with
    | some (.loop r)=>match r.st with
     | .busy=>none
     | _=>some (r.pend.getD .norm,F,H'.set H.length .dead)
    | _=>none
   | none=>none
  | _,_=>none
 | .exit id,F,H=>some (.exit id,F,H)
 | .ret,F,H=>some (.ret,F,H)
 | _,_,_=>none
def gR (E:Env) (F:Frame) (H:bl):List ResultVar->Option (List V)
 | []=>some []
 | .tmp t::r=>(gR E F H r).map (get F t::·)
 | .cell a t::r=>match E.tt t,gR E F H r with
  | some d,some vs=>((dY H (get F a) d.size).bind (mk d.agg)).map (·::vs)
  | _,_=>none
def result:List V->V
 | [v]=>v
 | vs=>.tup vs
def vw:List Nat->List V->Frame->Frame
 | t::B,v::vs,F=>vw B vs (set F t v)
 | _,_,F=>F
def FW {α:Type} [Inhabited α] (lt:α->α->Bool):Nat->Nat->Array α->Array α
 | 0,_,d=>d
 | k+1,i,d=>FW lt k (i+1) (Sort.insInner lt 0 i d)
def Kg (n:Nat) (lt:Fin (n+1)->Fin (n+1)->Bool):Array (Fin (n+1)):=
 if n<12 then FW lt n 1 (List.finRange (n+1)).toArray else Sort.pdq lt (List.finRange (n+1)).toArray 0 (n+1) (Lib.bitLen (n+1)) true true
def j7 (call:dn) (g:FuncId) (D B:List V) (n:Nat) (i j:Fin (n+1)):Option Int:=
 match D[i.1]?,D[j.1]? with
 | some a,some b=>match cz call g (a::b::B) []with
  | some (.int .i64 c)=>some c
  | _=>none
 | _,_=>none
def xB {n:Nat} (t:Fin (n+1)->Fin (n+1)->Option Int) (i j:Fin (n+1)):Bool:=decide ((t i j).getD 0<0)
def OT {n:Nat} (t:Fin (n+1)->Fin (n+1)->Option Int):Bool:=
 let l:=List.finRange (n+1)
 l.all λi => !xB t i i&&l.all λj=>(t i j).isSome&&l.all λk=>(!(xB t i j&&xB t j k)||xB t i k)&&((xB t i j||xB t j k) || !xB t i k)
def yo (xs:List (List V)) (off n:Nat) (l:List (Fin (n+1))):List (List V):=xs.take off++l.map (λi=>(xs[off+i.1]?).getD [])++xs.drop (off+(n+1))
def tq (keep:FuncId->Bool) (call:dn) (args:List V) (H:bl):Option (V×bl):=
 match args with
 | [s,c]=>match s with
  | .bH|.c9=>some (.undef,H)
  | .hsl id es off len=>match len,c with
   | 0,_=>some (.undef,H)
   | n+1,.clo g [] cb=>match H[id]? with
    | some (.row t u)=>if es=1/\t=1/\off+(n+1)<=u.length/\n<2147483648/\keep g=false then
     match borrows 8 (H.set id .dead) ((u.drop off).take (n+1)).flatten,borrows 8 (H.set id .dead) cb with
     | some w,some q=>if OT (j7 call g w q n)then some (.undef,H.set id (.row 1 (yo u off n (Kg n (xB (j7 call g w q n))).toList)))else none
     | _,_=>none
     else none
    | _=>none
   | _,_=>none
  | _=>none
 | _=>none
def run (E:Env):Nat->dn
 | 0,_,_,_=>none
 | n+1,.fn f,args,H=>match E.ft f with
  | some fi=>if args.length<=fi.ntmps then
   match exec E (run E n) n false fi.ntmps fi.body args H with
   | some (.exit _,_,_)=>none
   | some (_,F',H')=>(gR E F' H' fi.results).map λvs=>(result vs,H')
   | none=>none
   else none
  | none=>if E.sort f then tq E.keep (run E n) args H else(E.known f args).map λy=>(y,H)
 | n+1,.yld id,args,H=>match H[id]? with
  | some (.loop r)=>match r.st with
   | .ready=>if args.length=r.params.length/\r.params.all (·<r.nt)then
    match exec E (run E n) n true r.nt r.assign (vw r.params args r.frame) H with
    | some (.norm,D,H2)=>match H2[id]? with
     | some (.loop r2)=>match r2.st with
      | .ready=>match exec E (run E n) n true r.nt r.body D (H2.set id (.loop { r2 with st:=.busy }))with
       | some (o,_,B)=>match B[id]? with
        | some (.loop r4)=>some (.bool (o==.norm),B.set id (.loop { r4 with st:=(if o==.norm then .ready else .done),pend:=(if o==.norm then none else some o) }))
        | _=>none
       | none=>none
      | _=>none
     | _=>none
    | _=>none
    else none
   | _=>none
  | _=>none
end Go.VE
namespace Go.VE
variable [bX]
@[simp] theorem get_nil (i:Nat):get [] i=.undef:=by cases i <;> rfl
@[simp] theorem sD (F:Frame) (i:Nat) (v:V):get (set F i v) i=v:=by
 induction F generalizing i with
 | nil=>induction i with
  | zero=>rfl
  | succ i q=>simpa [set,get]using q
 | cons x r q=>cases i with
  | zero=>rfl
  | succ i=>simpa [set,get]using q i
theorem gX (F:Frame) {i j:Nat} (v:V) (h:i≠j):get (set F i v) j=get F j:=by
 induction F generalizing i j with
 | nil=>
  induction i generalizing j with
  | zero=>cases j with
   | zero=>grind
   | succ j=>simp[set,get]
  | succ i q=>cases j with
   | zero=>simp[set,get]
   | succ j=>simpa [set,get]using q  (by omega)
 | cons x r q=>cases i with
  | zero=>cases j with
   | zero=>grind
   | succ j=>simp[set,get]
  | succ i=>cases j with
   | zero=>simp[set,get]
   | succ j=>simpa [set,get]using q   (by omega)
theorem G9 (F:Frame) {i j:Nat} (u v:V) (h:i≠j):set (set F i u) j v=set (set F j v) i u:=by
 induction F generalizing i j with
 | nil=>
  induction i generalizing j with
  | zero=>cases j with
   | zero=>grind
   | succ j=>simp[set]
  | succ i q=>cases j with
   | zero=>simp[set]
   | succ j=>simpa [set]using q  (by omega)
 | cons x r q=>cases i with
  | zero=>cases j with
   | zero=>grind
   | succ j=>simp[set]
  | succ i=>cases j with
   | zero=>simp[set]
   | succ j=>simpa [set]using q   (by omega)
inductive IC where
 | cells (c:Array Value)
 | map (es:Array MapEntry)
abbrev b_:=Nat->Option IC
def IC.at (x:IC) (w:World) (b:Nat):Prop:=
 match x with
 | .cells c=>∃el fr,w.heap[b]? = some (.cells c el fr)
 | .map es=>∃clock,w.heap[b]? = some (.map es clock)
def b_.le (I I':b_):Prop:=∀b x,I b=some x->I' b=some x
theorem b_.le_refl (I:b_):b_.le I I:=λ_ _ h=>h
theorem b_.le_trans {I J K:b_} (h:b_.le I J) (B:b_.le J K):b_.le I K:=λb x e=>B b x (h b x e)
inductive eE (I:b_):V->Value->Prop
 | bool (b:Bool):eE I (.bool b) (.bool b)
 | int (k:IntKind) (n:Int):eE I (.int k n) (.int k n)
 | str (s:ByteArray):eE I (.str s) (.string s)
 | c9 (a:Option Addr):eE I .c9 (.slice a 0 0)
 | bH:eE I .bH (.slice none 0 0)
 | fsl0 (es:Nat) (a:Addr) (cap:Nat):eE I (.fsl es []) (.slice (some a) 0 cap)
 | fsl (es:Nat) (xs:List (List V)) (b o cap:Nat) (c:Array Value) (hI:I b=some (.cells c)) (hc:xs.length<=cap)
  (hu:∀x∈xs,x.length=es) (ho:∀x∈xs,∀y∈x,V.one y=true) (hb:o+xs.length*es<=c.size)
  (hr:∀(i j:Nat) x y v,xs[i]? = some x->x[j]? = some y->c[o+i*es+j]? = some v->eE I y v) :
  eE I (.fsl es xs) (.slice (some ⟨b,o,none⟩) xs.length cap)
 | gV:eE I .gV (.pointer none)
 | fptr (cs:List V) (b o:Nat) (c:Array Value) (hI:I b=some (.cells c)) (hb:o+cs.length<=c.size)
  (hr:∀(j:Nat) y v,cs[j]? = some y->c[o+j]? = some v->eE I y v):eE I (.fptr cs) (.pointer (some ⟨b,o,none⟩))
 | clo (f:FuncId) (x y:List V) (u v:Array Value) (hx:x.length=u.size) (hy:y.length=v.size)
  (h1:∀(j:Nat) a b,x[j]? = some a->u[j]? = some b->eE I a b) (h2:∀(j:Nat) a b,y[j]? = some a->v[j]? = some b->eE I a b) :
  eE I (.clo f x y) (.func (.func f) u v)
 | gw:eE I .gw (.map none)
 | rI:eE I .rI .nilFunc
 | fmap (kvs:List (V×V)) (b:Nat) (es:Array MapEntry) (hI:I b=some (.map es)) (hl:kvs.length=es.size)
  (hk:∀(j:Nat) p e,kvs[j]? = some p->es[j]? = some e->eE I p.1 e.key)
  (hv:∀(j:Nat) p e,kvs[j]? = some p->es[j]? = some e->eE I p.2 e.val):eE I (.fmap kvs) (.map (some b))
 | agg (cs:List V) (vs:Array Value) (hl:cs.length=vs.size) (h:∀(j:Nat) a b,cs[j]? = some a->vs[j]? = some b->eE I a b) :
  eE I (.agg cs) (.agg vs)
 | tup (cs:List V) (vs:Array Value) (hl:cs.length=vs.size) (h:∀(j:Nat) a b,cs[j]? = some a->vs[j]? = some b->eE I a b) :
  eE I (.tup cs) (.tuple vs)
structure Pl where
 b:Nat
 o:Nat
 es:Nat
 sz:Nat
abbrev Mu:=Nat->Option Pl
inductive bM (I:b_) (μ:Mu):V->Value->Prop
 | c (x:V) (v:Value) (h:eE I x v):bM I μ x v
 | hsl (id off len cap:Nat) (p:Pl) (hm:μ id=some p) (hc:len<=cap) (hb:p.o+(off+cap)*p.es<=p.sz) :
  bM I μ (.hsl id p.es off len) (.slice (some ⟨p.b,p.o+off*p.es,none⟩) len cap)
 | hsl0 (id es off:Nat) (a:Addr):bM I μ (.hsl id es off 0) (.slice (some a) 0 0)
 | hptr (id el off:Nat) (p:Pl) (hm:μ id=some p):bM I μ (.hptr id el off) (.pointer (some ⟨p.b,p.o+el*p.es+off,none⟩))
 | yld (id:Nat) (p:Pl) (hm:μ id=some p):bM I μ (.yld id) (.func (.yield p.b) #[] #[])
 | hmap (id:Nat) (p:Pl) (hm:μ id=some p):bM I μ (.hmap id) (.map (some p.b))
 | clo (f:FuncId) (x y:List V) (u v:Array Value) (hx:x.length=u.size) (hy:y.length=v.size)
  (h1:∀(j:Nat) a b,x[j]? = some a->u[j]? = some b->bM I μ a b) (h2:∀(j:Nat) a b,y[j]? = some a->v[j]? = some b->bM I μ a b) :
  bM I μ (.clo f x y) (.func (.func f) u v)
 | agg (cs:List V) (vs:Array Value) (hl:cs.length=vs.size) (h:∀(j:Nat) a b,cs[j]? = some a->vs[j]? = some b->bM I μ a b) :
  bM I μ (.agg cs) (.agg vs)
 | tup (cs:List V) (vs:Array Value) (hl:cs.length=vs.size) (h:∀(j:Nat) a b,cs[j]? = some a->vs[j]? = some b->bM I μ a b) :
  bM I μ (.tup cs) (.tuple vs)
def Mu.le (μ μ':Mu):Prop:=∀id p,μ id=some p->μ' id=some p
theorem Mu.le_refl (μ:Mu):Mu.le μ μ:=λ_ _ h=>h
theorem eE.mono {I I':b_} (h:b_.le I I') {x:V} {v:Value} (r:eE I x v):eE I' x v:=by
 induction r with
 | bool b=>exact .bool b
 | int k n=>exact .int k n
 | str s=>exact .str s
 | c9 a=>exact .c9 a
 | bH=>exact .bH
 | fsl0 es a cap=>exact .fsl0 es a cap
 | fsl es H b o cap c z hc hu J C _ q=>exact .fsl es H b o cap c (h _ _ z) hc hu J C q
 | gV=>exact .gV
 | fptr A b o c z C _ q=>exact .fptr A b o c (h _ _ z) C q
 | clo f x y u v L O _ _ t w=>exact .clo f x y u v L O t w
 | gw=>exact .gw
 | rI=>exact .rI
 | fmap D b es z B _ _ t w=>exact .fmap D b es (h _ _ z) B t w
 | agg A G B _ q=>exact .agg A G B q
 | tup A G B _ q=>exact .tup A G B q
theorem bM.mono {I I':b_} {μ μ':Mu} (h:b_.le I I') (B:Mu.le μ μ') {x:V} {v:Value} (r:bM I μ x v):bM I' μ' x v:=by
 induction r with
 | c x v r=>exact .c _ _ (r.mono h)
 | hsl id off len cap p q hc G=>exact .hsl id off len cap p (B _ _ q) hc G
 | hsl0 id es off a=>exact .hsl0 id es off a
 | hptr id el off p q=>exact .hptr id el off p (B _ _ q)
 | yld id p q=>exact .yld id p (B _ _ q)
 | hmap id p q=>exact .hmap id p (B _ _ q)
 | clo f x y u v H J _ _ t w=>exact .clo f x y u v H J t w
 | agg z A C _ D=>exact .agg z A C D
 | tup z A C _ D=>exact .tup z A C D
def cB (I:b_) (μ:Mu) (xs:List V) (vs:List Value):Prop:=
 xs.length=vs.length/\∀(j:Nat) a b,xs[j]? = some a->vs[j]? = some b->bM I μ a b
theorem cB.nil {I:b_} {μ:Mu}:cB I μ [] []:=⟨rfl,by simp⟩
theorem cB.cons {I:b_} {μ:Mu} {x:V} {v:Value} {xs:List V} {vs:List Value} (h:bM I μ x v) (r:cB I μ xs vs):cB I μ (x::xs) (v::vs):=by
 refine⟨by simp[r.1],?_⟩
 intro j a b h1 q
 cases j with
 | zero=>grind
 | succ j=>exact r.2 j a b (by grind) (by grind)
theorem cB.cons_inv {I:b_} {μ:Mu} {x:V} {xs:List V} {B:List Value} (r:cB I μ (x::xs) B):∃v vs,B=v::vs/\bM I μ x v/\cB I μ xs vs:=by
 obtain⟨q,h⟩:=r
 cases B with
 | nil=>simp_all
 | cons v vs=>
  refine⟨v,vs,rfl,h 0 x v (by simp) (by simp),by grind,?_⟩
  intro j a b h1 t;exact h (j+1) a b (by grind) (by grind)
theorem cB.vj {I:b_} {μ:Mu} {B:List Value} (r:cB I μ [] B):B=[]:=by
 have:=r.1;grind
theorem cB.append {I:b_} {μ:Mu} {xs ys:List V} {B vs:List Value} (h:cB I μ xs B) (D:cB I μ ys vs):cB I μ (xs++ys) (B++vs):=by
 induction xs generalizing B with
 | nil=>rw[cB.vj h];exact D
 | cons x xs q=>
  obtain⟨v,B,rfl,hv,hr⟩:=h.cons_inv;exact .cons hv (q hr)
theorem cB.mono {I I':b_} {μ μ':Mu} (h:b_.le I I') (B:Mu.le μ μ') {xs:List V} {vs:List Value} (r:cB I μ xs vs):cB I' μ' xs vs:=
 ⟨r.1,λj a b h1 q=>(r.2 j a b h1 q).mono h B⟩
theorem cB.take {I:b_} {μ:Mu} {xs:List V} {vs:List Value} (r:cB I μ xs vs) (n:Nat):cB I μ (xs.take n) (vs.take n):=by
 refine⟨by simp[r.1],λj a b h1 q=>?_⟩
 rw[List.getElem?_take]at h1 q;split at h1 <;> simp_all;exact r.2 j a b h1 q
theorem cB.drop {I:b_} {μ:Mu} {xs:List V} {vs:List Value} (r:cB I μ xs vs) (n:Nat):cB I μ (xs.drop n) (vs.drop n):=by
 refine⟨by simp[r.1],λj a b h1 q=>?_⟩
 rw[List.getElem?_drop]at h1 q;exact r.2 _ a b h1 q
theorem bM.cells {I:b_} {μ:Mu} {x:V} {v:Value} (r:bM I μ x v):cB I μ x.cells v.cells.toList:=by
 cases r with
 | c x v h=>
  cases h with
  | agg t A q h=>exact⟨by simpa [V.cells,Value.cells]using q,λj a b h1 w=>.c _ _ (h j a b h1 (by simpa [Value.cells]using w))⟩
  | bool b=>exact .cons (.c _ _ (.bool b)) .nil
  | int k n=>exact .cons (.c _ _ (.int k n)) .nil
  | str s=>exact .cons (.c _ _ (.str s)) .nil
  | c9 a=>exact .cons (.c _ _ (.c9 a)) .nil
  | bH=>exact .cons (.c _ _ .bH) .nil
  | fsl0 es a cap=>exact .cons (.c _ _ (.fsl0 es a cap)) .nil
  | fsl es J b o cap c B hc hu L C hr=>exact .cons (.c _ _ (.fsl es J b o cap c B hc hu L C hr)) .nil
  | gV=>exact .cons (.c _ _ .gV) .nil
  | fptr t b o c B C hr=>exact .cons (.c _ _ (.fptr t b o c B C hr)) .nil
  | clo f x y u v D G h1 w=>exact .cons (.c _ _ (.clo f x y u v D G h1 w)) .nil
  | gw=>exact .cons (.c _ _ .gw) .nil
  | rI=>exact .cons (.c _ _ .rI) .nil
  | fmap H b es B q hk hv=>exact .cons (.c _ _ (.fmap H b es B q hk hv)) .nil
  | tup t A q h=>exact .cons (.c _ _ (.tup t A q h)) .nil
 | hsl id off len cap p z hc C=>exact .cons (.hsl id off len cap p z hc C) .nil
 | hsl0 id es off a=>exact .cons (.hsl0 id es off a) .nil
 | hptr id el off p z=>exact .cons (.hptr id el off p z) .nil
 | yld id p z=>exact .cons (.yld id p z) .nil
 | hmap id p z=>exact .cons (.hmap id p z) .nil
 | clo f x y u v D G h1 w=>exact .cons (.clo f x y u v D G h1 w) .nil
 | agg t A q h=>exact⟨by simpa [V.cells,Value.cells]using q,λj a b h1 w=>h j a b h1 (by simpa [Value.cells]using w)⟩
 | tup t A q h=>exact .cons (.tup t A q h) .nil
theorem bM.EX {I:b_} {μ:Mu} {cs:List V} {vs:Array Value} (h:cB I μ cs vs.toList):bM I μ (.agg cs) (.agg vs):=
 .agg cs vs (by simpa using h.1) λj a b h1 q=>h.2 j a b h1 (by grind)
theorem bM.OQ {I:b_} {μ:Mu} {cs:List V} {vs:Array Value} (h:cB I μ cs vs.toList):bM I μ (.tup cs) (.tuple vs):=
 .tup cs vs (by simpa using h.1) λj a b h1 q=>h.2 j a b h1 (by grind)
section inv
variable {I:b_} {μ:Mu}
theorem bM.qY {b:Bool} {v:Value} (h:bM I μ (.bool b) v):v=.bool b:=by cases h with|c _ _ h=>cases h;rfl
theorem bM.fN {k:IntKind} {n:Int} {v:Value} (h:bM I μ (.int k n) v):v=.int k n:=by cases h with|c _ _ h=>cases h;rfl
theorem bM.tB {s:ByteArray} {v:Value} (h:bM I μ (.str s) v):v=.string s:=by cases h with|c _ _ h=>cases h;rfl
theorem bM.rP {v:Value} (h:bM I μ .c9 v):∃a,v=.slice a 0 0:=by cases h with|c _ _ h=>cases h;grind
theorem bM.lX {es:Nat} {xs:List (List V)} {v:Value} (h:bM I μ (.fsl es xs) v):eE I (.fsl es xs) v:=by cases h with|c _ _ h=>omega
theorem bM.lZ {cs:List V} {v:Value} (h:bM I μ (.fptr cs) v):∃b o c,v=.pointer (some ⟨b,o,none⟩)/\I b=some (.cells c)/\o+cs.length<=c.size /\
 (∀(j:Nat) y u,cs[j]? = some y->c[o+j]? = some u->eE I y u):=by
 cases h with|c _ _ h=>cases h with|fptr cs b o c q t hr=>grind
theorem bM.lS {v:Value} (h:bM I μ .bH v):v=.slice none 0 0:=by cases h with|c _ _ h=>cases h;rfl
theorem bM.M8 {v:Value} (h:bM I μ .gw v):v=.map none:=by cases h with|c _ _ h=>cases h;rfl
theorem bM.s9 {id el off:Nat} {v:Value} (h:bM I μ (.hptr id el off) v):∃p,μ id=some p/\v=.pointer (some ⟨p.b,p.o+el*p.es+off,none⟩):=by
 cases h with
 | c _ _ h=>cases h
 | hptr _ _ _ p q=>grind
theorem bM.Qb {id:Nat} {v:Value} (h:bM I μ (.yld id) v):∃p,μ id=some p/\v=.func (.yield p.b) #[] #[]:=by
 cases h with
 | c _ _ h=>cases h
 | yld _ p q=>grind
theorem bM.Bk {id:Nat} {v:Value} (h:bM I μ (.hmap id) v):∃p,μ id=some p/\v=.map (some p.b):=by
 cases h with
 | c _ _ h=>cases h
 | hmap _ p q=>grind
theorem bM.lV {id es off len:Nat} {v:Value} (h:bM I μ (.hsl id es off len) v) :
 (∃p cap,μ id=some p/\p.es=es/\len<=cap/\p.o+(off+cap)*es<=p.sz/\v=.slice (some ⟨p.b,p.o+off*es,none⟩) len cap)\/(len=0/\∃a,v=.slice (some a) 0 0):=by
 cases h with
 | c _ _ h=>cases h
 | hsl _ _ _ cap p q hc t=>simp_all
 | hsl0 _ _ _ a=>grind
theorem bM.iK {cs:List V} {v:Value} (h:bM I μ (.agg cs) v):∃vs,v=.agg vs/\cB I μ cs vs.toList:=by
 cases h with
 | c _ _ h=>cases h with|agg _ vs q h=>exact⟨vs,rfl,by grind,λj a b h1 t=>.c _ _ (h j a b h1 (by grind))⟩
 | agg _ vs q h=>exact⟨vs,rfl,by grind,λj a b h1 t=>h j a b h1 (by grind)⟩
theorem bM.pU {cs:List V} {v:Value} (h:bM I μ (.tup cs) v):∃vs,v=.tuple vs/\cB I μ cs vs.toList:=by
 cases h with
 | c _ _ h=>cases h with|tup _ vs q h=>exact⟨vs,rfl,by grind,λj a b h1 t=>.c _ _ (h j a b h1 (by grind))⟩
 | tup _ vs q h=>exact⟨vs,rfl,by grind,λj a b h1 t=>h j a b h1 (by grind)⟩
theorem bM.kP {f:FuncId} {x y:List V} {v:Value} (h:bM I μ (.clo f x y) v):∃a b,v=.func (.func f) a b/\cB I μ x a.toList/\cB I μ y b.toList:=by
 cases h with
 | c _ _ h=>cases h with
  | clo _ _ _ u v w z h1 t=>exact⟨u,v,rfl,⟨by grind,λj a b p q=>.c _ _ (h1 j a b p (by grind))⟩,⟨by grind,λj a b p q=>.c _ _ (t j a b p (by grind))⟩⟩
 | clo _ _ _ u v w z h1 t=>exact⟨u,v,rfl,⟨by grind,λj a b p q=>h1 j a b p (by grind)⟩,⟨by grind,λj a b p q=>t j a b p (by grind)⟩⟩
theorem bM.of_bool {x:V} {b:Bool} (h:bM I μ x (.bool b)):x=.bool b:=by
 cases h with|c _ _ h=>cases h;rfl
end inv
def uV (I:b_):Prop:=∀g q,bX.gl g=some q->eE I (.fptr q) (.pointer (some ⟨g,0,none⟩))
theorem uV.mono {I I':b_} (h:b_.le I I') (r:uV I):uV I':=λg q hg=>(r g q hg).mono h
structure ei (I:b_) (μ:Mu) (n:Nat) (F:Frame) (tmps:Array Value):Prop where
 size:tmps.size=n
 rel:∀t,bM I μ (get F t) (tmps.getD t undef)
 gl:uV I
theorem bM.undef (I:b_) (μ:Mu):bM I μ .undef Go.undef:=.c _ _ (.tup [] #[] rfl (by simp))
theorem ei.mono {I I':b_} {μ μ':Mu} {n:Nat} {F:Frame} {tmps:Array Value} (h:b_.le I I') (B:Mu.le μ μ') (r:ei I μ n F tmps):ei I' μ' n F tmps:=
 ⟨r.1,λt=>(r.2 t).mono h B,r.gl.mono h⟩
theorem ei.put {I:b_} {μ:Mu} {n:Nat} {F F':Frame} {a:Act} {dst:Option Nat} {x:V} {v:Value} (r:ei I μ n F a.tmps) (h:bM I μ x v)
 (B:jW n F dst x=some F'):ei I μ n F' (a.put dst v).tmps:=by
 cases dst with
 | none=>simp[jW]at B;subst B;exact r
 | some d=>
  simp only[jW]at B;split at B
  .simp  at B;subst B;refine⟨by simp[Act.put,r.1],λt=>?_,r.gl⟩
   by_cases q:d=t
   .subst q;have:d<a.tmps.size:=by rw[r.1];omega
    simpa [Act.put,Array.getD_eq_getD_getElem?,Array.getElem?_setIfInBounds,this]using h
   .have:=r.2 t;rw[gX _ _ q];simpa [Act.put,Array.getD_eq_getD_getElem?,Array.getElem?_setIfInBounds,q]using this
  grind
theorem AJ {I:b_}:∀(n:Nat) (v:Value) (x:V),ofValue n v=some x->eE I x v:=by
 intro n
 induction n with
 | zero=>intro v x h;simp[ofValue]at h
 | succ n w=>
  intro v x h;unfold ofValue at h;split at h <;> (try (simp  at h;subst h;constructor)) <;> (try grind)
  simp  at h;obtain⟨z,t,rfl⟩:=h;have key:∀(l:List Value) (q:List V),l.mapM (ofValue n)=some q->q.length=l.length/\∀(j:Nat) a b,q[j]? = some a->l[j]? = some b->eE I a b:=by
   intro l
   induction l with
   | nil=>grind
   | cons v l u=>
    intro q h;simp[ζg]at h
    grind
  obtain⟨A,hr⟩:=key _ _ t;exact .agg _ _ (by grind) λj a b h1 B=>hr j a b h1 (by grind)
theorem dg {I:b_} {μ:Mu} {n:Nat} {F:Frame} {a:Act} (r:ei I μ n F a.tmps) {o:Operand} {x:V} (h:ev F o=some x):bM I μ x (a.eval o):=by
 cases o with
 | tmp t=>simp[ev]at h;subst h;exact r.2 t
 | const v=>exact .c _ _ (AJ 4 _ _ h)
 | func f=>simp[ev]at h;subst h;exact .c _ _ (.clo f [] [] #[] #[] rfl rfl (by simp) (by simp))
 | global g=>
  obtain⟨q,h1,rfl⟩:=ζf.1 h;exact .c _ _ (r.gl g q h1)
theorem nu {I:b_} {μ:Mu} {n:Nat} {F:Frame} {a:Act} (r:ei I μ n F a.tmps):∀{l:List Operand} {xs:List V},fI F l=some xs->cB I μ xs (l.map a.eval):=by
 intro l
 induction l with
 | nil=>intro xs h;simp[fI]at h;subst h;exact .nil
 | cons o l q=>
  intro xs h;simp[fI]at h;split at h
  .rename_i v u h1 t;simp  at h;subst h;exact .cons (dg r h1) (q t)
  grind
theorem KI {I:b_} {μ:Mu} {n:Nat} {F:Frame} {a:Act} (r:ei I μ n F a.tmps):∀{l:List (Nat×Operand)} {xs:List (Nat×V)},mb F l=some xs ->
 xs.length=l.length/\∀(j:Nat) x y,xs[j]? = some x->l[j]? = some y->x.1=y.1/\bM I μ x.2 (a.eval y.2):=by
 intro l
 induction l with
 | nil=>intro xs h;simp[mb]at h;grind
 | cons o l u=>
  intro xs h;simp[mb]at h;split at h
  .rename_i v A h1 w;simp  at h;subst h;obtain⟨z,hr⟩:=u w;refine⟨by simp[z],λj x y q t=>?_⟩
   cases j with
   | zero=>simp at q t;subst q;subst t;exact⟨rfl,dg r h1⟩
   | succ j=>grind
  grind
end Go.VE
namespace Go.VE
variable [bX]
def mq:TypeDesc->TK
 | .bool=>.bool
 | .int k=>.int k
 | .string=>.str
 | .pointer e=>.ptr e
 | .slice e=>.slice e
 | .struct fs=>.struct (fs.toList.map λf=>(f.offset,f.type))
 | .array n e=>.array n e
 | .map k e=>.map k e
 | _=>.other
def CB:Value->Bool
 | .agg _=>true
 | _=>false
def tG (P:Program) (t:TypeId):Option TD:=
 match P.info? t,P.underlying t with
 | some i,some d=>match i.zero with
  | some z=>match z.cells.toList.mapM (ofValue 4)with
   | some q=>if q.length=i.size/\q.all V.one=true/\CB z=(TD.mk i.size i.bytes q (mq d)).agg then some ⟨i.size,i.bytes,q,mq d⟩else none
   | none=>none
  | none=>none
 | _,_=>none
def ic (a:List Int):Array Value:=(a.map (Value.int .i64)).toArray
structure ta (P:Program) (t:TypeId) (n:Nat):Prop where
 eq:∀(w:World) (x y:Operand) (a b:List Int),a.length=n->b.length=n ->
  (do eqGuard .eql t x y (.agg (ic a)) (.agg (ic b));binOp .eql t (.agg (ic a)) (.agg (ic b))).run P w=.ok (.bool (a==b)) w
 ne:∀(w:World) (x y:Operand) (a b:List Int),a.length=n->b.length=n ->
  (do eqGuard .neq t x y (.agg (ic a)) (.agg (ic b));binOp .neq t (.agg (ic a)) (.agg (ic b))).run P w=.ok (.bool !(a==b)) w
 key:∀(w:World) (a b:List Int),a.length=n->b.length=n->(Op.equal t (.agg (ic a)) (.agg (ic b))).run P w=.ok (a==b) w
 check:∀(w:World) (e:Bool) (a:List Int),a.length=n->(Instr.checkKey e 10000 t (.agg (ic a))).run P w=.ok () w
 kind:∃d,P.underlying t=some d/\((∃n e,d=.array n e)\/(∃fs,d=.struct fs))
structure eH (P:Program) (E:Env):Prop where
 tt:∀t d,E.tt t=some d->tG P t=some d
 ft:∀f fi,E.ft f=some fi->∃fn,P.funcs[f]? = some fn/\fn.body=some fi.body/\fn.ntmps=fi.ntmps/\fn.results.toList=fi.results/\(fn.name == "runtime.NumGoroutine")=false
 eqN:∀t n,E.eqN t=some n->ta P t n
structure nT (P:Program) (t:TypeId) (d:TD):Prop where
 info:∃i z,P.info? t=some i/\i.size=d.size/\i.bytes=d.bytes/\i.zero=some z/\(∀I μ,cB I μ d.zero z.cells.toList)/\d.zero.length=d.size/\d.zero.all V.one=true/\CB z=d.agg
 und:∃desc,P.underlying t=some desc/\mq desc=d.kind
theorem N4 {I:b_} {μ:Mu}:∀(l:List Value) (ys:List V),l.mapM (ofValue 4)=some ys->cB I μ ys l:=by
 intro l
 induction l with
 | nil=>intro ys h;simp at h;subst h;exact .nil
 | cons v l q=>
  intro ys h;simp only[List.mapM_cons,Option.pure_def,Option.bind_eq_bind,ζg,ζa]at h;obtain⟨y,t,u,w,rfl⟩:=h;exact .cons (.c _ _ (AJ 4 _ _ t)) (q u w)
theorem eH.ty {P:Program} {E:Env} (h:eH P E) {t:TypeId} {d:TD} (B:E.tt t=some d):nT P t d:=by
 have:=h.tt t d B;unfold tG at this;split at this
 .rename_i i desc q u;split at this
  .rename_i z w;split at this
   .rename_i C hc;split at this
    .rename_i A;simp only[ζa]at this;subst this;exact⟨⟨i,z,q,rfl,rfl,w,λI μ=>N4 _ _ hc,A⟩,⟨desc,u,rfl⟩⟩
    .simp at this
   .simp at this
  .simp at this
 .simp at this
section runs
variable {P:Program} {w:World} {t:TypeId} {d:TD}
theorem dy {desc:TypeDesc} (h:P.underlying t=some desc):(underlying t).run P w=.ok desc w:=by simp[underlying,h]
theorem oa {i:TypeInfo} (h:P.info? t=some i):(typeInfo t).run P w=.ok i w:=by simp[typeInfo,h]
theorem nT.iF (h:nT P t d):(sizeOf t).run P w=.ok d.size w:=by
 obtain⟨i,z,q,u,_⟩:=h.info;simp[sizeOf,oa q,u]
theorem nT.dy (h:nT P t d):∃desc,P.underlying t=some desc/\mq desc=d.kind/\∀w,(underlying t).run P w=.ok desc w:=by
 obtain⟨desc,h1,q⟩:=h.und;exact⟨desc,h1,q,λw=>VE.dy h1⟩
theorem nT.Cm (h:nT P t d):(isAgg t).run P w=.ok d.agg w:=by
 obtain⟨desc,h1,q⟩:=h.und;unfold isAgg;simp only[Sem.run_bind,VE.dy h1,Result.andThen_ok];cases desc <;> simp[TD.agg,<-q,mq]
theorem nT.z8 (h:nT P t d):∃z,(∀w,(zeroValue t).run P w=.ok z w)/\(∀I μ,cB I μ d.zero z.cells.toList)/\d.zero.length=d.size/\d.zero.all V.one=true:=by
 obtain⟨i,z,q,_,_,u,hr,A,h1,_⟩:=h.info;exact⟨z,λw=>by simp[zeroValue,oa q,u],hr,A,h1⟩
end runs
theorem nT.Qo {P:Program} {t:TypeId} {d:TD} (h:nT P t d):∃z,(∀w,(zeroValue t).run P w=.ok z w)/\∀I μ x,VE.mk d.agg d.zero=some x->bM I μ x z:=by
 obtain⟨i,z,C,_,_,D,hr,G,h1,q⟩:=h.info;refine⟨z,λw=>by simp[zeroValue,oa C,D],λI μ x A=>?_⟩
 have u:=hr I μ
 cases B:d.agg with
 | true=>
  rw[B]at A q;cases z <;> simp[CB]at q;simp only[VE.mk,if_true,ζa]at A;subst A;exact .EX (by simpa [Value.cells]using u)
 | false=>
  rw[B]at A q;simp only[VE.mk,Bool.false_eq_true,if_false]at A;split at A
  .rename_i v hv;simp only[ζa]at A;subst A;rw[hv]at u;have e:z.cells.toList=[z]:=by cases z <;> first|rfl|simp[CB]at q
   rw[e]at u;exact u.2 0 _ _ rfl rfl
  .simp at A
theorem fB {E:Env} {t:TypeId} {k:TK} (h:E.dB t=some k):∃d,E.tt t=some d/\d.kind=k:=by
 unfold Env.dB at h;simpa [ζf]using h
theorem Gp {d:TypeDesc} {k:IntKind} (h:mq d=.int k):d=.int k:=by cases d <;> simp_all [mq]
theorem IB {d:TypeDesc} (h:mq d=.bool):d=.bool:=by cases d <;> simp_all [mq]
theorem Cz {d:TypeDesc} (h:mq d=.str):d=.string:=by cases d <;> simp_all [mq]
theorem jP {d:TypeDesc} {e:TypeId} (h:mq d=.slice e):d=.slice e:=by cases d <;> simp_all [mq]
theorem Bt {d:TypeDesc} {n:Nat} {e:TypeId} (h:mq d=.array n e):d=.array n e:=by cases d <;> simp_all [mq]
theorem zL {d:TypeDesc} {k e:TypeId} (h:mq d=.map k e):d=.map k e:=by cases d <;> simp_all [mq]
theorem zY {d:TypeDesc} {fs:List (Nat×TypeId)} (h:mq d=.struct fs):∃B,d=.struct B/\fs=B.toList.map λf=>(f.offset,f.type):=by
 cases d <;> simp_all [mq]
theorem Af {I:b_} {μ:Mu} {cs r:List V} {vs:List Value} {off n:Nat} (h:cB I μ cs vs) (hc:cut cs off n=some r) :
 cB I μ r ((vs.drop off).take n)/\r.length=n/\off+n<=cs.length\/(n=0/\r=[]):=by
 unfold cut at hc;simp only at hc;split at hc
 .rename_i q;simp only[ζa]at hc;subst hc
  by_cases t:n=0
  .right;subst t;simp
  .left;refine⟨(h.drop off).take n,q,?_⟩;simp at q;omega
 .simp at hc
theorem Mn {I:b_} {μ:Mu} {cs:List V} {x:V} {vs:Array Value} (h:mk true cs=some x) (r:cB I μ cs vs.toList):bM I μ x (.agg vs):=by
 simp only[mk,if_true,ζa]at h;subst h;exact .EX r
theorem mk_one {I:b_} {μ:Mu} {cs:List V} {x:V} {vs:List Value} (h:mk false cs=some x) (r:cB I μ cs vs):∃v,vs=[v]/\bM I μ x v:=by
 simp only[mk,Bool.false_eq_true,if_false]at h;split at h
 .simp only[ζa]at h;subst h;obtain⟨v,q,rfl,hv,hr⟩:=r.cons_inv;exact⟨v,by rw[hr.vj],hv⟩
 .simp at h
theorem Gj {P:Program} {w:World} {I:b_} {μ:Mu} {t:TypeId} {d:TD} {cs r:List V} {vs:Array Value} {x:V} {off:Nat} (D:nT P t d) (h:cB I μ cs vs.toList)
 (hc:cut cs off d.size=some r) (B:mk d.agg r=some x):∃u,(part t vs off).run P w=.ok u w/\bM I μ x u:=by
 unfold part;simp only[Sem.run_bind,D.Cm,Result.andThen_ok]
 cases q:d.agg with
 | true=>
  rw[q]at B;refine⟨.agg (vs.extract off (off+d.size)),by simp[D.iF],?_⟩
  refine Mn B ?_;have e:(vs.extract off (off+d.size)).toList=(vs.toList.drop off).take d.size:=by simp
  rw[e];rcases Af h hc with⟨a,_⟩|⟨h0,rfl⟩
  .exact a
  .rw[h0];exact .nil
 | false=>
  rw[q]at B;rcases Af h hc with⟨a,C,_⟩|⟨h0,rfl⟩
  .obtain⟨v,hv,z⟩:=mk_one B a;refine⟨v,?_,z⟩;have A:d.size=1:=by
    have:=a.1;rw[hv]at this;simp at this;omega
   rw[A]at hv;have:vs[off]? = some v:=by
    have:=congrArg (·[0]?) hv;simpa [List.getElem?_take,List.getElem?_drop]using this
   simp[this]
  .simp[mk]at B
theorem Jb {I:b_} {μ:Mu}:∀(az:List V) (a:List Int) (B:List Value),iC az=some a->cB I μ az B->B=a.map (Value.int .i64)/\a.length=az.length:=by
 intro az
 induction az with
 | nil=>intro a B h q;simp only[iC,ζa]at h;subst h;rw[q.vj];simp
 | cons x az t=>
  intro a B h q;obtain⟨v,B,rfl,hv,hr⟩:=q.cons_inv;have u:∃y,x=.int .i64 y:=by
   cases x with
   | int k y=>cases k <;> simp[iC]at h ⊢
   | _=>simp[iC]at h
  obtain⟨y,rfl⟩:=u;simp only[iC,ζf]at h;obtain⟨b,w,rfl⟩:=h;obtain⟨g1,g2⟩:=t _ _ w hr;have:=hv.fN;subst this;exact⟨by simp[g1],by simp[g2]⟩
theorem qa {I:b_} {μ:Mu} {az:List V} {a:List Int} {B:Array Value} (h:iC az=some a) (D:cB I μ az B.toList):B=ic a/\a.length=az.length:=by
 obtain⟨h1,q⟩:=Jb _ _ _ h D;refine⟨?_,q⟩;have:=congrArg List.toArray h1;simpa [ic]using this
theorem xd {az B:List V} {r:Bool} (h:kD az B=some r):∃a b,iC az=some a/\iC B=some b/\a.length=b.length/\r=(a==b):=by
 unfold kD at h;split at h
 .rename_i a b h1 q;split at h
  .rename_i t;simp only[ζa]at h;exact⟨a,b,h1,q,t,h.symm⟩
  .simp at h
 .simp at h
end Go.VE
namespace Go.VE
variable [bX]
section
variable {P:Program} {E:Env} {I:b_} {μ:Mu} {n:Nat} {F:Frame} {a:Act} {w:World}
theorem KY (f:BinOp) (t:TypeId) (p q:Operand) (k B:IntKind) (m m':Int):(eqGuard f t p q (.int k m) (.int B m')).run P w=.ok () w:=by
 unfold eqGuard;cases f <;> simp
theorem LG (f:BinOp) (t:TypeId) (p q:Operand) (s B:ByteArray):(eqGuard f t p q (.string s) (.string B)).run P w=.ok () w:=by
 unfold eqGuard;cases f <;> simp
theorem J9 (f:BinOp) (t:TypeId) (p q:Operand) (s B:Bool):(eqGuard f t p q (.bool s) (.bool B)).run P w=.ok () w:=by
 unfold eqGuard;cases f <;> simp
theorem Fb (d:Nat) {t:TypeId} (x y:Bool) (h:P.underlying t=some .bool):(Op.equalIn (d+1) t (.bool x) (.bool y)).run P w=.ok (x==y) w:=by
 simp only[Op.equalIn,Sem.run_bind,dy h,Result.andThen_ok,Sem.run_pure]
theorem Ce {t:TypeId} (x y:Bool) (h:P.underlying t=some .bool):(Op.equal t (.bool x) (.bool y)).run P w=.ok (x==y) w:=
 Fb 9999 x y h
theorem A2 (d:Nat) {t:TypeId} {k:IntKind} (x y:Int) (h:P.underlying t=some (.int k)):(Op.equalIn (d+1) t (.int k x) (.int k y)).run P w=.ok (x==y) w:=by
 simp only[Op.equalIn,Sem.run_bind,dy h,Result.andThen_ok,Sem.run_pure,if_true]
theorem ED (d:Nat) {t e:TypeId} (B:Option Addr) (l c:Nat) (h:P.underlying t=some (.slice e)):(Op.equalIn (d+1) t (.slice B l c) (.slice none 0 0)).run P w=.ok B.isNone w:=by
 cases B <;> simp only[Op.equalIn,Sem.run_bind,dy h,Result.andThen_ok,Sem.run_pure] <;> rfl
theorem HT (d:Nat) {t e:TypeId} (B:Option Addr) (h:P.underlying t=some (.pointer e)):(Op.equalIn (d+1) t (.pointer B) (.pointer none)).run P w=.ok B.isNone w:=by
 cases B <;> simp only[Op.equalIn,Sem.run_bind,dy h,Result.andThen_ok,Sem.run_pure] <;> rfl
theorem HH (d:Nat) {t e D:TypeId} (B:Option Nat) (h:P.underlying t=some (.map e D)):(Op.equalIn (d+1) t (.map B) (.map none)).run P w=.ok B.isNone w:=by
 cases B <;> simp only[Op.equalIn,Sem.run_bind,dy h,Result.andThen_ok,Sem.run_pure] <;> rfl
theorem Ed (U:eH P E) {t:TypeId} {k:TK} {x y:V} {u v:Value} {b:Bool} (hk:E.dB t=some k) (h:uA k x y=some b) (B:bM I μ x u) (D:bM I μ y v) :
 (Op.equal t u v).run P w=.ok b w/\(∀op p q,(eqGuard op t p q u v).run P w=.ok () w)/\binOp .eql t u v=(do pure (.bool (<-Op.equal t u v)))/\binOp .neq t u v=(do pure (.bool (!(<-Op.equal t u v)))):=by
 obtain⟨d,Q,J⟩:=fB hk;obtain⟨desc,h1,A,_⟩:=(U.ty Q).dy;rw[J]at A;have hsl:∀(e:TypeId) (z:Option Addr) (l c:Nat),P.underlying t=some (.slice e)->b=z.isNone ->
  (Op.equal t (.slice z l c) (.slice none 0 0)).run P w=.ok b w/\(∀op p q,(eqGuard op t p q (.slice z l c) (.slice none 0 0)).run P w=.ok () w)/\binOp .eql t (.slice z l c) (.slice none 0 0)=(do pure (.bool (<-Op.equal t (.slice z l c) (.slice none 0 0))))/\binOp .neq t (.slice z l c) (.slice none 0 0)=(do pure (.bool (!(<-Op.equal t (.slice z l c) (.slice none 0 0))))):=by
  intro e z l c hu H;refine⟨?_,λop p q=>by unfold eqGuard;cases op <;> simp,rfl,rfl⟩
  rw[H];exact ED 9999 z l c hu
 have C:∀(e:TypeId) (z:Option Addr),P.underlying t=some (.pointer e)->b=z.isNone ->
  (Op.equal t (.pointer z) (.pointer none)).run P w=.ok b w/\(∀op p q,(eqGuard op t p q (.pointer z) (.pointer none)).run P w=.ok () w)/\binOp .eql t (.pointer z) (.pointer none)=(do pure (.bool (<-Op.equal t (.pointer z) (.pointer none))))/\binOp .neq t (.pointer z) (.pointer none)=(do pure (.bool (!(<-Op.equal t (.pointer z) (.pointer none))))):=by
  intro e z hu H;refine⟨?_,λop p q=>by unfold eqGuard;cases op <;> simp,rfl,rfl⟩
  rw[H];exact HT 9999 z hu
 have G:∀(e O:TypeId) (z:Option Nat),P.underlying t=some (.map e O)->b=z.isNone ->
  (Op.equal t (.map z) (.map none)).run P w=.ok b w/\(∀op p q,(eqGuard op t p q (.map z) (.map none)).run P w=.ok () w)/\binOp .eql t (.map z) (.map none)=(do pure (.bool (<-Op.equal t (.map z) (.map none))))/\binOp .neq t (.map z) (.map none)=(do pure (.bool (!(<-Op.equal t (.map z) (.map none))))):=by
  intro e O z hu H;refine⟨?_,λop p q=>by unfold eqGuard;cases op <;> simp,rfl,rfl⟩
  rw[H];exact HH 9999 z hu
 unfold uA at h;split at h <;> (try (simp only[ζa]at h;subst h))
 .have:=jP A;subst this;rw[B.lS,D.lS];exact hsl _ none 0 0 h1 rfl
 .have:=jP A;subst this;rw[D.lS];have S:=B.lX
  cases S with
  | fsl0 _ z cap=>exact hsl _ _ _ _ h1 rfl
  | fsl=>exact hsl _ _ _ _ h1 rfl
 .have:=jP A;subst this;rw[D.lS];rcases B.lV with⟨p,cap,_,_,_,_,L⟩|⟨_,z,L⟩
  .rw[L];exact hsl _ _ _ _ h1 rfl
  .rw[L];exact hsl _ _ _ _ h1 rfl
 .obtain⟨e,rfl⟩:∃e,desc=.pointer e:=by cases desc <;> simp_all [mq]
  cases B with|c _ _ B=>cases B;cases D with|c _ _ D=>cases D;exact C _ none h1 rfl
 .obtain⟨e,rfl⟩:∃e,desc=.pointer e:=by cases desc <;> simp_all [mq]
  cases D with|c _ _ D=>cases D;cases B with|c _ _ B=>cases B;exact C _ _ h1 rfl
 .obtain⟨e,rfl⟩:∃e,desc=.pointer e:=by cases desc <;> simp_all [mq]
  cases D with
  | c _ _ D=>
   cases D
   cases B with
   | c _ _ B=>cases B
   | hptr=>exact C _ _ h1 rfl
 .have:=zL A;subst this;cases B with|c _ _ B=>cases B;cases D with|c _ _ D=>cases D;exact G _ _ none h1 rfl
 .have:=zL A;subst this;cases D with|c _ _ D=>cases D;cases B with|c _ _ B=>cases B;exact G _ _ _ h1 rfl
 .have:=zL A;subst this
  cases D with
  | c _ _ D=>
   cases D
   cases B with
   | c _ _ B=>cases B
   | hmap=>exact G _ _ _ h1 rfl
 .cases h
theorem QA (G:eH P E) {op:BinOp} {t:TypeId} {x y z:V} {u v:Value} (p q:Operand) (h:Hq E op t x y=some z) (J:bM I μ x u) (O:bM I μ y v) :
 ∃r,(do eqGuard op t p q u v;binOp op t u v).run P w=.ok r w/\bM I μ z r:=by
 unfold Hq at h;split at h
 .
  rename_i k m Z m';rw[J.fN,O.fN];simp only[Sem.run_bind,KY,Result.andThen_ok];split at h
  .
   split at h
   .simp at h
   .rename_i A;simp only[ζa]at h;subst h;exact⟨_,by simp[binOp,Op.shift,A],.c _ _ (.int _ _)⟩
  .split at h
   .simp at h
   .rename_i A;simp only[ζa]at h;subst h;exact⟨_,by simp[binOp,Op.shift,A],.c _ _ (.int _ _)⟩
  .split at h
   .rename_i S T hk;subst hk
    cases op with
    | shl=>exact absurd rfl S
    | shr=>exact absurd rfl T
    | add=>simp only[ζa]at h;subst h;exact⟨_,by simp[binOp,Op.intArith],.c _ _ (.int _ _)⟩
    | sub=>simp only[ζa]at h;subst h;exact⟨_,by simp[binOp,Op.intArith],.c _ _ (.int _ _)⟩
    | mul=>simp only[ζa]at h;subst h;exact⟨_,by simp[binOp,Op.intArith],.c _ _ (.int _ _)⟩
    | quo=>
     simp only at h;split at h
     .simp at h
     .rename_i A;simp only[ζa]at h;subst h;exact⟨_,by simp[binOp,Op.intDiv,A],.c _ _ (.int _ _)⟩
    | rem=>
     simp only at h;split at h
     .simp at h
     .rename_i A;simp only[ζa]at h;subst h;exact⟨_,by simp[binOp,Op.intDiv,A],.c _ _ (.int _ _)⟩
    | and=>simp only[ζa]at h;subst h;exact⟨_,by simp[binOp,Op.intBits],.c _ _ (.int _ _)⟩
    | or=>simp only[ζa]at h;subst h;exact⟨_,by simp[binOp,Op.intBits],.c _ _ (.int _ _)⟩
    | xor=>simp only[ζa]at h;subst h;exact⟨_,by simp[binOp,Op.intBits],.c _ _ (.int _ _)⟩
    | andNot=>simp only[ζa]at h;subst h;exact⟨_,by simp[binOp,Op.intBits],.c _ _ (.int _ _)⟩
    | eql=>simp only[nZ,Option.map_some,ζa]at h;subst h;exact⟨_,by simp[binOp,Op.intCmp],.c _ _ (.bool _)⟩
    | neq=>simp only[nZ,Option.map_some,ζa]at h;subst h;exact⟨_,by simp[binOp,Op.intCmp],.c _ _ (.bool _)⟩
    | lss=>simp only[nZ,Option.map_some,ζa]at h;subst h;exact⟨_,by simp[binOp,Op.intCmp],.c _ _ (.bool _)⟩
    | leq=>simp only[nZ,Option.map_some,ζa]at h;subst h;exact⟨_,by simp[binOp,Op.intCmp],.c _ _ (.bool _)⟩
    | gtr=>simp only[nZ,Option.map_some,ζa]at h;subst h;exact⟨_,by simp[binOp,Op.intCmp],.c _ _ (.bool _)⟩
    | geq=>simp only[nZ,Option.map_some,ζa]at h;subst h;exact⟨_,by simp[binOp,Op.intCmp],.c _ _ (.bool _)⟩
   .simp at h
 .
  rename_i s s';rw[J.tB,O.tB];simp only[Sem.run_bind,LG,Result.andThen_ok];split at h
  .split at h
   .simp at h
   .rename_i A;simp only[ζa]at h;subst h;exact⟨_,by simp only[binOp,Op.stringOp];rw[if_neg A];rfl,.c _ _ (.str _)⟩
  all_goals first
   | (simp only[ζa]at h;subst h;exact⟨_,by simp[binOp,Op.stringOp],.c _ _ (.bool _)⟩)
   | simp at h
 .
  rename_i b b';rw[J.qY,O.qY];simp only[Sem.run_bind,J9,Result.andThen_ok];split at h
  .rename_i hk;obtain⟨d,U,C⟩:=fB hk;obtain⟨desc,h1,B,_⟩:=(G.ty U).dy;rw[C]at B;have:=IB B;subst this;simp only[ζa]at h;subst h;exact⟨_,by simp only[binOp,Sem.run_bind,Ce _ _ h1,Result.andThen_ok,Sem.run_pure],.c _ _ (.bool _)⟩
  .rename_i hk;obtain⟨d,U,C⟩:=fB hk;obtain⟨desc,h1,B,_⟩:=(G.ty U).dy;rw[C]at B;have:=IB B;subst this;simp only[ζa]at h;subst h;exact⟨_,by simp only[binOp,Sem.run_bind,Ce _ _ h1,Result.andThen_ok,Sem.run_pure],.c _ _ (.bool _)⟩
  .simp at h
 .
  rename_i az bs;obtain⟨va,rfl,H⟩:=J.iK;obtain⟨vb,rfl,L⟩:=O.iK;split at h
  .rename_i m D;split at h
   .rename_i Y;simp only[ζf]at h;obtain⟨r,hr,rfl⟩:=h;obtain⟨W,X,h1,B,Q,rfl⟩:=xd hr;obtain⟨rfl,e1⟩:=qa h1 H;obtain⟨rfl,e2⟩:=qa B L;exact⟨_,(G.eqN _ _ D).eq w p q W X (by omega) (by omega),.c _ _ (.bool _)⟩
   .simp at h
  .rename_i m D;split at h
   .rename_i Y;simp only[ζf]at h;obtain⟨r,hr,rfl⟩:=h;obtain⟨W,X,h1,B,Q,rfl⟩:=xd hr;obtain⟨rfl,e1⟩:=qa h1 H;obtain⟨rfl,e2⟩:=qa B L;exact⟨_,(G.eqN _ _ D).ne w p q W X (by omega) (by omega),.c _ _ (.bool _)⟩
   .simp at h
  .simp at h
 .
  split at h
  .rename_i k hk;simp only[ζf]at h;obtain⟨b,A,rfl⟩:=h;obtain⟨h1,B,Q,_⟩:=Ed (w:=w) G hk A J O;exact⟨.bool b,by rw[Sem.run_bind,B,Q];simp[Result.andThen,h1],.c _ _ (.bool _)⟩
  .rename_i k hk;simp only[ζf]at h;obtain⟨b,A,rfl⟩:=h;obtain⟨h1,B,_,Q⟩:=Ed (w:=w) G hk A J O;exact⟨.bool !b,by rw[Sem.run_bind,B,Q];simp[Result.andThen,h1],.c _ _ (.bool _)⟩
  .simp at h
end
end Go.VE
namespace Go.VE
variable [bX]
section
variable {P:Program} {E:Env} {I:b_} {μ:Mu} {n:Nat} {F:Frame} {a:Act} {w:World}
theorem HA (off:Nat):∀(l:List Value) (k:Nat) (cells:Array Value),off+k+l.length<=cells.size ->
 ((l.zipIdx k).foldl (λcs (p:Value×Nat)=>cs.setIfInBounds (off+p.2) p.1) cells).toList=cells.toList.take (off+k)++l++cells.toList.drop (off+k+l.length):=by
 intro l
 induction l with
 | nil=>simp_all
 | cons v l q=>
  intro k cells h;simp  at h;simp;rw[q (k+1) _ (by simp;omega)]
  simp;rw[show off+(k+1)=off+k+1 from by omega,List.take_succ_eq_append_getElem (by grind)]
  rw[List.take_set_of_le (by omega),List.getElem_set_self]
  rw[List.drop_set_of_lt (by omega)]
  grind
theorem JK {cs xs:List V} {cells:Array Value} {v:Value} {off:Nat} (h:cB I μ cs cells.toList) (B:cB I μ xs v.cells.toList) (D:off+xs.length<=cs.length) :
 cB I μ (cs.take off++xs++cs.drop (off+xs.length)) (v.cells.zipIdx.foldl (λcs (p:Value×Nat)=>cs.setIfInBounds (off+p.2) p.1) cells).toList:=by
 have e:v.cells.zipIdx.foldl (λcs p=>cs.setIfInBounds (off+p.2) p.1) cells=(v.cells.toList.zipIdx 0).foldl (λcs p=>cs.setIfInBounds (off+p.2) p.1) cells:=by
  rw[<-Array.foldl_toList];simp
 have h1:=h.1;have q:=B.1;rw[e,HA off _ 0 _ (by grind)]
 rw[<-q];exact((h.take off).append B).append (h.drop _)
theorem A7 {place place':Nat->Option (Nat×Nat)} (J:∀i p,place i=some p->place' i=some p):∀(vs:List (Nat×V)) (B:List (Nat×Value)) (cs r:List V) (cells:Array Value),
 vs.length=B.length->(∀(j:Nat) x y,vs[j]? = some x->B[j]? = some y->x.1=y.1/\bM I μ x.2 y.2)->cB I μ cs cells.toList->tS place cs vs=some r ->
 ∃D,Instr.fill place' cells B=some D/\cB I μ r D.toList:=by
 intro vs
 induction vs with
 | nil=>
  intro B cs r cells G _ hc u
  cases B with
  | nil=>simp[tS]at u;subst u;exact⟨cells,rfl,hc⟩
  | cons _ _=>simp_all
 | cons x vs L=>
  intro B cs r cells G hr hc u
  cases B with
  | nil=>simp_all
  | cons y B=>
   obtain⟨i,x⟩:=x;obtain⟨O,y⟩:=y;obtain⟨z,w⟩:=hr 0 (i,x) (O,y) rfl rfl;subst z;simp only at w;simp only[tS]at u;split at u
   .simp at u
   .rename_i off size A;split at u
    .simp at u
    .rename_i Q;have t:=w.cells;have H:x.cells.length=y.cells.size:=by simpa using t.1
     have S:cs.length=cells.size:=by simpa using hc.1
     have C:¬(decide (y.cells.size≠size)||decide (off+y.cells.size>cells.size))=true:=by
      grind
     simp  at Q;obtain⟨D,h1,T⟩:=L B _ r _ (by simpa using G) (λj a b p q=>hr (j+1) a b (by simpa using p) (by simpa using q)) (JK hc t (by omega)) u
     refine⟨D,?_,T⟩;simp only[Instr.fill,J _ _ A];rw[if_neg C];omega
theorem K5 (ps:Array (Nat×Operand)) (f:Operand->Value):(ps.map λ(i,x)=>(i,f x)).toList=ps.toList.map λp=>(p.1,f p.2):=by simp
theorem DU {ps:Array (Nat×Operand)} {vs:List (Nat×V)} (r:ei I μ n F a.tmps) (h:mb F ps.toList=some vs) :
 vs.length=(ps.map λ(i,x)=>(i,a.eval x)).toList.length/\∀(j:Nat) x y,vs[j]? = some x->(ps.map λ(i,x)=>(i,a.eval x)).toList[j]? = some y->x.1=y.1/\bM I μ x.2 y.2:=by
 obtain⟨q,hr⟩:=KI r h;rw[K5]
 grind
theorem L_ (D:eH P E):∀(B:List Field) (pl:List (Nat×Nat)),mT E (B.map λf=>(f.offset,f.type))=some pl ->
 ((B.mapM λf=>do pure (f.offset,<-sizeOf f.type)):Sem (List (Nat×Nat))).run P w=.ok pl w:=by
 intro B
 induction B with
 | nil=>intro pl h;simp[mT]at h;simp_all
 | cons f B t=>
  intro pl h;simp[mT]at h;split at h
  .rename_i d z u q;simp  at h;subst h;have:=t _ q;simp only[List.mapM_cons,Sem.run_bind,(D.ty u).iF,Result.andThen_ok,Sem.run_pure,this]
  grind
theorem Ky (D:eH P E) (B:Array Field) (pl:List (Nat×Nat)) (h:mT E (B.toList.map λf=>(f.offset,f.type))=some pl) :
 ((B.mapM λf=>do pure (f.offset,<-sizeOf f.type)):Sem (Array (Nat×Nat))).run P w=.ok pl.toArray w:=by
 rw[Array.mapM_eq_mapM_toList];simp only[Sem.run_map,L_ D _ _ h,Result.andThen_ok]
theorem Nc (B:eH P E) (r:ei I μ n F a.tmps) {t:TypeId} {ps:Array (Nat×Operand)} {x:V} (h:bR E F (.build t ps)=some x) :
 ∃v,(Instr.build t (ps.map λ(i,x)=>(i,a.eval x))).run P w=.ok v w/\bM I μ x v:=by
 simp[bR]at h;split at h
 .rename_i d L O A;obtain⟨Q,hr⟩:=DU r A;obtain⟨z,T,q,_⟩:=(B.ty O).z8;obtain⟨desc,h1,u,U⟩:=(B.ty O).dy;unfold Instr.build;simp[Sem.run_bind,T,U,Result.andThen_ok];split at h
  .rename_i fs hk;rw[hk]at u;obtain⟨W,rfl,rfl⟩:=zY u;split at h
   .rename_i pl C;simp  at h;obtain⟨D,G,rfl⟩:=h;obtain⟨H,g1,g2⟩:=A7 (place':=λi=>pl.toArray[i]?) (by grind) L _ d.zero D z.cells Q hr (q I μ) G
    refine⟨.agg H,?_,.EX g2⟩;have:=Ky (w:=w) B W pl C;simp_all
   grind
  .rename_i e hk;rw[hk]at u;have:=Bt u;subst this;split at h
   .rename_i S J;simp  at h;obtain⟨D,G,rfl⟩:=h;obtain⟨H,g1,g2⟩:=A7 (place':=λi=>some (i*S.size,S.size)) (by grind) L _ d.zero D z.cells Q hr (q I μ) G
    refine⟨.agg H,?_,.EX g2⟩;simp[Sem.run_bind,(B.ty J).iF,Result.andThen_ok];simp_all
   grind
  grind
 grind
theorem o9 (b o k:Nat):(⟨b,o,none⟩:Addr).add k=⟨b,o+k,none⟩:=by
 unfold Addr.add;grind
theorem Eh {cs:List V} {b o:Nat} {c:Array Value} (k:Nat) (B:I b=some (.cells c)) (D:o+cs.length<=c.size)
 (hr:∀(j:Nat) y u,cs[j]? = some y->c[o+j]? = some u->eE I y u) (hk:k<=cs.length):bM I μ (.fptr (cs.drop k)) (.pointer (some ⟨b,o+k,none⟩)):=
 .c _ _ (.fptr _ b (o+k) c B (by simp;omega) λj y u h1 q=>hr (k+j) y u (by grind) (by grind))
theorem KC (G:eH P E) (r:ei I μ n F a.tmps) {s:TypeId} {o:Operand} {f:Nat} {x:V} (h:bR E F (.fieldAddr s o f)=some x) :
 ∃v,(Instr.fieldAt s (a.eval o) f).run P w=.ok v w/\bM I μ x v:=by
 simp[bR]at h;split at h
 .rename_i fs p hk L;obtain⟨d,O,A⟩:=fB hk;obtain⟨desc,h1,H,Q⟩:=(G.ty O).dy;rw[A]at H;obtain⟨S,rfl,rfl⟩:=zY H;have hv:=dg r L;split at h
  .rename_i off t J;simp  at J;obtain⟨fd,T,rfl,rfl⟩:=J;have u:S[f]? = some fd:=by grind
   split at h
   .rename_i Y B;split at h
    .simp_all
    .rename_i C;have z:∀(b q:Nat),(Instr.fieldAt s (.pointer (some ⟨b,q,none⟩)) f).run P w=.ok (.pointer (some ⟨b,q+fd.offset,none⟩)) w:=by
      intro b q;unfold Instr.fieldAt;simp[Sem.run_bind,Q,Result.andThen_ok,u,Instr.sureAddr,Sem.run_pure,fieldPlace,(G.ty B).iF,if_neg C,o9]
     split at h
     .split at h
      .rename_i D;simp  at h;subst h;obtain⟨b,q,c,e,U,W,hr⟩:=hv.lZ;rw[e];exact⟨_,z b q,Eh _ U W hr D⟩
      grind
     .rename_i id el q;simp  at h;obtain⟨p,X,e⟩:=hv.s9;rw[e];have:=bM.hptr (I:=I)  id el (q+fd.offset) p X
      grind
     grind
   grind
  grind
 grind
theorem MW (D:eH P E) (r:ei I μ n F a.tmps) {s:TypeId} {o:Operand} {f:Nat} {x:V} (h:bR E F (.field s o f)=some x) :
 ∃v,(Instr.field s (a.eval o) f).run P w=.ok v w/\bM I μ x v:=by
 simp[bR]at h;split at h
 .rename_i fs X hk J;obtain⟨d,L,A⟩:=fB hk;obtain⟨desc,h1,G,O⟩:=(D.ty L).dy;rw[A]at G;obtain⟨Q,rfl,rfl⟩:=zY G;obtain⟨Y,e,B⟩:=(dg r J).iK;rw[e];split at h
  .rename_i off t H;simp  at H;obtain⟨fd,S,rfl,rfl⟩:=H;have z:Q[f]? = some fd:=by grind
   split at h
   .rename_i Z C;simp[ζg]at h;obtain⟨q,T,U⟩:=h;obtain⟨u,hu,W⟩:=Gj (w:=w) (D.ty C) B T U;refine⟨u,?_,W⟩;unfold Instr.field;simp[Sem.run_bind,O,Result.andThen_ok,z,asAgg,Sem.run_pure,hu]
   grind
  grind
 grind
theorem lN (k:IntKind) (m:Int):(asIntOf (.int k m)).run P w=.ok (k,m) w:=rfl
theorem Kw (U:eH P E) (r:ei I μ n F a.tmps) {t:TypeId} {o i:Operand} {x:V} (h:bR E F (.indexAddr t o i)=some x) :
 ∃v,(Instr.indexAt t (a.eval o) (a.eval i)).run P w=.ok v w/\bM I μ x v:=by
 simp[bR]at h;split at h
 .
  rename_i e s k m hk T W;obtain⟨d,X,D⟩:=fB hk;obtain⟨desc,h1,L,Y⟩:=(U.ty X).dy;rw[D]at L;have:=jP L;subst this;have hv:=dg r T;have G:=(dg r W).fN;rw[G];split at h
  .rename_i Q H;split at h
   .simp_all
   .have A:∀(b z len cap:Nat),m.toNat<len->(Instr.indexAt t (.slice (some ⟨b,z,none⟩) len cap) (.int k m)).run P w=.ok (.pointer (some ⟨b,z+m.toNat*Q.size,none⟩)) w:=by
     intro b z len cap B;unfold Instr.indexAt;have hc:0<=m/\m<(len):=by omega
     simp[Sem.run_bind,lN,Y,Result.andThen_ok,Sem.run_pure,(U.ty H).iF,Sem.run_ite,if_pos hc,o9]
    split at h
    .rename_i es Z;split at h
     .rename_i C;simp only[ζf]at h;obtain⟨S,J,rfl⟩:=h;have B:m.toNat<Z.length:=(ζe.1 J).1;have hf:=hv.lX;generalize hg:a.eval o=g at hf
      cases hf with
      | fsl0=>simp_all
      | fsl _ _ b z cap c hI hc hu ho hb hr=>
       refine⟨_,A b z _ _ B,?_⟩;have O:S∈Z:=List.mem_of_getElem? J;have ad:=hu S O;have aa:(m.toNat+1)*es<=Z.length*es:=Nat.mul_le_mul_right _ B;rw[Nat.add_mul]at aa;rw[<-C];exact .c _ _ (.fptr S b _ c hI (by omega) λj y u p q=>hr m.toNat j S y u J p q)
     grind
    .rename_i id es off len;split at h
     .rename_i C;simp only[ζa]at h;obtain⟨C,B⟩:=C;rcases hv.lV with⟨p,cap,hm,he,hc,hb,e⟩|⟨h0,_⟩
      .rw[e];have:=bM.hptr (I:=I) (μ:=μ) id (off+m.toNat) 0 p hm
       grind
      omega
     grind
    grind
  grind
 .
  rename_i len e p k m hk T W;obtain⟨d,X,D⟩:=fB hk;obtain⟨desc,h1,L,Y⟩:=(U.ty X).dy;rw[D]at L;have:=Bt L;subst this;have hv:=dg r T;have G:=(dg r W).fN;rw[G];split at h
  .rename_i Q H;split at h
   .rename_i hc;have A:∀(b z:Nat),(Instr.indexAt t (.pointer (some ⟨b,z,none⟩)) (.int k m)).run P w=.ok (.pointer (some ⟨b,z+m.toNat*Q.size,none⟩)) w:=by
     intro b z;unfold Instr.indexAt;simp only[Sem.run_bind,lN,Y,Result.andThen_ok,Sem.run_pure,Instr.sureAddr,(U.ty H).iF,Sem.run_ite,if_pos hc,o9]
    split at h
    .split at h
     .rename_i ab;simp only[ζa]at h;subst h;obtain⟨b,z,c,e,hI,hb,hr⟩:=hv.lZ;rw[e];exact⟨_,A b z,Eh _ hI hb hr ab⟩
     grind
    .rename_i id el z;simp only[ζa]at h;obtain⟨p,hm,e⟩:=hv.s9;rw[e];have:=bM.hptr (I:=I) (μ:=μ) id el (z+m.toNat*Q.size) p hm
     grind
    grind
   grind
  grind
 grind
end
end Go.VE
namespace Go.VE
variable [bX]
section
variable {P:Program} {E:Env} {I:b_} {μ:Mu} {n:Nat} {F:Frame} {a:Act} {w:World}
theorem OP (D:eH P E) (r:ei I μ n F a.tmps) {t:TypeId} {o i:Operand} {x:V} (h:bR E F (.index t o i)=some x) :
 ∃v,(Instr.index t (a.eval o) (a.eval i)).run P w=.ok v w/\bM I μ x v:=by
 simp[bR]at h;split at h
 .rename_i s k m hk C G;obtain⟨d,H,z⟩:=fB hk;obtain⟨desc,h1,A,J⟩:=(D.ty H).dy;rw[z]at A;have:=Cz A;subst this;rw[(dg r G).fN,(dg r C).tB];split at h
  .rename_i hc;simp  at h;obtain⟨b,O,rfl⟩:=h;refine⟨.int .u8 b.toNat,?_,.c _ _ (.int _ _)⟩;unfold Instr.index;simp[Sem.run_bind,lN,J,Result.andThen_ok,if_pos hc,O,Sem.run_pure]
  grind
 .rename_i len e U k m hk C G;obtain⟨d,H,z⟩:=fB hk;obtain⟨desc,h1,A,J⟩:=(D.ty H).dy;rw[z]at A;have:=Bt A;subst this;obtain⟨W,ev,L⟩:=(dg r C).iK;rw[(dg r G).fN,ev];split at h
  .rename_i X B;split at h
   .rename_i hc;simp[ζg]at h;obtain⟨q,Q,S⟩:=h;obtain⟨u,hu,T⟩:=Gj (w:=w) (D.ty B) L Q S;refine⟨u,?_,T⟩;unfold Instr.index;simp[Sem.run_bind,lN,J,Result.andThen_ok,Sem.run_ite,if_pos hc,(D.ty B).iF,hu]
   grind
  grind
 grind
theorem JR (B:eH P E) (r:ei I μ n F a.tmps) {s d:TypeId} {o:Operand} {x:V} (h:bR E F (.convert s d o)=some x) :
 ∃v,(convert s d (a.eval o)).run P w=.ok v w/\bM I μ x v:=by
 simp[bR]at h;split at h
 .rename_i C D k m t u z;split at h
  .rename_i G hk;simp  at h;subst h;obtain⟨H,g1,_,g3⟩:=(B.ty t).dy;obtain⟨J,h1,q,A⟩:=(B.ty u).dy;rw[hk]at q;have:=Gp q;subst this;rw[(dg r z).fN];refine⟨_,?_,.c _ _ (.int _ _)⟩;unfold convert;simp[Sem.run_bind,g3,A,Result.andThen_ok,Conv.intToInt,Sem.run_pure]
  grind
 grind
theorem pg (r:ei I μ n F a.tmps) {o:Option Operand} {m:Option Int} (h:jM F o=some m) :
 (m=none/\o.map a.eval=none)\/∃k z,m=some z/\o.map a.eval=some (.int k z):=by
 cases o with
 | none=>simp[jM]at h;grind
 | some x=>
  simp[jM]at h;split at h
  .rename_i k z q;simp  at h;subst h;exact .inr ⟨k,z,rfl,by simp[(dg r q).fN]⟩
  grind
theorem mz (k:IntKind) (z:Int) (y:Nat) (code:BoundsCode) (h0:0<=z) (h1:z<=y):(Instr.sliceBound (.int k z) y code).run P w=.ok z.toNat w:=by
 unfold Instr.sliceBound;simp[Sem.run_bind,lN,Result.andThen_ok,if_pos (And.intro h0 h1),Sem.run_pure]
theorem lW (r:ei I μ n F a.tmps) {G J:Option Operand} {l h:Option Int} (e1:jM F G=some l) (e2:jM F J=some h) (D:Bool) (len cap L H:Nat) (hc:len<=cap)
 (B:dN len l h=some (L,H)):(Instr.sliceBounds D len cap (G.map a.eval) (J.map a.eval) none).run P w=.ok (L,H,cap) w/\L<=H/\H<=len:=by
 unfold dN at B;simp only at B;split at B
 .rename_i q;obtain⟨rfl,rfl⟩:=B;obtain⟨z,Q,A,S⟩:=q;refine⟨?_,by omega,by omega⟩
  unfold Instr.sliceBounds;rcases pg r e1 with⟨rfl,C⟩|⟨k1,u,rfl,C⟩ <;> rcases pg r e2 with⟨rfl,O⟩|⟨k2,t,rfl,O⟩ <;>
   simp only[C,O,Option.getD_some]at z Q A S ⊢
  .simp_all
  .simp only[Sem.run_pure,Result.andThen_ok,Sem.run_bind,mz k2 t _ _ z (show t<=cap by omega)]
   simp
  .simp only[Sem.run_pure,Result.andThen_ok,Sem.run_bind,mz k1 u _ _ A (show u<=len by omega)]
   simp
  .simp[Sem.run_pure,Result.andThen_ok,Sem.run_bind,mz k2 t _ _ z (show t<=cap by omega),mz k1 u _ _ A (show u<=t.toNat by omega)]
 grind
theorem C2 {es:Nat} {xs:List (List V)} {v:Value} {L H:Nat} (h:eE I (.fsl es xs) v) (h1:L<=H) (D:H<=xs.length) :
 ∃B len cap,v=.slice B len cap/\len=xs.length/\len<=cap/\eE I (.fsl es ((xs.take H).drop L)) (.slice (if cap=L then B else B.map (·.add (L*es))) (H-L) (cap-L)):=by
 cases h with
 | fsl0 _ B cap=>
  simp at D;have u:L=0:=by omega
  subst D;subst u;refine⟨some B,0,cap,rfl,rfl,Nat.zero_le _,?_⟩;have:=eE.fsl0 (I:=I) es B cap;split
  .grind
  .simpa [Addr.add]using eE.fsl0  es (B.add (0*es)) cap
 | fsl _ _ b o cap c w hc hu z C hr=>
  refine⟨_,_,cap,rfl,rfl,hc,?_⟩;have q:((xs.take H).drop L).length=H-L:=by simp_all
  by_cases A:H-L=0
  .have:(xs.take H).drop L=[]:=List.eq_nil_of_length_eq_zero (by grind)
   rw[this,A];split
   .exact .fsl0 es _ _
   .exact .fsl0 es _ _
  .simp[o9];have e:eE I (.fsl es ((xs.take H).drop L)) (.slice (some ⟨b,o+L*es,none⟩) ((xs.take H).drop L).length (cap-L)):=by
    refine .fsl es _ b (o+L*es) (cap-L) c w (by grind) (λx t=>hu x (List.mem_of_mem_take (List.mem_of_mem_drop t))) (λx t=>z x (List.mem_of_mem_take (List.mem_of_mem_drop t))) ?_ ?_
    .rw[q];have:L*es+(H-L)*es<=xs.length*es:=by rw[<-Nat.add_mul];exact Nat.mul_le_mul_right _ (by omega)
     omega
    grind
   grind
theorem Oy (hE:eH P E) (r:ei I μ n F a.tmps) {t:TypeId} {o:Operand} {lo hi Y:Option Operand} {x:V} (h:bR E F (.slice t o lo hi Y)=some x) :
 ∃v,(Instr.sliceAt t (a.eval o) (lo.map a.eval) (hi.map a.eval) (Y.map a.eval)).run P w=.ok v w/\bM I μ x v:=by
 simp[bR]at h;split at h
 .
  rename_i s l hh hk ho T B Q;obtain⟨d,hd,S⟩:=fB hk;obtain⟨desc,h1,X,h3⟩:=(hE.ty hd).dy;rw[S]at X;have:=Cz X;rw[(dg r ho).tB];simp only[ζf]at h;obtain⟨⟨L,H⟩,D,rfl⟩:=h;obtain⟨g,_,_⟩:=lW (P:=P) (w:=w) r T B false s.size s.size L H (Nat.le_refl _) D;have hm:Y.map a.eval=none:=by rcases pg r Q with⟨_,q⟩|⟨k,z,e,_⟩;exact q;cases e
  refine⟨.string (s.extract L H),?_,.c _ _ (.str _)⟩;unfold Instr.sliceAt Instr.slice;simp_all
 .rename_i e v l hh hk ho T B Q;obtain⟨d,hd,S⟩:=fB hk;obtain⟨desc,h1,X,h3⟩:=(hE.ty hd).dy;rw[S]at X;have:=jP X;subst this;have hv:=dg r ho;have hm:Y.map a.eval=none:=by rcases pg r Q with⟨_,q⟩|⟨k,z,e,_⟩;exact q;cases e
  have A:∀(C:Option Addr) (len cap L H:Nat) (G:TD),E.tt e=some G->len<=cap->dN len l hh=some (L,H) ->
   (Instr.sliceAt t (.slice C len cap) (lo.map a.eval) (hi.map a.eval) (Y.map a.eval)).run P w=.ok (.slice (if cap=L then C else C.map (·.add (L*G.size))) (H-L) (cap-L)) w:=by
   intro C len cap L H G u hc D;obtain⟨g,_,_⟩:=lW (P:=P) (w:=w) r T B true len cap L H hc D;unfold Instr.sliceAt Instr.slice;simp[Sem.run_bind,h3,Result.andThen_ok,hm,g,(hE.ty u).iF,Sem.run_pure]
  split at h
  .rename_i G u;split at h
   .rename_i es xs;split at h
    .rename_i Z;simp only[ζf]at h;obtain⟨⟨L,H⟩,D,rfl⟩:=h;obtain⟨_,U,W⟩:=lW (P:=P) (w:=w) r T B true xs.length xs.length L H (Nat.le_refl _) D;obtain⟨C,len,cap,e1,e2,e3,e4⟩:=C2 hv.lX U W;rw[e1];subst e2;refine⟨_,A C _ cap L H G u e3 D,?_⟩;rw[<-Z];exact .c _ _ e4
    grind
   .rename_i id es off len;split at h
    .rename_i Z;simp only[ζf]at h;obtain⟨⟨L,H⟩,D,rfl⟩:=h;obtain⟨_,U,W⟩:=lW (P:=P) (w:=w) r T B true len len L H (Nat.le_refl _) D;rcases hv.lV with⟨p,cap,aa,he,hc,ab,J⟩|⟨h0,C,J⟩
     .rw[J];refine⟨_,A _ _ cap L H G u hc D,?_⟩
      by_cases hz:cap=L
      .have:H-L=0:=by omega
       rw[if_pos hz,this,show cap-L=0 by omega]
       exact .hsl0 id es (off+L) _
      .rw[if_neg hz];simp only[Option.map_some,o9];rw[<-Z];subst he;have:=bM.hsl (I:=I) (μ:=μ) id (off+L) (H-L) (cap-L) p aa (by omega) (by
        have:off+L+(cap-L)=off+cap:=by omega
        rw[this];exact ab)
       rwa [Nat.add_mul,<-Nat.add_assoc]at this
     .rw[J];subst h0;refine⟨_,A _ _ 0 L H G u (Nat.le_refl _) D,?_⟩;have hL:L=0:=by omega
      have hH:H=0:=by omega
      subst hL;subst hH;simpa using bM.hsl0   id es (off+0) C
    grind
   .simp only[ζf]at h;obtain⟨⟨L,H⟩,D,rfl⟩:=h;obtain⟨_,U,W⟩:=lW (P:=P) (w:=w) r T B true 0 0 L H (Nat.le_refl _) D;obtain⟨C,J⟩:=hv.rP;rw[J];refine⟨_,A C 0 0 L H G u (Nat.le_refl _) D,?_⟩;have hL:L=0:=by omega
    have hH:H=0:=by omega
    subst hL;subst hH;exact .c _ _ (.c9 _)
   .simp only[ζf]at h;obtain⟨⟨L,H⟩,D,rfl⟩:=h;obtain⟨_,U,W⟩:=lW (P:=P) (w:=w) r T B true 0 0 L H (Nat.le_refl _) D;have J:=hv.lS;rw[J];refine⟨_,A none 0 0 L H G u (Nat.le_refl _) D,?_⟩;have hL:L=0:=by omega
    have hH:H=0:=by omega
    subst hL;subst hH;exact .c _ _ .bH
   grind
  grind
 .rename_i e v hk ho T B Q;obtain⟨d,hd,S⟩:=fB hk;obtain⟨desc,h1,X,h3⟩:=(hE.ty hd).dy;rw[S]at X;have:=jP X;subst this;have hv:=dg r ho;have q1:lo.map a.eval=none:=by rcases pg r T with⟨_,q⟩|⟨k,z,e,_⟩;exact q;cases e
  obtain⟨k2,q2⟩:∃k,hi.map a.eval=some (.int k 0):=by
   rcases pg r B with⟨q,_⟩|⟨k,z,e,q⟩
   .cases q
   .cases e;exact⟨k,q⟩
  obtain⟨k3,q3⟩:∃k,Y.map a.eval=some (.int k 0):=by
   rcases pg r Q with⟨q,_⟩|⟨k,z,e,q⟩
   .cases q
   .cases e;exact⟨k,q⟩
  have A:∀(C:Option Addr) (len cap:Nat) (G:TD),E.tt e=some G->∃O,(Instr.sliceAt t (.slice C len cap) (lo.map a.eval) (hi.map a.eval) (Y.map a.eval)).run P w=.ok (.slice O 0 0) w:=by
   intro C len cap G u;refine⟨C,?_⟩;unfold Instr.sliceAt Instr.slice Instr.sliceBounds;simp only[Sem.run_bind,h3,Result.andThen_ok,q1,q2,q3,mz k3 0 cap _ (Int.le_refl _) (by omega),mz k2 0 _ _ (Int.le_refl _) (by simp),(hE.ty u).iF]
   simp
  split at h
  .rename_i G es xs u;simp  at h;subst h;obtain⟨C,len,cap,e1,_⟩:=C2   hv.lX (Nat.le_refl _) (Nat.zero_le _);rw[e1];obtain⟨O,g⟩:=A C len cap _ u;exact⟨_,g,.c _ _ (.c9 _)⟩
  .rename_i G id es off len u;simp  at h;subst h;rcases hv.lV with⟨p,cap,_,_,_,_,J⟩|⟨_,C,J⟩
   .rw[J];obtain⟨O,g⟩:=A _ _ _ _ u;exact⟨_,g,.c _ _ (.c9 _)⟩
   .rw[J];obtain⟨O,g⟩:=A _ _ _ _ u;exact⟨_,g,.c _ _ (.c9 _)⟩
  .rename_i G u;simp  at h;subst h;obtain⟨C,J⟩:=hv.rP;rw[J];obtain⟨O,g⟩:=A _ _ _ _ u;exact⟨_,g,.c _ _ (.c9 _)⟩
  .rename_i G u;simp only[ζa]at h;subst h;have J:=hv.lS;rw[J];obtain⟨O,g⟩:=A _ _ _ _ u;exact⟨_,g,.c _ _ (.c9 _)⟩
  .simp at h
 grind
end
end Go.VE
namespace Go.VE
variable [bX]
section
variable {P:Program} {E:Env} {I:b_} {μ:Mu} {n:Nat} {F:Frame} {a:Act} {w:World}
theorem cB.one {x:V} {vs:List Value} (h:cB I μ [x] vs):∃v,vs=[v]/\bM I μ x v:=by
 obtain⟨v,r,rfl,hv,hr⟩:=h.cons_inv;exact⟨v,by rw[hr.vj],hv⟩
theorem cB.two {x y:V} {vs:List Value} (h:cB I μ [x,y] vs):∃u v,vs=[u,v]/\bM I μ x u/\bM I μ y v:=by
 obtain⟨u,r,rfl,hu,hr⟩:=h.cons_inv;obtain⟨v,rfl,hv⟩:=hr.one;exact⟨u,v,rfl,hu,hv⟩
theorem cB.four {x y z t:V} {vs:List Value} (h:cB I μ [x,y,z,t] vs):∃u v p q,vs=[u,v,p,q]/\bM I μ x u/\bM I μ y v/\bM I μ z p/\bM I μ t q:=by
 obtain⟨u,r,rfl,hu,hr⟩:=h.cons_inv;obtain⟨v,r2,rfl,hv,hr⟩:=hr.cons_inv;obtain⟨p,q,rfl,w,A⟩:=hr.two;exact⟨u,v,p,q,rfl,hu,hv,w,A⟩
theorem rO {args:Array Operand} {l:List Value} (h:args.toList.map a.eval=l):args.map a.eval=l.toArray:=by
 subst h;apply Array.ext';simp
def wQ:Option TK->V->Option V
 | some .str,.str s=>some (.int .i64 s.size)
 | some (.slice _),.fsl _ xs=>some (.int .i64 xs.length)
 | some (.slice _),.hsl _ _ _ len=>some (.int .i64 len)
 | some (.slice _),.c9=>some (.int .i64 0)
 | some (.slice _),.bH=>some (.int .i64 0)
 | _,_=>none
theorem SZ (U:eH P E) {t:TypeId} {x z:V} {v:Value} {ty:TypeId} {B:Array TypeId} (D:B[0]? = some t) (G:bM I μ x v)
 (h:wQ (E.dB t) x=some z):∃u,(Builtin.len_ B ty #[v]).run P w=.ok u w/\bM I μ z u:=by
 cases hk:E.dB t with
 | none=>rw[hk]at h;simp[wQ]at h
 | some k=>
  rw[hk]at h;obtain⟨d,S,J⟩:=fB hk;obtain⟨desc,h1,O,Q⟩:=(U.ty S).dy;rw[J]at O
  cases k with
  | str=>
   have:=Cz O;subst this
   cases x with
   | str s=>
    simp only[wQ,ζa]at h;subst h;rw[G.tB];refine⟨_,?_,.c _ _ (.int _ _)⟩;unfold Builtin.len_;simp[D,Q,goInt]
   | _=>simp[wQ]at h
  | slice e=>
   have:=jP O;subst this;have q:∀A (len cap:Nat),(Builtin.len_ B ty #[.slice A len cap]).run P w=.ok (.int .i64 len) w:=by
    intro A len cap;unfold Builtin.len_;simp[D,Q,goInt]
   cases x with
   | fsl es T=>
    simp only[wQ,ζa]at h;subst h;obtain⟨A,len,cap,e1,e2,_⟩:=C2 (L:=0) (H:=0) G.lX (Nat.le_refl _) (Nat.zero_le _);rw[e1,<-e2];exact⟨_,q _ _ _,.c _ _ (.int _ _)⟩
   | hsl id es off len=>
    simp only[wQ,ζa]at h;subst h;rcases G.lV with⟨p,cap,_,_,_,_,C⟩|⟨h0,A,C⟩
    .rw[C];exact⟨_,q _ _ _,.c _ _ (.int _ _)⟩
    .rw[C,h0];exact⟨_,q _ _ _,.c _ _ (.int _ _)⟩
   | c9=>
    simp only[wQ,ζa]at h;subst h;obtain⟨A,C⟩:=G.rP;rw[C];exact⟨_,q _ _ _,.c _ _ (.int _ _)⟩
   | bH=>
    simp only[wQ,ζa]at h;subst h;rw[G.lS];exact⟨_,q _ _ _,.c _ _ (.int _ _)⟩
   | _=>simp[wQ]at h
  | _=>simp[wQ]at h
def Sk:Option TK->V->Option V
 | some (.slice _),.bH=>some (.int .i64 0)
 | some (.slice _),.c9=>some (.int .i64 0)
 | _,_=>none
theorem SR (J:eH P E) {t:TypeId} {x z:V} {v:Value} {ty:TypeId} {B:Array TypeId} (D:B[0]? = some t) (G:bM I μ x v)
 (h:Sk (E.dB t) x=some z):∃u,(Builtin.cap_ B ty #[v]).run P w=.ok u w/\bM I μ z u:=by
 have key:∀e A,E.dB t=some (.slice e)->v=.slice A 0 0->(Builtin.cap_ B ty #[v]).run P w=.ok (.int .i64 0) w:=λe A hk hv=>by
  obtain⟨d,L,C⟩:=fB hk;obtain⟨desc,h1,H,O⟩:=(J.ty L).dy;rw[C]at H;have:=jP H;subst this;unfold Builtin.cap_;simp[D,O,goInt,hv]
 unfold Sk at h;split at h
 .rename_i _ _ e hk;cases h;exact⟨_,key _ _ hk G.lS,.c _ _ (.int _ _)⟩
 .rename_i _ _ e hk;cases h;obtain⟨A,q⟩:=G.rP;exact⟨_,key _ _ hk q,.c _ _ (.int _ _)⟩
 .cases h
theorem dL {s:Sem Value} {v:Value} {w':World} (h:s.run P w=.ok v w'):(do pure (Next.value (<-s)):Sem Next).run P w=.ok (.value v) w':=by
 rw[Sem.run_bind,h];rfl
theorem PN (D:eH P E) (r:ei I μ n F a.tmps) (o:Oper) {x:V} (h:bR E F o.op=some x) :
 ∃v,(execOp a.eval o).run P w=.ok (.value v) w/\bM I μ x v:=by
 obtain⟨dst,op,ty,pos,after,guard⟩:=o;simp only at h
 cases op with
 | move y=>exact⟨_,rfl,dg r (by simpa [bR]using h)⟩
 | assign y=>exact⟨_,rfl,dg r (by simpa [bR]using h)⟩
 | pick c y z=>
  simp only[bR]at h;simp only[execOp];split at h
  .rename_i t hc;have e:=(dg r hc).qY;simp only[e,asBool,Sem.run_bind,Sem.run_pure,Result.andThen_ok]
   cases t with
   | true=>simp only[if_true]at h ⊢;exact⟨_,rfl,dg r h⟩
   | false=>simp only[Bool.false_eq_true,if_false]at h ⊢;exact⟨_,rfl,dg r h⟩
  .simp at h
 | nilCheck y=>
  simp only[bR]at h;simp only[execOp];split at h
  .rename_i id el off C;simp only[ζa]at h;subst h;have hv:=dg r C;obtain⟨p,_,e⟩:=hv.s9;rw[e]at hv ⊢;exact⟨_,rfl,hv⟩
  .rename_i X C;simp only[ζa]at h;subst h;have hv:=dg r C;obtain⟨b,o,c,e,_⟩:=hv.lZ;rw[e]at hv ⊢;exact⟨_,rfl,hv⟩
  .rename_i f u v C;simp only[ζa]at h;subst h;have hv:=dg r C;obtain⟨b,c,e,_⟩:=hv.kP;rw[e]at hv ⊢;exact⟨_,rfl,hv⟩
  .simp at h
 | binOp op t y z Y=>
  simp only[bR]at h;split at h
  .rename_i u v hu hv;obtain⟨q,J,hr⟩:=QA (w:=w) D y z h (dg r hu) (dg r hv);exact⟨q,dL J,hr⟩
  .simp at h
 | unOp op t y=>
  simp only[bR]at h;simp only[execOp];split at h
  .rename_i b C;simp only[ζa]at h;subst h;rw[(dg r C).qY];exact⟨_,dL (by simp only[Op.unary];rfl),.c _ _ (.bool _)⟩
  .rename_i k m C;simp only[ζa]at h;subst h;rw[(dg r C).fN];exact⟨_,dL (by simp only[Op.unary,Op.intArith];rfl),by simpa using bM.c _ _ (.int k _)⟩
  .simp at h
 | convert s d y=>
  obtain⟨v,h1,B⟩:=JR (w:=w) D r h;exact⟨v,dL h1,B⟩
 | fieldAddr s y f=>
  obtain⟨v,h1,B⟩:=KC (w:=w) D r h;exact⟨v,dL h1,B⟩
 | field s y f=>
  obtain⟨v,h1,B⟩:=MW (w:=w) D r h;exact⟨v,dL h1,B⟩
 | indexAddr t y i=>
  obtain⟨v,h1,B⟩:=Kw (w:=w) D r h;exact⟨v,dL h1,B⟩
 | index t y i=>
  obtain⟨v,h1,B⟩:=OP (w:=w) D r h;exact⟨v,dL h1,B⟩
 | slice t y Z hi mx=>
  obtain⟨v,h1,B⟩:=Oy (w:=w) D r h;exact⟨v,dL h1,B⟩
 | build t ps=>
  obtain⟨v,h1,B⟩:=Nc (w:=w) D r h;exact⟨v,dL h1,B⟩
 | makeFunc f u v=>
  cases f with
  | func f=>
   simp only[bR]at h;split at h
   .rename_i L x2 h1 B;simp only[ζa]at h;subst h;have r1:=nu r h1;have r2:=nu r B;refine⟨.func (.func f) (u.map a.eval) (v.map a.eval),rfl,?_⟩;refine .clo f _ _ _ _ (by simpa using r1.1) (by simpa using r2.1) (λj p q s t=>r1.2 j p q s (by simpa using t)) (λj p q s t=>r2.2 j p q s (by simpa using t))
   .simp at h
  | _=>simp[bR]at h
 | extract y i=>
  simp only[bR]at h;simp only[execOp];split at h
  .rename_i vs C;obtain⟨O,e,Q⟩:=(dg r C).pU;rw[e];have S:=(ζe.1 h).1;have G:i<O.size:=by have:=Q.1;simp at this;omega
   refine⟨O[i],dL (by simp[Instr.extract,G]),Q.2 i x _ h (by simp[G])⟩
  .simp at h
 | call c=>
  obtain⟨callee,args,T⟩:=c
  cases callee with
  | builtin b=>
   simp only[bR]at h;simp only[execOp,resolve,Sem.run_bind,Sem.run_pure,Result.andThen_ok,invoke];split at h
   .rename_i v t A H;obtain⟨u,hu,hr⟩:=(nu r A).one;rw[rO hu];obtain⟨q,h1,B⟩:=SZ (w:=w) (ty:=ty) D H hr (by rw[<-h];rfl)
    exact⟨q,by simp only[builtin];exact dL h1,B⟩
   .rename_i v t A H;obtain⟨u,hu,hr⟩:=(nu r A).one;rw[rO hu];obtain⟨q,h1,B⟩:=SR (w:=w) (ty:=ty) D H hr (by rw[<-h];rfl)
    exact⟨q,by simp only[builtin];exact dL h1,B⟩
   .rename_i k L U x2 A;split at h
    .rename_i hk;simp only[ζa]at h;subst h;subst hk;obtain⟨u,v,e,hu,hv⟩:=(nu r A).two;rw[rO e,hu.fN,hv.fN];exact⟨_,by simp only[builtin];exact dL (by simp[Builtin.max_,Builtin.max2]),.c _ _ (.int _ _)⟩
    .simp at h
   .rename_i k L k1 x2 k2 x3 k3 x4 A;split at h
    .rename_i hk;simp only[ζa]at h;subst h;obtain⟨rfl,rfl,rfl⟩:=hk;obtain⟨u,v,p,q,e,hu,hv,W,J⟩:=(nu r A).four;rw[rO e,hu.fN,hv.fN,W.fN,J.fN];exact⟨_,by simp only[builtin];exact dL (by simp[Builtin.max_,Builtin.max2,Bd]),.c _ _ (.int _ _)⟩
    .simp at h
   .rename_i k L U x2 A;split at h
    .rename_i hk;simp only[ζa]at h;subst h;subst hk;obtain⟨u,v,e,hu,hv⟩:=(nu r A).two;rw[rO e,hu.fN,hv.fN];exact⟨_,by simp only[builtin];exact dL (by simp[Builtin.min_,Builtin.min2]),.c _ _ (.int _ _)⟩
    .simp at h
   .simp at h
  | _=>simp[bR]at h
 | _=>simp[bR]at h
end
end Go.VE
namespace Go.VE
variable [bX]
structure gj (I:b_) (μ:Mu) (p:Pl) (c:Array Value) (es:Nat) (xs:List (List V)):Prop where
 es_eq:p.es=es
 sz:c.size=p.sz
 oW:∀x∈xs,x.length=es
 one:∀x∈xs,∀y∈x,V.one y=true
 room:p.o+xs.length*es<=c.size
 rel:cB I μ xs.flatten ((c.toList.drop p.o).take (xs.length*es))
def uU (I:b_) (μ:Mu) (B:List (V×V)) (es:Array MapEntry):Prop:=
 B.length=es.size/\∀(j:Nat) q e,B[j]? = some q->es[j]? = some e->bM I μ q.1 e.key/\bM I μ q.2 e.val
def AS.is:AS->LoopState->Prop
 | .ready,.ready|.busy,.busy|.done,.done=>True
 | _,_=>False
structure vi (I:b_) (μ:Mu) (r:vk) (l:Loop):Prop where
 st:r.st.is l.state
 pend:l.pending=r.pend.bind kU
 pendOk:r.pend≠some .norm
 frame:ei I μ r.nt r.frame l.tmps
 params:l.params.toList=r.params
 assign:l.assign=r.assign
 body:l.body=r.body
def Ob.live:Ob->Bool
 | .row ..|.map _|.loop _=>true
 | _=>false
def sH (I:b_) (μ:Mu) (w:World) (id:Nat):Ob->Prop
 | .free=>μ id=none
 | .dead=>True
 | .row es xs=>∃p c el,μ id=some p/\I p.b=none/\w.heap[p.b]? = some (.cells c el)/\gj I μ p c es xs
 | .frz es xs=>∃p c,μ id=some p/\I p.b=some (.cells c)/\gj I μ p c es xs
 | .map B=>∃p es clock,μ id=some p/\I p.b=none/\w.heap[p.b]? = some (.map es clock)/\uU I μ B es
 | .loop r=>∃p l,μ id=some p/\I p.b=none/\w.heap[p.b]? = some (.loop l)/\vi I μ r l
structure cM (I:b_) (μ:Mu) (H:bl) (w:World):Prop where
 dom:∀id,H.length<=id->μ id=none
 imm:∀b x,I b=some x->x.at w b
 obs:∀id ob,H[id]? = some ob->sH I μ w id ob
 inj:∀id id' ob ob' p p',H[id]? = some ob->H[id']? = some ob'->ob.live=true->ob'.live=true->μ id=some p->μ id'=some p'->p.b=p'.b->id=id'
 gl:uV I
def iq (μ:Mu) (H:bl) (b:Nat):Prop:=∃id p ob,H[id]? = some ob/\ob.live=true/\μ id=some p/\p.b=b
def Obj.nf (o:Obj):Prop:=∀c t fr,o=.cells c t fr->fr=(0,0)
theorem tI (c:Array Value) (t:TypeId):Obj.nf (.cells c t):=λ_ _ _ h=>by grind
theorem qV {o:Obj} (h:(match o with|.cells ..=>false|_=>true)=true):Obj.nf o:=λc t fr e=>by grind
theorem BT {w w':World} {o:Obj} {b:Nat} (B:Obj.nf o) (h1:w'.heap[b]? = some o) (D:∀k,k≠b->w'.heap[k]? = w.heap[k]?) (a:Addr) (h:w.frozen? a=false):w'.frozen? a=false:=by
 by_cases e:a.block=b
 .unfold World.frozen?;rw[e,h1];split
  .rename_i c t u z q;cases q;have:=B _ _ _ rfl
   grind
  .rfl
 .unfold World.frozen? at h ⊢
  grind
structure uX (w w':World):Prop where
 out:w'.output=w.output
 tape:w'.tape=w.tape
 dr:w.drawn<=w'.drawn
theorem uX.refl (w:World):uX w w:=⟨rfl,rfl,Nat.le_refl _⟩
theorem uX.trans {w w' w'':World} (h:uX w w') (B:uX w' w''):uX w w'':=⟨B.out.trans h.out,B.tape.trans h.tape,Nat.le_trans h.dr B.dr⟩
structure Step (I:b_) (μ:Mu) (H:bl) (w:World) (I':b_) (μ':Mu) (H':bl) (w':World):Prop where
 le:b_.le I I'
 mu:Mu.le μ μ'
 len:H.length<=H'.length
 size:w.heap.size<=w'.heap.size
 frame:∀b,b<w.heap.size->¬iq μ H b->w'.heap[b]? = w.heap[b]?
 terr:∀b,((I' b).isSome=true\/iq μ' H' b)->(I b).isSome=true\/iq μ H b\/w.heap.size<=b
 os:w'.os=w.os
 out:uX w w'
 fz:∀a:Addr,a.block<w.heap.size->w.frozen? a=false->w'.frozen? a=false
section
variable {I I' I'':b_} {μ μ' μ'':Mu} {H H' H'':bl} {w w' w'':World} {P:Program} {E:Env} {n:Nat} {F:Frame} {a:Act}
theorem IC.tR {x:IC} {b:Nat} (h:x.at w b):b<w.heap.size:=by
 cases x with
 | cells c=>obtain⟨_,_,h⟩:=h;grind
 | map es=>obtain⟨_,h⟩:=h;grind
theorem IC.rG {x:IC} {b:Nat} (h:x.at w b) (e:w'.heap[b]? = w.heap[b]?):x.at w' b:=by
 cases x with
 | cells c=>obtain⟨el,fr,h⟩:=h;exact⟨el,fr,by grind⟩
 | map es=>obtain⟨cl,h⟩:=h;exact⟨cl,by grind⟩
theorem Step.refl (I:b_) (μ:Mu) (H:bl) (w:World):Step I μ H w I μ H w:=
 ⟨b_.le_refl _,Mu.le_refl _,Nat.le_refl _,Nat.le_refl _,λ_ _ _=>rfl,λ_ h=>h.elim .inl λh=>.inr (.inl h),rfl,.refl _,λ_ _ h=>h⟩
theorem fZ (s:cM I μ H w) {b:Nat} (h:iq μ H b):I b=none:=by
 obtain⟨id,p,ob,h1,z,B,rfl⟩:=h;have:=s.obs id ob h1
 cases ob with
 | row es C=>obtain⟨q,c,el,t,u,_⟩:=this;grind
 | map A=>obtain⟨q,c,el,t,u,_⟩:=this;grind
 | loop r=>obtain⟨q,c,t,u,_⟩:=this;grind
 | _=>simp[Ob.live]at z
theorem mQ (s:cM I μ H w) {b:Nat} (h:iq μ H b):b<w.heap.size:=by
 obtain⟨id,p,ob,h1,A,C,rfl⟩:=h;have:=s.obs id ob h1
 cases ob with
 | row es D=>obtain⟨q,c,el,t,u,z,_⟩:=this;grind
 | map B=>obtain⟨q,c,el,t,u,z,_⟩:=this;grind
 | loop r=>obtain⟨q,c,t,u,z,_⟩:=this;grind
 | _=>simp[Ob.live]at A
theorem Step.trans (D:cM I' μ' H' w') (h1:Step I μ H w I' μ' H' w') (B:Step I' μ' H' w' I'' μ'' H'' w''):Step I μ H w I'' μ'' H'' w'' where
 fz:=λa q h=>B.fz a (Nat.lt_of_lt_of_le q h1.size) (h1.fz a q h)
 le:=b_.le_trans h1.le B.le
 mu:=λid p h=>B.mu id p (h1.mu id p h)
 len:=Nat.le_trans h1.len B.len
 size:=Nat.le_trans h1.size B.size
 frame:=by
  intro b q u;rw[B.frame b (Nat.lt_of_lt_of_le q h1.size) ?_,h1.frame b q u];intro t;rcases h1.terr b (.inr t)with h|h|h
  .have:=fZ D t;obtain⟨x,z⟩:=Option.isSome_iff_exists.1 h;rw[h1.le _ _ z]at this;simp_all
  .simp_all
  omega
 terr:=by
  intro b h;rcases B.terr b h with h|h|h
  .exact h1.terr b (.inl h)
  .exact h1.terr b (.inr h)
  .exact .inr (.inr (Nat.le_trans h1.size h))
 os:=B.os.trans h1.os
 out:=h1.out.trans B.out
theorem gj.mono (h:b_.le I I') (B:Mu.le μ μ') {p:Pl} {c:Array Value} {es:Nat} {xs:List (List V)} (r:gj I μ p c es xs):gj I' μ' p c es xs:=
 ⟨r.es_eq,r.sz,r.oW,r.one,r.room,r.rel.mono h B⟩
theorem uU.mono (h:b_.le I I') (D:Mu.le μ μ') {B:List (V×V)} {es:Array MapEntry} (r:uU I μ B es):uU I' μ' B es:=
 ⟨r.1,λj q e a b=>⟨(r.2 j q e a b).1.mono h D,(r.2 j q e a b).2.mono h D⟩⟩
theorem vi.mono (h:b_.le I I') (B:Mu.le μ μ') {r:vk} {l:Loop} (x:vi I μ r l):vi I' μ' r l:=
 ⟨x.st,x.pend,x.pendOk,x.frame.mono h B,x.params,x.assign,x.body⟩
theorem sH.mono (h:b_.le I I') (B:Mu.le μ μ') {id:Nat} {ob:Ob} (r:sH I μ w id ob)
 (D:∀p,μ id=some p->ob.live=true->w'.heap[p.b]? = w.heap[p.b]? /\ I' p.b=none) (G:ob=.free->μ' id=none):sH I' μ' w' id ob:=by
 cases ob with
 | free=>exact G rfl
 | dead=>trivial
 | row es z=>
  obtain⟨p,c,el,h1,t,u,q⟩:=r;obtain⟨g1,g2⟩:=D p h1 rfl;exact⟨p,c,el,B _ _ h1,g2,by grind,q.mono h B⟩
 | frz es z=>
  obtain⟨p,c,h1,t,q⟩:=r;exact⟨p,c,B _ _ h1,h _ _ t,q.mono h B⟩
 | map A=>
  obtain⟨p,es,cl,h1,t,u,q⟩:=r;obtain⟨g1,g2⟩:=D p h1 rfl;exact⟨p,es,cl,B _ _ h1,g2,by grind,q.mono h B⟩
 | loop x=>
  obtain⟨p,l,h1,t,u,q⟩:=r;obtain⟨g1,g2⟩:=D p h1 rfl;exact⟨p,l,B _ _ h1,g2,by grind,q.mono h B⟩
theorem cM.oG (s:cM I μ H w) (e:w'.heap=w.heap):cM I μ H w' where
 dom:=s.dom
 imm:=λb x h=>IC.rG (s.imm b x h) (by rw[e])
 obs:=λid ob h=>(s.obs id ob h).mono (b_.le_refl _) (Mu.le_refl _) (λp q t=>⟨by rw[e],fZ s ⟨id,p,ob,h,t,q,rfl⟩⟩) (λu=>by subst u;exact s.obs id _ h)
 inj:=s.inj
 gl:=s.gl
theorem Step.oG (e:w'.heap=w.heap) (h1:w'.os=w.os) (B:uX w w'):Step I μ H w I μ H w':=
 ⟨b_.le_refl _,Mu.le_refl _,Nat.le_refl _,by grind,λ_ _ _=>by rw[e],λb h=>h.elim .inl λh=>.inr (.inl h),h1,B,λa _ h=>by unfold World.frozen? at h ⊢;grind⟩
def Mu.gJ (μ:Mu) (k:Nat) (p:Pl):Mu:=λid=>if id=k then some p else μ id
theorem Mu.gf (μ:Mu) (k:Nat) (p:Pl):μ.gJ k p k=some p:=by simp[Mu.gJ]
theorem Mu.iR (μ:Mu) {k id:Nat} (p:Pl) (h:id≠k):μ.gJ k p id=μ id:=by simp[Mu.gJ,h]
theorem Mu.qq {k:Nat} {p:Pl} (h:μ k=none):Mu.le μ (μ.gJ k p):=by
 intro id q t
 by_cases e:id=k
 .grind
 .rw[Mu.iR _ _ e];omega
theorem js (o:Obj) (b:Nat) (h:b<w.heap.size):(w.alloc o).heap[b]? = w.heap[b]? := by
 show (w.heap.push o)[b]? = _
 grind
theorem kF (o:Obj):(w.alloc o).heap[w.heap.size]? = some o:=by
 show (w.heap.push o)[w.heap.size]? = _;simp
theorem Lg {o:Obj} (B:Obj.nf o) (a:Addr) (h:w.frozen? a=false):(w.alloc o).frozen? a=false:=
 BT  B (kF o) (λk hk=>by
  by_cases q:k<w.heap.size
  .exact js o k q
  .show (w.heap.push o)[k]? = _
   grind) a h
theorem cM.place (s:cM I μ H w) {k:Nat} {ob:Ob} {o:Obj} {p:Pl} (hk:μ k=none) (D:H.length<=H'.length) (aa:k<H'.length)
 (ab:∀id,id≠k->H'[id]? = some .free\/H'[id]? = H[id]?) (U:∀id,id≠k->H'[id]? = some .free->μ id=none) (ad:H'[k]? = some ob) (hp:p.b=w.heap.size)
 (ae:sH I (μ.gJ k p) (w.alloc o) k ob) (hz:Obj.nf o):cM I (μ.gJ k p) H' (w.alloc o)/\Step I μ H w I (μ.gJ k p) H' (w.alloc o):=by
 have hI:∀b x,I b=some x->b<w.heap.size:=λb x h=>IC.tR (s.imm b x h)
 have u:∀id t,id≠k->H'[id]? = some t->t≠.free->H[id]? = some t:=by
  grind
 have A:∀b,iq (μ.gJ k p) H' b->iq μ H b\/b=w.heap.size:=by
  rintro b ⟨id,q,t,h1,J,Q,rfl⟩
  by_cases e:id=k
  .subst e;rw[Mu.gf]at Q;grind
  .rw[Mu.iR _ _ e]at Q;exact .inl ⟨id,q,t,u id t e h1 (by grind),J,Q,rfl⟩
 refine⟨⟨?_,?_,?_,?_,s.gl⟩,⟨b_.le_refl _,Mu.qq hk,D,by simp,?_,?_,rfl,⟨rfl,rfl,Nat.le_refl _⟩,λa _=>BT (b:=w.heap.size) hz (kF o) (λk hk=>?_) a⟩⟩
 .intro id h;rw[Mu.iR _ _ (by omega)]
  exact s.dom id (by omega)
 .intro b x h;exact IC.rG (s.imm b x h) (js o b (hI b x h))
 .intro id t h
  by_cases e:id=k
  .grind
  .by_cases S:t=.free
   .subst S;show (μ.gJ k p) id=none;rw[Mu.iR _ _ e];grind
   .have X:=u id t e h S;refine(s.obs id t X).mono (b_.le_refl _) (Mu.qq hk) (λq hq T=>?_) (λhe=>absurd he S)
    have Y:iq μ H q.b:=⟨id,q,t,X,T,hq,rfl⟩;exact⟨js o _ (mQ s Y),fZ s Y⟩
 .intro id z o1 o2 q Z h1 J L O B C W
  by_cases e:id=k <;> by_cases G:z=k
  .simp_all
  .subst e;rw[Mu.gf]at B;cases B;rw[Mu.iR _ _ G]at C;have:=mQ s ⟨z,Z,o2,u z o2 G J (by rintro rfl;simp[Ob.live]at O),O,C,rfl⟩
   omega
  .subst G;rw[Mu.gf]at C;cases C;rw[Mu.iR _ _ e]at B;have:=mQ s ⟨id,q,o1,u id o1 e h1 (by rintro rfl;simp[Ob.live]at L),L,B,rfl⟩
   omega
  .rw[Mu.iR _ _ e]at B;rw[Mu.iR _ _ G]at C;exact s.inj id z o1 o2 q Z (u id o1 e h1 (by rintro rfl;simp[Ob.live]at L)) (u z o2 G J (by rintro rfl;simp[Ob.live]at O)) L O B C W
 .intro b W _;exact js o b W
 .intro b h;rcases h with h|h
  .exact .inl h
  .rcases A b h with h|h
   .exact .inr (.inl h)
   omega
 .by_cases T:k<w.heap.size
  .exact js o k T
  .show (w.heap.push o)[k]? = _;rw[Array.getElem?_eq_none (by simp;omega),Array.getElem?_eq_none (by omega)]
theorem cM.push (s:cM I μ H w) {ob:Ob} {o:Obj} {p:Pl} (D:p.b=w.heap.size) (B:sH I (μ.gJ H.length p) (w.alloc o) H.length ob) (G:Obj.nf o:=by first|exact tI _ _|exact qV rfl) :
 cM I (μ.gJ H.length p) (H++[ob]) (w.alloc o)/\Step I μ H w I (μ.gJ H.length p) (H++[ob]) (w.alloc o):=by
 refine s.place (s.dom _ (Nat.le_refl _)) (by simp) (by simp) (λid h=>.inr ?_) (λid h t=>?_) (by simp) D B G
 .grind
 .by_cases q:id<H.length
  .rw[List.getElem?_append_left q]at t;exact s.obs id _ t
  grind
theorem cM.fill (s:cM I μ H w) {k:Nat} {ob:Ob} {o:Obj} {p:Pl} (hk:H[k]? = some .free) (D:p.b=w.heap.size) (B:sH I (μ.gJ k p) (w.alloc o) k ob) (G:Obj.nf o:=by first|exact tI _ _|exact qV rfl) :
 cM I (μ.gJ k p) (H.set k ob) (w.alloc o)/\Step I μ H w I (μ.gJ k p) (H.set k ob) (w.alloc o):=by
 have t:=(ζe.1 hk).1;refine s.place (s.obs k _ hk) (by simp) (by grind) (λid h=>.inr ?_) (λid h q=>?_) (by simp_all) D B G
 .grind
 .rw[List.getElem?_set_ne (Ne.symm h)]at q;exact s.obs id _ q
def fF (w:World) (b:Nat) (o:Obj):World:={ w with heap:=w.heap.setIfInBounds b o }
theorem eU (o:Obj) {b B:Nat} (h:B≠b):(fF w b o).heap[B]? = w.heap[B]? := by simp[fF,Array.getElem?_setIfInBounds_ne (Ne.symm h)]
theorem gn (o:Obj) {b:Nat} (h:b<w.heap.size):(fF w b o).heap[b]? = some o:=by simp[fF,h]
theorem rQ (b:Nat) (o:Obj):(fF w b o).heap.size=w.heap.size:=by simp[fF]
theorem Mx (b:Nat) (o B:Obj):fF (fF w b o) b B=fF w b B:=by simp[fF]
theorem TI {o:Obj} {b:Nat} (B:Obj.nf o) (a:Addr) (h:w.frozen? a=false):(fF w b o).frozen? a=false:=by
 by_cases q:b<w.heap.size
 .exact BT  B (gn o q) (λk hk=>eU o hk) a h
 .have:(fF w b o).heap=w.heap:=by simp[fF,Array.setIfInBounds,q]
  unfold World.frozen? at h ⊢
  grind
theorem cM.write (s:cM I μ H w) {id:Nat} {ob ob':Ob} {o:Obj} {p:Pl} (B:H[id]? = some ob) (U:ob.live=true) (W:μ id=some p)
 (Y:sH I μ (fF w p.b o) id ob') (hz:Obj.nf o:=by first|exact tI _ _|exact qV rfl):cM I μ (H.set id ob') (fF w p.b o)/\Step I μ H w I μ (H.set id ob') (fF w p.b o):=by
 have u:iq μ H p.b:=⟨id,p,ob,B,U,W,rfl⟩;have t:∀k x,(H.set id ob')[k]? = some x->∃y,H[k]? = some y/\(x.live=true->y.live=true)/\(k≠id->y=x):=by
  grind
 have G:∀b,iq μ (H.set id ob') b->iq μ H b:=by
  rintro b ⟨k,q,x,h1,J,T,rfl⟩;obtain⟨y,L,z,_⟩:=t k x h1;exact⟨k,q,y,L,z J,T,rfl⟩
 refine⟨⟨?_,?_,?_,?_,s.gl⟩,⟨b_.le_refl _,Mu.le_refl _,by simp,by rw[rQ];grind,?_,?_,rfl,⟨rfl,rfl,Nat.le_refl _⟩,λa _=>BT  hz (gn o (mQ s u)) (λk hk=>eU o hk) a⟩⟩
 .intro k h;exact s.dom k (by grind)
 .intro b x h;refine IC.rG (s.imm b x h) (eU o ?_);intro A;rw[A,fZ s u]at h;cases h
 .intro k x h
  by_cases e:k=id
  .grind
  .rw[List.getElem?_set_ne (Ne.symm e)]at h;refine(s.obs k x h).mono (b_.le_refl _) (Mu.le_refl _) (λq Q C=>⟨eU o ?_,fZ s ⟨k,q,x,h,C,Q,rfl⟩⟩) (λX=>by subst X;exact s.obs k _ h)
   intro A;exact e (s.inj k id x ob q p h B C U Q W A)
 .intro k S x Z q q' h1 J l1 l2 m1 m2 A;obtain⟨y,L,z,_⟩:=t k x h1;obtain⟨y',O,D,_⟩:=t S Z J;exact s.inj k S y y' q q' L O (z l1) (D l2) m1 m2 A
 .intro b _ hn;refine eU o ?_
  grind
 grind
theorem cM.kill (s:cM I μ H w) {id:Nat} {ob:Ob} (B:H[id]? = some ob):cM I μ (H.set id .dead) w/\Step I μ H w I μ (H.set id .dead) w:=by
 have u:=(ζe.1 B).1;have t:∀k x,(H.set id .dead)[k]? = some x->x.live=true->H[k]? = some x/\k≠id:=by
  intro k x h J
  by_cases e:k=id
  .subst e;rw[List.getElem?_set_self u]at h;cases h;simp[Ob.live]at J
  grind
 refine⟨⟨?_,s.imm,?_,?_,s.gl⟩,⟨b_.le_refl _,Mu.le_refl _,by simp,Nat.le_refl _,λ_ _ _=>rfl,?_,rfl,.refl _,λ_ _ h=>h⟩⟩
 .intro k h;exact s.dom k (by grind)
 .intro k x h
  by_cases e:k=id
  .subst e;rw[List.getElem?_set_self u]at h;cases h;trivial
  .rw[List.getElem?_set_ne (Ne.symm e)]at h;exact s.obs k x h
 .intro k A x C q L h1 z D G O Q S;exact s.inj k A x C q L (t k x h1 D).1 (t A C z G).1 D G O Q S
 .rintro b (h|⟨k,q,x,h1,z,T,rfl⟩)
  .grind
  .exact .inr (.inl ⟨k,q,x,(t k x h1 z).1,z,T,rfl⟩)
end
end Go.VE
namespace Go.VE
variable [bX]
section
variable {P:Program} {E:Env} {I:b_} {μ:Mu} {H:bl} {n:Nat} {F:Frame} {a:Act} {w:World}
theorem pY {b:Nat} {c:Array Value} {el:TypeId} {fr:Nat×Nat} (h:w.heap[b]? = some (.cells c el fr)) (k:Nat):w.cell? ⟨b,k,none⟩=c[k]? := by
 simp[World.cell?,h]
theorem HO {b o:Nat} {c:Array Value} (hc:∀k,w.cell? ⟨b,k,none⟩=c[k]?):∀(m i:Nat) (acc:Array Value),o+i+m<=c.size ->
 (loadCellsFrom ⟨b,o,none⟩ i m acc).run P w=.ok (acc++((c.toList.drop (o+i)).take m).toArray) w:=by
 intro m
 induction m with
 | zero=>intro i acc _;simp[loadCellsFrom]
 | succ m t=>
  intro i acc h;have q:o+i<c.size:=by omega
  have e:w.cell? ⟨b,o+i,none⟩=some c[o+i]:=by rw[hc];simp[q]
  simp only[loadCellsFrom,Sem.run_bind,o9,run_load,e,Result.andThen_ok];rw[t (i+1) _ (by omega)]
  congr 1
  rw[List.drop_eq_getElem_cons (show o+i<c.toList.length by simpa using q),List.take_succ_cons]
  apply Array.ext';simp[Nat.add_assoc]
theorem vg {b o m:Nat} {c:Array Value} (hc:∀k,w.cell? ⟨b,k,none⟩=c[k]?) (h:o+m<=c.size\/m=0) :
 (loadCells ⟨b,o,none⟩ m).run P w=.ok ((c.toList.drop o).take m).toArray w:=by
 rcases h with h|h
 .have:=HO (P:=P) hc m 0 #[] (o:=o) (by omega)
  simpa [loadCells]using this
 .subst h;simp[loadCells,loadCellsFrom]
theorem fK {es:Nat} {xs:List (List V)} (hu:∀x∈xs,x.length=es):xs.flatten.length=xs.length*es:=by
 induction xs with
 | nil=>simp
 | cons x xs q=>
  simp only[List.flatten_cons,ζi,List.length_cons];rw[q (λy t=>hu y (List.mem_cons_of_mem _ t)),hu x (by simp),Nat.add_mul];omega
theorem Dn {es:Nat}:∀{xs:List (List V)} (_:∀x∈xs,x.length=es) {el:Nat} {cs:List V},xs[el]? = some cs->(xs.flatten.drop (el*es)).take es=cs:=by
 intro xs
 induction xs with
 | nil=>intro _ el cs h;simp at h
 | cons x xs t=>
  intro hu el cs h;have q:x.length=es:=hu x (by simp)
  cases el with
  | zero=>simp at h;subst h;simp[q]
  | succ el=>
   have:=t (λy u=>hu y (List.mem_cons_of_mem _ u)) (el:=el) (cs:=cs) (by simpa using h)
   rw[List.flatten_cons,show (el+1)*es=x.length+el*es by rw[q,Nat.add_mul];omega,<-List.drop_drop]
   simpa using this
theorem Hl {es:Nat}:∀{xs:List (List V)} (_:∀x∈xs,x.length=es) {el:Nat} (cs:List V),el<xs.length->cs.length=es ->
 (xs.set el cs).flatten=xs.flatten.take (el*es)++cs++xs.flatten.drop (el*es+es):=by
 intro xs
 induction xs with
 | nil=>intro _ el cs h;simp at h
 | cons x xs t=>
  intro hu el cs h hc;have q:x.length=es:=hu x (by simp)
  cases el with
  | zero=>simp[q]
  | succ el=>
   have:=t (λy u=>hu y (List.mem_cons_of_mem _ u)) (el:=el) cs (by simpa using h) hc
   simp only[List.set_cons_succ,List.flatten_cons,this];rw[show (el+1)*es=x.length+el*es by rw[q,Nat.add_mul];omega]
   rw[show x.length+el*es+es=x.length+(el*es+es)by omega]
   rw[List.take_append,List.drop_append];simp[List.take_of_length_le,List.drop_eq_nil_of_le,Nat.add_sub_cancel_left]
theorem vO {es:Nat} {xs:List (List V)} (hu:∀x∈xs,x.length=es) {i j:Nat} {x:List V} {y:V} (h1:xs[i]? = some x) (B:x[j]? = some y):xs.flatten[i*es+j]? = some y:=by
 have:=Dn hu h1;have q:j<es:=by rw[<-hu x (List.mem_of_getElem? h1)];exact(ζe.1 B).1
 have e:=congrArg (·[j]?) this;simp only[List.getElem?_take,q,if_true,List.getElem?_drop]at e;rw[e];exact B
theorem gj.elem {p:Pl} {c:Array Value} {es:Nat} {xs:List (List V)} (r:gj I μ p c es xs) {el:Nat} {cs:List V} (h:xs[el]? = some cs) :
 cB I μ cs ((c.toList.drop (p.o+el*es)).take es)/\cs.length=es/\p.o+el*es+es<=c.size:=by
 have q:=(ζe.1 h).1;have u:=r.oW cs (List.mem_of_getElem? h);have h1:=(r.rel.drop (el*es)).take es;rw[Dn r.oW h]at h1;have w:el*es+es<=xs.length*es:=by
  have:=Nat.mul_le_mul_right es (show el+1<=xs.length from q)
  rwa [Nat.add_mul,Nat.one_mul]at this
 have t:=r.room;refine⟨?_,u,by omega⟩
 have e:(((c.toList.drop p.o).take (xs.length*es)).drop (el*es)).take es=(c.toList.drop (p.o+el*es)).take es:=by
  rw[List.drop_take,List.take_take,List.drop_drop,Nat.min_eq_left (by omega)]
 rw[e]at h1;exact h1
theorem gj.span {p:Pl} {c:Array Value} {es:Nat} {xs:List (List V)} (r:gj I μ p c es xs) {off len:Nat} (h:off+len<=xs.length) :
 cB I μ ((xs.drop off).take len).flatten ((c.toList.drop (p.o+off*es)).take (len*es))/\p.o+off*es+len*es<=c.size:=by
 have t:=r.room;have w:off*es+len*es<=xs.length*es:=by
  rw[<-Nat.add_mul];exact Nat.mul_le_mul_right _ h
 have e1:((xs.drop off).take len).flatten=(xs.flatten.drop (off*es)).take (len*es):=by
  have q:xs=xs.take off++((xs.drop off).take len++(xs.drop off).drop len):=by rw[List.take_append_drop,List.take_append_drop]
  have g1:(xs.take off).flatten.length=off*es:=by
   rw[fK (λx q=>r.oW x (List.mem_of_mem_take q))];rw[List.length_take,Nat.min_eq_left (by omega)]
  have g2:((xs.drop off).take len).flatten.length=len*es:=by
   rw[fK (λx q=>r.oW x (List.mem_of_mem_drop (List.mem_of_mem_take q))),List.length_take,List.length_drop,Nat.min_eq_left (by omega)]
  have u:=congrArg List.flatten q;simp only[List.flatten_append]at u;rw[u,<-g1,List.drop_left,<-g2,List.take_left]
 have h1:=(r.rel.drop (off*es)).take (len*es);rw[e1];refine⟨?_,by omega⟩
 have e:(((c.toList.drop p.o).take (xs.length*es)).drop (off*es)).take (len*es)=(c.toList.drop (p.o+off*es)).take (len*es):=by
  rw[List.drop_take,List.take_take,List.drop_drop,Nat.min_eq_left (by omega)]
 rw[e]at h1;exact h1
theorem Fs {ob:Ob} {es:Nat} {xs:List (List V)} (h:ob.rows=some (es,xs)):ob=.row es xs\/ob=.frz es xs:=by
 cases ob <;> simp_all [Ob.rows]
theorem cM.rows (s:cM I μ H w) {id es:Nat} {xs:List (List V)} (h:(H[id]?).bind Ob.rows=some (es,xs)) :
 ∃p c,μ id=some p/\(∀k,w.cell? ⟨p.b,k,none⟩=c[k]?)/\gj I μ p c es xs:=by
 obtain⟨ob,h1,q⟩:=ζg.1 h;have:=s.obs id ob h1;rcases Fs q with rfl|rfl
 .obtain⟨p,c,el,g1,_,g3,g4⟩:=this;exact⟨p,c,g1,pY g3,g4⟩
 .obtain⟨p,c,g1,g2,g4⟩:=this;obtain⟨el,fr,g3⟩:=s.imm _ _ g2;exact⟨p,c,g1,pY g3,g4⟩
theorem Nl (s:cM I μ H w) {p:V} {v:Value} (hv:bM I μ p v) {m:Nat} {cs:List V} (h:dY H p m=some cs) :
 ∃(b o:Nat) (c:Array Value),v=.pointer (some ⟨b,o,none⟩)/\(∀k,w.cell? ⟨b,k,none⟩=c[k]?)/\(o+m<=c.size\/m=0)/\cB I μ cs ((c.toList.drop o).take m):=by
 unfold dY at h;split at h
 .rename_i u;obtain⟨b,o,c,e,C,L,hr⟩:=hv.lZ;obtain⟨el,fr,g⟩:=s.imm _ _ C;refine⟨b,o,c,e,pY g,?_⟩;have D:cB I μ u ((c.toList.drop o).take u.length):=by
   refine⟨by simp;omega,λj x y h1 A=>?_⟩
   have G:=(ζe.1 h1).1;rw[List.getElem?_take,if_pos G,List.getElem?_drop]at A;exact .c _ _ (hr j x y h1 (by simpa using A))
  rcases Af D h with⟨g1,g2,g3⟩|⟨g1,g2⟩
  .refine⟨.inl (by omega),?_⟩
   rw[List.drop_zero,List.take_take,Nat.min_eq_left (by omega)]at g1
   exact g1
  .refine⟨.inr g1,?_⟩;rw[g2,g1];exact .nil
 .rename_i id el off;split at h
  .rename_i es u t;split at h
   .rename_i J z;obtain⟨p,c,g1,g2,g3⟩:=s.rows t;obtain⟨q,B,e⟩:=hv.s9;rw[g1]at B;cases B;refine⟨_,_,c,e,g2,?_⟩;obtain⟨k1,k2,k3⟩:=g3.elem z;rw[g3.es_eq];rcases Af k1 h with⟨f1,f2,f3⟩|⟨f1,f2⟩
    .refine⟨.inl (by omega),?_⟩
     rw[List.drop_take,List.take_take,Nat.min_eq_left (by omega),List.drop_drop]at f1
     exact f1
    .refine⟨.inr f1,?_⟩;rw[f2,f1];exact .nil
   .simp at h
  .simp at h
 .simp at h
theorem Cd (B:eH P E) (s:cM I μ H w) {t:TypeId} {d:TD} (D:E.tt t=some d) {p x:V} {v:Value} (hv:bM I μ p v) (h:(dY H p d.size).bind (mk d.agg)=some x) :
 ∃u,(Instr.loadAt t v).run P w=.ok u w/\bM I μ x u/\∃G,v=.pointer (some G)/\(loadVar t G).run P w=.ok u w:=by
 obtain⟨O,hc,A⟩:=ζg.1 h;obtain⟨b,o,c,e,g1,g2,g3⟩:=Nl s hv hc;have key:∃u,(loadVar t ⟨b,o,none⟩).run P w=.ok u w/\bM I μ x u:=by
  unfold loadVar;simp only[Sem.run_bind,(B.ty D).Cm,Result.andThen_ok]
  cases q:d.agg with
  | true=>
   rw[q]at A;refine⟨.agg ((c.toList.drop o).take d.size).toArray,?_,Mn A (by simpa using g3)⟩
   simp only[if_true,Sem.run_bind,(B.ty D).iF,Result.andThen_ok,vg g1 g2,Sem.run_pure]
  | false=>
   rw[q]at A;obtain⟨u,hu,C⟩:=mk_one A g3;refine⟨u,?_,C⟩;have J:d.size≠0:=by
    intro h0;rw[h0]at hu;simp at hu
   have z:c[o]? = some u:=by
    have:=congrArg (·[0]?) hu;simp only[List.getElem?_take,List.getElem?_drop,List.getElem?_cons_zero]at this;rw[if_pos (by omega)]at this
    simpa using this
   simp only[Bool.false_eq_true,if_false,run_load,g1,z]
 obtain⟨u,h1,L⟩:=key;refine⟨u,?_,L,_,e,h1⟩;rw[e];unfold Instr.loadAt;simp only[Sem.run_bind,Instr.sureAddr,Sem.run_pure,Result.andThen_ok,h1]
end
end Go.VE
namespace Go.VE
variable [bX]
section
variable {P:Program} {E:Env} {I:b_} {μ:Mu} {H:bl} {n:Nat} {F:Frame} {a:Act} {w:World}
theorem cM.GH (s:cM I μ H w) {b:Nat} {x:IC} (h:I b=some x):b<w.heap.size:=IC.tR (s.imm b x h)
theorem QC {b es:Nat} {c:Array Value} {xs:List (List V)} (h:cB I μ xs.flatten c.toList) (hu:∀x∈xs,x.length=es) (B:∀x∈xs,∀y∈x,V.one y=true) :
 gj I μ ⟨b,0,es,c.size⟩ c es xs:=by
 have q:xs.length*es=c.size:=by rw[<-fK hu,h.1];simp
 exact⟨rfl,rfl,hu,B,by simp[q],by simpa [q,List.take_of_length_le]using h⟩
structure PB (I:b_) (μ:Mu) (w:World) (ob:Ob) (m:Mk) (o:Obj) (p:Pl) (u:Value):Prop where
 b:p.b=w.heap.size
 live:ob.live=true
 nf:Obj.nf o
 len:∀es xs,ob=.row es xs->p.sz=xs.length*es
 rel:∀k,μ k=none->sH I (μ.gJ k p) (w.alloc o) k ob/\bM I (μ.gJ k p) (m.val k) u
theorem cM.yE (s:cM I μ H w):I w.heap.size=none:=by
 cases h:I w.heap.size with
 | none=>rfl
 | some x=>have:=s.GH h;omega
theorem wj (s:cM I μ H w) {es:Nat} {xs:List (List V)} {c:Array Value} {el:TypeId} {m:Mk} {u:Value} (h:cB I μ xs.flatten c.toList) (hu:∀x∈xs,x.length=es)
 (B:∀x∈xs,∀y∈x,V.one y=true) (hv:∀k,bM I (μ.gJ k ⟨w.heap.size,0,es,c.size⟩) (m.val k) u):PB I μ w (.row es xs) m (.cells c el) ⟨w.heap.size,0,es,c.size⟩ u where
 nf:=tI _ _
 b:=rfl
 live:=rfl
 len:=λq t e=>by cases e;rw[<-fK hu,h.1];simp
 rel:=λk hk=>⟨⟨_,c,el,Mu.gf _ _ _,s.yE,kF _,(QC h hu B).mono (b_.le_refl _) (Mu.qq hk)⟩,hv k⟩
theorem C1 (t:TypeId) (v:Value):(newVar t v).run P w=.ok ⟨w.heap.size,0,none⟩ (w.alloc (.cells v.cells t)):=by
 simp[newVar,newRow]
theorem wz {z:List V} {B:Array Value} (h:cB I μ z B.toList) (m:Nat) :
 cB I μ (List.replicate m z).flatten (((Array.range (m*B.size)).map (λi=>B[i % B.size]!)).toList):=by
 have C:z.length=B.size:=by simpa using h.1
 have hu:∀x∈List.replicate m z,x.length=z.length:=λx G=>by rw[List.eq_of_mem_replicate G]
 have u:=fK hu;simp only[List.length_replicate]at u;refine⟨by rw[u,C];simp,λj x y h1 D=>?_⟩
 have w:=(ζe.1 h1).1;rw[u]at w;have t:0<z.length:=by
  rcases Nat.eq_zero_or_pos z.length with h0|h0
  .rw[h0]at w;simp at w
  .exact h0
 have H:j / z.length<m:=(Nat.div_lt_iff_lt_mul t).2 w;have hr:j % z.length<z.length:=Nat.mod_lt _ t;have e1:=vO hu (i:=j / z.length) (j:=j % z.length) (x:=z) (y:=z[j % z.length]) (by simp[H]) (by simp[hr])
 rw[Nat.mul_comm,Nat.div_add_mod]at e1;rw[e1]at h1;cases h1;have A:j % B.size<B.size:=by rw[<-C];exact hr
 have e2:y=B[j % B.size]:=by
  have J:j<(Array.range (m*B.size)).size:=by simp;rw[<-C];exact w
  simp only[Array.toList_map,List.getElem?_map,ζf]at D;obtain⟨q,L,rfl⟩:=D;have:q=j:=by
   have:=(ζe.1 L).2;simpa using this.symm
  subst this;simp[A]
 rw[e2];exact h.2 (j % z.length) _ _ (by simp[hr]) (by rw[C];simp[A])
theorem EI {es:Nat}:∀(vs:List (Nat×V)) (xs ys:List (List V)),(∀x∈xs,x.length=es)->(∀x∈xs,∀y∈x,V.one y=true)->gE es xs vs=some ys ->
 tS (λi=>some (i*es,es)) xs.flatten vs=some ys.flatten/\(∀x∈ys,x.length=es)/\(∀x∈ys,∀y∈x,V.one y=true)/\ys.length=xs.length:=by
 intro vs
 induction vs with
 | nil=>intro xs ys hu q h;simp only[gE,ζa]at h;subst h;exact⟨rfl,hu,q,rfl⟩
 | cons v vs B=>
  intro xs ys hu q h;obtain⟨i,v⟩:=v;simp only[gE]at h;split at h
  .rename_i hc;obtain⟨h1,A,C⟩:=hc;have t:∀x∈xs.set i v.cells,x.length=es:=λx u=>by
    rcases List.mem_or_eq_of_mem_set u with h|h
    .exact hu x h
    .rw[h];exact h1
   have w:∀x∈xs.set i v.cells,∀y∈x,V.one y=true:=λx u=>by
    rcases List.mem_or_eq_of_mem_set u with h|h
    .exact q x h
    .rw[h];simpa using C
   obtain⟨g1,g2,g3,g4⟩:=B _ ys t w h;refine⟨?_,g2,g3,by simpa using g4⟩
   rw[Hl hu _ A h1]at g1;have D:i*es+es<=xs.length*es:=by
    have:=Nat.mul_le_mul_right es (show i+1<=xs.length from A)
    rwa [Nat.add_mul,Nat.one_mul]at this
   have z:=fK hu;simp only[tS];rw[if_neg (by simp[h1,z];omega),h1]
   exact g1
  .simp at h
theorem Bb (D:eH P E) (r:ei I μ n F a.tmps) (s:cM I μ H w) (o:Oper) {ob:Ob} {m:Mk} (h:eN E F o.op=some (ob,m)) :
 ∃x p u,(execOp a.eval o).run P w=.ok (.value u) (w.alloc x)/\PB I μ w ob m x p u:=by
 obtain⟨dst,op,ty,pos,after,guard⟩:=o;simp only at h
 cases op with
 | alloc t=>
  simp only[eN,ζf,ζc]at h;obtain⟨d,S,rfl,rfl⟩:=h;obtain⟨z,T,hr,U,G⟩:=(D.ty S).z8;refine⟨.cells z.cells t,_,.pointer (some ⟨w.heap.size,0,none⟩),?_,wj s (by simpa using hr I μ) (by simp[U]) (by simpa using G) (λk=>?_)⟩
  .simp only[execOp];refine dL ?_;unfold Instr.alloc;simp only[Sem.run_bind,T,Result.andThen_ok,C1,Sem.run_pure]
  .have:=bM.hptr (I:=I) k 0 0 _ (Mu.gf μ k ⟨w.heap.size,0,d.size,z.cells.size⟩);simp only[Nat.zero_mul,Nat.add_zero]at this;exact this
 | box t x=>
  simp only[eN]at h;split at h
  .rename_i v hv;split at h
   .rename_i G;simp only[ζa,ζc]at h;obtain⟨rfl,rfl⟩:=h;have hr:=dg r hv;refine⟨.cells (a.eval x).cells t,_,.pointer (some ⟨w.heap.size,0,none⟩),?_,wj s (by simpa using hr.cells) (by simp) (by simpa using G) (λk=>?_)⟩
    .simp only[execOp];refine dL ?_;unfold Instr.box;simp only[Sem.run_bind,C1,Result.andThen_ok,Sem.run_pure]
    .have:=bM.hptr (I:=I) k 0 0 _ (Mu.gf μ k ⟨w.heap.size,0,v.cells.length,(a.eval x).cells.size⟩);simp only[Nat.zero_mul,Nat.add_zero]at this;exact this
   .simp at h
  .simp at h
 | makeSlice t l c=>
  simp only[eN]at h;split at h
  .rename_i e k1 ln k2 q hk U hc;obtain⟨d,S,J⟩:=fB hk;obtain⟨desc,h1,W,h3⟩:=(D.ty S).dy;rw[J]at W;have:=jP W;subst this;split at h
   .rename_i C B;split at h
    .rename_i L;obtain⟨rfl,rfl,al,am,hm,an⟩:=L;simp only[ζa,ζc]at h;obtain⟨rfl,rfl⟩:=h;obtain⟨z,T,hr,O,G⟩:=(D.ty B).z8;obtain⟨i,_,hi,ak,ao,_⟩:=(D.ty B).info;have A:z.cells.size=C.size:=by have:=(hr I μ).1;simp at this;omega
     have X:(0:Int)<=q:=by omega
     have w1:IntKind.i64.wrap ln=ln:=by simp[IntKind.wrap,IntKind.signed,IntKind.bits];omega
     have w2:IntKind.i64.wrap q=q:=by simp[IntKind.wrap,IntKind.signed,IntKind.bits];omega
     have Y:∀y:Int,0<=y->y<=2147483648->((i.bytes:Int)*y>2 ^ 48)=False:=by
      intro y ab hy;simp only[eq_iff_iff,iff_false,Int.not_lt,gt_iff_lt];have ad:(i.bytes:Int)<=4096:=by omega
      calc (i.bytes:Int)*y<=4096*2147483648:=Int.mul_le_mul ad hy ab (by omega)
       _<=2 ^ 48:=by decide
     have Z:(Instr.makeSlice t (.int .i64 ln) (.int .i64 q)).run P w =
      .ok (.slice (some ⟨w.heap.size,0,none⟩) ln.toNat q.toNat) (w.alloc (.cells ((Array.range (q.toNat*z.cells.size)).map (λi=>z.cells[i % z.cells.size]!)) e)):=by
      unfold Instr.makeSlice;have t1:(decide (q<0)||decide ((i.bytes:Int)*q>2 ^ 48))=false:=by
       rw[Bool.or_eq_false_iff];exact⟨by simp;omega,by simp only[Y q X hm,decide_false]⟩
      have q1:(((decide (q<0)||decide ((i.bytes:Int)*q>2 ^ 48))||decide (ln<0))||decide (ln>q))=false:=by rw[t1];simp;omega
      simp only[Sem.run_bind,h3,Result.andThen_ok,asInt,lN,Sem.run_pure,oa hi,w1,w2,q1,Bool.false_eq_true,if_false,run_askRoom,(D.ty B).iF];rw[A]
      by_cases h0:q.toNat*C.size=0
      .have er:Array.range 0=(#[]:Array Nat):=rfl;simp[h0,newRow,er]
      .simp[h0,T,A,newRow]
     refine⟨.cells ((Array.range (q.toNat*z.cells.size)).map (λi=>z.cells[i % z.cells.size]!)) e,_,.slice (some ⟨w.heap.size,0,none⟩) ln.toNat q.toNat,?_,wj s (wz (hr I μ) q.toNat) (λx Q=>by rw[List.eq_of_mem_replicate Q,O]) (λx Q=>by rw[List.eq_of_mem_replicate Q];simpa using G) (λk=>?_)⟩
     .simp only[execOp];refine dL ?_;rw[(dg r U).fN,(dg r hc).fN];exact Z
     .have:=bM.hsl (I:=I) (μ:=μ.gJ k ⟨w.heap.size,0,C.size,((Array.range (q.toNat*z.cells.size)).map (λi=>z.cells[i % z.cells.size]!)).size⟩) k 0 ln.toNat q.toNat _ (Mu.gf _ _ _) (by omega) (by simp[A])
      simpa [Mk.val]using this
    .simp at h
   .simp at h
  .simp at h
 | buildSlice t len ps=>
  simp only[eN]at h;split at h
  .rename_i e vs hk ae;obtain⟨d,S,J⟩:=fB hk;obtain⟨desc,h1,W,h3⟩:=(D.ty S).dy;rw[J]at W;have:=jP W;subst this;split at h
   .rename_i C B;split at h
    .rename_i af;simp only[ζf,ζc]at h;obtain⟨ys,ah,rfl,rfl⟩:=h;obtain⟨z,T,hr,O,G⟩:=(D.ty B).z8;have A:z.cells.size=C.size:=by have:=(hr I μ).1;simp at this;omega
     obtain⟨U,ai⟩:=DU r ae;obtain⟨g1,g2,g3,g4⟩:=EI vs _ ys (λx Q=>by rw[List.eq_of_mem_replicate Q,O]) (λx Q=>by rw[List.eq_of_mem_replicate Q];simpa using G) ah
     obtain⟨r',f1,f2⟩:=A7 (place':=λi=>some (i*C.size,C.size)) (λi p hp=>hp) vs _ _ _ ((Array.range (len*z.cells.size)).map (λi=>z.cells[i % z.cells.size]!)) U ai (wz (hr I μ) len) g1
     have aa:r'.size=len*C.size:=by
      have e1:=f2.1;rw[fK g2,g4]at e1;simpa using e1.symm
     refine⟨.cells r' e,_,.slice (some ⟨w.heap.size,0,none⟩) len len,?_,wj s f2 g2 g3 (λk=>?_)⟩
     .simp only[execOp];refine dL ?_;unfold Instr.buildSlice;have aj:¬(len*C.size>2 ^ 24):=by omega
      simp only[Sem.run_bind,h3,Result.andThen_ok,(D.ty B).iF,if_neg aj]
      by_cases h0:len*C.size=0
      .have e0:(Array.range (len*z.cells.size)).map (λi=>z.cells[i % z.cells.size]!)=#[]:=by rw[A,h0];simp
       rw[e0]at f1;have er:Array.range 0=(#[]:Array Nat):=rfl;simp only[h0,if_true,Sem.run_pure,Result.andThen_ok,er,Array.map_empty];rw[f1];simp[newRow]
      .simp only[if_neg h0,Sem.run_bind,T,Result.andThen_ok,Sem.run_pure];rw[A]at f1;rw[A,f1];simp[newRow]
     .have:=bM.hsl (I:=I) (μ:=μ.gJ k ⟨w.heap.size,0,C.size,r'.size⟩) k 0 len len _ (Mu.gf _ _ _) (Nat.le_refl _) (by simp[aa])
      simpa [Mk.val]using this
    .simp at h
   .simp at h
  .simp at h
 | makeMap t r=>
  cases r with
  | none=>
   simp only[eN,ζa,ζc]at h;obtain⟨rfl,rfl⟩:=h;refine⟨.map #[] 0,⟨w.heap.size,0,0,0⟩,.map (some w.heap.size),?_,⟨rfl,rfl,qV rfl,λ_ _ e=>(nomatch e),λk hk=>⟨⟨_,#[],0,Mu.gf _ _ _,s.yE,kF _,rfl,by simp⟩,?_⟩⟩⟩
   .simp only[execOp];refine dL ?_;unfold Instr.makeMap;simp[run_newObj]
   .exact bM.hmap (I:=I) k ⟨w.heap.size,0,0,0⟩ (Mu.gf _ _ _)
  | some x=>simp[eN]at h
 | _=>simp[eN]at h
end
end Go.VE
namespace Go.VE
variable [bX]
section
variable {P:Program} {E:Env} {I:b_} {μ:Mu} {H H':bl} {n:Nat} {F:Frame} {a:Act} {w:World}
theorem bM.one {x:V} {v:Value} (h:bM I μ x v) (B:x.one=true):v.oneCell'=true:=by
 cases h with
 | c _ _ h=>cases h <;> first|rfl|simp[V.one]at B
 | agg=>simp[V.one]at B
 | tup=>simp[V.one]at B
 | _=>rfl
theorem cB.Oe {xs:List V} {vs:List Value} (h:cB I μ xs vs) (B:∀x∈xs,V.one x=true):∀v∈vs,v.oneCell'=true:=by
 intro v hv;obtain⟨j,t,rfl⟩:=List.mem_iff_getElem.1 hv;have q:j<xs.length:=by rw[h.1];exact t
 exact(h.2 j xs[j] vs[j] (by simp[q]) (by simp[t])).one (B _ (List.getElem_mem q))
theorem MD {b:Nat} {o:Obj} (h:w.heap[b]? = some o):fF w b o=w:=by
 unfold fF;have:w.heap.setIfInBounds b o=w.heap:=by
  apply Array.ext
  .simp
  .intro i h1 q;obtain⟨t,e⟩:=Array.getElem?_eq_some_iff.1 h;rw[Array.getElem_setIfInBounds];split
   .subst_vars;rfl
   .rfl
 rw[this]
theorem Ft {b o:Nat} {c:Array Value} {el:TypeId} {v:Value} (h:w.heap[b]? = some (.cells c el)) :
 w.setCell ⟨b,o,none⟩ v=fF w b (.cells (c.setIfInBounds o v) el):=by
 unfold World.setCell fF
 congr 1
 obtain⟨z,e⟩:=Array.getElem?_eq_some_iff.1 h;apply Array.ext
 .simp
 .intro i h1 u
  by_cases t:i=b
  .subst t;simp[Array.getElem_modify,e]
  .have q:i<w.heap.size:=by simpa using u
   rw[Array.getElem_modify_of_ne (Ne.symm t) _ (by simpa using q),Array.getElem_setIfInBounds]
   .simp[Ne.symm t]
   .exact q
theorem om {b o:Nat} {el:TypeId}:∀(vs:List Value) (i:Nat) (w:World) (c:Array Value),w.heap[b]? = some (.cells c el)->(∀v∈vs,v.oneCell'=true)->o+i+vs.length<=c.size ->
 ∃c',(storeCells ⟨b,o,none⟩ vs i).run P w=.ok () (fF w b (.cells c' el))/\c'.toList=c.toList.take (o+i)++vs++c.toList.drop (o+i+vs.length):=by
 intro vs
 induction vs with
 | nil=>
  intro i w c h _ _;exact⟨c,by simp[storeCells,MD h],by simp⟩
 | cons v vs B=>
  intro i w c h A C;simp only[List.length_cons]at C;have t:o+i<c.size:=by omega
  have q:w.cell? ⟨b,o+i,none⟩=some c[o+i]:=by rw[pY h];simp[t]
  have z:w.frozen? ⟨b,o+i,none⟩=false:=by simp[World.frozen?,h]
  have D:=(Array.getElem?_eq_some_iff.1 h).1;obtain⟨c',g1,g2⟩:=B (i+1) (fF w b (.cells (c.setIfInBounds (o+i) v) el)) (c.setIfInBounds (o+i) v) (gn _ D) (λx G=>A x (List.mem_cons_of_mem _ G)) (by simp;omega)
  refine⟨c',?_,?_⟩
  .simp only[storeCells,Sem.run_bind,o9,run_store P w _ v _ (A v (by simp)),q,z,Bool.false_eq_true,if_false,Result.andThen_ok,Ft h]
   rw[g1,Mx]
  .rw[g2];have u:o+i<c.toList.length:=by simpa using t
   simp only[Array.toList_setIfInBounds,List.length_cons];rw[show o+(i+1)=o+i+1 from by omega,List.take_succ_eq_append_getElem (by simpa using u),List.take_set_of_le (by omega),List.getElem_set_self,List.drop_set_of_lt (by omega)]
   simp[List.append_assoc];omega
structure A9 (P:Program) (I:b_) (μ:Mu) (H:bl) (w:World) (s:Sem Next) (x:V) (H':bl):Prop where
 run:∃nx u w' μ',s.run P w=.ok nx w'/\(nx=.value u\/(nx=.skip/\u=undef))/\bM I μ' x u/\cM I μ' H' w'/\Step I μ H w I μ' H' w'
theorem AT {α:Type} (L vs:List α) (o m k:Nat) (D:o+m<=L.length) (hk:k+vs.length<=m) :
 ((L.take (o+k)++vs++L.drop (o+k+vs.length)).drop o).take m=((L.drop o).take m).take k++vs++((L.drop o).take m).drop (k+vs.length):=by
 obtain⟨A,B,C,rfl,q,t⟩:∃A B C:List α,L=A++(B++C)/\A.length=o/\B.length=m:=
  ⟨L.take o,(L.drop o).take m,(L.drop o).drop m,by rw[List.take_append_drop,List.take_append_drop],by simp;omega,by simp;omega⟩
 subst q;subst t;have e1:(A++(B++C)).take (A.length+k)=A++B.take k:=by
  rw[List.take_append,List.take_of_length_le (by omega),Nat.add_sub_cancel_left,List.take_append_of_le_length (by omega)]
 have e2:(A++(B++C)).drop (A.length+k+vs.length)=B.drop (k+vs.length)++C:=by
  rw[List.drop_append,List.drop_eq_nil_of_le (by omega),List.nil_append,List.drop_append_of_le_length (by omega)]
  congr 2;omega
 have e3:((A++(B++C)).drop A.length).take B.length=B:=by simp
 rw[e1,e2,e3];simp only[List.append_assoc,List.drop_left];have u:(B.take k++(vs++B.drop (k+vs.length))).length=B.length:=by simp;omega
 have:B.take k++(vs++(B.drop (k+vs.length)++C))=(B.take k++(vs++B.drop (k+vs.length)))++C:=by simp[List.append_assoc]
 rw[this,<-u,List.take_left]
theorem gj.splice {p:Pl} {c c':Array Value} {es el off:Nat} {xs:List (List V)} {cs ys:List V} {vs:List Value} (r:gj I μ p c es xs) (B:xs[el]? = some cs) (O:cB I μ ys vs)
 (U:∀y∈ys,V.one y=true) (W:off+ys.length<=cs.length) (hc:c'.toList=c.toList.take (p.o+el*es+off)++vs++c.toList.drop (p.o+el*es+off+vs.length)) :
 gj I μ p c' es (xs.set el (cs.take off++ys++cs.drop (off+ys.length))):=by
 obtain⟨k1,k2,k3⟩:=r.elem B;have z:=(ζe.1 B).1;have J:=O.1;have q:=r.room;have Q:el*es+es<=xs.length*es:=by
  have:=Nat.mul_le_mul_right es (show el+1<=xs.length from z)
  rwa [Nat.add_mul,Nat.one_mul]at this
 have A:c'.size=c.size:=by
  have:=congrArg List.length hc;simp at this;omega
 have C:(cs.take off++ys++cs.drop (off+ys.length)).length=es:=by simp;omega
 have u:∀x∈xs.set el (cs.take off++ys++cs.drop (off+ys.length)),x∈xs\/x=cs.take off++ys++cs.drop (off+ys.length):=λx D=>List.mem_or_eq_of_mem_set D
 refine⟨r.es_eq,by rw[A];exact r.sz,?_,?_,by rw[A];simpa using q,?_⟩
 .intro x D;rcases u x D with h|h
  .exact r.oW x h
  .rw[h];exact C
 .intro x D y t;rcases u x D with h|h
  .exact r.one x h y t
  .rw[h]at t;have G:=r.one cs (List.mem_of_getElem? B);simp only[List.mem_append]at t;rcases t with (h|h)|h
   .exact G y (List.mem_of_mem_take h)
   .exact U y h
   .exact G y (List.mem_of_mem_drop h)
 .rw[Hl r.oW _ z C,hc,List.length_set];have w:=r.rel;have H:=Dn r.oW B;have e:List.take (xs.length*es) (List.drop p.o (List.take (p.o+el*es+off) c.toList++vs++List.drop (p.o+el*es+off+vs.length) c.toList)) =
   (((c.toList.drop p.o).take (xs.length*es)).take (el*es+off))++vs++(((c.toList.drop p.o).take (xs.length*es)).drop (el*es+off+vs.length)):=by
   have:=AT c.toList vs p.o (xs.length*es) (el*es+off) (by simpa using q) (by omega)
   simpa only[Nat.add_assoc]using this
  rw[e];have e2:xs.flatten.take (el*es)++(cs.take off++ys++cs.drop (off+ys.length))++xs.flatten.drop (el*es+es) =
   xs.flatten.take (el*es+off)++ys++xs.flatten.drop (el*es+off+ys.length):=by
   have L:=fK r.oW;have f1:xs.flatten.take (el*es+off)=xs.flatten.take (el*es)++cs.take off:=by
    rw[<-H,List.take_add,List.take_take,Nat.min_eq_left (by omega)]
   have f2:xs.flatten.drop (el*es+off+ys.length)=cs.drop (off+ys.length)++xs.flatten.drop (el*es+es):=by
    rw[<-H,List.drop_take];have:xs.flatten.drop (el*es+es)=(xs.flatten.drop (el*es+(off+ys.length))).drop (es-(off+ys.length)):=by rw[List.drop_drop];congr 1;omega
    rw[this,List.drop_drop,List.take_append_drop,Nat.add_assoc]
   rw[f1,f2];simp[List.append_assoc]
  rw[e2,<-J];exact((w.take _).append O).append (w.drop _)
theorem OD (U:eH P E) (r:ei I μ n F a.tmps) (s:cM I μ H w) {t:TypeId} {p q:Operand} {x:V} (h:cO E F H (.store t p q)=some (x,H')) :
 A9 P I μ H w (do Instr.storeAt t (a.eval p) (a.eval q);pure .skip) x H':=by
 simp only[cO]at h;split at h
 .rename_i d id el off v T W X;split at h
  .rename_i es O z;split at h
   .rename_i C A;split at h
    .rename_i hc;obtain⟨Y,Z,D⟩:=hc;simp only[ζa,ζc]at h;obtain⟨rfl,rfl⟩:=h;obtain⟨pl,c,ty,g1,g2,g3,g4⟩:=s.obs id _ z;obtain⟨aa,Q,e⟩:=(dg r W).s9;rw[g1]at Q;cases Q;have u:=(dg r X).cells;have S:∀y∈v.cells,V.one y=true:=by simpa using D
     obtain⟨k1,k2,k3⟩:=g4.elem A;have G:=u.1;have hb:pl.o+el*es+off+0+(a.eval q).cells.toList.length<=c.size:=by omega
     obtain⟨c',f1,f2⟩:=om (P:=P) (o:=pl.o+el*es+off) (a.eval q).cells.toList 0 w c g3 (u.Oe S) hb;have B:gj I μ pl c' es (O.set el (C.take off++v.cells++C.drop (off+v.cells.length))):=g4.splice A u S (by omega) (by simpa using f2)
     have J:=(Array.getElem?_eq_some_iff.1 g3).1;obtain⟨s1,s2⟩:=s.write (ob':=.row es (O.set el (C.take off++v.cells++C.drop (off+v.cells.length)))) (o:=.cells c' ty) z rfl g1
      ⟨pl,c',ty,g1,g2,gn _ J,B⟩
     refine⟨.skip,undef,_,μ,?_,.inr ⟨rfl,rfl⟩,.undef I μ,s1,s2⟩;rw[e];have L:¬((a.eval q).cells.size≠d.size):=by simp at G;omega
     rw[g4.es_eq];unfold Instr.storeAt storeVar;simp only[Sem.run_bind,Instr.sureAddr,Sem.run_pure,Result.andThen_ok,(U.ty T).iF,if_neg L,f1]
    .simp at h
   .simp at h
  .simp at h
 .simp at h
end
end Go.VE
namespace Go.VE
variable [bX]
section
variable {P:Program} {E:Env} {I:b_} {μ:Mu} {H H':bl} {n:Nat} {F:Frame} {a:Act} {w:World}
theorem Cr (s:cM I μ H w) {x:V} {v:Value} (W:bM I μ x v) {es:Nat} {ys:List (List V)} (h:dM H es x=some ys) :
 ∃B cap arr,v=.slice B ys.length cap/\ys.length<=cap/\(∀D:World,D.heap=w.heap->(Builtin.firstCells es ys.length v).run P D=.ok arr D)/\cB I μ ys.flatten arr.toList/\(∀y∈ys,y.length=es) /\
  (∀y∈ys,∀z∈y,V.one z=true):=by
 have u:∀(B:Option Addr) (cap:Nat) (D:World),D.heap=w.heap->(Builtin.firstCells es 0 (.slice B 0 cap)).run P D=.ok #[] D:=by
  intro B cap D _
  cases B with
  | none=>rfl
  | some B=>simp[Builtin.firstCells,loadCells,loadCellsFrom]
 cases x with
 | c9=>
  simp only[dM,ζa]at h;subst h;obtain⟨B,rfl⟩:=W.rP;exact⟨B,0,#[],rfl,Nat.le_refl _,u B 0,.nil,by simp,by simp⟩
 | bH=>
  simp only[dM,ζa]at h;subst h;rw[W.lS];exact⟨none,0,#[],rfl,Nat.le_refl _,u none 0,.nil,by simp,by simp⟩
 | fsl t G=>
  simp only[dM]at h;split at h
  .rename_i X;simp only[ζa]at h;subst h;subst X;have hf:=W.lX
   cases hf with
   | fsl0 _ B cap=>exact⟨some B,cap,#[],rfl,Nat.zero_le _,u (some B) cap,.nil,by simp,by simp⟩
   | fsl _ _ b o cap c hI hc hu ho hb hr=>
    obtain⟨el,fr,Y⟩:=s.imm _ _ hI;refine⟨_,cap,((c.toList.drop o).take (G.length*t)).toArray,rfl,hc,?_,?_,hu,ho⟩
    .intro D J;simp only[Builtin.firstCells];exact vg (pY (w:=D) (by rw[J];exact Y)) (.inl hb)
    .have O:=fK hu;refine⟨by simp[O];omega,λj p q h1 h2=>?_⟩
     have Q:=(ζe.1 h1).1;rw[O]at Q;have C:0<t:=by
      rcases Nat.eq_zero_or_pos t with h0|h0
      .rw[h0]at Q;simp at Q
      .exact h0
     have Z:j / t<G.length:=(Nat.div_lt_iff_lt_mul C).2 Q;have S:j % t<t:=Nat.mod_lt _ C;have T:=hu _ (List.getElem_mem Z);have e1:=vO hu (i:=j / t) (j:=j % t) (x:=G[j / t]) (y:=(G[j / t])[j % t]) (by simp[Z]) (by simp[T,S])
     have ej:j / t*t+j % t=j:=by rw[Nat.mul_comm,Nat.div_add_mod]
     rw[ej,h1]at e1;cases e1;simp only[List.getElem?_take,if_pos Q,List.getElem?_drop]at h2;refine .c _ _ (hr (j / t) (j % t) G[j / t] _ q (by simp[Z]) (by simp[T,S]) ?_)
     rw[Nat.add_assoc,ej];simpa using h2
  .simp at h
 | hsl id t off len=>
  simp only[dM]at h;split at h
  .rename_i X;subst X;split at h
   .rename_i L G U;split at h
    .rename_i aa;simp only[ζa]at h;subst h;obtain⟨p,c,g1,g2,g3⟩:=s.rows U;have A:((G.drop off).take len).length=len:=by simp;omega
     rcases W.lV with⟨q,cap,S,hq,hc,hb,e⟩|⟨h0,B,e⟩
     .rw[g1]at S;cases S;have C:L=t:=by rw[<-g3.es_eq,hq]
      subst C;obtain⟨k1,k2⟩:=g3.span aa;refine⟨_,cap,((c.toList.drop (p.o+off*L)).take (len*L)).toArray,by rw[e,A],by omega,?_,by simpa using k1,?_,?_⟩
      .intro D J;rw[e,A];simp only[Builtin.firstCells];exact vg (λk=>by rw[<-g2 k];simp[World.cell?,J]) (.inl k2)
      .exact λy hy=>g3.oW y (List.mem_of_mem_drop (List.mem_of_mem_take hy))
      .exact λy hy=>g3.one y (List.mem_of_mem_drop (List.mem_of_mem_take hy))
     .subst h0;simp only[List.take_zero]at A ⊢;exact⟨_,0,#[],by rw[e];rfl,Nat.le_refl _,by rw[e];exact u _ 0,.nil,by simp,by simp⟩
    .simp at h
   .simp at h
  .simp at h
 | _=>simp[dM]at h
theorem pT (z:Array Value) (k:Nat):(Builtin.zeroCells z k).size=k*z.size:=by simp[Builtin.zeroCells]
theorem cM.drew (s:cM I μ H w):cM I μ H w.drew:=s.oG rfl
theorem AE (s:cM I μ H w) {es B:Nat} {xs ys:List (List V)} {old new rest:Array Value} {el:TypeId} (W:cB I μ xs.flatten old.toList) (Y:cB I μ ys.flatten new.toList)
 (G:∀x∈xs,x.length=es) (J:∀x∈ys,x.length=es) (O:∀x∈xs,∀y∈x,V.one y=true) (U:∀x∈ys,∀y∈x,V.one y=true)
 (D:xs.length+ys.length<=B) (hr:rest.size=(B-(xs.length+ys.length))*es) :
 ∃μ',bM I μ' (.hsl H.length es 0 (xs.length+ys.length)) (.slice (some ⟨w.heap.size,0,none⟩) (xs.length+ys.length) B)/\cM I μ' (H++[.row es (xs++ys)]) (w.alloc (.cells (old++new++rest) el)) /\
  Step I μ H w I μ' (H++[.row es (xs++ys)]) (w.alloc (.cells (old++new++rest) el)):=by
 have z:=fK G;have A:=fK J;have t:=W.1;have u:=Y.1;simp only[Array.length_toList]at t u;have C:(old++new++rest).size=B*es:=by
  simp only[Array.size_append];rw[<-t,<-u,z,A,hr,<-Nat.add_mul,<-Nat.add_mul];congr 1;omega
 have q:(xs.length+ys.length)*es<=B*es:=Nat.mul_le_mul_right _ D;rw[Nat.add_mul]at q;have L:gj I μ ⟨w.heap.size,0,es,(old++new++rest).size⟩ (old++new++rest) es (xs++ys):=by
  refine⟨rfl,rfl,?_,?_,?_,?_⟩
  .intro x Q;rcases List.mem_append.1 Q with h|h;exact G x h;exact J x h
  .intro x Q;rcases List.mem_append.1 Q with h|h;exact O x h;exact U x h
  .rw[C];simp only[ζi,Nat.zero_add,Nat.add_mul];exact q
  .have e:((old++new++rest).toList.drop 0).take ((xs++ys).length*es)=old.toList++new.toList:=by
    simp only[List.drop_zero,Array.toList_append];rw[List.take_left' (by simp[<-t,<-u,z,A,Nat.add_mul])]
   rw[e,List.flatten_append];exact W.append Y
 obtain⟨s1,S⟩:=s.push (ob:=.row es (xs++ys)) (o:=.cells (old++new++rest) el) (p:=⟨w.heap.size,0,es,(old++new++rest).size⟩) rfl
  ⟨_,_,el,Mu.gf _ _ _,s.yE,kF _,L.mono (b_.le_refl _) (Mu.qq (s.dom _ (Nat.le_refl _)))⟩
 refine⟨_,?_,s1,S⟩;have:=bM.hsl (I:=I) H.length 0 (xs.length+ys.length) B _ (Mu.gf μ H.length ⟨w.heap.size,0,es,(old++new++rest).size⟩) D (by simp only[Nat.zero_add];rw[C];exact Nat.le_refl _)
 simpa using this
theorem Jm (s:cM I μ H w) {id:Nat} {ob ob':Ob} {p p':Pl} {o:Obj} (B:H[id]? = some ob) (U:ob.live=true) (W:μ id=some p) (Y:p'.b=p.b)
 (aa:sH I (μ.gJ H.length p') (fF w p.b o) H.length ob') (hz:Obj.nf o:=by first|exact tI _ _|exact qV rfl):cM I (μ.gJ H.length p') (H.set id .dead++[ob']) (fF w p.b o)/\Step I μ H w I (μ.gJ H.length p') (H.set id .dead++[ob']) (fF w p.b o):=by
 have Z:=(ζe.1 B).1;have u:iq μ H p.b:=⟨id,p,ob,B,U,W,rfl⟩;have hk:=s.dom H.length (Nat.le_refl _);have t:∀k x,(H.set id .dead++[ob'])[k]? = some x->(k=H.length/\x=ob')\/(k≠H.length/\k=id/\x=.dead)\/(k≠H.length/\k≠id/\H[k]? = some x):=by
  intro k x h
  by_cases e:k<H.length
  .rw[List.getElem?_append_left (by simpa using e)]at h
   by_cases A:k=id
   .subst A;rw[List.getElem?_set_self Z]at h;cases h;exact .inr (.inl ⟨by omega,rfl,rfl⟩)
   .rw[List.getElem?_set_ne (Ne.symm A)]at h;exact .inr (.inr ⟨by omega,A,h⟩)
  .have:=(ζe.1 h).1;simp at this;have e2:k=H.length:=by omega
   subst e2;simp at h;exact .inl ⟨rfl,h.symm⟩
 have z:∀b,iq (μ.gJ H.length p') (H.set id .dead++[ob']) b->iq μ H b:=by
  rintro b ⟨k,q,x,h1,L,Q,rfl⟩;rcases t k x h1 with⟨rfl,rfl⟩|⟨_,_,rfl⟩|⟨e,A,h⟩
  .rw[Mu.gf]at Q;cases Q;rw[Y];exact u
  .simp[Ob.live]at L
  .rw[Mu.iR _ _ e]at Q;exact⟨k,q,x,h,L,Q,rfl⟩
 refine⟨⟨?_,?_,?_,?_,s.gl⟩,⟨b_.le_refl _,Mu.qq hk,by simp,by rw[rQ];exact Nat.le_refl _,?_,?_,rfl,⟨rfl,rfl,Nat.le_refl _⟩,λa _=>BT (b:=p.b) hz (gn o (mQ s u)) (λk hk=>eU o hk) a⟩⟩
 .intro k h;simp at h;rw[Mu.iR _ _ (by omega)]
  exact s.dom k (by omega)
 .intro b x h;refine IC.rG (s.imm b x h) (eU o ?_);intro C;rw[C,fZ s u]at h;cases h
 .intro k x h;rcases t k x h with⟨rfl,rfl⟩|⟨_,_,rfl⟩|⟨e,A,h⟩
  .exact aa
  .trivial
  .refine(s.obs k x h).mono (b_.le_refl _) (Mu.qq hk) (λq hq O=>⟨eU o ?_,fZ s ⟨k,q,x,h,O,hq,rfl⟩⟩) (λhe=>?_)
   .intro C;exact A (s.inj k id x ob q p h B O U hq W C)
   .subst he;rw[Mu.iR _ _ e];exact s.obs k _ h
 .intro k S x T q q' h1 L l1 X G J D;rcases t k x h1 with⟨rfl,rfl⟩|⟨_,_,rfl⟩|⟨e,A,h⟩
  .rcases t S T L with⟨rfl,rfl⟩|⟨_,_,rfl⟩|⟨f,f',g⟩
   .rfl
   .simp[Ob.live]at X
   .rw[Mu.gf]at G;cases G;rw[Mu.iR _ _ f]at J;exact absurd (s.inj S id T ob q' p g B X U J W (by rw[<-D,Y])) f'
  .simp[Ob.live]at l1
  .rcases t S T L with⟨rfl,rfl⟩|⟨_,_,rfl⟩|⟨f,f',g⟩
   .rw[Mu.gf]at J;cases J;rw[Mu.iR _ _ e]at G;exact absurd (s.inj k id x ob q p h B l1 U G W (by rw[D,Y])) A
   .simp[Ob.live]at X
   .rw[Mu.iR _ _ e]at G;rw[Mu.iR _ _ f]at J;exact s.inj k S x T q q' h g l1 X G J D
 .intro b _ hn;refine eU o ?_;rintro rfl;exact hn u
 .intro b h;rcases h with h|h
  .exact .inl h
  .exact .inr (.inl (z b h))
end
end Go.VE
namespace Go.VE
variable [bX]
section
variable {P:Program} {E:Env} {I:b_} {μ:Mu} {H H':bl} {n:Nat} {F:Frame} {a:Act} {w:World}
theorem BS (hE:eH P E) {t t' e:TypeId} {d:TD} {D:TypeDesc} (ht:P.underlying t=some (.slice e)) (W:P.underlying t'=some D) (Y:∃e',D=.slice e') (hd:E.tt e=some d)
 (U J:Option Addr) (sl sc B xc:Nat) (new:Array Value) (aa:(Builtin.firstCells d.size B (.slice J B xc)).run P w=.ok new w) (ty:TypeId) :
 (sl+B<=sc->∀w',(match U with|some b=>(storeCells (b.add (sl*d.size)) new.toList).run P w=.ok () w'|none=>w'=w) ->
  (Builtin.append_ #[t,t'] ty #[.slice U sl sc,.slice J B xc]).run P w=.ok (.slice U (sl+B) sc) w') /\
 (sc<sl+B->sl+B<=2147483648->d.bytes<=4096->0<d.bytes->∀old,(∀O,O.heap=w.heap->(Builtin.firstCells d.size sl (.slice U sl sc)).run P O=.ok old O) ->
  (∀O,O.heap=w.heap->(Builtin.firstCells d.size B (.slice J B xc)).run P O=.ok new O) ->
  ∃G rest,sl+B<=G/\rest.size=(G-(sl+B))*d.size /\
   (Builtin.append_ #[t,t'] ty #[.slice U sl sc,.slice J B xc]).run P w=.ok (.slice (some ⟨w.heap.size,0,none⟩) (sl+B) G) (w.drew.alloc (.cells (old++new++rest) e))):=by
 obtain⟨i,z,H,X,ae,hz,I,af,_⟩:=(hE.ty hd).info;have q:∀w,(zeroValue e).run P w=.ok z w:=λw=>by simp[zeroValue,oa H,hz]
 have L:z.cells.size=d.size:=by have:=(I (λ_=>none) (λ_=>none)).1;grind
 obtain⟨e',rfl⟩:=Y;constructor
 .intro Q w' ah;unfold Builtin.append_;simp only[Sem.run_bind,List.getElem?_toArray,List.getElem?_cons_zero,List.getElem?_cons_succ,dy ht,dy W,Result.andThen_ok,(hE.ty hd).iF,Sem.run_pure,Builtin.lenOf,Bool.false_eq_true,if_false,Bool.not_false,if_true,if_pos Q,aa]
  cases U with
  | none=>simp_all
  | some b=>simp_all
 .intro S Z ai ab old A u;have T  := nextslicecap_le S;have c1:¬(Builtin.nextslicecap (sl+B) sc*i.bytes>2 ^ 48):=by
   have:Builtin.nextslicecap (sl+B) sc*i.bytes<=(2*2147483648)*4096:=Nat.mul_le_mul (by omega) (by omega)
   omega
  have C:¬(sl+B<=sc):=by omega
  refine⟨(Question.appendCap (sl+B) sc e).cut (w.tape w.drawn (Question.appendCap (sl+B) sc e)),Builtin.zeroCells z.cells (((Question.appendCap (sl+B) sc e).cut (w.tape w.drawn (Question.appendCap (sl+B) sc e)))-(sl+B)),?_,?_,?_⟩
  .simp[Question.cut]
  .rw[pT,L]
  .unfold Builtin.append_;simp only[Sem.run_bind,List.getElem?_toArray,List.getElem?_cons_zero,List.getElem?_cons_succ,dy ht,dy W,Result.andThen_ok,(hE.ty hd).iF,Sem.run_pure,Builtin.lenOf,Bool.false_eq_true,if_false,Bool.not_false,if_true,if_neg C,oa H];rw[if_neg (by grind)]
   simp only[Sem.run_bind,oa H,if_neg c1,run_choose,Question.forced,Bool.false_eq_true,if_false,Result.andThen_ok,run_askRoom,q,newRow,run_newObj,Sem.run_pure];rw[A { w with drawn:=w.drawn+1 } rfl];simp only[Result.andThen_ok];rw[u { w with drawn:=w.drawn+1 } rfl];rfl
theorem wrap_small {m:Nat} (h:m<=2147483648):IntKind.i64.wrap (m:Int)=m:=by simp[IntKind.wrap,IntKind.bits];omega
theorem Eg (O:eH P E) {t U e:TypeId} {d:TD} {kk k:IntKind} (Y:P.underlying t=some (.slice e)) (G:P.underlying U=some (.int kk)) (W:E.tt e=some d) (ty:TypeId) (m:Nat) (D:m<=2147483648) :
 (m=0->(Builtin.append_ #[t,U] ty #[.slice none 0 0,.int k m]).run P w=.ok (.slice none 0 0) w) /\
 (0<m->d.bytes<=4096->0<d.bytes->∃B z rest,m<=B/\rest.size=(B-m)*d.size/\cB I μ d.zero z.toList /\
  (Builtin.append_ #[t,U] ty #[.slice none 0 0,.int k m]).run P w=.ok (.slice (some ⟨w.heap.size,0,none⟩) m B) (w.drew.alloc (.cells (#[]++Builtin.zeroCells z m++rest) e))):=by
 obtain⟨i,z,J,T,aa,hz,u,ab,_⟩:=(O.ty W).info;have q:∀w,(zeroValue e).run P w=.ok z w:=λw=>by simp[zeroValue,oa J,hz]
 have A:z.cells.size=d.size:=by have:=(u (λ_=>none) (λ_=>none)).1;grind
 have hw:=wrap_small D;constructor
 .rintro rfl;unfold Builtin.append_;have L:IntKind.i64.wrap 0=0:=by omega
  simp[dy Y,dy G,(O.ty W).iF,asInt,oa J,lN,L]
 .intro X ad Z;have Q:Builtin.nextslicecap (0+m) 0<=2*(0+m):=nextslicecap_le (by omega)
  have c1:¬(Builtin.nextslicecap (0+m) 0*i.bytes>2 ^ 48):=by
   have:Builtin.nextslicecap (0+m) 0*i.bytes<=(2*2147483648)*4096:=Nat.mul_le_mul (by omega) (by omega)
   omega
  have c0:¬(m*(i.bytes:Int)>2 ^ 48):=by
   have h1:m*i.bytes<=2147483648*4096:=Nat.mul_le_mul D (by omega)
   grind
  have c2:¬((0+m:Nat)>IntKind.i64.max):=by
   have:IntKind.i64.max=9223372036854775807:=by rfl
   omega
  have C:¬(0+m<=0):=by omega
  have H:¬((m:Int)<0):=by omega
  refine⟨(Question.appendCap (0+m) 0 e).cut (w.tape w.drawn (Question.appendCap (0+m) 0 e)),z.cells,Builtin.zeroCells z.cells (((Question.appendCap (0+m) 0 e).cut (w.tape w.drawn (Question.appendCap (0+m) 0 e)))-(0+m)),?_,?_,u _ _,?_⟩
  .simp[Question.cut]
  .rw[pT,A,Nat.zero_add]
  .unfold Builtin.append_;have S:(if m*d.size=0 then pure #[]else do pure (Builtin.zeroCells (<-zeroValue e).cells m))=(do pure (Builtin.zeroCells (<-zeroValue e).cells m))\/(m*d.size=0/\Builtin.zeroCells z.cells m=#[]):=by
    by_cases h:m*d.size=0
    .right;exact⟨h,Array.eq_empty_of_size_eq_zero (by rw[pT,A,h])⟩
    .left;rw[if_neg h]
   simp only[Sem.run_bind,List.getElem?_toArray,List.getElem?_cons_zero,List.getElem?_cons_succ,dy Y,dy G,Result.andThen_ok,(O.ty W).iF,Sem.run_pure,if_true,asInt,lN,hw,if_neg H,oa J,if_neg c0,Int.toNat_natCast,if_neg C,if_false];rw[if_neg (λh=>c2 h.1)]
   simp only[Sem.run_bind,oa J,if_neg c1,run_choose,Question.forced,Result.andThen_ok,q,newRow,Builtin.firstCells];rcases S with h|⟨h,h'⟩
   .rw[h];simp[q,run_newObj]
   .rw[if_pos h,h'];simp[run_newObj]
theorem Lr (hE:eH P E) (r:ei I μ n F a.tmps) (s:cM I μ H w) {args:Array Operand} {O:Array TypeId} {x:V} {ty:TypeId}
 (h:cO E F H (.call { callee:=.builtin .append,args,argTypes:=O })=some (x,H')) :
 A9 P I μ H w (do let d <-resolve a.eval { callee:=.builtin .append,args,argTypes:=O } ty;invoke d.target d.args) x H':=by
 simp[cO]at h;split at h
 .rename_i t t' vs vx ax ai;obtain⟨us,ux,U,hs,T⟩:=(nu r ai).two;split at h
  .rename_i e e' hk aj;obtain⟨d0,ak,al⟩:=fB hk;obtain⟨desc,h1,h2,h3⟩:=(hE.ty ak).dy;rw[al]at h2;have:=jP h2;subst this;obtain⟨d1,Eo,W⟩:=fB aj;obtain⟨am,g1,g2,g3⟩:=(hE.ty Eo).dy;rw[W]at g2;have:=jP g2;subst this;have B:∀v w',(Builtin.append_ #[t,t'] ty #[us,ux]).run P w=.ok v w' ->
    (do let d <-resolve a.eval { callee:=.builtin .append,args,argTypes:=O } ty;invoke d.target d.args).run P w=.ok (.value v) w':=by
    simp[resolve,Sem.run_bind,Sem.run_pure,Result.andThen_ok,invoke,builtin];rw[rO U];have ea:O=#[t,t']:=by grind
    simp_all
   split at h
   .rename_i d hd;split at h
    .
     rename_i xs A an;obtain⟨ad,cap,arr,e1,e2,e3,e4,_⟩:=Cr (P:=P) s hs A;obtain⟨ao,X,C,f1,f2,f3,f4,_⟩:=Cr  s T an;simp  at f1 f3;have ay:C=#[]:=by
      have:=f4.1;grind
     have f3:=f3 w rfl;rw[f1]at f3;have key:=(BS hE h1 g1 ⟨_,rfl⟩ hd ad ao xs.length cap 0 X C f3 ty).1 (by omega) w
      (by
       cases ad with
       | none=>rfl
       | some b=>simp[ay,storeCells])
     rw[<-f1,<-e1,Nat.add_zero,<-e1]at key;have ap:x=vs/\H'=H:=by
      grind
     obtain⟨rfl,rfl⟩:=ap;exact⟨_,us,w,μ,B _ _ key,.inl rfl,hs,s,.refl _ _ _ _⟩
    .rename_i xs ys aG A an;obtain⟨ad,cap,arr,e1,e2,e3,e4,e5,e6⟩:=Cr  s hs A;obtain⟨ao,X,C,f1,f2,f3,f4,f5,f6⟩:=Cr  s T an;split at h
     .rename_i hc;obtain⟨aA,aq,ar⟩:=hc;have aH:0<ys.length:=by
       rcases Nat.eq_zero_or_pos ys.length with h0|h0
       .exact absurd (List.eq_nil_of_length_eq_zero h0) aG
       .exact h0
      have key:=BS hE h1 g1 ⟨_,rfl⟩ hd ad ao xs.length cap ys.length X C (by rw[<-f1];exact f3 w rfl) ty
      rw[<-f1,<-e1]at key;have Q:cap<xs.length+ys.length->∃D rest,xs.length+ys.length<=D/\rest.size=(D-(xs.length+ys.length))*d.size /\
       (Builtin.append_ #[t,t'] ty #[us,ux]).run P w=.ok (.slice (some ⟨w.heap.size,0,none⟩) (xs.length+ys.length) D) (w.drew.alloc (.cells (arr++C++rest) e)):=by
       intro au;refine key.2 au aA aq ar arr ?_ ?_
       .intro w2 av;exact e3 w2 av
       .intro w2 av;exact f3 w2 av
      simp  at h;obtain⟨H1,J,rfl,rfl⟩:=h
      cases vs with
      | c9=>
       simp[gQ]at J;subst J;simp[dM]at A;subst A;obtain⟨aI,q⟩:=hs.rP;have af:cap=0:=by rw[q]at e1;cases e1;rfl
       obtain⟨D,rest,k1,k2,k3⟩:=Q (by simp;omega)
       obtain⟨μ',m1,m2,m3⟩:=AE  s.drew e4 f4 e5 f5 e6 f6 k1 k2;refine⟨_,_,_,μ',B _ _ k3,.inl rfl,m1,m2,?_⟩;exact Step.trans s.drew (Step.oG rfl rfl ⟨rfl,rfl,Nat.le_succ _⟩) m3
      | bH=>
       simp[gQ]at J;subst J;simp[dM]at A;subst A;have q:=hs.lS;have af:cap=0:=by rw[q]at e1;cases e1;rfl
       obtain⟨D,rest,k1,k2,k3⟩:=Q (by simp;omega)
       obtain⟨μ',m1,m2,m3⟩:=AE  s.drew e4 f4 e5 f5 e6 f6 k1 k2;refine⟨_,_,_,μ',B _ _ k3,.inl rfl,m1,m2,?_⟩;exact Step.trans s.drew (Step.oG rfl rfl ⟨rfl,rfl,Nat.le_succ _⟩) m3
      | hsl id es off len=>
       simp[gQ]at J;split at J
       .rename_i u aJ ab;simp  at J;subst J;have aB:(H[id]?).bind Ob.rows=some (u,aJ):=by rw[ab];rfl
        have aW:=A;simp only[dM]at A;split at A
        .rename_i aK;rw[aB]at A;simp only at A;split at A
         .rename_i aL;simp  at A;obtain⟨p,c,aC,q1,q2,q3,q4⟩:=s.obs id _ ab;have Y:xs.length=len:=by rw[<-A];simp;omega
          have G:cap<xs.length+ys.length->A9 P I μ H w (do let d <-resolve a.eval { callee:=.builtin .append,args,argTypes:=O } ty;invoke d.target d.args)
           (.hsl H.length d.size 0 (xs.length+ys.length)) (H.set id .dead++[.row d.size (xs++ys)]):=by
           intro au;obtain⟨D,rest,k1,k2,k3⟩:=Q au;obtain⟨s1,s2⟩:=s.drew.kill ab;obtain⟨μ',m1,m2,m3⟩:=AE  s1 e4 f4 e5 f5 e6 f6 k1 k2;rw[List.length_set]at m1;exact⟨_,_,_,μ',B _ _ k3,.inl rfl,m1,m2,Step.trans s.drew (Step.oG rfl rfl ⟨rfl,rfl,Nat.le_succ _⟩) (Step.trans s1 s2 m3)⟩
          rcases hs.lV with⟨p',S,hm,aM,aX,aN,ee⟩|⟨h0,aI,ee⟩
          .rw[q1]at hm;cases hm;have aw:S=cap/\ad=some ⟨p.b,p.o+off*es,none⟩:=by rw[ee]at e1;cases e1;exact⟨rfl,rfl⟩
           obtain⟨rfl,rfl⟩:=aw
           by_cases ah:xs.length+ys.length<=S
           .have aD:u=es:=by rw[<-q4.es_eq,aM]
            subst aD;have L  := aK;obtain⟨r1,r2⟩:=q4.span aL;rw[A]at r1;have ae:=f4.1;simp only[Array.length_toList]at ae;rw[fK f5]at ae;have aO:(len+ys.length)*u<=S*u:=Nat.mul_le_mul_right _ (by omega)
            rw[Nat.add_mul]at aO;rw[Nat.add_mul]at aN;have aP:=q4.sz;rw[<-L]at ae;have Z:p.o+off*u+len*u+0+C.toList.length<=c.size:=by simp;omega
            obtain⟨c',u1,u2⟩:=om   C.toList 0 w c q3 (f4.Oe (λx T=>by
             obtain⟨l,hl,aQ⟩:=List.mem_flatten.1 T;exact f6 l hl x aQ)) Z
            have aE:c'.size=c.size:=by
             have:=congrArg List.length u2;simp at this Z;omega
            have aF:=key.1 ah (fF w p.b (.cells c' aC)) (by
             simp[o9,Y];rw[<-L];exact u1)
            have aa:gj I μ ⟨p.b,p.o+off*u,u,p.sz⟩ c' u (xs++ys):=by
             refine⟨rfl,by rw[aE];exact aP,?_,?_,?_,?_⟩
             .intro x T;rcases List.mem_append.1 T with h|h;exact(e5 x h).trans L.symm;exact(f5 x h).trans L.symm
             .intro x T;rcases List.mem_append.1 T with h|h;exact e6 x h;exact f6 x h
             .rw[aE,ζi,Y,Nat.add_mul];simp only;omega
             .have e:(c'.toList.drop (p.o+off*u)).take ((xs++ys).length*u)=(c.toList.drop (p.o+off*u)).take (len*u)++C.toList:=by
               rw[u2,ζi,Y,Nat.add_mul,ae];simp only[Nat.add_zero];have aR:(List.take (p.o+off*u+len*u) c.toList).length=p.o+off*u+len*u:=by simp;omega
               rw[List.append_assoc,List.drop_append_of_le_length (by rw[aR];omega),List.drop_take,show p.o+off*u+len*u-(p.o+off*u)=len*u by omega]
               have aS:(List.take (len*u) (List.drop (p.o+off*u) c.toList)).length=len*u:=by simp;omega
               rw[<-List.append_assoc,List.take_left' (by rw[ζi,aS];simp)]
              rw[e,List.flatten_append];exact r1.append f4
            obtain⟨s1,s2⟩:=Jm (ob':=.row u (xs++ys)) (p':=⟨p.b,p.o+off*u,u,p.sz⟩)  s ab rfl q1 rfl
             ⟨_,c',aC,Mu.gf _ _ _,q2,gn _ (Array.getElem?_eq_some_iff.1 q3).1,aa.mono (b_.le_refl _) (Mu.qq (s.dom _ (Nat.le_refl _)))⟩
            rw[<-L];refine⟨_,_,_,_,B _ _ aF,.inl rfl,?_,s1,s2⟩;have:=bM.hsl (I:=I) H.length 0 (xs.length+ys.length) S _ (Mu.gf μ H.length ⟨p.b,p.o+off*u,u,p.sz⟩) ah (by simp ;omega)
            simpa using this
           .exact G (by omega)
          .have af  := by rw[ee]at e1;simp[Value.slice.injEq]at e1;exact e1.2.2.symm
           exact G (by omega)
         .simp at A
        .simp at A
       .simp at J
      | _=>simp[gQ]at J
     grind
    grind
   grind
  .
   rename_i e kk hk aj;obtain⟨d0,ak,al⟩:=fB hk;obtain⟨desc,h1,h2,h3⟩:=(hE.ty ak).dy;rw[al]at h2;have:=jP h2;subst this;obtain⟨d1,Eo,W⟩:=fB aj;obtain⟨am,g1,g2,g3⟩:=(hE.ty Eo).dy;rw[W]at g2;have:=Gp g2;subst this;have B:∀v w',(Builtin.append_ #[t,t'] ty #[us,ux]).run P w=.ok v w' ->
    (do let d <-resolve a.eval { callee:=.builtin .append,args,argTypes:=O } ty;invoke d.target d.args).run P w=.ok (.value v) w':=by
    intro v w' hv;simp[resolve,Sem.run_bind,Sem.run_pure,Result.andThen_ok,invoke,builtin];rw[rO U];have ea:O=#[t,t']:=by apply Array.ext';simpa using ax
    rw[ea,hv];rfl
   split at h
   .rename_i d hd;unfold mkApp at h;split at h
    .rename_i k m;have q:=hs.lS;subst q;have q:=T.fN;subst q;split at h
     .rename_i h0;subst h0;cases h;have key:=(Eg (μ:=μ) (I:=I) (w:=w) (k:=k) hE h1 g1 hd ty 0 (by omega)).1 rfl
      exact⟨_,_,w,μ,B _ _ key,.inl rfl,hs,s,.refl _ _ _ _⟩
     .split at h
      .rename_i hc;obtain⟨aT,aA,aq,ar⟩:=hc;cases h;obtain⟨m,rfl⟩:=Int.eq_ofNat_of_zero_le (Int.le_of_lt aT);obtain⟨D,z,rest,k1,k2,k3,k4⟩:=(Eg     hE h1 g1 hd ty m (by omega)).2 (by omega) aq ar
       have aU  := (hE.ty hd).info.choose_spec.choose_spec.2.2.2.2.2.1;have aV  := (hE.ty hd).info.choose_spec.choose_spec.2.2.2.2.2.2.1;have hu:∀x∈List.replicate m d.zero,x.length=d.size:=λx T=>by rw[List.eq_of_mem_replicate T];exact aU
       have ho:∀x∈List.replicate m d.zero,∀y∈x,V.one y=true:=λx T y hy=>by rw[List.eq_of_mem_replicate T]at hy;exact List.all_eq_true.1 aV y hy
       obtain⟨μ',m1,m2,m3⟩:=AE  (xs:=[]) (ys:=List.replicate m d.zero) (old:=#[]) (new:=Builtin.zeroCells z m) (rest:=rest) s.drew .nil (wz k3 m) (by simp) hu (by simp) ho (by simpa using k1) (by simpa using k2)
       simp  at m1 m2 m3;refine⟨_,_,_,μ',B _ _ k4,.inl rfl,by simpa using m1,by simpa using m2,?_⟩
       exact Step.trans s.drew (Step.oG rfl rfl ⟨rfl,rfl,Nat.le_succ _⟩) (by simpa using m3)
      .cases h
    .cases h
   .cases h
  grind
 grind
theorem zu {es:Nat} {xs:List (List V)} (hu:∀x∈xs,x.length=es) (k:Nat) (hk:k<=xs.length):(xs.take k).flatten=xs.flatten.take (k*es)/\(xs.drop k).flatten=xs.flatten.drop (k*es):=by
 have q:xs.flatten=(xs.take k).flatten++(xs.drop k).flatten:=by rw[<-List.flatten_append,List.take_append_drop]
 have g1:(xs.take k).flatten.length=k*es:=by
  rw[fK (λx q=>hu x (List.mem_of_mem_take q)),List.length_take,Nat.min_eq_left hk]
 grind
theorem Ng (hE:eH P E) (r:ei I μ n F a.tmps) (s:cM I μ H w) {args:Array Operand} {B:Array TypeId} {x:V} {ty:TypeId}
 (h:cO E F H (.call { callee:=.builtin .clear,args,argTypes:=B })=some (x,H')) :
 A9 P I μ H w (do let d <-resolve a.eval { callee:=.builtin .clear,args,argTypes:=B } ty;invoke d.target d.args) x H':=by
 simp[cO]at h;split at h
 .rename_i t v ae L;obtain⟨u,hu,hr⟩:=(nu r L).one;split at h
  .rename_i e hk;obtain⟨d0,af,ah⟩:=fB hk;obtain⟨desc,h1,h2,h3⟩:=(hE.ty af).dy;rw[ah]at h2;have:=jP h2;split at h
   .rename_i d hd;obtain⟨i,z,hi,ar,av,hz,S,ai,aj,_⟩:=(hE.ty hd).info;have ak:∀w,(zeroValue e).run P w=.ok z w:=λw=>by simp[zeroValue,oa hi,hz]
    have al:z.cells.size=d.size:=by have:=(S (λ_=>none) (λ_=>none)).1;grind
    have J:∀v w',(Builtin.clear_ B ty #[u]).run P w=.ok v w' ->
     (do let d <-resolve a.eval { callee:=.builtin .clear,args,argTypes:=B } ty;invoke d.target d.args).run P w=.ok (.value v) w':=by
     intro v w' hv;simp[resolve,Sem.run_bind,Sem.run_pure,Result.andThen_ok,invoke,builtin];rw[rO hu,hv];rfl
    have T:∀U cap,u=.slice U 0 cap->A9 P I μ H w (do let d <-resolve a.eval { callee:=.builtin .clear,args,argTypes:=B } ty;invoke d.target d.args) .undef H:=λU cap q=>by
     subst q;refine⟨_,.tuple #[],w,μ,J (.tuple #[]) w ?_,.inl rfl,bM.undef _ _,s,.refl _ _ _ _⟩;unfold Builtin.clear_;cases U <;> simp[ae,h3]
    unfold Cq at h;split at h
    .cases h;exact T _ _ hr.lS
    .obtain⟨U,q⟩:=hr.rP;grind
    .rename_i id es off len;split at h
     .rename_i O;subst O;split at h
      .rcases hr.lV with⟨p,cap,_,_,_,_,q⟩|⟨_,U,q⟩
       .grind
       grind
      .rename_i len;split at h
       .rename_i am Q W;split at h
        .rename_i X;cases h;obtain⟨p,c,el,hp,hI,C,A⟩:=s.obs id _ W;rcases hr.lV with⟨q,cap,hq,an,au,ao,rfl⟩|⟨h0,_⟩
         .rw[hp]at hq;cases hq;have O:am=d.size:=by rw[<-A.es_eq,an]
          subst O;have G:(Builtin.zeroCells z.cells (len+1)).size=(len+1)*d.size:=by rw[pT,al]
          have aw:=A.room;have Y:(off+(len+1))*d.size<=Q.length*d.size:=Nat.mul_le_mul_right _ X;rw[Nat.add_mul]at Y;have D:=wz   (S I μ) (len+1);have ap:∀x∈List.replicate (len+1) d.zero,x.length=d.size:=λx hx=>by rw[List.eq_of_mem_replicate hx];exact ai
          have Z:∀x∈List.replicate (len+1) d.zero,∀y∈x,V.one y=true:=λx hx y hy=>by rw[List.eq_of_mem_replicate hx]at hy;exact List.all_eq_true.1 aj y hy
          obtain⟨c',u1,u2⟩:=om (P:=P) (o:=p.o+off*d.size) (Builtin.zeroCells z.cells (len+1)).toList 0 w c C (cB.Oe D (λx hx=>by
           obtain⟨l,hl,aq⟩:=List.mem_flatten.1 hx;exact Z l hl x aq)) (by simp[G];omega)
          rw[Nat.add_zero]at u2;have aa:c'.size=c.size:=by
           have:=congrArg List.length u2;simp[G]at this;omega
          obtain⟨s2,st2⟩:=s.write  (ob':=.row d.size (Q.take off++List.replicate (len+1) d.zero++Q.drop (off+(len+1)))) W rfl hp
           ⟨p,c',el,hp,hI,gn _ (Array.getElem?_eq_some_iff.1 C).1,by
            have ab:(Q.take off++List.replicate (len+1) d.zero++Q.drop (off+(len+1))).length=Q.length:=by simp;omega
            refine⟨A.es_eq,by rw[aa];exact A.sz,?_,?_,by rw[ab,aa];exact A.room,?_⟩
            .intro x hx;rcases List.mem_append.1 hx with hx|hx
             .rcases List.mem_append.1 hx with hx|hx
              .exact A.oW x (List.mem_of_mem_take hx)
              .exact ap x hx
             .exact A.oW x (List.mem_of_mem_drop hx)
            .intro x hx;rcases List.mem_append.1 hx with hx|hx
             .rcases List.mem_append.1 hx with hx|hx
              .exact A.one x (List.mem_of_mem_take hx)
              .exact Z x hx
             .exact A.one x (List.mem_of_mem_drop hx)
            .rw[ab,u2];have hL:=AT c.toList (Builtin.zeroCells z.cells (len+1)).toList p.o (Q.length*d.size) (off*d.size) (by simp;omega) (by simp[G];omega)
             rw[hL,List.flatten_append,List.flatten_append,(zu A.oW off (by omega)).1,(zu A.oW _ X).2]
             have e:off*d.size+(Builtin.zeroCells z.cells (len+1)).toList.length=(off+(len+1))*d.size:=by simp[G,Nat.add_mul]
             rw[e];exact((A.rel.take _).append D).append (A.rel.drop _)⟩
          refine⟨_,.tuple #[],_,μ,J (.tuple #[]) (fF w p.b (.cells c' el)) ?_,.inl rfl,bM.undef _ _,s2,st2⟩;unfold Builtin.clear_;simp_all
         simp_all
        simp_all
       simp_all
     simp_all
    simp_all
   simp_all
  simp_all
 simp_all
end
end Go.VE
namespace Go.VE
variable [bX]
section
variable {P:Program} {E:Env} {I:b_} {μ:Mu} {H H':bl} {n:Nat} {F:Frame} {a:Act} {w:World}
theorem Uo (s t:ByteArray) (h:(s==t)=true):s=t:=by
 cases s with|mk a=>cases t with|mk b=>
 have q:(a==b)=true:=h
 grind
inductive ya (P:Program) (E:Env) (t:TypeId):V->Value->Prop
 | int (k:IntKind) (m:Int) (h:P.underlying t=some (.int k)):ya P E t (.int k m) (.int k m)
 | str (s:ByteArray) (h:P.underlying t=some .string):ya P E t (.str s) (.string s)
 | agg (m:Nat) (cs:List V) (l:List Int) (h:ta P t m) (hl:l.length=m) (hi:iC cs=some l):ya P E t (.agg cs) (.agg (ic l))
theorem Mi (B:eH P E) {t:TypeId} {k:V} {v:Value} (h:wq E t k=true) (hv:bM I μ k v):ya P E t k v:=by
 unfold wq at h;split at h
 .rename_i k1 k2 m hk;obtain⟨d,w,q⟩:=fB hk;obtain⟨desc,h1,u,D⟩:=(B.ty w).dy;rw[q]at u;have:=Gp u;subst this;have e:k1=k2:=by grind
  subst e;rw[hv.fN];exact .int _ _ h1
 .rename_i s hk;obtain⟨d,w,q⟩:=fB hk;obtain⟨desc,h1,u,D⟩:=(B.ty w).dy;rw[q]at u;have:=Cz u;subst this;rw[hv.tB];exact .str _ h1
 .rename_i G _;split at h
  .rename_i m z;simp[Option.isSome_iff_exists]at h;obtain⟨H,l,C⟩:=h;obtain⟨J,rfl,A⟩:=hv.iK;obtain⟨rfl,e⟩:=qa C A;exact .agg m G l (B.eqN _ _ z) (by omega) C
  grind
 grind
theorem MJ (d:Nat) (e:Bool) {t:TypeId} {k:IntKind} {m:Int} (h:P.underlying t=some (.int k)):(Instr.checkKey e (d+1) t (.int k m)).run P w=.ok () w:=by
 simp[Instr.checkKey,Sem.run_bind,dy h,Result.andThen_ok,Sem.run_pure]
theorem K6 (d:Nat) (e:Bool) {t:TypeId} {m:ByteArray} (h:P.underlying t=some .string):(Instr.checkKey e (d+1) t (.string m)).run P w=.ok () w:=by
 simp[Instr.checkKey,Sem.run_bind,dy h,Result.andThen_ok,Sem.run_pure]
theorem xU {t:TypeId} {k:V} {v:Value} (h:ya P E t k v) (e:Bool):(Instr.checkKey e 10000 t v).run P w=.ok () w:=by
 cases h with
 | int k m h=>exact MJ 9999 e h
 | str s h=>exact K6 9999 e h
 | agg m u l h q z=>exact h.check w e l q
def lT (I:b_) (μ:Mu) (es:List MapEntry) (i:Nat):Option (Nat×V)->Option (Nat×Value)->Prop
 | none,none=>True
 | some (j,x),some (B,v)=>j=B/\bM I μ x v/\i<=j/\∃e,es[j-i]? = some e/\e.val=v
 | _,_=>False
theorem BX {d:TypeDesc} {k:V} {v:Value} (J:(∃kk m,d=.int kk/\k=.int kk m/\v=.int kk m)\/(∃s,d=.string/\k=.str s/\v=.string s)) :
 ∀(B:List (V×V)) (es:List MapEntry) (i:Nat) (r:Option (Nat×V)),B.length=es.length->(∀(j:Nat) q e,B[j]? = some q->es[j]? = some e->bM I μ q.1 e.key/\bM I μ q.2 e.val) ->
 iL k B i=some r->∃D,Instr.findNow d v es i=some D/\lT I μ es i r D/\∀j x,r=some (j,x)->∃e,es[j-i]? = some e/\e.key=v:=by
 intro B
 induction B with
 | nil=>
  intro es i r H _ h
  cases es with
  | nil=>simp only[iL,ζa]at h;subst h;exact⟨none,rfl,trivial,by simp⟩
  | cons _ _=>simp_all
 | cons q B L=>
  intro es i r H hr h
  cases es with
  | nil=>simp_all
  | cons e es=>
   obtain⟨A,O⟩:=q;obtain⟨g1,g2⟩:=hr 0 (A,O) e rfl rfl;simp only[iL]at h;have t:∀b,wu k A=some b->Instr.sameNow d v e.key=some b/\(b=true->e.key=v):=by
    intro b u;rcases J with⟨kk,m,rfl,rfl,rfl⟩|⟨s,rfl,rfl,rfl⟩
    .cases A <;> simp only[wu]at u <;> (try grind)
     rename_i k2 m2;split at u
     .rename_i C;simp only[ζa]at u;subst u;subst C;rw[g1.fN];exact⟨by simp[Instr.sameNow],by simp;grind⟩
     grind
    .cases A <;> simp only[wu]at u <;> (try (simp at u;done))
     simp only[ζa]at u;subst u;rw[g1.tB];exact⟨by simp[Instr.sameNow],λQ=>by rw[Uo _ _ Q]⟩
   split at h
   .rename_i hk;obtain⟨f1,f2⟩:=t true hk;simp only[ζa]at h;subst h;refine⟨some (i,e.val),by simp[Instr.findNow,f1],⟨rfl,g2,Nat.le_refl _,e,by simp,rfl⟩,?_⟩
    intro j x w;simp only[ζa,ζc]at w;obtain⟨rfl,_⟩:=w;exact⟨e,by simp,f2 rfl⟩
   .rename_i hk;obtain⟨f1,_⟩:=t false hk;obtain⟨D,p1,p2,p3⟩:=L es (i+1) r (by simpa using H) (λj a b x y=>hr (j+1) a b (by simpa using x) (by simpa using y)) h
    refine⟨D,by simp[Instr.findNow,f1,p1],?_,?_⟩
    .cases r with
     | none=>cases D <;> simp_all [lT]
     | some z=>
      cases D with
      | none=>simp[lT]at p2
      | some S=>
       obtain⟨T,U,c3,G,W,X⟩:=p2;exact⟨T,U,by omega,G,by rw[show z.1-i=(z.1-(i+1))+1 by omega];simpa using W,X⟩
    .intro j x w;obtain⟨G,Y,Z⟩:=p3 j x w;subst w;have:i+1<=j:=by
      cases D with
      | none=>simp[lT]at p2
      | some S=>exact p2.2.2.1
     exact⟨G,by rw[show j-i=(j-(i+1))+1 by omega];simpa using Y,Z⟩
   grind
theorem Jt {t:TypeId} {m:Nat} (U:ta P t m) {cs:List V} {l:List Int} (W:l.length=m) (Y:iC cs=some l) :
 ∀(B:List (V×V)) (es:List MapEntry) (i:Nat) (r:Option (Nat×V)),B.length=es.length->(∀(j:Nat) q e,B[j]? = some q->es[j]? = some e->bM I μ q.1 e.key/\bM I μ q.2 e.val) ->
 iL (.agg cs) B i=some r->∃D,(Instr.findAsking t (.agg (ic l)) es i).run P w=.ok D w/\lT I μ es i r D/\∀j x,r=some (j,x)->∃e,es[j-i]? = some e/\e.key=.agg (ic l):=by
 intro B
 induction B with
 | nil=>
  intro es i r A _ h
  cases es with
  | nil=>simp[iL]at h;subst h;exact⟨none,rfl,trivial,by simp⟩
  | cons _ _=>simp_all
 | cons q B Q=>
  intro es i r A hr h
  cases es with
  | nil=>simp_all
  | cons e es=>
   obtain⟨C,S⟩:=q;obtain⟨g1,g2⟩:=hr 0 (C,S) e rfl rfl;simp[iL]at h;have u:∀b,wu (.agg cs) C=some b->(Op.equal t (.agg (ic l)) e.key).run P w=.ok b w/\(b=true->e.key=.agg (ic l)):=by
    intro b G;cases C <;> simp[wu]at G <;> (try (simp at G))
    obtain⟨ia,T,L,x2,x3,rfl⟩:=xd G;rw[Y]at L;cases L;obtain⟨vb,ev,H⟩:=g1.iK;obtain⟨rfl,e2⟩:=qa x2 H;rw[ev];refine⟨U.key w l T W (by omega),?_⟩
    grind
   split at h
   .rename_i hk;obtain⟨f1,f2⟩:=u true hk;simp  at h;subst h;refine⟨some (i,e.val),by simp[Instr.findAsking,f1],⟨rfl,g2,Nat.le_refl _,e,by simp,rfl⟩,?_⟩
    grind
   .rename_i hk;obtain⟨f1,_⟩:=u false hk;obtain⟨D,p1,p2,p3⟩:=Q es (i+1) r (by grind) (λj a b x y=>hr (j+1) a b (by grind) (by simpa using y)) h
    refine⟨D,by simp[Instr.findAsking,f1,p1],?_,?_⟩
    .cases r with
     | none=>cases D <;> simp_all [lT]
     | some z=>
      cases D with
      | none=>simp[lT]at p2
      | some X=>
       obtain⟨Z,c2,c3,J,c4,c5⟩:=p2;exact⟨Z,c2,by omega,J,by rw[show z.1-i=(z.1-(i+1))+1 by omega];simpa using c4,c5⟩
    .intro j x O;obtain⟨J,u1,u2⟩:=p3 j x O;subst O;have  := by
      cases D with
      | none=>simp[lT]at p2
      | some X=>exact p2.2.2.1
     exact⟨J,by rw[show j-i=(j-(i+1))+1 by omega];simpa using u1,u2⟩
   grind
theorem u9 {t:TypeId} {k:V} {v:Value} (h:ya P E t k v) {B:List (V×V)} {es:Array MapEntry} (hr:uU I μ B es) {r:Option (Nat×V)} (G:iL k B 0=some r) :
 ∃D,(Instr.findKey t v es.toList).run P w=.ok D w/\lT I μ es.toList 0 r D/\∀j x,r=some (j,x)->∃e,es[j]? = some e/\e.key=v:=by
 have u  := by simpa using hr.1
 have z:∀(j:Nat) q e,B[j]? = some q->es.toList[j]? = some e->bM I μ q.1 e.key/\bM I μ q.2 e.val:=λj q e x y=>hr.2 j q e x (by grind)
 have fin:∀(D:Option (Nat×Value)),(∀j x,r=some (j,x)->∃e,es.toList[j-0]? = some e/\e.key=v)->∀j x,r=some (j,x)->∃e,es[j]? = some e/\e.key=v:=by
  grind
 cases h with
 | int kk m h=>
  obtain⟨D,g1,g2,g3⟩:=BX (.inl ⟨kk,m,rfl,rfl,rfl⟩) B es.toList 0 r u z G;exact⟨D,by simp[Instr.findKey,Sem.run_bind,dy h,Result.andThen_ok,g1,Sem.run_pure],g2,fin D g3⟩
 | str s h=>
  obtain⟨D,g1,g2,g3⟩:=BX (.inr ⟨s,rfl,rfl,rfl⟩) B es.toList 0 r u z G;exact⟨D,by simp[Instr.findKey,Sem.run_bind,dy h,Result.andThen_ok,g1,Sem.run_pure],g2,fin D g3⟩
 | agg m O l h H J=>
  obtain⟨D,g1,g2,g3⟩:=Jt (w:=w) h H J B es.toList 0 r u z G;obtain⟨d,L,A⟩:=h.kind;refine⟨D,?_,g2,fin D g3⟩;simp[Instr.findKey,Sem.run_bind,dy L,Result.andThen_ok]
  cases C:es.toList with
  | nil=>
   rw[C]at g1;simp[Instr.findNow,Sem.run_pure];simpa [Instr.findAsking]using g1
  | cons e rest=>
   have:Instr.findNow d (.agg (ic l)) (e::rest) 0=none:=by
    rcases A with⟨_,_,rfl⟩|⟨_,rfl⟩ <;> simp[Instr.findNow,Instr.sameNow]
   grind
theorem y8 {b:Nat} {o:Obj} (h:w.heap[b]? = some o) (B:∀c e f,o≠.cells c e f):(getObj b).run P w=.ok o w:=by
 simp[getObj,Sem.run,h]
theorem Nx (s:cM I μ H w) {m:V} {v:Value} (hv:bM I μ m v) {B:List (V×V)} (h:mC H m=some B) :
 (v=.map none/\B=[])\/∃b es clock,v=.map (some b)/\w.heap[b]? = some (.map es clock)/\uU I μ B es:=by
 cases m with
 | gw=>simp only[mC,ζa]at h;exact .inl ⟨hv.M8,h.symm⟩
 | fmap k=>
  simp[mC]at h;subst h
  cases hv with
  | c _ _ hv=>cases hv with
   | fmap _ b es z A hk t=>
    obtain⟨cl,g⟩:=s.imm _ _ z;exact .inr ⟨b,es,cl,rfl,g,A,λj q e x y=>⟨.c _ _ (hk j q e x y),.c _ _ (t j q e x y)⟩⟩
 | hmap id=>
  simp[mC]at h;split at h
  .rename_i C u;simp  at h;obtain⟨p,es,cl,g1,g2,g3,g4⟩:=s.obs id _ u;obtain⟨q,D,e⟩:=hv.Bk
   grind
  grind
 | _=>simp[mC]at h
theorem Lq (O:eH P E) (r:ei I μ n F a.tmps) (s:cM I μ H w) {t:TypeId} {m k:Operand} {ok:Bool} {x:V} (h:dO E F H (.lookup t m k ok)=some x) :
 ∃v,(Instr.lookup t (a.eval m) (a.eval k) ok).run P w=.ok v w/\bM I μ x v:=by
 simp[dO]at h;split at h
 .rename_i kt et mv kv hk hm Q;obtain⟨d,hd,S⟩:=fB hk;obtain⟨desc,h1,Z,h3⟩:=(O.ty hd).dy;rw[S]at Z;have:=zL Z;subst this;split at h
  .rename_i de T U G;split at h
   .rename_i W;have C:=Mi O W (dg r Q);obtain⟨z,hz,X⟩:=(O.ty U).Qo;obtain⟨es,J,D⟩:∃es:Array MapEntry,uU I μ T es/\∀u,(Instr.findKey kt (a.eval k) es.toList).run P w=.ok u w->(Instr.lookup t (a.eval m) (a.eval k) ok).run P w =
     .ok (if ok then .tuple #[(u.map (·.2)).getD z,.bool u.isSome]else(u.map (·.2)).getD z) w:=by
     rcases Nx s (dg r hm) G with⟨e1,rfl⟩|⟨b,es,cl,e1,e2,e3⟩
     .refine⟨#[],⟨rfl,by simp⟩,λu B=>?_⟩
      unfold Instr.lookup;rw[e1];simp[Sem.run_bind,h3,Result.andThen_ok,Sem.run_pure,xU C,B];cases u <;> cases ok <;> simp[hz]
     .refine⟨es,e3,λu B=>?_⟩
      unfold Instr.lookup;rw[e1];simp[Sem.run_bind,h3,Result.andThen_ok,Sem.run_pure,y8 e2 (by simp),xU C,B]
      cases u <;> cases ok <;> simp[hz]
    split at h
    .rename_i j y _ A;simp  at h;obtain⟨u,Y,L,_⟩:=u9  C J A
     cases u with
     | none=>simp[lT]at L
     | some q=>
      obtain⟨_,hv,_⟩:=L;refine⟨_,D _ Y,?_⟩;subst h
      cases ok with
      | true=>exact .OQ (.cons hv (.cons (.c _ _ (.bool _)) .nil))
      | false=>exact hv
    .rename_i y A hy;simp  at h;obtain⟨u,Y,L,_⟩:=u9  C J A
     cases u with
     | some q=>simp[lT]at L
     | none=>
      refine⟨_,D _ Y,?_⟩;subst h
      cases ok with
      | true=>exact .OQ (.cons (X _ _ _ hy) (.cons (.c _ _ (.bool _)) .nil))
      | false=>grind
    grind
   grind
  grind
 grind
end
end Go.VE
namespace Go.VE
variable [bX]
section
variable {P:Program} {E:Env} {I:b_} {μ:Mu} {H H':bl} {n:Nat} {F:Frame} {a:Act} {w:World}
theorem HN (l:List Int) (d:Nat):Instr.sameBits (d+2) (.agg (ic l)) (.agg (ic l))=true:=by
 simp only[Instr.sameBits,beq_self_eq_true,Bool.true_and,List.all_eq_true];intro p q;obtain⟨j,t,rfl⟩:=List.mem_iff_getElem.1 q;simp[ic,Instr.sameBits]
theorem NN {t:TypeId} {k:V} {v:Value} (h:ya P E t k v):(Instr.keyThatStays v v).run P w=.ok v w:=by
 have:Instr.sameBits 10000 v v=true:=by
  cases h with
  | int k m h=>simp[Instr.sameBits]
  | str s h=>simp[Instr.sameBits];exact(by cases s;exact beq_self_eq_true (α:=Array UInt8) _)
  | agg m q l h u z=>exact HN l 9998
 unfold Instr.keyThatStays;rw[this];rfl
theorem DC {b:Nat} {es:Array MapEntry} {clock:Nat} (o:Obj) (h:w.heap[b]? = some (.map es clock)):(setObj b o).run P w=.ok () (fF w b o):=by
 simp only[setObj,Sem.run,h];rfl
theorem yU (hE:eH P E) (r:ei I μ n F a.tmps) (s:cM I μ H w) {t:TypeId} {m k y:Operand} {x:V} (h:cO E F H (.mapUpdate t m k y)=some (x,H')) :
 A9 P I μ H w (do Instr.mapUpdate t (a.eval m) (a.eval k) (a.eval y);pure .skip) x H':=by
 simp only[cO]at h;split at h
 .rename_i kt et id Y Z hk hm U hy;obtain⟨d,hd,aa⟩:=fB hk;obtain⟨desc,h1,A,h3⟩:=(hE.ty hd).dy;rw[aa]at A;have:=zL A;subst this;split at h
  .rename_i C T;split at h
   .rename_i ab;simp only[ζf,ζc]at h;obtain⟨af,u,rfl,rfl⟩:=h;have D:=Mi hE ab (dg r U);obtain⟨p,es,cl,g1,g2,g3,g4⟩:=s.obs id _ T;obtain⟨q,hq,em⟩:=(dg r hm).Bk;rw[g1]at hq;cases hq;have S:=(Array.getElem?_eq_some_iff.1 g3).1;have ah:∀(f:Unit->Sem Next) ,True:=λ_=>trivial
    unfold pG at u;have G:=dg r U;have J:=dg r hy;split at u
    .rename_i j z B;simp only[ζa]at u;subst u;obtain⟨L,q1,q2,q3⟩:=u9 (w:=w) D g4 B
     cases L with
     | none=>simp[lT]at q2
     | some L=>
      obtain⟨j',zv⟩:=L;obtain⟨rfl,_,_,e',ai,_⟩:=q2;obtain⟨e2,W,ad⟩:=q3 j z rfl;have hj:=(Array.getElem?_eq_some_iff.1 W).1;have O:uU I μ (C.set j (Y,Z)) (es.modify j λe=>{ e with key:=a.eval k,val:=a.eval y }):=by
       refine⟨by simpa using g4.1,λi q e h1 A=>?_⟩
       by_cases Q:i=j
       .subst Q;rw[List.getElem?_set_self (by rw[g4.1];exact hj)]at h1
        cases h1;rw[Array.getElem?_modify]at A;simp only[if_true,ζf]at A;obtain⟨_,_,rfl⟩:=A;exact⟨G,J⟩
       .rw[List.getElem?_set_ne (Ne.symm Q)]at h1;rw[Array.getElem?_modify]at A;rw[if_neg (Ne.symm Q)]at A;exact g4.2 i q e h1 A
      obtain⟨s1,s2⟩:=s.write (ob':=.map (C.set j (Y,Z))) (o:=.map (es.modify j λe=>{ e with key:=a.eval k,val:=a.eval y }) cl) T rfl g1
       ⟨p,_,cl,g1,g2,gn _ S,O⟩
      refine⟨.skip,undef,_,μ,?_,.inr ⟨rfl,rfl⟩,.undef I μ,s1,s2⟩;unfold Instr.mapUpdate;rw[em];have X:((es[j]?).map (·.key)).getD (a.eval k)=a.eval k:=by rw[W];simpa using ad
      simp only[Sem.run_bind,h3,Result.andThen_ok,y8 g3 (by simp),xU D,q1,X,NN D,DC _ g3,Sem.run_pure]
    .rename_i B;simp only[ζa]at u;subst u;obtain⟨L,q1,q2,q3⟩:=u9 (w:=w) D g4 B
     cases L with
     | some q=>simp[lT]at q2
     | none=>
      have O:uU I μ (C++[(Y,Z)]) (es.push { key:=a.eval k,val:=a.eval y,born:=cl }):=by
       refine⟨by simp[g4.1],λi q e h1 A=>?_⟩
       by_cases Q:i<C.length
       .rw[List.getElem?_append_left Q]at h1;rw[Array.getElem?_push]at A;rw[if_neg (by rw[<-g4.1];omega)]at A
        exact g4.2 i q e h1 A
       .have ae:=(ζe.1 h1).1;simp at ae;have:i=C.length:=by omega
        subst this;simp at h1;subst h1;rw[Array.getElem?_push,if_pos g4.1]at A;cases A;exact⟨G,J⟩
      obtain⟨s1,s2⟩:=s.write (ob':=.map (C++[(Y,Z)])) (o:=.map (es.push { key:=a.eval k,val:=a.eval y,born:=cl }) (cl+1)) T rfl g1
       ⟨p,_,_,g1,g2,gn _ S,O⟩
      refine⟨.skip,undef,_,μ,?_,.inr ⟨rfl,rfl⟩,.undef I μ,s1,s2⟩;unfold Instr.mapUpdate;rw[em];simp only[Sem.run_bind,h3,Result.andThen_ok,y8 g3 (by simp),xU D,q1,DC _ g3,Sem.run_pure]
    .simp at u
   .simp at h
  .simp at h
 .simp at h
theorem Qm (B:eH P E) (r:ei I μ n F a.tmps) (s:cM I μ H w) (o:Oper) {x:V} (h:dO E F H o.op=some x) :
 ∃v,(execOp a.eval o).run P w=.ok (.value v) w/\bM I μ x v:=by
 obtain⟨dst,op,ty,pos,after,guard⟩:=o;simp only at h
 cases op with
 | load t p=>
  simp only[dO]at h;split at h
  .rename_i d C z A;obtain⟨u,h1,q,_⟩:=Cd B s z (dg r A) h;exact⟨u,dL h1,q⟩
  .simp at h
 | lookup t m k ok=>
  obtain⟨u,h1,q⟩:=Lq B r s h;exact⟨u,dL h1,q⟩
 | _=>simp[dO]at h
theorem QF (B:eH P E) (r:ei I μ n F a.tmps) (s:cM I μ H w) (o:Oper) {x:V} (h:cO E F H o.op=some (x,H')):A9 P I μ H w (execOp a.eval o) x H':=by
 obtain⟨dst,op,ty,pos,after,guard⟩:=o;simp only at h
 cases op with
 | store t p q=>exact OD B r s h
 | mapUpdate t m k y=>exact yU B r s h
 | insert t m k y=>exact yU (t:=t) (m:=m) (k:=k) (y:=y) B r s h
 | call c=>
  obtain⟨callee,args,u⟩:=c
  cases callee with
  | builtin b=>
   cases b with
   | append=>exact Lr B r s h
   | clear=>exact Ng B r s h
   | _=>simp[cO]at h
  | _=>simp[cO]at h
 | _=>simp[cO]at h
end
end Go.VE
namespace Go.VE
variable [bX]
theorem tQ {xs:List V} (h:V.kR xs=true):∀x∈xs,V.closed x=true:=by
 induction xs with
 | nil=>simp
 | cons x r q=>
  simp[V.kR]at h
  grind
theorem tT {xs:List V} (h:V.cS xs=true):∀x∈xs,V.scalar x=true:=by
 induction xs with
 | nil=>simp
 | cons x r q=>
  simp[V.cS]at h
  grind
section
variable {I I':b_} {μ:Mu} {H H':bl} {w:World}
theorem bM.closed {x:V} {v:Value} (h:bM I μ x v) (hc:x.closed=true):eE I x v:=by
 induction h with
 | c x v h=>omega
 | hsl id off len cap p t h1 J=>simp[V.closed]at hc
 | hsl0 id es off a=>simp[V.closed]at hc
 | hptr id el off p t=>simp[V.closed]at hc
 | yld id p t=>simp[V.closed]at hc
 | hmap id p t=>simp[V.closed]at hc
 | clo f x y u v G H _ _ w z=>
  simp[V.closed]at hc;exact .clo f x y u v G H (λj a b p q=>w j a b p q (tQ hc.1 a (List.mem_of_getElem? p))) (λj a b p q=>z j a b p q (tQ hc.2 a (List.mem_of_getElem? p)))
 | agg A B C _ D=>
  exact .agg A B C λj a b p q=>D j a b p q (tQ hc a (List.mem_of_getElem? p))
 | tup A B C _ D=>
  exact .tup A B C λj a b p q=>D j a b p q (tQ hc a (List.mem_of_getElem? p))
theorem eE.scalar {x:V} {v:Value} (h:eE I x v) (B:x.scalar=true):eE I' x v:=by
 induction h with
 | bool b=>exact .bool b
 | int k n=>exact .int k n
 | str s=>exact .str s
 | c9 a=>exact .c9 a
 | bH=>exact .bH
 | gV=>exact .gV
 | gw=>exact .gw
 | rI=>exact .rI
 | agg t u w _ z=>
  exact .agg t u w λj a b p q=>z j a b p q (tT B a (List.mem_of_getElem? p))
 | tup t u w _ z=>
  exact .tup t u w λj a b p q=>z j a b p q (tT B a (List.mem_of_getElem? p))
 | _=>simp[V.scalar]at B
theorem jC {f:V->Option V}:∀{xs ys:List V},ko f xs=some ys->ys.length=xs.length/\∀(j:Nat) y,ys[j]? = some y->∃x,xs[j]? = some x/\f x=some y:=by
 intro xs
 induction xs with
 | nil=>intro ys h;simp[ko]at h;grind
 | cons x xs q=>
  intro ys h;simp[ko]at h;split at h
  .grind
  grind
theorem Js {f:V->Option V}:∀{xs ys:List (List V)},tP f xs=some ys->ys.length=xs.length/\∀(j:Nat) y,ys[j]? = some y->∃x,xs[j]? = some x/\ko f x=some y:=by
 intro xs
 induction xs with
 | nil=>intro ys h;simp[tP]at h;grind
 | cons x xs q=>
  intro ys h;simp[tP]at h
  grind
theorem JW {f:V->Option V}:∀{xs ys:List (V×V)},tX f xs=some ys->ys.length=xs.length/\∀(j:Nat) y,ys[j]? = some y->∃x,xs[j]? = some x/\f x.1=some y.1/\f x.2=some y.2:=by
 intro xs
 induction xs with
 | nil=>intro ys h;simp only[tX]at h;grind
 | cons x xs q=>
  intro ys h;simp only[tX]at h
  grind
def Obj.ic:Obj->Option IC
 | .cells c _ _=>some (.cells c)
 | .map es _=>some (.map es)
 | _=>none
def Am (μ:Mu) (H:bl) (T:List Nat) (b:Nat):Prop:=∃id p ob,id∈T/\H[id]? = some ob/\ob.live=true/\μ id=some p/\p.b=b
open Classical in
noncomputable def plus (I:b_) (μ:Mu) (H:bl) (w:World) (T:List Nat):b_:=λb=>
 match I b with
 | some x=>some x
 | none=>if Am μ H T b then(w.heap[b]?).bind Obj.ic else none
theorem oH (I:b_) (μ:Mu) (H:bl) (w:World) (T:List Nat):b_.le I (plus I μ H w T):=by
 intro b x h;simp[plus,h]
theorem sS (s:cM I μ H w) (T:List Nat):∀b x,plus I μ H w T b=some x->x.at w b:=by
 intro b x h;unfold plus at h;split at h
 .rename_i y u;cases h;exact s.imm b _ u
 .split at h
  .obtain⟨o,t,q⟩:=ζg.1 h;cases o <;> simp[Obj.ic]at q
   .subst q;exact⟨_,_,t⟩
   .subst q;exact⟨_,t⟩
  grind
theorem yz {T:List Nat} {b:Nat} (h:(plus I μ H w T b).isSome=true):(I b).isSome=true\/Am μ H T b:=by
 unfold plus at h
 grind
theorem AY {T:List Nat} {b:Nat} (h:Am μ H T b):iq μ H b:=by
 obtain⟨id,p,ob,_,h1,q,t,u⟩:=h;exact⟨id,p,ob,h1,q,t,u⟩
theorem Bp (s:cM I μ H w) {T:List Nat} {id es:Nat} {xs:List (List V)} (B:id∈T) (h:(H[id]?).bind Ob.rows=some (es,xs)) :
 ∃p c,μ id=some p/\plus I μ H w T p.b=some (.cells c)/\gj I μ p c es xs:=by
 obtain⟨ob,h1,t⟩:=ζg.1 h;have q:=s.obs id ob h1;rcases Fs t with rfl|rfl
 .obtain⟨p,c,el,g1,g2,g3,g4⟩:=q;refine⟨p,c,g1,?_,g4⟩;have u:Am μ H T p.b:=⟨id,p,_,B,h1,rfl,g1,rfl⟩;unfold plus;rw[g2];simp[u,g3,Obj.ic]
 .obtain⟨p,c,g1,g2,g4⟩:=q;exact⟨p,c,g1,oH _ _ _ _ _ _ _ g2,g4⟩
theorem gj.idx {p:Pl} {c:Array Value} {es:Nat} {xs:List (List V)} (r:gj I μ p c es xs) {i j:Nat} {x:List V} {y:V} {v:Value} (h1:xs[i]? = some x) (B:x[j]? = some y)
 (D:c[p.o+i*es+j]? = some v):bM I μ y v:=by
 have t:=vO r.oW h1 B;refine r.rel.2 (i*es+j) y v t ?_;have q:=(ζe.1 t).1;rw[fK r.oW]at q
 grind
theorem j9 {f:V->List Nat} {xs:List V} {x:V} {k:Nat} (B:x∈xs) (hk:k∈f x):k∈dx f xs:=by
 induction xs with
 | nil=>simp_all
 | cons y r q=>
  simp[dx]
  grind
theorem uq (s:cM I μ H w) (T:List Nat):∀(n:Nat) (x y:V) (v:Value),borrow n H x=some y->(∀k∈cr n H x,k∈T)->bM I μ x v ->
 eE (plus I μ H w T) y v/\(x.one=true->y.one=true):=by
 intro n
 induction n with
 | zero=>
  intro x y v h _ hv;simp only[borrow]at h;split at h
  .rename_i hc;simp  at h;subst h;exact⟨(hv.closed hc).mono (oH _ _ _ _ _),id⟩
  grind
 | succ n ih=>
  intro x y v h J hv;simp[borrow]at h;split at h
  .rename_i hc;simp  at h;subst h;exact⟨(hv.closed hc).mono (oH _ _ _ _ _),id⟩
  .rename_i aj;simp[cr,if_neg aj]at J;split at h
   .
    rename_i id es off len;split at h
    .rename_i t xs C;split at h
     .rename_i hc;obtain⟨rfl,ak⟩:=hc;simp only[C]at J;simp  at h;obtain⟨Q,hz,rfl⟩:=h;obtain⟨aa,S⟩:=Js hz;refine⟨?_,λ_=>rfl⟩
      have ah:Q.length=len:=by grind
      rcases hv.lV with⟨p,cap,hm,hp,ap,hb,rfl⟩|⟨h0,a,rfl⟩
      .obtain⟨p',c,g1,g2,g3⟩:=Bp s  (J id (by simp)) C
       rw[hm]at g1;cases g1;have U:∀i z,Q[i]? = some z->∃O,xs[off+i]? = some O/\ko (borrow n H) O=some z:=by
        grind
       have ai:∀O∈xs,∀q∈O,∀k∈cr n H q,k∈T:=by
        intro O al q hq k hk;refine J k ?_;exact List.mem_cons_of_mem _ (j9 (List.mem_flatten.2 ⟨O,al,hq⟩) hk)
       have aq:eE (plus I μ H w T) (.fsl t Q) (.slice (some ⟨p.b,p.o+off*t,none⟩) Q.length cap):=by
        refine .fsl t Q p.b (p.o+off*t) cap c g2 (by omega) ?_ ?_ ?_ ?_
        .intro z ad;obtain⟨i,hi⟩:=List.mem_iff_getElem?.1 ad;obtain⟨O,D,W⟩:=U i z hi;rw[(jC W).1];exact g3.oW O (List.mem_of_getElem? D)
        .intro z ad q hq;obtain⟨i,hi⟩:=List.mem_iff_getElem?.1 ad;obtain⟨O,D,W⟩:=U i z hi;obtain⟨j,hj⟩:=List.mem_iff_getElem?.1 hq;obtain⟨G,B,X⟩:=(jC W).2 j q hj;have Y:=List.mem_of_getElem? D;have ab:=List.mem_of_getElem? B;have am:=g3.room;have au:=g3.oW O Y;have av:=(ζe.1 B).1;have an:=(ζe.1 D).1;have ar:(off+i)*t+t<=xs.length*t:=by
          have:=Nat.mul_le_mul_right t (an)
          grind
         have ao  := by omega
         have Z:=g3.idx D B (v:=c[p.o+(off+i)*t+j]) (by simp[ao])
         exact(ih G q _ X (ai O Y G ab) Z).2 (g3.one O Y G ab)
        .have h1:=(g3.span ak).2
         grind
        .intro i j z q u hi hj hu;obtain⟨O,D,W⟩:=U i z hi;obtain⟨G,B,X⟩:=(jC W).2 j q hj;have Z:=g3.idx D B (v:=u) (by grind)
         exact(ih G q u X (ai O (List.mem_of_getElem? D) G (List.mem_of_getElem? B)) Z).1
       grind
      .subst h0;have  := List.eq_nil_of_length_eq_zero ah;subst this;exact .fsl0 t _ _
     grind
    grind
   .
    rename_i id el off;split at h
    .rename_i t xs C;split at h
     .rename_i cs ae;split at h
      .simp only[C]at J;simp  at h;obtain⟨Q,hz,rfl⟩:=h;obtain⟨aa,S⟩:=jC hz;refine⟨?_,λ_=>rfl⟩
       obtain⟨p,hm,rfl⟩:=hv.s9;obtain⟨p',c,g1,g2,g3⟩:=Bp s  (J id (by simp)) C
       rw[hm]at g1;cases g1;obtain⟨k1,k2,k3⟩:=g3.elem ae;rw[g3.es_eq];refine .fptr Q p.b _ c g2 ?_ ?_
       .rw[aa,List.length_drop];omega
       .intro j q u hj hu;obtain⟨G,B,X⟩:=S j q hj;rw[List.getElem?_drop]at B;have Z:=g3.idx ae B  (by rw[<-Nat.add_assoc];exact hu)
        refine(ih G q u X (λk hk=>J k ?_) Z).1
        exact List.mem_cons_of_mem _ (j9 (List.mem_flatten.2 ⟨cs,List.mem_of_getElem? ae,List.mem_of_getElem? B⟩) hk)
      .simp at h
     .simp at h
    .simp at h
   .
    rename_i id;split at h
    .rename_i aw af;simp  at h;obtain⟨Q,hz,rfl⟩:=h;simp only[af]at J;obtain⟨aa,S⟩:=JW hz;refine⟨?_,λ_=>rfl⟩
     obtain⟨p,hm,rfl⟩:=hv.Bk;obtain⟨p',es,cl,g1,g2,g3,g4⟩:=s.obs id _ af;rw[hm]at g1;cases g1;have ht:Am μ H T p.b:=⟨id,p,_,J id (by simp),af,rfl,hm,rfl⟩
     have hI:plus I μ H w T p.b=some (.map es):=by
      unfold plus;rw[g2];simp[ht,g3,Obj.ic]
     refine .fmap Q p.b es hI (by rw[aa];exact g4.1) ?_ ?_
     .intro j q e hj he;obtain⟨G,h1,h2,h3⟩:=S j q hj;refine(ih G.1 q.1 e.key h2 (λk hk=>J k ?_) (g4.2 j G e h1 he).1).1
      exact List.mem_cons_of_mem _ (List.mem_append.2 (.inl (j9 (List.mem_map.2 ⟨G,List.mem_of_getElem? h1,rfl⟩) hk)))
     .intro j q e hj he;obtain⟨G,h1,h2,h3⟩:=S j q hj;refine(ih G.2 q.2 e.val h3 (λk hk=>J k ?_) (g4.2 j G e h1 he).2).1
      exact List.mem_cons_of_mem _ (List.mem_append.2 (.inr (j9 (List.mem_map.2 ⟨G,List.mem_of_getElem? h1,rfl⟩) hk)))
    .simp at h
   .rename_i f p q;split at h
    .rename_i p' q' hp hq;simp  at h;subst h;obtain⟨u1,u2,rfl,r1,r2⟩:=hv.kP;obtain⟨l1,m1⟩:=jC hp;obtain⟨l2,m2⟩:=jC hq;refine⟨.clo f p' q' u1 u2 (by rw[l1];simpa using r1.1) (by rw[l2];simpa using r2.1) ?_ ?_,λ_=>rfl⟩
     .intro j a b ha hb;obtain⟨a0,A,L⟩:=m1 j a ha;exact(ih a0 a b L (λk hk=>J k (List.mem_append.2 (.inl (j9 (List.mem_of_getElem? A) hk)))) (r1.2 j a0 b A (by simpa using hb))).1
     .intro j a b ha hb;obtain⟨a0,A,L⟩:=m2 j a ha;exact(ih a0 a b L (λk hk=>J k (List.mem_append.2 (.inr (j9 (List.mem_of_getElem? A) hk)))) (r2.2 j a0 b A (by simpa using hb))).1
    .simp at h
   .rename_i cs;simp  at h;obtain⟨Q,hz,rfl⟩:=h;obtain⟨l1,m1⟩:=jC hz;obtain⟨u1,rfl,r1⟩:=hv.iK;refine⟨.agg Q u1 (by rw[l1];simpa using r1.1) ?_,λh=>by simp[V.one]at h⟩
    intro j a b ha hb;obtain⟨a0,A,L⟩:=m1 j a ha;exact(ih a0 a b L (λk hk=>J k (j9 (List.mem_of_getElem? A) hk)) (r1.2 j a0 b A (by simpa using hb))).1
   .rename_i cs;simp  at h;obtain⟨Q,hz,rfl⟩:=h;obtain⟨l1,m1⟩:=jC hz;obtain⟨u1,rfl,r1⟩:=hv.pU;refine⟨.tup Q u1 (by rw[l1];simpa using r1.1) ?_,λh=>by simp[V.one]at h⟩
    intro j a b ha hb;obtain⟨a0,A,L⟩:=m1 j a ha;exact(ih a0 a b L (λk hk=>J k (j9 (List.mem_of_getElem? A) hk)) (r1.2 j a0 b A (by simpa using hb))).1
   grind
end
end Go.VE
namespace Go.VE
variable [bX]
def fr (ro:Option Nat):Fence:={ fn:=λ_=>True,depth:=none,alive:=false,round:=ro }
def xu (I:b_) (μ:Mu) (H:bl) (w:World) (r:V) (H':bl):Ending->World->Prop:=
 λe w'=>∃u I' μ',e=.returned u/\bM I' μ' r u/\cM I' μ' H' w'/\Step I μ H w I' μ' H' w'
def yh (P:Program) (f:FuncId):Prop:=∃fn,P.funcs[f]? = some fn/\fn.body.isSome=true/\(fn.name == "runtime.NumGoroutine")=false
structure kG (P:Program) (call:dn):Prop where
 fn:∀f args H r H',call (.fn f) args H=some (r,H')->yh P f/\∀I μ w vs,cM I μ H w->cB I μ args vs->CallsIn (fr none) 0 P f vs.toArray w (xu I μ H w r H')
 yld:∀id args H r H',call (.yld id) args H=some (r,H')->∀I μ w vs p,cM I μ H w->cB I μ args vs->μ id=some p ->
  ∃l f tmps assign body,(Instr.yield p.b vs.toArray).run P w=.ok (.round l f tmps assign body) w/\RoundIn (fr none) 0 P l f tmps assign body w (xu I μ H w r H')
def rZ:Ob->Ob
 | .row es xs=>.frz es xs
 | .map _=>.dead
 | o=>o
theorem EG (H:bl) (k id:Nat):(uj H k)[id]? = (H[id]?).map λob=>if id=k then rZ ob else ob:=by
 unfold uj
 by_cases e:id=k
 .subst e
  cases h:H[id]? with
  | none=>simp[h]
  | some ob=>
   have q:=(ζe.1 h).1;cases ob <;> simp[rZ,q] <;> exact(ζe.1 h).2
 grind
theorem AP (o:Ob):rZ (rZ o)=rZ o:=by cases o <;> rfl
theorem iO:∀(T:List Nat) (H:bl) (id:Nat),(cu H T)[id]? = (H[id]?).map λob=>if id∈T then rZ ob else ob:=by
 intro T
 induction T with
 | nil=>simp[cu]
 | cons k T q=>
  intro H id;have:=q (uj H k) id;simp[cu]at this ⊢;rw[this,EG]
  cases h:H[id]? with
  | none=>simp
  | some ob=>
   by_cases e:id=k <;> by_cases t:id∈T <;> simp[AP] <;> (simp_all) <;> simp_all [AP]
theorem j8 (T:List Nat) (H:bl):(cu H T).length=H.length:=by
 induction T generalizing H with
 | nil=>rfl
 | cons k T q=>
  simp[cu]at q ⊢;rw[q];unfold uj
  grind
section
variable {P:Program} {I I':b_} {μ μ':Mu} {H H':bl} {w w':World}
theorem cM.kept (s:cM I μ H w) (hk:∀b,b<w.heap.size->w'.heap[b]? = w.heap[b]?):cM I μ H w' where
 dom:=s.dom
 imm:=λb x h=>IC.rG (s.imm b x h) (hk b (s.GH h))
 obs:=λid ob h=>(s.obs id ob h).mono (b_.le_refl _) (Mu.le_refl _) (λp t u=>by
  have q:iq μ H p.b:=⟨id,p,ob,h,u,t,rfl⟩;exact⟨hk _ (mQ s q),fZ s q⟩) (λz=>by subst z;exact s.obs id _ h)
 inj:=s.inj
 gl:=s.gl
theorem qL (μ:Mu) (b:Nat):¬iq μ [] b:=by
 rintro⟨id,p,ob,h,_⟩;simp_all
theorem Co {call:dn} (hc:kG P call) {f:FuncId} {args:List V} {y:V} (h:cz call f args H=some y) (s:cM I μ H w) {vs:List Value} (hv:cB I μ args vs) :
 yh P f/\CallsIn (fr none) 0 P f vs.toArray w (xu I μ H w y (if y.scalar then H else cu H (dx (cr 8 H) args))):=by
 unfold cz at h;split at h
 .rename_i az has;split at h
  .rename_i r H1 U;split at h
   .rename_i y' hy;split at h
    .rename_i Z;simp  at h;subst h;generalize hT:dx (cr 8 H) args=T;obtain⟨aa,B⟩:=jC has;have s0:cM (plus I μ H w T) (λ_=>none) [] w:=⟨λ_ _=>rfl,sS s T,by simp,by simp,s.gl.mono (oH I μ H w T)⟩
     have W:cB (plus I μ H w T) (λ_=>none) az vs:=by
      refine⟨aa.trans hv.1,λj a b h1 t=>?_⟩
      obtain⟨x,J,ae⟩:=B j a h1;refine .c _ _ (uq s T 8 x a b ae (λk hk=>?_) (hv.2 j x b J t)).1
      rw[<-hT];exact j9 (List.mem_of_getElem? J) hk
     obtain⟨hf,L⟩:=hc.fn f az [] r H1 U;refine⟨hf,(L _ _ w vs s0 W).mono ?_⟩;rintro e w' ⟨u,I1,μ1,rfl,hr,s1,st⟩;have z  := λb B=>st.frame b B (qL _ _)
     generalize aj:cr 8 H1 r=T1;have ab:=(uq s1 T1 8 r y' u hy (λk hk=>by grind) hr).1
     cases af:y'.scalar with
     | true=>
      exact⟨u,I,μ,rfl,.c _ _ (ab.scalar af),s.kept z,⟨b_.le_refl _,Mu.le_refl _,Nat.le_refl _,st.size,λb B _=>z b B,λ_ h=>h.elim .inl λh=>.inr (.inl h),st.os,st.out,st.fz⟩⟩
     | false=>
      simp only[Bool.false_eq_true,if_false]
      let I2:=plus I1 μ1 H1 w' T1
      have C:b_.le I I2:=b_.le_trans (oH I μ H w T) (b_.le_trans st.le (oH _ _ _ _ _));have D:∀b,(I2 b).isSome=true->(I b).isSome=true\/Am μ H T b\/w.heap.size<=b:=by
       intro b B;have h1:(I1 b).isSome=true\/iq μ1 H1 b:=by
        rcases yz B with h|h
        .grind
        .exact .inr (AY h)
       rcases st.terr b h1 with h|h|h
       .rcases yz h with h|h
        .grind
        grind
       .exact absurd h (qL _ _)
       grind
      have X:∀id ob p,H[id]? = some ob->ob.live=true->id∉T->μ id=some p->I2 p.b=none:=by
       intro id ob p h1 t h3 h4
       cases hI:I2 p.b with
       | none=>rfl
       | some x=>
        have ho:iq μ H p.b:=⟨id,p,ob,h1,t,h4,rfl⟩;rcases D p.b (by grind)with h|⟨O,p',ah,g0,g1,g2,g3,g4⟩|h
        .rw[fZ s ho]at h;cases h
        .have:=s.inj O id ah ob p' p g1 h1 g2 t g3 h4 g4;simp_all
        .have:=mQ s ho;omega
      have Q:∀id x,(cu H T)[id]? = some x->∃ob,H[id]? = some ob/\x=(if id∈T then rZ ob else ob):=by
       intro id x J;rw[iO]at J;obtain⟨ob,h1,t⟩:=ζf.1 J;exact⟨ob,h1,t.symm⟩
      have A:∀id x,(cu H T)[id]? = some x->x.live=true->H[id]? = some x/\(id∉T\/∃r,x=.loop r):=by
       intro id x J Y;obtain⟨ob,h1,t⟩:=Q id x J
       by_cases S:id∈T
       .rw[if_pos S]at t;cases ob <;> simp[rZ]at t <;> subst t <;> simp[Ob.live]at Y;exact⟨h1,.inr ⟨_,rfl⟩⟩
       .rw[if_neg S]at t;subst t;exact⟨h1,.inl S⟩
      refine⟨u,I2,μ,rfl,.c _ _ ab,⟨?_,?_,?_,?_,s.gl.mono C⟩,⟨C,Mu.le_refl _,by rw[j8];exact Nat.le_refl _,st.size,λb B _=>z b B,?_,st.os,st.out,st.fz⟩⟩
      .intro id h;rw[j8]at h;exact s.dom id h
      .exact sS s1 T1
      .intro id x J;obtain⟨ob,h1,t⟩:=Q id x J;have G:=s.obs id ob h1
       by_cases S:id∈T
       .rw[if_pos S]at t
        cases ob with
        | row es xs=>
         subst t;obtain⟨p,c,g1,g2,g3⟩:=Bp s  S    (by rw[h1];rfl)
         exact⟨p,c,g1,oH _ _ _ _ _ _ _ (st.le _ _ g2),g3.mono C (Mu.le_refl _)⟩
        | frz es xs=>
         subst t;exact G.mono C (Mu.le_refl _) (λp _ Y=>by simp[Ob.live]at Y) (λhe=>by cases he)
        | map ak=>subst t;trivial
        | free=>simp[rZ]at t;subst t;exact G
        | dead=>subst t;trivial
        | loop r=>
         simp[rZ]at t;subst t;obtain⟨p,l,g1,g2,g3,g4⟩:=G;refine⟨p,l,g1,?_,?_,g4.mono C (Mu.le_refl _)⟩
         .
          cases hI:I2 p.b with
          | none=>rfl
          | some x=>
           have ad:=sS s1 T1 p.b x hI;have ai  := (Array.getElem?_eq_some_iff.1 g3).1;have hh:=z p.b ai;rw[g3]at hh
           cases x with
           | cells c=>obtain⟨_,_,q⟩:=ad;rw[hh]at q;cases q
           | map es=>obtain⟨_,q⟩:=ad;rw[hh]at q;cases q
         .rw[z p.b (Array.getElem?_eq_some_iff.1 g3).1];omega
       .rw[if_neg S]at t;subst t;refine G.mono C (Mu.le_refl _) (λp hp Y=>⟨z _ (mQ s ⟨id,p,x,h1,Y,hp,rfl⟩),X id x p h1 Y S hp⟩) (λhe=>by subst he;exact G)
      .intro id O o1 o2 p p' h1 t l1 l2 m1 m2 B;exact s.inj id O o1 o2 p p' (A id o1 h1 l1).1 (A O o2 t l2).1 l1 l2 m1 m2 B
      .intro b B;rcases B with h|⟨id,p,x,h1,t,h3,rfl⟩
       .rcases D b h with h|h|h
        .exact .inl h
        .exact .inr (.inl (AY h))
        .exact .inr (.inr h)
       .exact .inr (.inl ⟨id,p,x,(A id x h1 t).1,t,h3,rfl⟩)
    grind
   grind
  grind
 grind
theorem bM.scalar {x:V} {v:Value} (h:bM I μ x v) (B:x.scalar=true):bM I' μ' x v:=by
 have key:∀(l:List V) (t:List Value),(∀x∈l,∀v,bM I μ x v->x.scalar=true->bM I' μ' x v)->V.cS l=true->(∀(j:Nat) a b,l[j]? = some a->t[j]? = some b->bM I μ a b) ->
  ∀(j:Nat) a b,l[j]? = some a->t[j]? = some b->bM I' μ' a b:=by
  intro l
  induction l with
  | nil=>grind
  | cons x l A=>
   intro t h1 G H j a b C u;simp only[V.cS,ζh]at G
   cases j with
   | zero=>
    grind
   | succ j=>
    cases t with
    | nil=>simp at u
    | cons v t=>exact A t (λy w=>h1 y (List.mem_cons_of_mem _ w)) G.2 (λj a b p q=>H (j+1) a b (by grind) (by grind)) j a b (by grind) (by simpa using u)
 have main:∀(k:Nat) (x:V) (v:Value),SizeOf.sizeOf x<k->bM I μ x v->x.scalar=true->bM I' μ' x v:=by
  intro k
  induction k with
  | zero=>grind
  | succ k A=>
   intro x v hk h B
   cases h with
   | c _ _ h=>exact .c _ _ (h.scalar B)
   | agg z t D h=>
    refine .agg z t D (λj a b C u=>key z t.toList (λy w v hv B=>A y v ?_ hv B) B (λj a b p q=>h j a b p (by simpa using q)) j a b C (by simpa using u))
    have:=List.sizeOf_lt_of_mem w;simp at hk;omega
   | tup z t D h=>
    refine .tup z t D (λj a b C u=>key z t.toList (λy w v hv B=>A y v ?_ hv B) B (λj a b p q=>h j a b p (by simpa using q)) j a b C (by simpa using u))
    have:=List.sizeOf_lt_of_mem w;simp at hk;omega
   | _=>simp[V.scalar]at B
 exact main (SizeOf.sizeOf x+1) x v (by omega) h B
theorem cM.Jm (s:cM I μ H w) {ob:Ob} {p:Pl} (O:ob≠.free) (Y:I p.b=none) (D:¬iq μ H p.b) (U:sH I (μ.gJ H.length p) w H.length ob) :
 cM I (μ.gJ H.length p) (H++[ob]) w:=by
 have hk  := s.dom _ (Nat.le_refl _);have t:∀id x,(H++[ob])[id]? = some x->(id≠H.length/\H[id]? = some x)\/(id=H.length/\x=ob):=by
  grind
 refine⟨?_,s.imm,?_,?_,s.gl⟩
 .intro id h;simp at h;rw[Mu.iR _ _ (by omega)];exact s.dom id (by omega)
 .intro id x h;rcases t id x h with⟨e,h⟩|⟨rfl,rfl⟩
  .refine(s.obs id x h).mono (b_.le_refl _) (Mu.qq hk) (λq L Q=>?_) (λS=>by subst S;rw[Mu.iR _ _ e];exact s.obs id _ h)
   exact⟨rfl,fZ s ⟨id,q,x,h,Q,L,rfl⟩⟩
  grind
 .intro id u o1 o2 q C h1 T G J z A B;rcases t id o1 h1 with⟨e1,k1⟩|⟨W,Z⟩ <;> rcases t u o2 T with⟨e2,k2⟩|⟨X,b2⟩
  .rw[Mu.iR _ _ e1]at z;rw[Mu.iR _ _ e2]at A;exact s.inj id u o1 o2 q C k1 k2 G J z A B
  .subst X;rw[Mu.iR _ _ e1]at z;rw[Mu.gf]at A;cases A;exact absurd ⟨id,q,o1,k1,G,z,B⟩ D
  .subst W;rw[Mu.iR _ _ e2]at A;rw[Mu.gf]at z;cases z;exact absurd ⟨u,C,o2,k2,J,A,B.symm⟩ D
  grind
theorem Se {call:dn} (hc:kG P call) {f:FuncId} {args:List V} {y:V} (h:kW call f args H=some (y,H')) (s:cM I μ H w) {vs:List Value} (hv:cB I μ args vs) :
 yh P f/\CallsIn (fr none) 0 P f vs.toArray w (xu I μ H w y H'):=by
 unfold kW at h;split at h
 .rename_i az has;split at h
  .rename_i r H1 J;generalize hT:dx (cr 8 H) args=T;obtain⟨U,z⟩:=jC has;have s0:cM (plus I μ H w T) (λ_=>none) [] w:=⟨λ_ _=>rfl,sS s T,by simp,by simp,s.gl.mono (oH I μ H w T)⟩
   have L:cB (plus I μ H w T) (λ_=>none) az vs:=by
    refine⟨U.trans hv.1,λj a b h1 W=>?_⟩
    obtain⟨x,hx,aa⟩:=z j a h1;refine .c _ _ (uq s T 8 x a b aa (λk hk=>?_) (hv.2 j x b hx W)).1
    rw[<-hT];exact j9 (List.mem_of_getElem? hx) hk
   obtain⟨hf,C⟩:=hc.fn f az [] r H1 J;refine⟨hf,(C _ _ w vs s0 L).mono ?_⟩;rintro e w' ⟨u,I1,μ1,rfl,hr,s1,st⟩;have t:∀b,b<w.heap.size->w'.heap[b]? = w.heap[b]? := λb z=>st.frame b z (qL _ _)
   have sk:cM I μ H w':=s.kept t;have ab:Step I μ H w I μ H w':=⟨b_.le_refl _,Mu.le_refl _,Nat.le_refl _,st.size,λb z _=>t b z,λ_ h=>h.elim .inl λh=>.inr (.inl h),st.os,st.out,st.fz⟩
   split at h
   .rename_i ae;simp only[ζa,ζc]at h;obtain⟨rfl,rfl⟩:=h;exact⟨u,I,μ,rfl,hr.scalar ae,sk,ab⟩
   .
    have key:∀(id es off len:Nat) (v:V) (ob:Ob) (u:Value),qo H.length H1 id es off len=some (v,ob)->bM I1 μ1 (.hsl id es off len) u ->
     ∃p,bM I (μ.gJ H.length p) v u/\cM I (μ.gJ H.length p) (H++[ob]) w'/\Step I μ H w I (μ.gJ H.length p) (H++[ob]) w':=by
     intro id es off len v ob u A hu;unfold qo at A;split at A
     .rename_i X xs G;split at A
      .rename_i O;obtain⟨rfl,al⟩:=O;obtain⟨rfl,rfl⟩:=A;obtain⟨p,c,el,g1,g2,g3,g4⟩:=s1.obs id _ G;have Y:w.heap.size<=p.b:=by
        rcases st.terr p.b (.inr ⟨id,p,_,G,rfl,g1,rfl⟩)with h|h|h
        .obtain⟨x,hx⟩:=Option.isSome_iff_exists.1 h;have:=st.le _ _ hx
         grind
        .exact absurd h (qL _ _)
        simp_all
       have hI:I p.b=none:=by
        cases hx:I p.b with
        | none=>rfl
        | some x=>have:=s.GH hx;omega
       have hn:¬iq μ H p.b:=λho=>by have:=mQ s ho;omega
       have af:gj I (μ.gJ H.length p) p c X xs:=by
        refine⟨g4.es_eq,g4.sz,g4.oW,g4.one,g4.room,g4.rel.1,λj a b A z=>(g4.rel.2 j a b A z).scalar ?_⟩
        have hm:=List.mem_of_getElem? A;rw[List.mem_flatten]at hm
        grind
       have sa:=sk.Jm (ob:=.row X xs)  (by simp) hI hn ⟨p,c,el,Mu.gf _ _ _,hI,g3,af⟩
       refine⟨p,?_,sa,⟨b_.le_refl _,Mu.qq (s.dom _ (Nat.le_refl _)),by simp,st.size,λb z _=>t b z,?_,st.os,st.out,st.fz⟩⟩
       .rcases hu.lV with⟨p',cap,hm,ah,ai,aj,ee⟩|⟨h0,ad,ee⟩
        .rw[g1]at hm;cases hm;rw[ee];subst ah;exact .hsl _ off len cap p (Mu.gf _ _ _) ai aj
        .rw[ee,h0];exact .hsl0 _ _ _ _
       .rintro b (h|⟨k,q,x,h1,W,h3,rfl⟩)
        .exact .inl h
        .by_cases e:k=H.length
         .subst e;rw[Mu.gf]at h3;cases h3;exact .inr (.inr Y)
         .rw[Mu.iR _ _ e]at h3;have ak:k<H.length:=by
           have:=(ζe.1 h1).1;simp at this;omega
          rw[List.getElem?_append_left ak]at h1;exact .inr (.inl ⟨k,q,x,h1,W,h3,rfl⟩)
      grind
     grind
    split at h
    .rename_i id es off len _;simp only[ζf]at h;obtain⟨⟨v,ob⟩,A,rfl,rfl⟩:=h;obtain⟨p,k1,k2,k3⟩:=key id es off len v ob u A hr;exact⟨u,I,_,rfl,k1,k2,k3⟩
    .rename_i id es off len rest _;split at h
     .rename_i Q;simp only[ζf,ζc]at h;obtain⟨⟨v,ob⟩,A,rfl,rfl⟩:=h;obtain⟨us,rfl,B⟩:=hr.pU;have Z:0<us.toList.length:=by have:=B.1;simp at this ⊢;omega
      obtain⟨u0,ur,S⟩:∃u0 ur,us.toList=u0::ur:=by
       cases hl:us.toList with
       | nil=>rw[hl]at Z;simp at Z
       | cons a b=>exact⟨a,b,rfl⟩
      rw[S]at B;obtain⟨p,k1,k2,k3⟩:=key id es off len v ob u0 A (B.2 0 _ _ rfl rfl);refine⟨_,I,_,rfl,.tup _ _ ?_ ?_,k2,k3⟩
      .have:=B.1;simp at this;have W:us.toList.length=ur.length+1:=by rw[S];rfl
       simp at W ⊢;omega
      .intro j a b hj z;have D:(u0::ur)[j]? = some b:=by rw[<-S];simpa using z
       cases j with
       | zero=>simp at hj D;subst hj;subst D;exact k1
       | succ j=>
        simp at hj D;refine(B.2 (j+1) a b (by simpa using hj) (by simpa using D)).scalar ?_
        have:∀(l:List V),V.cS l=true->∀x∈l,x.scalar=true:=by
         intro l
         induction l with
         | nil=>intro _ x hx;simp at hx
         | cons y l ih=>
          intro hl x hx;simp[V.cS]at hl;rcases List.mem_cons.1 hx with rfl|hx
          .exact hl.1
          .exact ih hl.2 x hx
        exact this rest Q a (List.mem_of_getElem? hj)
     .simp at h
    grind
  grind
 grind
theorem SD {E:Env} {call:dn} (hc:kG P call) {f:FuncId} {args:List V} {y:V} (h:e9 E call f args H=some (y,H')) (s:cM I μ H w) {vs:List Value} (hv:cB I μ args vs) :
 yh P f/\CallsIn (fr none) 0 P f vs.toArray w (xu I μ H w y H'):=by
 unfold e9 at h;split at h
 .exact Se hc h s hv
 .obtain⟨k1,k2⟩:=hc.fn f args H y H' h
  grind
end
end Go.VE
namespace Go.VE
variable [bX]
def Ob.mp:Ob->Option (List (V×V))
 | .map B=>some B
 | _=>none
def mK (H H2:bl):Prop:=∀id:Nat,(H[id]?).bind Ob.rows=(H2[id]?).bind Ob.rows/\(H[id]?).bind Ob.mp=(H2[id]?).bind Ob.mp
theorem mK.refl (H:bl):mK H H:=λ_=>⟨rfl,rfl⟩
theorem mK.symm {H H2:bl} (h:mK H H2):mK H2 H:=λid=>⟨(h id).1.symm,(h id).2.symm⟩
theorem mK.trans {H H2 B:bl} (h:mK H H2) (k:mK H2 B):mK H B:=λid=>⟨(h id).1.trans (k id).1,(h id).2.trans (k id).2⟩
theorem mK.of_eq {H H2:bl} (h:H=H2):mK H H2:=by subst h;exact .refl _
theorem HE {H H2:bl} (h:mK H H2):∀n,borrow n H=borrow n H2:=by
 intro n
 induction n with
 | zero=>funext x;rfl
 | succ n q=>
  funext x
  cases x with
  | hsl id es off len=>simp only[borrow,(h id).1,q]
  | hptr id el off=>simp only[borrow,(h id).1,q]
  | hmap id=>
   have:=(h id).2;simp only[borrow,q];split
   .rfl
   .cases h1:H[id]? with
    | none=>
     cases t:H2[id]? with
     | none=>rfl
     | some o2=>rw[h1,t]at this;cases o2 <;> simp[Ob.mp]at this <;> rfl
    | some o=>
     cases t:H2[id]? with
     | none=>rw[h1,t]at this;cases o <;> simp[Ob.mp]at this <;> rfl
     | some o2=>rw[h1,t]at this;cases o <;> cases o2 <;> simp[Ob.mp]at this <;> first|rfl|(subst this;rfl)
  | _=>simp only[borrow,q]
theorem Kx {H H2:bl} (h:mK H H2):∀n,cr n H=cr n H2:=by
 intro n
 induction n with
 | zero=>funext x;rfl
 | succ n q=>
  funext x
  cases x with
  | hsl id es off len=>simp only[cr,(h id).1,q]
  | hptr id el off=>simp only[cr,(h id).1,q]
  | hmap id=>
   have:=(h id).2;simp only[cr,q];split
   .rfl
   .cases h1:H[id]? with
    | none=>
     cases t:H2[id]? with
     | none=>rfl
     | some o2=>rw[h1,t]at this;cases o2 <;> simp[Ob.mp]at this <;> rfl
    | some o=>
     cases t:H2[id]? with
     | none=>rw[h1,t]at this;cases o <;> simp[Ob.mp]at this <;> rfl
     | some o2=>rw[h1,t]at this;cases o <;> cases o2 <;> simp[Ob.mp]at this <;> first|rfl|(subst this;rfl)
  | _=>simp only[cr,q]
theorem zB {H H2:bl} (h:mK H H2) (call:dn) (f:FuncId) (args:List V):cz call f args H=cz call f args H2:=by
 unfold cz borrows;rw[HE h]
theorem G1 {H H2:bl} (h:mK H H2) (p:V) (n:Nat):dY H p n=dY H2 p n:=by
 cases p with
 | hptr id el off=>simp only[dY,(h id).1]
 | _=>rfl
theorem KB {H H2:bl} (h:mK H H2) (p:V):mC H p=mC H2 p:=by
 cases p with
 | hmap id=>
  have:=(h id).2;simp only[mC]
  cases h1:H[id]? with
  | none=>
   cases q:H2[id]? with
   | none=>rfl
   | some o2=>rw[h1,q]at this;cases o2 <;> simp[Ob.mp]at this <;> rfl
  | some o=>
   cases q:H2[id]? with
   | none=>rw[h1,q]at this;cases o <;> simp[Ob.mp]at this <;> rfl
   | some o2=>rw[h1,q]at this;cases o <;> cases o2 <;> simp[Ob.mp]at this <;> first|rfl|(subst this;rfl)
 | _=>rfl
theorem yQ {E:Env} {F:Frame} {H H2:bl} (h:mK H H2) (op:Op):dO E F H op=dO E F H2 op:=by
 cases op <;> simp only[dO,G1 h,KB h]
theorem uJ {H H2:bl} (h:mK H H2) (T:List Nat):iS H T=iS H2 T:=by
 unfold iS
 congr 1
 funext id
 rw[(h id).1]
theorem zJ {H:bl} {T:List Nat} (h:iS H T=true) {id:Nat} (B:id∈T):∃es xs,H[id]? = some (.row es xs)\/H[id]? = some (.frz es xs):=by
 unfold iS at h;rw[List.all_eq_true]at h;have:=h id B
 cases h1:H[id]? with
 | none=>rw[h1]at this;simp at this
 | some o=>rw[h1]at this;cases o <;> simp[Ob.rows]at this <;> exact⟨_,_,by first|exact .inl rfl|exact .inr rfl⟩
theorem pF {H:bl} {b id:Nat}:(H.take b)[id]? = if id<b then H[id]? else none:=by
 rw[List.getElem?_take]
theorem qw {H:bl} {T:List Nat} {b:Nat} (h:iS (H.take b) T=true):mK (cu H T) H:=by
 intro id;rw[iO]
 by_cases q:id∈T
 .obtain⟨es,u,hx⟩:=zJ h q;rw[pF]at hx
  by_cases t:id<b
  .rw[if_pos t]at hx;rcases hx with hx|hx <;> simp[hx,q,rZ,Ob.rows,Ob.mp]
  .rw[if_neg t]at hx;rcases hx with hx|hx <;> cases hx
 .cases H[id]? <;> simp[q]
theorem mK.take {H H2:bl} (h:mK H H2) (b:Nat):mK (H.take b) (H2.take b):=by
 intro id;rw[pF,pF]
 by_cases q:id<b
 .rw[if_pos q,if_pos q];exact h id
 .rw[if_neg q,if_neg q];exact⟨rfl,rfl⟩
theorem zb {H:bl} {T:List Nat} {b:Nat} (h:iS (H.take b) T=true) {id:Nat} (B:id∈T):id<b:=by
 obtain⟨es,t,hx⟩:=zJ h B;rw[pF]at hx
 by_cases q:id<b
 .exact q
 .rw[if_neg q]at hx;rcases hx with hx|hx <;> cases hx
theorem BP {H:bl} {T:List Nat} {k:Nat} {ob:Ob} (h:k∉T):cu (H.set k ob) T=(cu H T).set k ob:=by
 apply List.ext_getElem?;intro i;rw[iO]
 by_cases e:i=k
 .subst e
  by_cases q:i<H.length
  .rw[List.getElem?_set_self q,List.getElem?_set_self (by rw[j8];exact q)];simp[h]
  .rw[List.getElem?_eq_none (by simp;omega),List.getElem?_eq_none (by rw[List.length_set,j8];omega)];rfl
 .rw[List.getElem?_set_ne (Ne.symm e),List.getElem?_set_ne (Ne.symm e),iO]
theorem HK (H:bl) (T B:List Nat):cu (cu H T) B=cu (cu H B) T:=by
 apply List.ext_getElem?;intro i;simp only[iO]
 cases H[i]? with
 | none=>rfl
 | some o=>by_cases h1:i∈T <;> by_cases q:i∈B <;> simp[h1,q]
theorem I4 {H:bl} {b:Nat}:∀(n:Nat) (x:V),(∀id∈cr n (H.take b) x,id<b)->cr n H x=cr n (H.take b) x:=by
 intro n
 induction n with
 | zero=>intro x _;rfl
 | succ n A=>
  have t:∀l:List V,(∀id∈dx (cr n (H.take b)) l,id<b)->dx (cr n H) l=dx (cr n (H.take b)) l:=by
   intro l
   induction l with
   | nil=>intro _;rfl
   | cons x r z=>
    intro h;simp only[dx,List.mem_append]at h ⊢;rw[A x λid u=>h id (.inl u),z λid u=>h id (.inr u)]
  intro x h;simp only[cr]at h ⊢;split
  .rfl
  .rename_i hc;rw[if_neg hc]at h
   cases x with
   | hsl id es off len=>
    simp only at h ⊢;have w:id<b:=h id (List.mem_cons_self ..);rw[pF,if_pos w]at h ⊢
    cases hr:(H[id]?).bind Ob.rows with
    | none=>rfl
    | some q=>
     rw[hr]at h;simp only at h ⊢;rw[t _ λi u=>h i (List.mem_cons_of_mem _ u)]
   | hptr id el off=>
    simp only at h ⊢;have w:id<b:=h id (List.mem_cons_self ..);rw[pF,if_pos w]at h ⊢
    cases hr:(H[id]?).bind Ob.rows with
    | none=>rfl
    | some q=>
     rw[hr]at h;simp only at h ⊢;rw[t _ λi u=>h i (List.mem_cons_of_mem _ u)]
   | hmap id=>
    simp only at h ⊢;have w:id<b:=h id (List.mem_cons_self ..);rw[pF,if_pos w]at h ⊢;split
    .rename_i B hk;rw[hk]at h;simp only[List.mem_cons,List.mem_append]at h;rw[t _ λi u=>h i (.inr (.inl u)),t _ λi u=>h i (.inr (.inr u))]
    .rfl
   | clo f a c=>
    simp only[List.mem_append]at h ⊢;rw[t _ λi u=>h i (.inl u),t _ λi u=>h i (.inr u)]
   | agg C=>simp only at h ⊢;exact t _ h
   | tup C=>simp only at h ⊢;exact t _ h
   | _=>rfl
theorem tU {H:bl} {b n:Nat}:∀(l:List V),(∀id∈dx (cr n (H.take b)) l,id<b)->dx (cr n H) l=dx (cr n (H.take b)) l
 | [],_=>rfl
 | x::r,h=>by
  simp only[dx,List.mem_append]at h ⊢;rw[I4 n x λid B=>h id (.inl B),tU r λid B=>h id (.inr B)]
end Go.VE
namespace Go.VE
variable [bX]
theorem Ox {H:bl} {b id:Nat} {ob:Ob} (h:(H.take b)[id]? = some ob):H[id]? = some ob:=by
 grind
theorem Er {H:bl} {b id es:Nat} {xs:List (List V)} (h:((H.take b)[id]?).bind Ob.rows=some (es,xs)):(H[id]?).bind Ob.rows=some (es,xs):=by
 grind
theorem Hf {H:bl} {b:Nat} {p:V} {n:Nat} {cs:List V} (h:dY (H.take b) p n=some cs):dY H p n=some cs:=by
 unfold dY at h ⊢;split at h
 .omega
 .grind
 grind
theorem JE {H:bl} {b:Nat} {m:V} {B:List (V×V)} (h:mC (H.take b) m=some B):mC H m=some B:=by
 unfold mC at h ⊢
 grind
theorem yK {E:Env} {F:Frame} {H:bl} {b:Nat} {op:Op} {x:V} (h:dO E F (H.take b) op=some x):dO E F H op=some x:=by
 cases op with
 | load t a=>
  simp[dO]at h ⊢;split at h
  .obtain⟨z,h1,u⟩:=ζg.1 h;rw[Hf h1];exact u
  grind
 | lookup t m k ok=>
  simp[dO]at h ⊢;split at h
  .split at h
   .rename_i w q;rw[w,JE q];omega
   grind
  grind
 | _=>simp[dO]at h
theorem mG {f g:V->Option V} (B:∀x y,f x=some y->g x=some y):∀{xs ys:List V},ko f xs=some ys->ko g xs=some ys:=by
 intro xs
 induction xs with
 | nil=>intro ys h;exact h
 | cons x xs q=>
  intro ys h;simp[ko]at h ⊢
  grind
theorem HX {f g:V->Option V} (B:∀x y,f x=some y->g x=some y):∀{xs ys:List (List V)},tP f xs=some ys->tP g xs=some ys:=by
 intro xs
 induction xs with
 | nil=>intro ys h;exact h
 | cons x xs q=>
  intro ys h;simp[tP]at h ⊢;split at h
  .rename_i y s t u;rw[mG B t,q u];omega
  grind
theorem Hz {f g:V->Option V} (B:∀x y,f x=some y->g x=some y):∀{xs ys:List (V×V)},tX f xs=some ys->tX g xs=some ys:=by
 intro xs
 induction xs with
 | nil=>intro ys h;exact h
 | cons x xs q=>
  intro ys h;simp[tX]at h ⊢
  grind
theorem AX {H:bl} {b:Nat}:∀(n:Nat) (x y:V),borrow n (H.take b) x=some y->borrow n H x=some y:=by
 intro n
 induction n with
 | zero=>intro x y h;exact h
 | succ n u=>
  intro x y h;simp[borrow]at h ⊢;split at h
  .grind
  .rename_i hc;rw[if_neg hc];split at h
   .split at h
    .rename_i hr;simp only[Er hr];split at h
     .rename_i w;rw[if_pos w];obtain⟨z,t,q⟩:=ζf.1 h;rw[HX u t,<-q];rfl
     grind
    grind
   .split at h
    .rename_i hr;simp[Er hr];split at h
     .split at h
      .rename_i A;rw[if_pos A];obtain⟨z,t,q⟩:=ζf.1 h;rw[mG u t,<-q];rfl
      grind
     grind
    grind
   .split at h
    .rename_i hr;simp only[Ox hr];obtain⟨z,t,q⟩:=ζf.1 h;rw[Hz u t,<-q];rfl
    grind
   .split at h
    .rename_i h1 B;rw[mG u h1,mG u B];omega
    grind
   .obtain⟨z,t,q⟩:=ζf.1 h;rw[mG u t,<-q];rfl
   .obtain⟨z,t,q⟩:=ζf.1 h;rw[mG u t,<-q];rfl
   grind
theorem o_ {call:dn} {f:FuncId} {args:List V} {H:bl} {b:Nat} {y:V} (h:cz call f args (H.take b)=some y):cz call f args H=some y:=by
 unfold cz borrows at h ⊢;split at h
 .rename_i az has;rw[mG (AX 8) has];omega
 grind
theorem Hi (n:Nat) (H:bl) {x:V} (h:x.closed=true):cr n H x=[]:=by
 cases n with
 | zero=>rfl
 | succ n=>simp[cr,h]
section
variable {P:Program} {E:Env} {I I':b_} {μ μ':Mu} {H H':bl} {n:Nat} {F:Frame} {a:Act} {w w':World}
theorem xe {f:FuncId} (h:yh P f) (args:Array Value):(callFunc f args).run P w=.ok (.enter f args) w:=by
 obtain⟨fn,h1,u,q⟩:=h;unfold callFunc;have t:fn.body.isNone=false:=by simp_all
 simp only[Sem.run_bind,run_program,Result.andThen_ok,h1,q,t,Bool.false_eq_true,if_false,Sem.run_pure]
theorem CJ {o:Oper} {ro:Option Nat} {K:Act->World->Prop} {Q:Exit->Act->World->Prop} {f:FuncId} {args:Array Value} {r:V}
 (B:CallsIn (fr none) 0 P f args w (xu I μ H w r H')) (D:∀u I' μ' w',bM I' μ' r u->cM I' μ' H' w'->Step I μ H w I' μ' H' w'->K (a.put o.dst u) w') :
 o.uponIn (fr ro) 0 P a K Q (.ok (.enter f args) w):=by
 refine⟨λh=>by simp[fr]at h,?_⟩
 have q  := B;refine q.mono ?_;rintro e w' ⟨u,I',μ',rfl,h1,q,t⟩
 grind
theorem EH {x:V} (h:x.scalar=true) {I:b_} {μ:Mu} {v:Value} (r:bM I μ x v):eE I x v:=by
 induction r with
 | c x v A=>omega
 | agg t u w _ z=>
  exact .agg t u w λj a b p q=>z j a b p q (tT h a (List.mem_of_getElem? p))
 | tup t u w _ z=>
  exact .tup t u w λj a b p q=>z j a b p q (tT h a (List.mem_of_getElem? p))
 | _=>simp[V.scalar]at h
theorem Qg (hE:eH P E) (r:ei I μ n F a.tmps) (s:cM I μ H w) (o:Oper) {x:V} (h:qG E F o.op=some x) :
 ∃u I' w',(execOp a.eval o).run P w=.ok (.value u) w'/\bM I' μ x u/\cM I' μ H w'/\Step I μ H w I' μ H w':=by
 unfold qG at h;split at h
 rotate_left
 .cases h
 rename_i es D t n W;split at h
 rotate_left
 .cases h
 rename_i hc;obtain⟨rfl,rfl,X⟩:=hc;obtain⟨obj,p,u,h1,U⟩:=Bb hE r s o W;have Y:=U.len _ _ rfl;obtain⟨⟨q,c,el,g1,g2,g3,g4⟩,Z⟩:=U.rel _ (s.dom _ (Nat.le_refl _));rw[Mu.gf]at g1;cases g1;have G:=U.b;have O:obj=.cells c el:=by
  rw[G,kF]at g3;cases g3;rfl
 subst O
 let I':b_:=λb=>if b=w.heap.size then some (.cells c)else I b
 have A:b_.le I I':=λb y B=>by
  show (if b=w.heap.size then some (IC.cells c)else I b)=some y;rw[if_neg (λe=>by have:=IC.tR (s.imm b y B);omega)];exact B
 have C:I' p.b=some (.cells c):=by show (if p.b=w.heap.size then some (IC.cells c)else I p.b)=_;rw[if_pos G]
 have aa:∀y∈D,∀z∈y,z.scalar=true:=λy B z hz=>List.all_eq_true.1 (List.all_eq_true.1 X y B) z hz
 have hw:∀b,b<w.heap.size->(w.alloc (.cells c el)).heap[b]? = w.heap[b]? := λb hb=>js _ b hb
 have ab:∀b,b<w.heap.size->I' b=I b:=λb hb=>by show (if b=w.heap.size then some (IC.cells c)else I b)=_;rw[if_neg (by omega)]
 refine⟨u,I',_,h1,?_,⟨s.dom,?_,?_,s.inj,s.gl.mono A⟩,⟨A,Mu.le_refl _,Nat.le_refl _,by simp,λb hb _=>hw b hb,?_,rfl,⟨rfl,rfl,Nat.le_refl _⟩,λa hb=>Lg U.nf a⟩⟩
 .refine .c _ _ ?_;have ad:∀cap,D.length<=cap->p.o+(0+cap)*t<=p.sz->u=.slice (some ⟨p.b,p.o+0*t,none⟩) D.length cap->eE I' x u:=by
   rintro cap k1 k2 rfl;rw[Nat.zero_mul,Nat.add_zero];split at h
   .split at h
    .rename_i L;simp only[ζa]at h;subst h;simp only[ζh,List.isEmpty_iff,bne_iff_ne,ne_eq]at L;obtain⟨L,ae⟩:=L;subst L;have:cap=0:=by
      simp only[List.length_nil,Nat.zero_mul]at Y;rcases Nat.eq_zero_or_pos cap with k|k
      .exact k
      .have:=Nat.mul_pos k (Nat.pos_of_ne_zero ae);rw[Nat.zero_add]at k2;omega
     subst this;exact .c9 _
    .cases h
   .simp only[ζa]at h;subst h;refine .fsl t D p.b p.o cap c C k1 g4.oW g4.one g4.room λi j y z v m1 m2 m3=>?_
    exact eE.mono A (EH (aa y (List.mem_of_getElem? m1) z (List.mem_of_getElem? m2)) (g4.idx m1 m2 m3))
  have hp:p.es=t:=g4.es_eq;change bM I _ (.hsl H.length t 0 D.length) u at Z;generalize Q:D.length=ln at Z
  cases Z with
  | c _ _ af=>cases af
  | hsl id off len cap p' hm k1 k2=>
   rw[Mu.gf]at hm;cases hm;rw[hp]at *;subst Q;exact ad cap k1 k2 rfl
  | hsl0 id es off a=>
   have L:D=[]:=List.length_eq_zero_iff.1 Q;subst L;split at h
   .split at h
    .simp only[ζa]at h;subst h;exact .c9 _
    .cases h
   .simp only[ζa]at h;subst h;exact .fsl0 _ _ _
 .intro b y B
  by_cases e:b=w.heap.size
  .subst e;have:y=.cells c:=by have:=C;rw[G]at this;rw[this]at B;cases B;rfl
   subst this;exact⟨el,_,kF _⟩
  .have S:I b=some y:=by have:(if b=w.heap.size then some (IC.cells c)else I b)=some y:=B;rw[if_neg e]at this;exact this
   exact IC.rG (s.imm b y S) (hw b (IC.tR (s.imm b y S)))
 .intro id ob J;refine(s.obs id ob J).mono A (Mu.le_refl _) (λq hq hl=>?_) (λe=>by subst e;exact s.obs id _ J)
  have ho:iq μ H q.b:=⟨id,q,ob,J,hl,hq,rfl⟩;have T:=mQ s ho;exact⟨hw _ T,by rw[ab _ T];exact fZ s ho⟩
 .intro b hb;rcases hb with hb|hb
  .by_cases e:b=w.heap.size
   .exact .inr (.inr (by omega))
   .have:(if b=w.heap.size then some (IC.cells c)else I b).isSome=true:=hb;rw[if_neg e]at this;exact .inl this
  .exact .inr (.inl hb)
theorem OL (Y:eH P E) {call:dn} (hc:kG P call) {ops:List Oper} {place:Option (Nat×Nat)} {o:Oper} {x:V} (h:c8 E call ops place F H o.op=some (x,H'))
 (r:ei I μ n F a.tmps) (s:cM I μ H w) (ro:Option Nat) {K:Act->World->Prop} {Q:Exit->Act->World->Prop}
 (hK:∀u I' μ' w',bM I' μ' x u->cM I' μ' H' w'->Step I μ H w I' μ' H' w'->K (a.put o.dst u) w'):o.wpIn (fr ro) 0 P a w K Q:=by
 refine⟨λ_ _=>trivial,?_⟩
 have ab:∀c,o.op≠.defer c:=by
  intro c ad;rw[ad]at h;simp[c8,cV,bR]at h
 show o.uponIn (fr ro) 0 P a K Q ((o.semAt ro a.eval).run P w);rw[Oper.semAt_eq ro a.eval o ab];have ai:∀v,(execOp a.eval o).run P w=.ok (.value v) w->bM I μ x v->H'=H->o.uponIn (fr ro) 0 P a K Q ((execOp a.eval o).run P w):=by
  intro v e hv hH;rw[e,Oper.uponIn_value];subst hH;exact hK v I μ w hv s (.refl _ _ _ _)
 unfold c8 at h;split at h
 .
  simp  at h;obtain⟨v,hv,rfl,rfl⟩:=h;obtain⟨u,h1,A⟩:=PN (w:=w) Y r o hv
  grind
 .
  have hr:dO E F H o.op=some x/\H'=H:=by
   split at h
   .simp  at h
    grind
   .split at h
    .split at h
     .rename_i v hv;obtain⟨rfl,rfl⟩:=h;exact⟨yK hv,rfl⟩
     .split at h
      .simp  at h
       grind
      grind
    grind
  obtain⟨u,h1,A⟩:=Qm Y r s o hr.1
  grind
 .
  by_cases D:qN ops place=true
  .rw[if_pos D]at h;obtain⟨v,hv,e⟩:=ζf.1 h;obtain⟨u,I',w',k1,k2,k3,k4⟩:=Qg Y r s o hv;rw[k1,Oper.uponIn_value]
   grind
  rw[if_neg D]at h;split at h
  .rename_i ob m T;obtain⟨obj,p,u,h1,A⟩:=Bb Y r s o T;rw[h1,Oper.uponIn_value];obtain⟨g1,g2⟩:=A.rel _ (s.dom _ (Nat.le_refl _));obtain⟨s1,s2⟩:=s.push A.b g1 A.nf
   grind
  .rename_i ob m b i T;split at h
   .rename_i G;obtain⟨obj,p,u,h1,A⟩:=Bb Y r s o T;rw[h1,Oper.uponIn_value];obtain⟨g1,g2⟩:=A.rel _ (s.obs _ _ G);obtain⟨s1,s2⟩:=s.fill G A.b g1 A.nf
    grind
   grind
  grind
 .
  have hl:cO E F H o.op=some (x,H'):=by
   split at h
   .exact h
   .split at h
    .exact h
    .simp at h
  obtain⟨nx,u,w',μ',h1,A,X,h4,h5⟩:=(QF Y r s o hl).run;rw[h1];rcases A with rfl|⟨rfl,rfl⟩
  .exact hK u I μ' w' X h4 h5
  .exact hK _ I μ' w' X h4 h5
 .
  have z:∀c args,jS F o.op=some (c,args)->∃L:List Value,cB I μ args L /\
   (∀f,c=.fn f->yh P f->(execOp a.eval o).run P w=.ok (.enter f L.toArray) w) /\
   (∀id,c=.yld id->∃p,μ id=some p/\(execOp a.eval o).run P w=(Instr.yield p.b L.toArray).run P w):=by
   intro c args t;obtain⟨dst,op,ty,pos,after,guard⟩:=o
   cases op with
   | call cl=>
    obtain⟨callee,J,aj⟩:=cl
    cases callee with
    | value f=>
     simp only[jS]at t;split at t
     .rename_i g p q L hf U;obtain⟨rfl,rfl⟩:=t;obtain⟨u,v,ef,hu,hv⟩:=(dg r hf).kP;have B:=nu r U;refine⟨u.toList++J.toList.map a.eval++v.toList,(hu.append B).append hv,?_,by simp⟩
      intro f' ae af;cases ae;simp[execOp,resolve,Sem.run_bind];rw[ef];simp only[Deferred.ofValue,Sem.run_pure,Result.andThen_ok,invoke,xe af]
      congr 2
      apply Array.ext';simp
     .rename_i id L hf U;simp  at t;obtain⟨rfl,rfl⟩:=t;obtain⟨p,hm,ef⟩:=(dg r hf).Qb;have B:=nu r U;refine⟨J.toList.map a.eval,B,by simp,?_⟩
      intro ak aa;cases aa;refine⟨p,hm,?_⟩;simp[execOp,resolve,Sem.run_bind];rw[ef];simp[Deferred.ofValue,Sem.run_pure,Result.andThen_ok,invoke]
      congr 1
      congr 1
      apply Array.ext';simp
     .simp at t
    | _=>simp[jS]at t
   | _=>simp[jS]at t
  have C:∀f args y,jS F o.op=some (.fn f,args)->cz call f args H=some y->x=y->H'=(if y.scalar then H else cu H (dx (cr 8 H) args)) ->
   o.uponIn (fr ro) 0 P a K Q ((execOp a.eval o).run P w):=by
   intro f args y h1 A X h4;obtain⟨L,g1,g2,_⟩:=z _ _ h1;obtain⟨k1,k2⟩:=Co hc A s g1;rw[g2 f rfl k1];subst X;subst h4;exact CJ k2 hK
  have O:∀f args,jS F o.op=some (.fn f,args)->e9 E call f args H=some (x,H')->o.uponIn (fr ro) 0 P a K Q ((execOp a.eval o).run P w):=by
   intro f args h1 A;obtain⟨L,g1,g2,_⟩:=z _ _ h1;obtain⟨k1,k2⟩:=SD hc A s g1;rw[g2 f rfl k1];exact CJ k2 hK
  have S:∀id args,jS F o.op=some (.yld id,args)->call (.yld id) args H=some (x,H')->o.uponIn (fr ro) 0 P a K Q ((execOp a.eval o).run P w):=by
   intro id args h1 A;obtain⟨L,g1,_,g3⟩:=z _ _ h1;obtain⟨p,hm,e⟩:=g3 id rfl;obtain⟨l,f,tmps,assign,body,k1,k2⟩:=hc.yld id args H x H' A I μ w L p s g1 hm;rw[e,k1,Oper.uponIn_round];refine⟨λh=>by simp[fr]at h,?_⟩
   have A  := k2;refine A.mono ?_;rintro e w' ⟨u,I',μ',rfl,h1,A,X⟩;exact hK u I' μ' w' h1 A X
  split at h
  .rename_i f args t;split at h
   .split at h
    .exact O f args t h
    .split at h
     .exact O f args t h
     .simp at h
   .split at h
    .split at h
     .rename_i y Z;simp  at h;exact C f args y t Z h.1.symm h.2.symm
     .simp at h
    .split at h
     .rename_i y Z;split at h
      .rename_i W;simp  at h;refine C f args y t (o_ Z) h.1.symm ?_;rw[<-h.2,if_pos W]
      .rename_i W;split at h
       .rename_i ah;simp  at h;refine C f args y t (o_ Z) h.1.symm ?_;rw[<-h.2,if_neg W,tU _ λid hi=>zb ah hi]
       .simp at h
     .split at h
      .split at h
       .rename_i y Z;simp  at h;exact C f args y t Z h.1.symm h.2.symm
       .simp at h
      .simp at h
  .rename_i id args t;split at h
   .exact S id args t h
   .split at h
    .exact S id args t h
    .simp at h
  .simp at h
end
end Go.VE
namespace Go.VE
variable [bX]
structure jw (B:Nat) (ds:List Deferred) (w:World):Prop where
 all:∀d∈ds,∃r,d.target=.collected r/\B<=r/\w.heap[r]? = some (.deferred (some []))
 apart:ds.Pairwise λd d'=>∀r,d.target=.collected r->d'.target≠.collected r
section
variable {P:Program} {E:Env} {I I' I'':b_} {μ μ' μ'':Mu} {H H' H'':bl} {n B:Nat} {F F':Frame} {a:Act} {w w' w'':World}
theorem uk (s:cM I μ H w) {r:Nat} {c:Option (List Deferred)} (h:w.heap[r]? = some (.deferred c)):¬iq μ H r:=by
 rintro⟨id,p,ob,h1,A,z,rfl⟩;have:=s.obs id ob h1
 cases ob with
 | row es C=>obtain⟨q,c,el,t,_,u,_⟩:=this;rw[z]at t;cases t;rw[h]at u;cases u
 | map B=>obtain⟨q,c,el,t,_,u,_⟩:=this;rw[z]at t;cases t;rw[h]at u;cases u
 | loop x=>obtain⟨q,c,t,_,u,_⟩:=this;rw[z]at t;cases t;rw[h]at u;cases u
 | _=>simp[Ob.live]at A
theorem jw.step {ds:List Deferred} (h:jw B ds w) (s:cM I μ H w) (st:Step I μ H w I' μ' H' w'):jw B ds w' where
 all:=by
  intro d t;obtain⟨r,h1,u,q⟩:=h.all d t;refine⟨r,h1,u,?_⟩;rw[st.frame r (Array.getElem?_eq_some_iff.1 q).1 (uk s q)];exact q
 apart:=h.apart
structure At (B n:Nat) (I0:b_) (μ0:Mu) (H0:bl) (w0:World) (F:Frame) (H:bl) (ds:List Deferred) (a:Act) (w:World):Prop where
 rel:∃I μ,ei I μ n F a.tmps/\cM I μ H w/\Step I0 μ0 H0 w0 I μ H w
 defers:a.defers=ds
 marks:jw B ds w
theorem K8 (r:ei I μ n F a.tmps) (ops:Array Oper) (o:Oper):fP ops.toList F o=Region.wanted o (yielded ops a.tmps):=by
 unfold fP Region.wanted
 cases hg:o.guard with
 | none=>rfl
 | some g=>
  obtain⟨j,b⟩:=g;simp only;unfold yielded;have e:ops.toList[j]? = ops[j]? := by simp
  rw[e]
  cases z:(ops[j]?).bind (·.dst)with
  | none=>simp
  | some d=>
   simp only[ζb];have hr:=r.2 d
   by_cases t:d<a.tmps.size
   .have q:a.tmps[d]? = some a.tmps[d]:=by simp[t]
    have u:a.tmps.getD d undef=a.tmps[d]:=by simp[t]
    rw[u]at hr;rw[q]
    cases w:get F d with
    | bool c=>rw[w]at hr;rw[hr.qY];cases c <;> cases b <;> rfl
    | _=>
     cases hv:a.tmps[d]with
     | bool c=>rw[hv]at hr;have:=hr.of_bool;rw[w]at this;cases this
     | _=>rfl
   .have q:a.tmps[d]? = none:=Array.getElem?_eq_none (Nat.le_of_not_lt t);have u:a.tmps.getD d undef=undef:=by simp[t]
    rw[u]at hr;rw[q]
    cases w:get F d with
    | bool c=>rw[w]at hr;have:=hr.qY;simp[undef]at this
    | _=>rfl
theorem B8 (G:eH P E) {call:dn} (hc:kG P call) {ops:Array Oper} {place:Option (Nat×Nat)} {o:Oper} (h:gu E call n ops.toList place o F H=some (F',H'))
 (r:ei I μ n F a.tmps) (s:cM I μ H w) (ro:Option Nat) {K:Act->World->Prop} {Q:Exit->Act->World->Prop}
 (D:∀a' I' μ' w',ei I' μ' n F' a'.tmps->a'.defers=a.defers->cM I' μ' H' w'->Step I μ H w I' μ' H' w'->K a' w') :
 if Region.wanted o (yielded ops a.tmps)then o.wpIn (fr ro) 0 P a w K Q else(∀f,o.about P w a.eval=some f->(fr ro).fn f)/\K (a.put o.dst undef) w:=by
 unfold gu at h;rw[<-K8 r];have q:∀v,(a.put o.dst v).defers=a.defers:=λv=>by cases o.dst <;> rfl
 split at h
 .rename_i z;rw[if_pos z];split at h
  .rename_i x H2 A;simp only[ζf,ζc]at h;obtain⟨C,B,rfl,rfl⟩:=h;refine OL G hc A r s ro (λu I' μ' w' J L t=>?_)
   exact D _ I' μ' w' ((r.mono t.le t.mu).put J B) (q u) L t
  .simp at h
 .rename_i z;rw[if_neg z];simp only[ζf,ζc]at h;obtain⟨C,B,rfl,rfl⟩:=h;exact⟨λ_ _=>trivial,D _ I μ w (r.put (.undef I μ) B) (q _) s (.refl _ _ _ _)⟩
theorem Mg (J:eH P E) {call:dn} (hc:kG P call) {ops:Array Oper} (ro:Option Nat) {Q:Exit->Act->World->Prop}:∀(rest:List Oper) (k:Nat) (I:b_) (μ:Mu) (F:Frame) (H:bl) (a:Act) (w:World),
 (∀j,rest[j]? = ops[k+j]?)->mh E call n ops.toList rest F H=some (F',H')->ei I μ n F a.tmps->cM I μ H w ->
 (∀a' I' μ' w',ei I' μ' n F' a'.tmps->a'.defers=a.defers->cM I' μ' H' w'->Step I μ H w I' μ' H' w'->Q .normal a' w') ->
 wpOpsIn (fr ro) 0 P ops Q (List.range' k rest.length) a w:=by
 intro rest
 induction rest with
 | nil=>
  intro k I μ F H a w _ h r s z;simp only[mh,ζa,ζc]at h;obtain⟨rfl,rfl⟩:=h;exact z a I μ w r rfl s (.refl _ _ _ _)
 | cons o rest L=>
  intro k I μ F H a w q h r s z;simp only[mh]at h;split at h
  .rename_i F1 H1 t;have h0:ops[k]? = some o:=by simpa using (q 0).symm
   simp only[List.length_cons,List.range'_succ,wpOpsIn,h0];refine B8 J hc t r s ro (λa' I' μ' w' hr O G A=>?_)
   refine L (k+1) I' μ' F1 H1 a' w' (λj=>by have:=q (j+1);simpa [Nat.add_assoc,Nat.add_comm 1 j]using this) h hr G ?_
   intro S I2 T U B C D u;exact z S I2 T U B (C.trans O) D (Step.trans G A u)
  .simp at h
end
end Go.VE
namespace Go.VE
variable [bX]
def oq (F F':Frame) (op:Op):Prop:=∀x∈op.operands,ev F x=ev F' x
theorem rA {F F':Frame}:∀{l:List Operand},(∀x∈l,ev F x=ev F' x)->fI F l=fI F' l:=by
 intro l
 induction l with
 | nil=>intro _;rfl
 | cons x l q=>
  simp[fI]
  grind
theorem zV {F F':Frame}:∀{l:List (Nat×Operand)},(∀x∈l,ev F x.2=ev F' x.2)->mb F l=mb F' l:=by
 intro l
 induction l with
 | nil=>intro _;rfl
 | cons x l q=>
  intro h;simp[mb];simp_all
theorem wO {F F':Frame} {o:Option Operand} (h:∀x∈o.toArray,ev F x=ev F' x):jM F o=jM F' o:=by
 cases o with
 | none=>rfl
 | some x=>simp[jM];grind
theorem Da {E:Env} {F F':Frame} {op:Op} (h:oq F F' op):bR E F op=bR E F' op:=by
 cases op with
 | move x=>exact h x (by simp[Op.operands])
 | assign x=>exact h x (by simp[Op.operands])
 | pick c a b=>
  simp[bR];rw[h c (by simp[Op.operands]),h a (by simp[Op.operands]),h b (by simp[Op.operands])]
 | nilCheck x=>simp[bR];rw[h x (by simp[Op.operands])]
 | binOp op t x y z=>simp[bR];rw[h x (by simp[Op.operands]),h y (by simp[Op.operands])]
 | unOp op t x=>simp[bR];rw[h x (by simp[Op.operands])]
 | convert s d x=>simp[bR];rw[h x (by simp[Op.operands])]
 | fieldAddr s x f=>simp[bR];rw[h x (by simp[Op.operands])]
 | field s x f=>simp[bR];rw[h x (by simp[Op.operands])]
 | indexAddr t x i=>simp[bR];rw[h x (by simp[Op.operands]),h i (by simp[Op.operands])]
 | index t x i=>simp[bR];rw[h x (by simp[Op.operands]),h i (by simp[Op.operands])]
 | slice t x A B C=>
  simp[bR];rw[h x (by simp[Op.operands]),wO  (λy q=>h y (by simp[Op.operands]at q ⊢;simp_all)),wO  (λy q=>h y (by simp[Op.operands]at q ⊢;simp_all)),
   wO  (λy q=>h y (by simp[Op.operands]at q ⊢;simp_all))]
 | build t D=>
  simp[bR];rw[zV  (λx u=>h x.2 (by simp[Op.operands];grind))]
 | makeFunc f a b=>
  cases f with
  | func f=>
   simp[bR];rw[rA  (λx u=>h x (by simp[Op.operands];grind)),rA  (λx u=>h x (by simp[Op.operands];grind))]
  | _=>rfl
 | extract x i=>simp[bR];rw[h x (by simp[Op.operands])]
 | call c=>
  obtain⟨callee,args,w⟩:=c
  cases callee with
  | builtin b=>
   simp[bR];rw[rA  (λx u=>h x (by simp[Op.operands,Call.operands];grind))]
  | _=>rfl
 | _=>rfl
theorem xy {E:Env} {F F':Frame} {H:bl} {op:Op} (h:oq F F' op):dO E F H op=dO E F' H op:=by
 cases op with
 | load t x=>simp[dO];rw[h x (by simp[Op.operands])]
 | lookup t m k ok=>simp[dO];rw[h m (by simp[Op.operands]),h k (by simp[Op.operands])]
 | _=>rfl
theorem wo {E:Env} {F F':Frame} {op:Op} (h:oq F F' op):eN E F op=eN E F' op:=by
 cases op with
 | alloc t=>rfl
 | box t x=>simp[eN];rw[h x (by simp[Op.operands])]
 | makeSlice t l c=>simp[eN];rw[h l (by simp[Op.operands]),h c (by simp[Op.operands])]
 | buildSlice t len q=>
  simp[eN];rw[zV  (λx u=>h x.2 (by simp[Op.operands];grind))]
 | makeMap t r=>cases r <;> rfl
 | _=>rfl
theorem C_ {E:Env} {F F':Frame} {H:bl} {op:Op} (h:oq F F' op):cO E F H op=cO E F' H op:=by
 cases op with
 | store t p x=>simp[cO];rw[h p (by simp[Op.operands]),h x (by simp[Op.operands])]
 | mapUpdate t m k x=>simp[cO];rw[h m (by simp[Op.operands]),h k (by simp[Op.operands]),h x (by simp[Op.operands])]
 | insert t m k x=>simp[cO];rw[h m (by simp[Op.operands]),h k (by simp[Op.operands]),h x (by simp[Op.operands])]
 | call c=>
  obtain⟨callee,args,q⟩:=c
  cases callee with
  | builtin b=>
   cases b with
   | append=>
    simp[cO];rw[rA  (λx u=>h x (by simp[Op.operands,Call.operands];grind))]
   | clear=>
    simp[cO];rw[rA  (λx u=>h x (by simp[Op.operands,Call.operands];grind))]
   | _=>rfl
  | _=>rfl
 | _=>rfl
theorem Di {F F':Frame} {op:Op} (h:oq F F' op):jS F op=jS F' op:=by
 cases op with
 | call c=>
  obtain⟨callee,args,q⟩:=c
  cases callee with
  | value f=>
   simp[jS];rw[h f (by simp[Op.operands,Call.operands]),rA  (λx t=>h x (by simp[Op.operands,Call.operands];grind))]
  | _=>rfl
 | _=>rfl
theorem HU {E:Env} {F F':Frame} {op:Op} (h:oq F F' op):qG E F op=qG E F' op:=by unfold qG;rw[wo h]
theorem I9 {F F':Frame} {ops:List Oper} {i b:Nat} {H:bl} {op:Op} (h:oq F F' op):xX ops i b F H op=xX ops i b F' H op:=by
 have:o7 F op=o7 F' op:=by
  unfold o7;split
  .rename_i args _;split
   .rename_i x r q;rw[h x (by
     have:x∈args.toList:=by rw[q];simp
     simp only[Op.operands,Call.operands,Array.mem_append];right;simpa using this)]
   .rfl
  .rfl
 unfold xX;rw[this]
theorem BZ {E:Env} {call:dn} {ops:List Oper} {place:Option (Nat×Nat)} {F F':Frame} {H:bl} {op:Op} (h:oq F F' op) (B:∀b i,place=some (b,i)->qZ ops i F=qZ ops i F'/\nJ ops i F op=nJ ops i F' op):c8 E call ops place F H op=c8 E call ops place F' H op:=by
 unfold c8;rw[Da h,wo h,C_ h,Di h,xy (H:=H) h,HU h];split <;> (try rfl)
 .split <;> (try rfl)
  rename_i i;rw[xy h,(B _ i rfl).2]
 .split <;> (try rfl)
  rename_i b i;rw[(B _ i rfl).1,I9 h]
section
variable {E:Env} {call:dn} {n:Nat} {ops:List Oper} {base:Nat}
theorem Jz {o:Oper} {t:Nat} (h:.tmp t∈o.op.operands):t∈tmpsOf o ops:=by
 refine List.mem_append.2 (.inl (List.mem_filterMap.2 ⟨.tmp t,by grind,rfl⟩))
theorem DN {F F':Frame} {o:Oper} {dst:Option Nat} {v:V} (B:jW n F dst v=some F') (h:∀d,dst=some d->d∉tmpsOf o ops):oq F' F o.op:=by
 intro x u
 cases x with
 | tmp t=>
  cases dst with
  | none=>simp[jW]at B;grind
  | some d=>
   simp only[jW]at B;split at B
   .simp  at B;subst B;have q:d≠t:=λe=>h d rfl (by rw[e];exact Jz u)
    simp[ev];rw[gX _ _ q]
   grind
 | const v=>rfl
 | func f=>rfl
 | global g=>rfl
theorem AN {F F':Frame} {o:Oper} {dst:Option Nat} {v:V} (B:jW n F dst v=some F') (h:∀d,dst=some d->d∉tmpsOf o ops):fP ops F' o=fP ops F o:=by
 unfold fP
 cases hg:o.guard with
 | none=>rfl
 | some g=>
  obtain⟨j,b⟩:=g;simp only
  cases u:(ops[j]?).bind (·.dst)with
  | none=>rfl
  | some t=>
   simp only
   cases dst with
   | none=>simp[jW]at B;grind
   | some d=>
    simp only[jW]at B;split at B
    .simp  at B;subst B;have q:d≠t:=λe=>h d rfl (by
      unfold tmpsOf
      grind)
     rw[gX _ _ q]
    grind
theorem ME {F F1 J:Frame} {d G:Option Nat} {u v:V} (h1:jW n F d u=some F1) (B:jW n F1 G v=some J) (O:∀x,d=some x->G≠some x) :
 ∃D,jW n F G v=some D/\jW n D d u=some J:=by
 cases d with
 | none=>
  simp[jW]at h1;subst h1;exact⟨J,B,rfl⟩
 | some x=>
  cases G with
  | none=>
   simp[jW]at B;subst B;exact⟨F,rfl,h1⟩
  | some y=>
   simp only[jW]at h1 B ⊢;split at h1
   .rename_i q;split at B
    .simp  at h1 B;subst h1;subst B;have:x≠y:=λe=>O x rfl (by rw[e])
     exact⟨set F y v,by grind,by rw[if_pos q,G9 _ _ _ (Ne.symm this)]⟩
    grind
   grind
theorem wZ {i k:Nat} {B ok:Oper} (h:dD ops i=true) (G:ops[i]? = some B) (hk:ops[k]? = some ok) (D:k≠i):cV ok.op=.pure\/(if k<i then before ops i k else before ops k i)=true\/(isApp B.op=true/\cV ok.op=.alloc/\i<k):=by
 unfold dD at h
 grind
theorem wA {H:bl} {j es:Nat} {ob:Ob} {x:V} {xs:List (List V)} (B:H[j]? = some .free) (h:dM H es x=some xs):dM (H.set j ob) es x=some xs:=by
 unfold dM at h ⊢;split at h <;> first|omega|skip
 rename_i id q off len
 by_cases e:j=id
 .subst e;rw[B]at h;simp only[ζb,Ob.rows]at h
  grind
 grind
theorem Ns {H H1:bl} {j:Nat} {ob:Ob} {x:V} (h:gQ H x=some H1):H1.length=H.length/\(H1[j]? = some .free->H[j]? = some .free)/\(H[j]? = some .free->gQ (H.set j ob) x=some (H1.set j ob)):=by
 unfold gQ at h ⊢;split at h
 .grind
 .grind
 .rename_i id a b c;split at h
  .rename_i hr;cases h;refine⟨by simp,λh=>?_,λh=>?_⟩
   .grind
   .have e:id≠j:=λe=>by grind
    rw[List.getElem?_set_ne (Ne.symm e),hr];rw[List.set_comm _ _ e]
  simp_all
 simp_all
theorem Hj {H:bl} {o:Ob} {j:Nat} (B:o≠.free) (h:(H++[o])[j]? = some .free):j<H.length/\H[j]? = some .free:=by
 grind
theorem QJ {F:Frame} {H H1:bl} {op:Op} {v:V} {j:Nat} {ob:Ob} (G:isApp op=true) (h:cO E F H op=some (v,H1)) (B:H1[j]? = some .free):H[j]? = some .free/\cO E F (H.set j ob) op=some (v,H1.set j ob):=by
 unfold isApp at G;split at G
 .simp only[cO]at h ⊢;split at h
  .split at h
   .rename_i e _ t q;split at h
    .rename_i d z;split at h
     .rename_i A C;obtain⟨rfl,rfl⟩:=h;refine⟨B,?_⟩;simp[t,q,z,wA  B A,wA  B C]
     .rename_i L O I A C;split at h
      .obtain⟨H0,hg,J⟩:=ζf.1 h;obtain⟨rfl,rfl⟩:=J;obtain⟨D,u⟩:=Hj (by simp) B
       obtain⟨g1,g2,g3⟩:=Ns  (ob:=ob) hg;have w:=g2 u;simp[t,q,z,wA  w A,wA  w C]
       grind
      simp_all
     simp_all
    simp_all
   .rename_i e _ t q;split at h
    .rename_i d z;unfold mkApp at h;split at h
     .split at h
      .obtain⟨rfl,rfl⟩:=h;simp only[t,q,z,mkApp]
       grind
      .split at h
       .obtain⟨rfl,rfl⟩:=h;obtain⟨D,u⟩:=Hj (by simp) B
        simp only[q,mkApp]
        grind
       simp_all
     simp_all
    simp_all
   simp_all
  simp_all
 simp_all
theorem tL {i:Nat} {F:Frame} {H H':bl} {op:Op} {v:V} (h:c8 E call ops (some (base,i)) F H op=some (v,H')) (J:dD ops i=false) (B:cV op≠.loud) :
 (H'=H/\∀H2:bl,mK (H2.take base) (H.take base)->c8 E call ops (some (base,i)) F H2 op=some (v,H2)) \/
 (∃ob,H[base+i]? = some .free/\H'=H.set (base+i) ob/\∀H2:bl,H2[base+i]? = some .free->c8 E call ops (some (base,i)) F H2 op=some (v,H2.set (base+i) ob)) \/
 (∃T,iS (H.take base) T=true/\H'=cu H T/\∀H2:bl,mK (H2.take base) (H.take base)->c8 E call ops (some (base,i)) F H2 op=some (v,cu H2 T)):=by
 unfold c8 at h;split at h
 .simp  at h;obtain⟨x,C,rfl,rfl⟩:=h;refine .inl ⟨rfl,λH2 _=>?_⟩
  unfold c8;grind
 .rename_i B;simp only at h;split at h
  .rename_i D;split at h
   .rename_i x C;obtain⟨rfl,rfl⟩:=h;refine .inl ⟨rfl,λH2 q=>?_⟩
    unfold c8;rw[B];simp[yQ q,C,D]
   grind
  grind
 .split at h
  .obtain⟨x,C,e⟩:=ζf.1 h;obtain⟨rfl,rfl⟩:=e;refine .inl ⟨rfl,λH2 _=>?_⟩
   unfold c8;grind
  split at h
  .grind
  .rename_i ob m O Q L G;obtain⟨rfl,rfl⟩:=G;split at h
   .rename_i t;obtain⟨rfl,rfl⟩:=h;refine .inr (.inl ⟨ob,t,rfl,λH2 q=>?_⟩)
    unfold c8;grind
   grind
  grind
 .grind
 .rename_i B;split at h
  .rename_i f args z;split at h
   .grind
   .rename_i u;simp only at h;split at h
    .rename_i y I;split at h
     .rename_i w;obtain⟨rfl,rfl⟩:=h;refine .inl ⟨rfl,λH2 q=>?_⟩
      unfold c8;rw[B];simp[z];rw[if_neg u];simp[zB q,I,w]
     .split at h
      .rename_i A;obtain⟨rfl,rfl⟩:=h;refine .inr (.inr ⟨_,A,rfl,λH2 q=>?_⟩)
       unfold c8;simp[z];simp[zB q,I,Kx q,uJ q,A]
       grind
      grind
    grind
  .grind
  grind
theorem En {i:Nat}:∀{r l:List Nat},A6 ops i r=some l->∀k∈r,∃a,ES ops i k=some a/\∀s∈a,s∈l
 | [],l,h,k,hk=>by simp_all
 | q::r,l,h,k,hk=>by
  simp[A6]at h;split at h
  .rename_i a b h1 B;simp  at h;rcases List.mem_cons.1 hk with rfl|hk
   .grind
   .obtain⟨a',g1,g2⟩:=En B k hk
    grind
  grind
theorem G7 {i:Nat}:∀{r l:List Nat},A6 ops i r=some l->∀s∈l,s∉dstsOf ops
 | [],l,h,s,hs=>by simp[A6]at h;grind
 | q::r,l,h,s,hs=>by
  simp[A6]at h;split at h
  .rename_i a b h1 B;simp  at h;subst h;rcases List.mem_append.1 hs with hs|hs
   .unfold ES at h1
    grind
   .exact G7 B s hs
  grind
theorem Ej {i a:Nat} {l:List Nat} {B:Oper} (D:ops[i]? = some B) (h:zy ops i=some (a,l)):(∃t x,B.op=.store t (.tmp a) x)/\a∉dstsOf ops/\(∀s∈l,s∉dstsOf ops) /\
 ∀k ok,ops[k]? = some ok->k≠i->cV ok.op=.pure\/(if k<i then before ops i k else before ops k i)=true\/∃G a',ok.op=.load G (.tmp a')/\(a'∈l\/a'∈dstsOf ops):=by
 unfold zy at h;rw[D]at h;simp  at h;split at h
 .rename_i t A x u;simp  at u;split at h
  .simp_all
  .obtain⟨C,w,e⟩:=ζf.1 h;obtain⟨rfl,rfl⟩:=e;refine⟨⟨t,x,u⟩,by grind,G7 w,λk ok hk z=>?_⟩
   obtain⟨b,h1,H⟩:=En w k (List.mem_range.2 (ζe.1 hk).1);unfold ES at h1;rw[hk]at h1;simp only at h1;split at h1
   .rename_i q;simp  at q;rcases q with (q|q)|q
    .grind
    .grind
    .exact .inr (.inl q)
   .split at h1
    .grind
    grind
 grind
theorem Gv {F F':Frame} {dst:Option Nat} {v:V} {s:Nat} (B:jW n F dst v=some F') (h:∀d,dst=some d->s≠d):get F' s=get F s:=by
 unfold jW at B;split at B
 .grind
 .rename_i d;split at B
  .simp  at B;subst B;exact gX _ _ (Ne.symm (h d rfl))
  grind
theorem Gf {k d:Nat} {ok:Oper} (hk:ops[k]? = some ok) (B:ok.dst=some d):d∈dstsOf ops:=
 List.mem_filterMap.2 ⟨ok,List.mem_of_getElem? hk,B⟩
theorem Ep {F F':Frame} {k i:Nat} {ok B:Oper} {v:V} (hk:ops[k]? = some ok) (D:ops[i]? = some B) (G:jW n F ok.dst v=some F'):qZ ops i F'=qZ ops i F:=by
 unfold qZ
 cases q:zy ops i with
 | none=>rfl
 | some t=>
  obtain⟨a,l⟩:=t;obtain⟨_,z,A,_⟩:=Ej D q;have hg:∀s,s∉dstsOf ops->get F' s=get F s:=λs u=>Gv G λd w e=>u (e▸Gf hk w)
  grind
theorem Mc {i k a a':Nat} {t:TypeId} {x:Operand} {B:Oper} (D:ops[i]? = some B) (e1:B.op=.store t (.tmp a) x) (h1:a'∈dstsOf ops) (G:a∉dstsOf ops) (J:vr ops i k=false):a∈oV ops k a':=by
 unfold oV
 grind
theorem yp {k a' s:Nat} (h:s∈oV ops k a'):s∉dstsOf ops/\∃i B t x,ops[i]? = some B/\B.op=.store t (.tmp s) x/\vr ops i k=false:=by
 unfold oV at h
 grind
theorem DF {F F':Frame} {k i:Nat} {ok:Oper} {op:Op} {v:V} (hk:ops[k]? = some ok) (D:jW n F ok.dst v=some F') (B:oq F' F op):nJ ops i F' op=nJ ops i F op:=by
 have hg:∀s,s∉dstsOf ops->get F' s=get F s:=λs h=>Gv D λd q e=>h (e▸Gf hk q)
 unfold nJ;split
 .rename_i t u;have w  := by
   have:=B (.tmp u) (by simp[Op.operands])
   simpa [ev]using this
  rw[w,Bool.eq_iff_iff];simp;exact⟨λh s B=>by rw[<-hg s (yp B).1];grind,λh s B=>by rw[hg s (yp B).1];grind⟩
 .rfl
theorem Cj {k a':Nat} {ok:Oper} {t:TypeId} (hk:ops[k]? = some ok) (e:ok.op=.load t (.tmp a')) (h:dD ops k=true):oV ops k a'=[]:=by
 refine List.eq_nil_iff_forall_not_mem.2 λs u=>?_
 obtain⟨_,i,A,B,x,h1,w,z⟩:=yp u;have q:i≠k:=λe2=>by grind
 rcases wZ h hk h1 q with g|g|g
 .rw[w]at g;cases g
 .unfold vr at z
  grind
 .rw[e]at g;exact absurd g.1 (by simp[isApp])
theorem HG {F:Frame} {H H':bl} {t:TypeId} {a:Nat} {x:Operand} {id el off:Nat} {u:V} (B:get F a=.hptr id el off) (h:cO E F H (.store t (.tmp a) x)=some (u,H')):∃r,H'=H.set id r:=by
 simp only[cO,ev]at h;split at h
 .grind
 grind
theorem Km {F:Frame} {H:bl} {t:TypeId} {a id b:Nat} {r:Ob} (B:qn id (get F a)=true):dO E F ((H.set id r).take b) (.load t (.tmp a))=dO E F (H.take b) (.load t (.tmp a)):=by
 have:∀m,dY ((H.set id r).take b) (get F a) m=dY (H.take b) (get F a) m:=λm=>by
  unfold qn at B;split at B
  .rename_i q el off hg;rw[hg];simp[dY]
   grind
  .rename_i u hg;rw[hg];rfl
  grind
 unfold dO;simp[ev]
 grind
theorem G3 {k i:Nat} {ok G:Oper} (hk:ops[k]? = some ok) (Y:ops[i]? = some G) (U:k≠i) (J:(if k<i then before ops i k else before ops k i)=false) (lk:dD ops k=false) (pk:cV ok.op≠.pure) (hl:cV G.op=.loud) (li:dD ops i=false) (W:isApp G.op=false)
 {F:Frame} {H0 H1 H2 Hs O:bl} {u v:V} (D:c8 E call ops (some (base,i)) F Hs G.op=some (u,O)) (B:c8 E call ops (some (base,k)) F H0 ok.op=some (v,H1)) :
 H1=H0/\∃id,(∀(H:bl) (r:Ob),dO E F ((H.set id r).take base) ok.op=dO E F (H.take base) ok.op)/\(∃r,O=Hs.set id r)/\cV ok.op=.read/\dO E F (H0.take base) ok.op=some v/\nJ ops k F ok.op=true:=by
 unfold c8 at D;rw[hl]at D;simp only[li,Bool.false_or,show ∀F b H,xX ops i b F H G.op=false from λF b H=>by unfold xX;rw[W];simp,Bool.or_false]at D
 split at D
 .rename_i z;unfold qZ at z;split at z
  .rename_i a l C;split at z
   .rename_i id el off hg;obtain⟨⟨t,x,A⟩,S,Z,T⟩:=Ej Y C;rcases T k ok hk U with h|h|⟨t',Q,q,hmem⟩
    .exact absurd h pk
    .rw[J]at h;cases h
    .unfold c8 at B;rw[q]at B;simp only[cV]at B;split at B
     rotate_left
     .simp at B
     rename_i w;have I:qn id (get F Q)=true:=by
      rcases hmem with hmem|hmem
      .exact List.all_eq_true.1 z Q hmem
      .have L:vr ops i k=false:=by
        unfold vr
        by_cases e:k<i
        .rw[if_pos e]at J ⊢;exact J
        .rw[if_neg e]at J ⊢;exact J
       have X:=Mc Y A hmem S L;unfold nJ at w;simp only[List.all_eq_true]at w;have:=w a X;rw[hg]at this;exact this
     rw[A]at D;obtain⟨r,hr⟩:=HG hg D;split at B
     .rename_i v' hv;simp only[ζa,ζc]at B;obtain⟨rfl,rfl⟩:=B;refine⟨rfl,id,λH r=>by rw[q];exact Km I,⟨r,hr⟩,by rw[q];rfl,by rw[q];exact hv,by rw[q];exact w⟩
     .rw[lk]at B;simp at B
   .simp at z
  .simp at z
 .simp at D
theorem Cs {place:Option (Nat×Nat)} {F:Frame} {H H':bl} {op:Op} {v:V} (B:cV op=.pure\/cV op=.alloc/\qN ops place=true) (h:c8 E call ops place F H op=some (v,H')) :
 H'=H/\∀H2:bl,c8 E call ops place F H2 op=some (v,H2):=by
 rcases B with B|⟨B,q⟩
 rotate_left
 .unfold c8 at h;rw[B]at h;simp only[q]at h;obtain⟨x,t,e⟩:=ζf.1 h;obtain⟨rfl,rfl⟩:=e;refine⟨rfl,λH2=>?_⟩
  unfold c8;grind
 unfold c8 at h;rw[B]at h;simp  at h;obtain⟨x,t,rfl,rfl⟩:=h;unfold c8;grind
theorem take_set_of_le {H:bl} {b k:Nat} {x:Ob} (h:b<=k):(H.set k x).take b=H.take b:=List.take_set_of_le h
theorem apart_spec {a b:Oper} (h:xA ops a b=true):(∀d,a.dst=some d->d∉tmpsOf b ops/\b.dst≠some d)/\(∀d,b.dst=some d->d∉tmpsOf a ops):=by
 unfold xA at h
 grind
theorem BK {i k:Nat} {ok:Oper} (h:we ops i=true) (hk:ops[k]? = some ok) (B:k≠i) (D:vr ops i k=false):cV ok.op=.pure\/cV ok.op=.read\/cV ok.op=.alloc/\(xC ops k=true\/i<k):=by
 unfold we at h;split at h
 .simp only[ζh,List.all_eq_true,List.mem_range]at h;have:=h.2 k (ζe.1 hk).1;rw[hk]at this;simp only[Bool.or_eq_true,beq_iff_eq,ζh,decide_eq_true_eq,D,Bool.false_eq_true,or_false]at this;rcases this with ((h|h)|h)|h
  .exact absurd h B
  .exact .inl h
  .exact .inr (.inl h)
  .exact .inr (.inr h)
 .cases h
theorem yX {op:Op} (h:isApp op=true):cV op=.loud:=by
 unfold isApp at h;split at h
 .rfl
 .cases h
theorem Hg {F:Frame} {H H1:bl} {op:Op} {v:V} {b:Nat} (D:isApp op=true) (B:o7 F op=true) (G:b<=H.length) (h:cO E F H op=some (v,H1)):H1.take b=H.take b:=by
 unfold isApp at D;split at D
 rotate_left
 .cases D
 rename_i args w;simp only[cO]at h;split at h
 rotate_left
 .cases h
 rename_i t I s x z q;have A:s=.c9\/s=.bH:=by
  simp only[o7]at B;split at B
  .rename_i y r C;rw[C]at q;have h1:ev F y=some s:=by
    simp only[fI]at q;split at q
    .rename_i a b h1 u;simp only[ζa,List.cons.injEq]at q;rw[h1,q.1]
    .cases q
   rw[h1]at B;cases s <;> simp at B <;> simp
  .cases B
 have hg:∀H2,gQ H s=some H2->H2=H:=λH2 h=>by rcases A with rfl|rfl <;> (simp only[gQ,ζa]at h;exact h.symm)
 split at h
 .split at h
  .split at h
   .simp only[ζa,ζc]at h;rw[h.2]
   .split at h
    .obtain⟨H0,h1,u⟩:=ζf.1 h;simp only[ζc]at u;rw[<-u.2,hg H0 h1,List.take_append_of_le_length G]
    .cases h
   .cases h
  .cases h
 .split at h
  .unfold mkApp at h;split at h
   .split at h
    .simp only[ζa,ζc]at h;rw[h.2]
    .split at h
     .simp only[ζa,ζc]at h;rw[<-h.2,List.take_append_of_le_length G]
     .cases h
   .cases h
  .cases h
 .cases h
theorem C0 {i:Nat} {F:Frame} {H H':bl} {op:Op} {u:V} (B:isApp op=true) (D:dD ops i=false) (G:(ops[i]?).map Oper.op=some op) (h:c8 E call ops (some (base,i)) F H op=some (u,H')) :
 we ops i=true/\o7 F op=true/\base<=H.length/\cO E F H op=some (u,H'):=by
 unfold c8 at h;rw[yX B]at h;have q:qZ ops i F=false:=by
  unfold qZ zy;rw[G];unfold isApp at B;split at B
  .rfl
  .cases B
 simp only[D,q,Bool.false_or]at h;split at h
 .rename_i hc;unfold xX at hc;simp only[ζh,decide_eq_true_eq]at hc;exact⟨hc.1,hc.2.1.2,hc.2.2,h⟩
 .cases h
theorem LD {i:Nat} {F:Frame} {H H':bl} {op:Op} {u:V} (B:isApp op=true) (h:cO E F H op=some (u,H')) (hc:dD ops i=true\/we ops i=true/\o7 F op=true/\base<=H.length):c8 E call ops (some (base,i)) F H op=some (u,H'):=by
 unfold c8;rw[yX B];rcases hc with hc|⟨h1,q,t⟩
 .simp only[hc,Bool.true_or,if_true,h]
 .have:xX ops i base F H op=true:=by unfold xX;simp[h1,B,q,t]
  simp only[this,Bool.or_true,if_true,h]
theorem CM {i:Nat} {F:Frame} {H H':bl} {op:Op} {v:V} (B:cV op=.read) (D:dD ops i=false) (h:c8 E call ops (some (base,i)) F H op=some (v,H')) :
 H'=H/\∀H2:bl,mK (H2.take base) (H.take base)->c8 E call ops (some (base,i)) F H2 op=some (v,H2):=by
 unfold c8 at h;rw[B]at h;simp only at h;split at h
 .rename_i q;split at h
  .rename_i x t;simp only[ζa,ζc]at h;obtain⟨rfl,rfl⟩:=h;refine⟨rfl,λH2 u=>?_⟩
   unfold c8;rw[B];simp only[yQ u,t,q,if_true]
  .rw[D]at h;simp at h
 .simp at h
theorem swap {k i:Nat} {ok D:Oper} (hk:ops[k]? = some ok) (hi:ops[i]? = some D) (ad:k<i) (O:before ops i k=false) (J:xA ops ok D=true) {F F1 F2:Frame} {H H1 H2:bl}
 (h1:gu E call n ops (some (base,k)) ok F H=some (F1,H1)) (h2:gu E call n ops (some (base,i)) D F1 H1=some (F2,H2)) :
 ∃G B,gu E call n ops (some (base,i)) D F H=some (G,B)/\gu E call n ops (some (base,k)) ok G B=some (F2,H2):=by
 obtain⟨a1,a2⟩:=apart_spec J;have ae:∃v,jW n F ok.dst v=some F1/\((fP ops F ok=true/\c8 E call ops (some (base,k)) F H ok.op=some (v,H1))\/(fP ops F ok=false/\v=.undef/\H1=H)):=by
  unfold gu at h1;split at h1
  .rename_i hw;split at h1
   .rename_i v H' S;simp only[ζf,ζc]at h1;obtain⟨Fx,hp,rfl,rfl⟩:=h1;exact⟨v,hp,.inl ⟨hw,S⟩⟩
   .simp at h1
  .rename_i hw;simp only[ζf,ζc]at h1;obtain⟨Fx,hp,rfl,rfl⟩:=h1;exact⟨_,hp,.inr ⟨by simpa using hw,rfl,rfl⟩⟩
 have af:∃v,jW n F1 D.dst v=some F2/\((fP ops F1 D=true/\c8 E call ops (some (base,i)) F1 H1 D.op=some (v,H2))\/(fP ops F1 D=false/\v=.undef/\H2=H1)):=by
  unfold gu at h2;split at h2
  .rename_i hw;split at h2
   .rename_i v H' S;simp only[ζf,ζc]at h2;obtain⟨Fx,hp,rfl,rfl⟩:=h2;exact⟨v,hp,.inl ⟨hw,S⟩⟩
   .simp at h2
  .rename_i hw;simp only[ζf,ζc]at h2;obtain⟨Fx,hp,rfl,rfl⟩:=h2;exact⟨_,hp,.inr ⟨by simpa using hw,rfl,rfl⟩⟩
 obtain⟨v,U,Eo⟩:=ae;obtain⟨u,aw,ah⟩:=af;have ax:fP ops F1 D=fP ops F D:=AN U λd S=>(a1 d S).1
 have ao:oq F1 F D.op:=DN U λd S=>(a1 d S).1
 have ay:∀(b j:Nat),(some (base,i):Option (Nat×Nat))=some (b,j)->qZ ops j F1=qZ ops j F/\nJ ops j F1 D.op=nJ ops j F D.op:=λb j e=>by cases e;exact⟨Ep hk hi U,DF hk U ao⟩
 rw[ax,BZ ao ay]at ah;obtain⟨G,Q,ap⟩:=ME U aw λx hx=>(a1 x hx).2
 have aA:fP ops G ok=fP ops F ok:=AN Q λd S=>a2 d S
 have aq:oq G F ok.op:=DN Q λd S=>a2 d S
 have aB:∀(b j:Nat),(some (base,k):Option (Nat×Nat))=some (b,j)->qZ ops j G=qZ ops j F/\nJ ops j G ok.op=nJ ops j F ok.op:=λb j e=>by cases e;exact⟨Ep hi hk Q,DF hi Q aq⟩
 have fin:∀B,((fP ops F D=true/\c8 E call ops (some (base,i)) F H D.op=some (u,B))\/(fP ops F D=false/\u=.undef/\B=H)) ->
  ((fP ops F ok=true/\c8 E call ops (some (base,k)) F B ok.op=some (v,H2))\/(fP ops F ok=false/\v=.undef/\H2=B)) ->
  ∃G B,gu E call n ops (some (base,i)) D F H=some (G,B)/\gu E call n ops (some (base,k)) ok G B=some (F2,H2):=by
  intro B e1 e2;refine⟨G,B,?_,?_⟩
  .unfold gu;rcases e1 with⟨x1,x2⟩|⟨x1,x2,x3⟩
   .rw[if_pos x1,x2];simp[Q]
   .rw[if_neg (by simp[x1])];subst x2;subst x3;simp[Q]
  .unfold gu;rw[aA];rcases e2 with⟨x1,x2⟩|⟨x1,x2,x3⟩
   .rw[if_pos x1,BZ aq aB,x2];simp[ap]
   .rw[if_neg (by simp[x1])];subst x2;subst x3;simp[ap]
 rcases Eo with⟨z,A⟩|⟨z,rfl,rfl⟩
 .rcases ah with⟨w,t⟩|⟨w,rfl,rfl⟩
  .by_cases pk:cV ok.op=.pure\/cV ok.op=.alloc/\qN ops (some (base,k))=true
   .obtain⟨rfl,q⟩:=Cs pk A;exact fin H2 (.inl ⟨w,t⟩) (.inl ⟨z,q H2⟩)
   .by_cases pi:cV D.op=.pure\/cV D.op=.alloc/\qN ops (some (base,i))=true
    .obtain⟨rfl,q⟩:=Cs pi t;exact fin H (.inl ⟨w,q H⟩) (.inl ⟨z,A⟩)
    .by_cases J:isApp ok.op=true/\cV D.op=.alloc
     .
      obtain⟨J,ai⟩:=J;have aC:=yX J;have aj:(dD ops k=true\/we ops k=true/\o7 F ok.op=true/\base<=H.length)/\cO E F H ok.op=some (v,H1):=by
       cases hl:dD ops k with
       | true=>
        refine⟨.inl rfl,?_⟩;unfold c8 at A;rw[aC]at A;simpa only[hl,Bool.true_or,if_true]using A
       | false=>
        obtain⟨a,b,c,d⟩:=C0 J hl (by rw[hk];rfl) A
        exact⟨.inr ⟨a,b,c⟩,d⟩
      obtain⟨aj,e1⟩:=aj;have ar:qN ops (some (base,i))=false:=by
       cases hc:qN ops (some (base,i))with
       | false=>rfl
       | true=>exact absurd (.inr ⟨ai,hc⟩) pi
      have e2:∃ob m,eN E F D.op=some (ob,m)/\H1[base+i]? = some .free/\u=m.val (base+i)/\H2=H1.set (base+i) ob:=by
       unfold c8 at t;rw[ai]at t;simp only[ar,Bool.false_eq_true,if_false]at t;split at t
       .rename_i ak;cases ak
       .rename_i ob m b' i' al ak;cases ak;split at t
        .rename_i C;simp only[ζa,ζc]at t;exact⟨ob,m,al,C,t.1.symm,t.2.symm⟩
        .cases t
       .cases t
      obtain⟨ob,m,al,C,rfl,rfl⟩:=e2;obtain⟨f0,f1⟩:=QJ (ob:=ob) J e1 C;refine fin (H.set (base+i) ob) (.inl ⟨w,?_⟩) (.inl ⟨z,?_⟩)
      .unfold c8;rw[ai];simp only[ar,Bool.false_eq_true,if_false,al,f0]
      .exact LD J f1 (aj.imp id λ⟨a,b,c⟩=>⟨a,b,by rw[List.length_set];exact c⟩)
     have lk:dD ops k=false:=by
      cases hl:dD ops k with
      | false=>rfl
      | true=>
       rcases wZ hl hk hi (by omega)with h|h|h
       .exact absurd (.inl h) pi
       .rw[if_neg (by omega)]at h;rw[O]at h;cases h
       .exact absurd ⟨h.1,h.2.1⟩ J
     have li:dD ops i=false:=by
      cases hl:dD ops i with
      | false=>rfl
      | true=>
       rcases wZ hl hi hk (by omega)with h|h|h
       .exact absurd (.inl h) pk
       .rw[if_pos ad]at h;rw[O]at h;cases h
       .exact absurd h.2.2 (by omega)
     by_cases am:isApp D.op=true
     .obtain⟨g1,g2,g3,g4⟩:=C0 am li (by rw[hi];rfl) t
      rcases BK g1 hk (by omega) (by unfold vr;rw[if_pos ad];exact O)with h|h|⟨h,h2⟩
      .exact absurd (.inl h) pk
      .obtain⟨rfl,q⟩:=CM h lk A;exact fin H2 (.inl ⟨w,t⟩) (.inl ⟨z,q H2 (mK.of_eq (Hg am g2 g3 g4))⟩)
      .rcases h2 with h2|h2
       .exact absurd (.inr ⟨h,h2⟩) pk
       .omega
     by_cases Z:isApp ok.op=true
     .obtain⟨g1,g2,g3,g4⟩:=C0 Z lk (by rw[hk];rfl) A
      rcases BK g1 hi (by omega) (by unfold vr;rw[if_neg (by omega)];exact O)with h|h|⟨h,h2⟩
      .exact absurd (.inl h) pi
      .obtain⟨rfl,q⟩:=CM h li t;exact fin H (.inl ⟨w,q H (mK.of_eq (Hg Z g2 g3 g4).symm)⟩) (.inl ⟨z,A⟩)
      .exact absurd ⟨Z,h⟩ J
     by_cases I:cV D.op=.loud
     .obtain⟨rfl,id,q1,⟨r,hr⟩,q3,q4,q5⟩:=G3 (H2:=H2) hk hi (by omega) (by rw[if_pos ad];exact O) lk (λh=>pk (.inl h)) I li (by simpa using am) t A
      refine fin H2 (.inl ⟨w,t⟩) (.inl ⟨z,?_⟩);unfold c8;rw[q3];subst hr;simp only[q1,q4,q5,if_true]
     by_cases ab:cV ok.op=.loud
     .obtain⟨rfl,id,q1,⟨r,hr⟩,q3,q4,q5⟩:=G3 (H2:=H2) hi hk (by omega) (by rw[if_neg (by omega)];exact O) li (λh=>pi (.inl h)) ab lk (by simpa using Z) A t
      refine fin H (.inl ⟨w,?_⟩) (.inl ⟨z,A⟩);unfold c8;rw[q3];subst hr;rw[q1]at q4;simp only[q4,q5,if_true]
     have tk:∀(X:bl) (k:Nat) (o:Ob),mK ((X.set (base+k) o).take base) (X.take base):=λX k o=>mK.of_eq (take_set_of_le (by omega))
     rcases tL A lk ab with⟨rfl,qk⟩|⟨ob,fk,rfl,qk⟩|⟨T,tr,rfl,qk⟩
     .rcases tL t li I with⟨rfl,L⟩|⟨aa,fi,rfl,L⟩|⟨T2,W,rfl,L⟩
      .exact fin H2 (.inl ⟨w,t⟩) (.inl ⟨z,A⟩)
      .exact fin _ (.inl ⟨w,t⟩) (.inl ⟨z,qk _ (tk _ _ _)⟩)
      .exact fin _ (.inl ⟨w,t⟩) (.inl ⟨z,qk _ ((qw W).take base)⟩)
     .rcases tL t li I with⟨rfl,L⟩|⟨aa,fi,rfl,L⟩|⟨T2,W,rfl,L⟩
      .refine fin H (.inl ⟨w,L H (tk _ _ _).symm⟩) (.inl ⟨z,A⟩)
      .have an:H[base+i]? = some .free:=by rw[List.getElem?_set_ne (by omega)]at fi;exact fi
       refine fin (H.set (base+i) aa) (.inl ⟨w,L H an⟩) (.inl ⟨z,?_⟩);rw[qk _ (by rw[List.getElem?_set_ne (by omega)];exact fk)]
       rw[List.set_comm _ _ (by omega)]
      .have Y:iS (H.take base) T2=true:=by rw[<-uJ (tk H k ob)];exact W
       have au:base+k∉T2:=λhm=>absurd (zb Y hm) (by omega)
       refine fin (cu H T2) (.inl ⟨w,L H (tk _ _ _).symm⟩) (.inl ⟨z,?_⟩);rw[qk _ (by rw[iO,fk];simp[au]),BP au]
     .rcases tL t li I with⟨rfl,L⟩|⟨aa,fi,rfl,L⟩|⟨T2,W,rfl,L⟩
      .refine fin H (.inl ⟨w,L H ((qw tr).take base).symm⟩) (.inl ⟨z,A⟩)
      .have av:base+i∉T:=λhm=>absurd (zb tr hm) (by omega)
       have an:H[base+i]? = some .free:=by
        rw[iO]at fi;obtain⟨o,ho,hf⟩:=ζf.1 fi;rw[if_neg av]at hf;rw[ho,hf]
       refine fin (H.set (base+i) aa) (.inl ⟨w,L H an⟩) (.inl ⟨z,?_⟩);rw[qk _ (tk _ _ _),BP av]
      .have Y:iS (H.take base) T2=true:=by rw[<-uJ ((qw tr).take base)];exact W
       refine fin (cu H T2) (.inl ⟨w,L H ((qw tr).take base).symm⟩) (.inl ⟨z,?_⟩);rw[qk _ ((qw Y).take base),HK]
  .exact fin H (.inr ⟨w,rfl,rfl⟩) (.inl ⟨z,A⟩)
 .rcases ah with⟨w,t⟩|⟨w,rfl,rfl⟩
  .exact fin H2 (.inl ⟨w,t⟩) (.inr ⟨z,rfl,rfl⟩)
  .exact fin _ (.inr ⟨w,rfl,rfl⟩) (.inr ⟨z,rfl,rfl⟩)
theorem HL (h:vT ops=true) {k i:Nat} {ok B:Oper} (hk:ops[k]? = some ok) (G:ops[i]? = some B) (D:k<i):C4 B k=true\/xA ops ok B=true:=by
 unfold vT at h;simp  at h
 grind
theorem M6 (G:vT ops=true) {i:Nat} {D:Oper} (B:ops[i]? = some D):∀(l r:List Nat),(∀k∈l,k<i/\C4 D k=false/\before ops i k=false)->∀{F F':Frame} {H H':bl},
 jQ E call n ops base (l++i::r) F H=some (F',H')->jQ E call n ops base (i::(l++r)) F H=some (F',H'):=by
 intro l
 induction l with
 | nil=>grind
 | cons k l z=>
  intro r w F F' H H' h;obtain⟨q,A,t⟩:=w k (by simp)
  simp[jQ]at h;split at h
  .rename_i ok hk;split at h
   .rename_i F1 H1 h1;have:=z r (λx C=>w x (List.mem_cons_of_mem _ C)) h
    simp[jQ,B]at this;split at this
    .rename_i O H2 I;have u:xA ops ok D=true:=by
      rcases HL G hk B q with h|h
      .grind
      omega
     obtain⟨J,L,g1,g2⟩:=swap hk B q t u h1 I;simp[jQ,B,g1,hk,g2];simp_all
    grind
   grind
  grind
inductive Reach (ops:List Oper):Nat->Nat->Prop
 | one (i k:Nat) (o:Oper) (e:Edge) (hi:ops[i]? = some o) (he:e∈o.after) (hb:k8 e=true) (hk:e.on=k):Reach ops i k
 | more (i j k:Nat) (o:Oper) (e:Edge) (hi:ops[i]? = some o) (he:e∈o.after) (hb:k8 e=true) (hk:e.on=j) (h:Reach ops j k):Reach ops i k
theorem Cc:∀(B l:List Nat) (k:Nat),k∈B.foldl (λl k=>if l.contains k then l else k::l) l->k∈B\/k∈l
 | [],_,_,h=>.inr h
 | x::B,l,k,h=>by
  rcases Cc B _ k h with h|h
  .grind
  grind
theorem JC {acc:List (List Nat)} {o:Oper} {k:Nat} (h:k∈Fh acc o):∃e∈o.after,k8 e=true/\(k=e.on\/∃S,acc[e.on]? = some S/\k∈S):=by
 have key:∀(es:List Edge) (l:List Nat),k∈es.foldl (λl e=>(e.on::(acc[e.on]?).getD []).foldl (λl k=>if l.contains k then l else k::l) l) l->k∈l\/∃e∈es,k=e.on\/∃S,acc[e.on]? = some S/\k∈S:=by
  intro es
  induction es with
  | nil=>grind
  | cons e es t=>
   intro l h;rcases t _ h with h|⟨u,h1,q⟩
   .rcases Cc _ _ _ h with h|h
    .refine .inr ⟨e,by simp,?_⟩
     rcases List.mem_cons.1 h with h|h
     .grind
     .cases w:acc[e.on]? with
      | none=>rw[w]at h;simp at h
      | some S=>grind
    grind
   .exact .inr ⟨u,List.mem_cons_of_mem _ h1,q⟩
 rcases key _ _ h with h|⟨e,h1,q⟩
 .simp at h
 grind
theorem xK (ops:List Oper):∀(l:List Oper) (acc:List (List Nat)) (pre:List Oper),ops=pre++l->acc.length=pre.length->(∀(i:Nat) S,acc[i]? = some S->∀k∈S,Reach ops i k) ->
 ∀(i:Nat) S,(l.foldl (λacc o=>acc++[Fh acc o]) acc)[i]? = some S->∀k∈S,Reach ops i k
 | [],_,_,_,_,h=>h
 | o::l,acc,pre,G,J,h=>by
  refine xK ops l _ (pre++[o]) (by simp_all) (by simp_all) ?_
  intro i S B k hk
  by_cases O:i<acc.length
  .grind
  .rw[List.getElem?_append_right (by omega)]at B
   have D:i=acc.length:=by
    grind
   subst D;simp at B;subst B;have q:ops[acc.length]? = some o:=by grind
   obtain⟨e,t,u,hk⟩:=JC hk;rcases hk with hk|⟨S,B,hk⟩
   .exact .one _ _ o e q t u hk.symm
   .exact .more _ e.on _ o e q t u rfl (h _ S B k hk)
theorem Fv {i k:Nat} (h:before ops i k=true):Reach ops i k:=by
 unfold before at h
 cases q:(Gu ops)[i]? with
 | none=>grind
 | some S=>
  exact xK ops ops [] [] rfl rfl (by simp) i S q k (by grind)
end
end Go.VE
namespace Go.VE
variable [bX]
section
variable {P:Program} {E:Env} {I I':b_} {μ μ':Mu} {H H':bl} {n B:Nat} {F F':Frame} {a:Act} {w w':World}
theorem DH (e:Edge):Region.binds .any e=k8 e:=by
 unfold Region.binds k8
 grind
def todo (ops:Array Oper) (B:Array Bool):List Nat:=(List.range ops.size).filter λi => !B.getD i true
theorem wM (ops:Array Oper) (B:Array Bool):(todo ops B).Pairwise (·<·):=List.pairwise_lt_range.filter _
theorem Np {ops:Array Oper} {B:Array Bool} {i:Nat} (G:B.size=ops.size) (J:i<ops.size) {l1 D:List Nat} (h:todo ops B=l1++i::D) :
 todo ops (B.setIfInBounds i true)=l1++D:=by
 have z:∀j∈List.range ops.size,(!(B.setIfInBounds i true).getD j true)=((!B.getD j true)&&(j != i)):=by
  intro j _
  by_cases e:j=i
  .simp_all
  .have:(B.setIfInBounds i true).getD j true=B.getD j true:=by simp[Array.getElem?_setIfInBounds_ne (Ne.symm e)]
   grind
 have:todo ops (B.setIfInBounds i true)=(todo ops B).filter (· != i):=by
  unfold todo;rw[List.filter_filter]
  grind
 rw[this,h];have q:=wM ops B;rw[h]at q;rw[List.pairwise_append]at q;obtain⟨_,u,w⟩:=q;rw[List.pairwise_cons]at u;rw[List.filter_append,List.filter_cons];simp;rw[List.filter_eq_self.2 (λx t=>by have:=w x t i (by simp);simp;omega),List.filter_eq_self.2 (λx t=>by grind)]
def Down (ops:Array Oper) (B:Array Bool):Prop:=∀j o,B.getD j false=true->ops[j]? = some o->∀e∈o.after,k8 e=true->B.getD e.on false=true
theorem JS {ops:Array Oper} {B:Array Bool} (D:Down ops B) {i k:Nat} (h:Reach ops.toList i k) (G:∀o,ops[i]? = some o->∀e∈o.after,k8 e=true->B.getD e.on false=true):B.getD k false=true:=by
 induction h with
 | one i k o e w t u hk=>grind
 | more i j k o e w t u hk _ z=>
  subst hk;exact z λA q=>D _ _ (G o (by grind) e t u) q
theorem DY (hE:eH P E) {call:dn} (hc:kG P call) {ops:Array Oper} (hd:vT ops.toList=true) (hb:zD ops.toList=true) (ro:Option Nat) {Q:Exit->Act->World->Prop} (base:Nat) :
 ∀(B:Nat) (listed:Array Bool) (I:b_) (μ:Mu) (F:Frame) (H:bl) (a:Act) (w:World),listed.size=ops.size->Down ops listed->(todo ops listed).length=B ->
 jQ E call n ops.toList base (todo ops listed) F H=some (F',H')->ei I μ n F a.tmps->cM I μ H w ->
 (∀a' I' μ' w',ei I' μ' n F' a'.tmps->a'.defers=a.defers->cM I' μ' H' w'->Step I μ H w I' μ' H' w'->Q .normal a' w') ->
 wpAnyIn (fr ro) 0 P .any ops Q B listed a w:=by
 intro B
 induction B with
 | zero=>
  intro listed I μ F H a w G D hl h r s hQ;have J:todo ops listed=[]:=List.eq_nil_of_length_eq_zero hl;rw[J]at h;obtain⟨rfl,rfl⟩:=h;refine⟨?_,hQ a I μ w r rfl s (.refl _ _ _ _)⟩;unfold Region.ready;rw[List.filter_eq_nil_iff];intro i hi;have:i∉todo ops listed:=by grind
  unfold todo at this
  grind
 | succ B ih=>
  intro listed I μ F H a w G D hl h r s hQ;have S:∀i,i∈Region.ready .any ops listed->i<ops.size/\i∈todo ops listed/\∃o,ops[i]? = some o/\∀e∈o.after,k8 e=true->listed.getD e.on false=true:=by
   intro i hi;unfold Region.ready at hi;rw[List.mem_filter]at hi;obtain⟨h1,h2⟩:=hi;simp only[ζh]at h2;have A:i<ops.size:=by grind
   refine⟨A,by unfold todo;grind,ops[i],by simp_all,?_⟩
   have h5:(ops[i].after.all λe => !Region.binds .any e||listed.getD e.on false)=true:=by
    grind
   rw[Array.all_eq_true_iff_forall_mem]at h5;intro e O T;have:=h5 e O;rw[DH,T]at this
   grind
  refine⟨?_,?_⟩
  .
   intro J
   cases U:todo ops listed with
   | nil=>rw[U]at hl;simp at hl
   | cons W rest=>
    have t:W∈todo ops listed:=by rw[U];simp
    have hs:=wM ops listed;rw[U,List.pairwise_cons]at hs;unfold todo at t;rw[List.mem_filter]at t;have A:W<ops.size:=by simpa using t.1
    have:W∈Region.ready .any ops listed:=by
     unfold Region.ready;rw[List.mem_filter];refine⟨t.1,?_⟩;simp only[ζh];refine⟨t.2,?_⟩;have e0:ops[W]? = some ops[W]:=by simp[A]
     rw[e0];simp only[Option.map_some,Option.getD_some];rw[Array.all_eq_true_iff_forall_mem];intro e O;rw[DH]
     cases aj:k8 e with
     | false=>simp
     | true=>
      simp only[Bool.not_true];have ak:e.on<W:=by
       unfold zD at hb;simp only[List.all_eq_true]at hb;have:=hb W (by simpa using A)
       have e1:ops.toList[W]? = some ops[W]:=by simp[A]
       rw[e1]at this;simp only[Array.all_eq_true_iff_forall_mem]at this;have:=this e O;rw[aj]at this;simpa using this
      cases al:listed.getD e.on false with
      | true=>rfl
      | false=>
       exfalso;have ae:e.on∈todo ops listed:=by
        unfold todo;rw[List.mem_filter];refine⟨by simp;omega,?_⟩
        have af:e.on<listed.size:=by omega
        have:listed.getD e.on true=listed.getD e.on false:=by simp[af]
        rw[this,al];rfl
       rw[U]at ae;rcases List.mem_cons.1 ae with h|h
       .omega
       .have:=hs.1 _ h;omega
    rw[J]at this;simp at this
  .intro i hi;obtain⟨A,t,o,ho,z⟩:=S i hi;obtain⟨l1,l2,q⟩:=List.append_of_mem t;have C:=wM ops listed;rw[q,List.pairwise_append]at C;have X:∀k∈l1,k<i/\C4 o k=false/\before ops.toList i k=false:=by
    intro k hk;have am:listed.getD k false=false:=by
     have u:k∈todo ops listed:=by rw[q];simp[hk]
     unfold todo at u;rw[List.mem_filter]at u;have aa:k<listed.size:=by rw[G];simpa using u.1
     have:listed.getD k true=listed.getD k false:=by simp[aa]
     rw[this]at u;simpa using u.2
    refine⟨C.2.2 k hk i (by simp),?_,?_⟩
    rotate_left
    .cases an:before ops.toList i k with
     | false=>rfl
     | true=>
      have:=JS D (Fv an) (λo' Y=>by rw[ho]at Y;cases Y;exact z)
      rw[am]at this;cases this
    cases O:C4 o k with
    | false=>rfl
    | true=>
     exfalso;unfold C4 at O;rw[Array.any_eq_true]at O;obtain⟨ix,ao,Z⟩:=O;have ah:o.after[ix]∈o.after:=Array.getElem_mem ao;generalize o.after[ix]=e at ah Z;simp only[ζh,beq_iff_eq]at Z;have h1:=z e ah Z.2;rw[Z.1]at h1;have u:k∈todo ops listed:=by rw[q];simp[hk]
     unfold todo at u;rw[List.mem_filter]at u;have aa:k<listed.size:=by rw[G];simpa using u.1
     have:listed.getD k true=listed.getD k false:=by simp[aa]
     rw[this,h1]at u;simp at u
   rw[q]at h;have h':=M6 hd (by simpa using ho) l1 l2 X h
   simp only[jQ]at h';have Y:ops.toList[i]? = some o:=by simpa using ho
   rw[Y]at h';simp only at h';split at h'
   .rename_i F1 H1 ab;unfold wpOpIn;rw[ho];simp only;refine B8 hE hc ab r s ro (λa' I' μ' w' hr ap hs aq=>?_)
    have ht:=Np G A q;refine ih (listed.setIfInBounds i true) I' μ' F1 H1 a' w' (by simpa using G) ?_ ?_ (by rw[ht];exact h') hr hs ?_
    .have L:∀j,listed.getD j false=true->(listed.setIfInBounds i true).getD j false=true:=by
      intro j hj
      by_cases e:i=j
      .subst e;simp[G,A]
      .simpa [Array.getD_eq_getD_getElem?,Array.getElem?_setIfInBounds_ne e]using hj
     intro j oj hj ad e O T
     by_cases e':i=j
     .subst e';rw[ho]at ad;cases ad;exact L _ (z e O T)
     .refine L _ (D j oj ?_ ad e O T);simpa [Array.getD_eq_getD_getElem?,Array.getElem?_setIfInBounds_ne e']using hj
    .rw[ht];rw[q]at hl;simp at hl ⊢;omega
    .intro a2 I2 μ2 w2 ar au av ai;exact hQ a2 I2 μ2 w2 ar (au.trans ap) av (Step.trans hs aq ai)
   .simp at h'
theorem cM.E0 (s:cM I μ H w) (k:Nat):cM I μ (H++List.replicate k .free) w:=by
 have q:∀id ob,(H++List.replicate k Ob.free)[id]? = some ob->H[id]? = some ob\/(ob=.free/\H.length<=id):=by
  grind
 refine⟨λid h=>s.dom id (by grind),s.imm,?_,?_,s.gl⟩
 .intro id ob h;rcases q id ob h with h|⟨rfl,t⟩
  .exact s.obs id ob h
  .exact s.dom id t
 .intro id u ob z p C h1 t A B;rcases q id ob h1 with h1|⟨rfl,_⟩
  .rcases q u z t with t|⟨rfl,_⟩
   .exact s.inj id u ob z p C h1 t A B
   .simp[Ob.live]at B
  .simp[Ob.live]at A
theorem HS (k:Nat) (b:Nat):iq μ (H++List.replicate k .free) b↔iq μ H b:=by
 constructor
 .rintro⟨id,p,ob,h1,q,t,u⟩
  by_cases w:id<H.length
  .rw[List.getElem?_append_left w]at h1;exact⟨id,p,ob,h1,q,t,u⟩
  .rw[List.getElem?_append_right (by omega),List.getElem?_replicate]at h1
   split at h1
   .simp at h1;subst h1;simp[Ob.live]at q
   grind
 .rintro⟨id,p,ob,h1,q,t,u⟩;exact⟨id,p,ob,by grind,q,t,u⟩
theorem Step.E0 (k:Nat):Step I μ H w I μ (H++List.replicate k .free) w:=
 ⟨b_.le_refl _,Mu.le_refl _,by simp,Nat.le_refl _,λ_ _ _=>rfl,λb h=>h.elim .inl λh=>.inr (.inl ((HS k b).1 h)),rfl,.refl _,λ_ _ h=>h⟩
theorem FM (D:eH P E) (O:P.follows .mixedOrders=true) {call:dn} (hc:kG P call) {id:Nat} {ops:Array Oper} {B:Bool} (ro:Option Nat) {Q:Exit->Act->World->Prop}
 (h:jt E call n ops.toList B F H=some (F',H')) (r:ei I μ n F a.tmps) (s:cM I μ H w)
 (G:∀a' I' μ' w',ei I' μ' n F' a'.tmps->a'.defers=a.defers->cM I' μ' H' w'->Step I μ H w I' μ' H' w'->Q .normal a' w') :
 (Code.region id ops B).wpIn (fr ro) 0 P Q a w:=by
 unfold jt at h
 cases B with
 | false=>
  refine wpIn_region ?_;rw[List.range_eq_range',<-Array.length_toList];exact Mg D hc ro ops.toList 0 I μ F H a w (by simp) h r s G
 | true=>
  simp only[if_true]at h;split at h
  .rename_i q;simp  at q;refine wpIn_region_draw λt=>?_
   simp[Region.schedule,O];have s0:cM I μ H { w with drawn:=w.drawn+1 }:=s.oG rfl;have st0:Step I μ H w I μ H { w with drawn:=w.drawn+1 }:=Step.oG rfl rfl ⟨rfl,rfl,Nat.le_succ _⟩;have u:todo ops (Array.replicate ops.size false)=List.range ops.toList.length:=by
    unfold todo;simp_all
   have z:Down ops (Array.replicate ops.size false):=by
    intro j o L;simp[Array.getElem?_replicate]at L
    grind
   refine wpAnyIn_sound ops.size t _ a _ ?_;split at h
   .refine DY D hc q.1 q.2 ro H.length ops.size _ I μ F (H++List.replicate ops.toList.length .free) a _ (by simp) z (by grind) (by rw[u];omega) r (s0.E0 _) ?_
    intro a' I' μ' w' h1 A C J;exact G a' I' μ' w' h1 A C (Step.trans s0 st0 (Step.trans (s0.E0 _) (Step.E0 _) J))
   .refine DY D hc q.1 q.2 ro H.length ops.size _ I μ F H a _ (by simp) z (by grind) (by rw[u];omega) r s0 ?_
    intro a' I' μ' w' h1 A C J;exact G a' I' μ' w' h1 A C (Step.trans s0 st0 J)
  grind
end
end Go.VE
namespace Go.VE
variable [bX]
def Out.FZ:Out->Exit
 | .norm=>.normal
 | .exit id=>.exit id
 | .ret=>.ret
theorem exists_least (p:Nat->Prop):∀k,p k->∃m,p m/\∀j,p j->m<=j:=by
 intro k
 induction k using Nat.strongRecOn with
 | _ k u=>
  intro hk
  by_cases h:∃j,j<k/\p j
  .obtain⟨j,w,q⟩:=h;exact u j w q
  .exact⟨k,hk,λj q=>Nat.le_of_not_lt λt=>h ⟨j,t,q⟩⟩
open Classical in
noncomputable def least (p:Nat->Prop):Nat:=if h:∃m,p m/\∀j,p j->m<=j then h.choose else 0
theorem Jk (p:Nat->Prop) {k:Nat} (hk:p k):p (least p)/\least p<=k:=by
 have h:=exists_least p k hk;unfold least;rw[dif_pos h];exact⟨h.choose_spec.1,h.choose_spec.2 k hk⟩
section
variable {P:Program} {E:Env} {I I':b_} {μ μ':Mu} {H H':bl} {n B:Nat} {F F':Frame} {a:Act} {w w':World}
def Post (B n:Nat) (I:b_) (μ:Mu) (H:bl) (w:World) (o:Out) (F':Frame) (H':bl):Exit->Act->World->Prop:=
 λe q w'=>e=o.FZ/\(∃I' μ',ei I' μ' n F' q.tmps/\cM I' μ' H' w'/\Step I μ H w I' μ' H' w')/\jw B q.defers w'
theorem Post.mono {I1:b_} {D:Mu} {H1:bl} {G:World} {o:Out} (s1:cM I1 D H1 G) (st:Step I μ H w I1 D H1 G) {e:Exit} {a':Act} {w':World} (h:Post B n I1 D H1 G o F' H' e a' w') :
 Post B n I μ H w o F' H' e a' w':=by
 obtain⟨h1,⟨I',μ',q,t,u⟩,z⟩:=h;exact⟨h1,⟨I',μ',q,t,Step.trans s1 st u⟩,z⟩
theorem cM.Ap (s:cM I μ H w) {b:Nat} (o:Obj) (B:I b=none) (D:¬iq μ H b):cM I μ H (fF w b o) where
 dom:=s.dom
 imm:=λt x h=>IC.rG (s.imm t x h) (eU o (by rintro rfl;rw[B]at h;cases h))
 obs:=λid ob h=>(s.obs id ob h).mono (b_.le_refl _) (Mu.le_refl _) (λp u z=>by
  have q:iq μ H p.b:=⟨id,p,ob,h,z,u,rfl⟩;exact⟨eU o (λe=>D (e▸q)),fZ s q⟩) (λA=>by subst A;exact s.obs id _ h)
 inj:=s.inj
 gl:=s.gl
theorem Q3 (s:cM I μ H w) {b:Nat} {o:Obj} (h:w.heap[b]? = some o) (h1:∀c e f,o≠.cells c e f) (B:∀es c,o≠.map es c):I b=none:=by
 cases t:I b with
 | none=>rfl
 | some x=>
  have:=s.imm b x t
  cases x with
  | cells c=>obtain⟨_,_,q⟩:=this;rw[h]at q;cases q;exact absurd rfl (h1 _ _ _)
  | map es=>obtain⟨_,q⟩:=this;rw[h]at q;cases q;exact absurd rfl (B _ _)
theorem Step.kept (hk:∀b,b<w.heap.size->w'.heap[b]? = w.heap[b]?) (B:w.heap.size<=w'.heap.size) (h1:w'.os=w.os) (D:uX w w') (G:∀a:Addr,a.block<w.heap.size->w.frozen? a=false->w'.frozen? a=false):Step I μ H w I μ H w':=
 ⟨b_.le_refl _,Mu.le_refl _,Nat.le_refl _,B,λb q _=>hk b q,λ_ h=>h.elim .inl λh=>.inr (.inl h),h1,D,G⟩
theorem Step.after (st:Step I μ H w I' μ' H' w') {b:Nat} (o:Obj) (B:w.heap.size<=b) (D:Obj.nf o:=by first|exact tI _ _|exact qV rfl):Step I μ H w I' μ' H' (fF w' b o):=
 ⟨st.le,st.mu,st.len,by rw[rQ];exact st.size,λt q u=>by rw[eU o (by omega)];exact st.frame t q u,st.terr,st.os,⟨st.out.out,st.out.tape,st.out.dr⟩,λa B z=>TI D a (st.fz a B z)⟩
theorem jw.Ap {ds:List Deferred} (h:jw B ds w) {b:Nat} {o:Obj} (D:∀r,w.heap[r]? = some (.deferred (some []))->r≠b):jw B ds (fF w b o):=
 ⟨λd t=>by
  obtain⟨r,h1,u,q⟩:=h.all d t;exact⟨r,h1,u,by rw[eU o (D r q)];exact q⟩,h.apart⟩
theorem I6 {step:Frame->bl->Option (Out×Frame×bl)} {c:Code} {ro:Option Nat} {o:Out}
 (D:∀I μ F H a w o F' H',step F H=some (o,F',H')->ei I μ n F a.tmps->cM I μ H w->jw B a.defers w->B<=w.heap.size->c.wpIn (fr ro) 0 P (Post B n I μ H w o F' H') a w)
 {k:Nat} (h:ku step k F H=some (o,F',H')) (r:ei I μ n F a.tmps) (s:cM I μ H w) (m:jw B a.defers w) (hB:B<=w.heap.size) :
 (Code.loop c).wpIn (fr ro) 0 P (Post B n I μ H w o F' H') a w:=by
 let Inv:Nat->Act->World->Prop:=λk q w'=>∃I1 A F1 H1,ku step k F1 H1=some (o,F',H')/\ei I1 A n F1 q.tmps/\cM I1 A H1 w'/\Step I μ H w I1 A H1 w'/\jw B q.defers w'/\B<=w'.heap.size
 let M:Act->World->Nat:=λq w'=>least (λk=>Inv k q w')
 have X:∀k q w',Inv k q w'->Inv (M q w') q w'/\M q w'<=k:=λk q w' L=>Jk (λk=>Inv k q w') L
 refine wpIn_loop (λq w'=>∃k,Inv k q w') M ⟨k,I,μ,F,H,h,r,s,.refl _ _ _ _,m,hB⟩ ?_
 rintro O Q ⟨k1,S⟩;obtain⟨L,_⟩:=X k1 O Q S;generalize hk:M O Q=kk at L;obtain⟨I1,A,F1,H1,C,r1,s1,u,Y,z⟩:=L
 cases kk with
 | zero=>simp[ku]at C
 | succ kk=>
  simp only[ku]at C;split at C
  .rename_i Z H2 T;refine wpIn_mono (D I1 A F1 H1 O Q .norm Z H2 T r1 s1 Y z) ?_;rintro e G J ⟨rfl,⟨I2,μ2,r2,s2,st2⟩,m2⟩;show (∃k,Inv k G J)/\M G J<kk+1;have t:Inv kk G J:=⟨I2,μ2,Z,H2,C,r2,s2,Step.trans s1 u st2,m2,Nat.le_trans z st2.size⟩;exact⟨⟨kk,t⟩,Nat.lt_succ_of_le (X kk G J t).2⟩
  .rename_i U;refine wpIn_mono (D I1 A F1 H1 O Q o F' H' C r1 s1 Y z) ?_;intro e G J hp;have W:o≠.norm:=by
    rintro rfl;exact U F' H' C
   obtain⟨rfl,h2,h3⟩:=hp
   cases o with
   | norm=>exact absurd rfl W
   | exit id=>exact Post.mono s1 u ⟨rfl,h2,h3⟩
   | ret=>exact Post.mono s1 u ⟨rfl,h2,h3⟩
end
end Go.VE
