/-
 The engine: operations of the loaded code on values without a heap; a run of it is a run of the program.
-/
import Derived.RangeFuncLeaves
import Derived.Sort.Defs
import Derived.Lib.BitFns
import Derived.Laws.Sem
import Derived.Laws.World
import Derived.Laws.Append
import Derived.Laws.BytesString
import Derived.OrdersIn
set_option linter.all false
namespace Go.VE
theorem ζa{α:Type _}(a b:α):(some a=some b)=(a=b):=Option.some.injEq a b
theorem ζb{α β:Type _}(a:α)(f:α->Option β):(some a).bind f=f a:=rfl
theorem ζc{α β:Type _}(a:α)(b:β)(c:α)(d:β):((a,b)=(c,d))=(a=c/\b=d):=Prod.mk.injEq a b c d
theorem ζd{α:Type _}{l:List α}{i:Nat}(h:i<l.length):l[i]?=some l[i]:=List.getElem?_eq_getElem h
theorem ζe{α:Type _}{l:List α}{i:Nat}{a:α}:l[i]?=some a↔∃h:i<l.length,l[i]=a:=List.getElem?_eq_some_iff
theorem ζf{α β:Type _}{b:β}{x:Option α}{f:α->β}:x.map f=some b↔∃a,x=some a/\f a=b:=Option.map_eq_some_iff
theorem ζg{α β:Type _}{b:β}{x:Option α}{f:α->Option β}:x.bind f=some b↔∃a,x=some a/\f a=some b:=Option.bind_eq_some_iff
theorem ζh(a b:Bool):((a&&b)=true)=(a=true/\b=true):=Bool.and_eq_true a b
theorem ζi{α:Type _}{a b:List α}:(a++b).length=a.length+b.length:=List.length_append
inductive V where
 | bool (b:Bool)
 | int (k:IntKind) (n:Int)
 | str (s:ByteArray)
 | dm
 | bE
 | fsl (es:Nat) (xs:List (List V))
 | hsl (id es off len:Nat)
 | gF
 | fptr (cs:List V)
 | hptr (id el off:Nat)
 | clo (f:FuncId) (first cap:List V)
 | yld (id:Nat)
 | fR
 | qJ
 | fmap (kvs:List (V×V))
 | hmap (id:Nat)
 | agg (cs:List V)
 | tup (vs:List V)
 deriving Inhabited
def V.undef:V:=.tup []
def V.one:V->Bool
 | .agg _|.tup _=>false
 | _=>true
def V.cells:V->List V
 | .agg cs=>cs
 | v=>[v]
mutual
def V.scalar:V->Bool
 | .bool _|.int ..|.str _|.gF|.fR|.qJ|.dm|.bE=>true
 | .agg cs=>V.cG cs
 | .tup cs=>V.cG cs
 | _=>false
def V.cG:List V->Bool
 | []=>true
 | v::r=>V.scalar v&&V.cG r
end
mutual
def V.closed:V->Bool
 | .hsl ..|.hptr ..|.yld ..|.hmap ..=>false
 | .clo _ a b=>V.j9 a&&V.j9 b
 | .agg cs=>V.j9 cs
 | .tup cs=>V.j9 cs
 | _=>true
def V.j9:List V->Bool
 | []=>true
 | v::r=>V.closed v&&V.j9 r
end
inductive TK where
 | bool|int (k:IntKind)|str|ptr (e:TypeId)|slice (e:TypeId)
 | struct (fs:List (Nat×TypeId))|array (n:Nat) (e:TypeId)|map (k e:TypeId)|other
 deriving Inhabited
structure TD where
 size:Nat
 bytes:Nat
 zero:List V
 kind:TK
 deriving Inhabited
def TD.agg (d:TD):Bool:=match d.kind with|.struct _|.array _ _=>true|_=>false
abbrev Frame:=List V
def get:Frame->Nat->V
 | [],_=>.undef
 | x::_,0=>x
 | _::r,i+1=>get r i
def set:Frame->Nat->V->Frame
 | [],0,v=>[v]
 | [],i+1,v=>.undef::set [] i v
 | _::r,0,v=>v::r
 | x::r,i+1,v=>x::set r i v
inductive AG where
 | ready|busy|done
inductive Out where
 | norm
 | exit (id:Nat)
 | ret
 deriving DecidableEq,Inhabited
structure uD where
 st:AG
 pend:Option Out
 frame:Frame
 nt:Nat
 params:List Nat
 assign:Code
 body:Code
inductive Ob where
 | free
 | dead
 | row (es:Nat) (xs:List (List V))
 | frz (es:Nat) (xs:List (List V))
 | map (kvs:List (V×V))
 | loop (r:uD)
def Ob.rows:Ob->Option (Nat×List (List V))
 | .row es xs|.frz es xs=>some (es,xs)
 | _=>none
abbrev bf:=List Ob
structure FI where
 ntmps:Nat
 results:List ResultVar
 body:Code
structure Env where
 tt:TypeId->Option TD
 ft:FuncId->Option FI
 keep:FuncId->Bool
 own:FuncId->Bool
 eqN:TypeId->Option Nat
 sort:FuncId->Bool
 known:FuncId->List V->Option V:=λ_ _=>none
def Env.kindOf (E:Env) (t:TypeId):Option TK:=(E.tt t).map TD.kind
def ofValue:Nat->Value->Option V
 | 0,_=>none
 | n+1,v=>
  match v with
  | .bool b=>some (.bool b)
  | .int k n=>some (.int k n)
  | .string s=>some (.str s)
  | .pointer none=>some .gF
  | .slice none 0 0=>some .bE
  | .map none=>some .fR
  | .nilFunc=>some .qJ
  | .agg cs=>(cs.toList.mapM (ofValue n)).map .agg
  | _=>none
class bN where
 gl:Nat->Option (List V)
 sc:∀g cs,gl g=some cs->∃(k:IntKind) (l:List Int),cs=l.map (V.int k)
variable [bN]
def ev (F:Frame):Operand->Option V
 | .tmp t=>some (get F t)
 | .const v=>ofValue 4 v
 | .func f=>some (.clo f [] [])
 | .global g=>(bN.gl g).map .fptr
def eP (F:Frame):List Operand->Option (List V)
 | []=>some []
 | x::r=>match ev F x,eP F r with
  | some v,some vs=>some (v::vs)
  | _,_=>none
def mk (agg:Bool) (cs:List V):Option V:=
 if agg then some (.agg cs)else match cs with|[v]=>some v|_=>none
def cut (cs:List V) (off n:Nat):Option (List V):=
 let r:=(cs.drop off).take n
 if r.length=n then some r else none
def gJ:List V->Option (List Int)
 | []=>some []
 | .int .i64 a::r=>(gJ r).map (a::·)
 | _=>none
def jY (az B:List V):Option Bool:=
 match gJ az,gJ B with
 | some a,some b=>if a.length=b.length then some (a==b)else none
 | _,_=>none
def oI (op:BinOp) (x y:Int):Option Bool:=
 match op with
 | .eql=>some (x==y)|.neq=>some (x != y)|.lss=>some (decide (x<y))|.leq=>some (decide (x<=y))
 | .gtr=>some (decide (x>y))|.geq=>some (decide (x>=y))|_=>none
def tB (k:TK) (x y:V):Option Bool:=
 match k,x,y with
 | .slice _,.bE,.bE=>some true
 | .slice _,.fsl ..,.bE=>some false
 | .slice _,.hsl ..,.bE=>some false
 | .ptr _,.gF,.gF=>some true
 | .ptr _,.fptr _,.gF=>some false
 | .ptr _,.hptr ..,.gF=>some false
 | .map ..,.fR,.fR=>some true
 | .map ..,.fmap _,.fR=>some false
 | .map ..,.hmap _,.fR=>some false
 | _,_,_=>none
def Gz (E:Env) (op:BinOp) (t:TypeId) (x y:V):Option V:=
 match x,y with
 | .int k a,.int u b=>
  match op with
  | .shl=>if b<0 then none else some (.int k (k.wrap (a*2 ^ (min b.toNat k.bits))))
  | .shr=>if b<0 then none else some (.int k (a.fdiv (2 ^ (min b.toNat k.bits))))
  | _=>if k=u then
   match op with
   | .add=>some (.int k (k.wrap (a+b)))
   | .sub=>some (.int k (k.wrap (a-b)))
   | .mul=>some (.int k (k.wrap (a*b)))
   | .quo=>if b=0 then none else some (.int k (k.wrap (a.tdiv b)))
   | .rem=>if b=0 then none else some (.int k (a.tmod b))
   | .and=>some (.int k (k.wrap (BitVec.ofInt k.bits a &&& BitVec.ofInt k.bits b).toNat))
   | .or=>some (.int k (k.wrap (BitVec.ofInt k.bits a ||| BitVec.ofInt k.bits b).toNat))
   | .xor=>some (.int k (k.wrap (BitVec.ofInt k.bits a ^^^ BitVec.ofInt k.bits b).toNat))
   | .andNot=>some (.int k (k.wrap (BitVec.ofInt k.bits a &&& ~~~ BitVec.ofInt k.bits b).toNat))
   | op=>(oI op a b).map .bool
   else none
 | .str a,.str b=>
  match op with
  | .add=>if((a.size+b.size:Nat):Int)>IntKind.i64.max then none else some (.str (a++b))
  | .eql=>some (.bool (a.toList==b.toList))
  | .neq=>some (.bool !(a.toList==b.toList))
  | .lss=>some (.bool (Op.bytesLess a.toList b.toList))
  | .leq=>some (.bool (Op.bytesLess a.toList b.toList||a.toList==b.toList))
  | .gtr=>some (.bool !(Op.bytesLess a.toList b.toList||a.toList==b.toList))
  | .geq=>some (.bool !(Op.bytesLess a.toList b.toList))
  | _=>none
 | .bool a,.bool b=>
  match E.kindOf t,op with
  | some .bool,.eql=>some (.bool (a==b))
  | some .bool,.neq=>some (.bool !(a==b))
  | _,_=>none
 | .agg a,.agg b=>
  match E.eqN t,op with
  | some n,.eql=>if a.length=n then(jY a b).map .bool else none
  | some n,.neq=>if a.length=n then(jY a b).map (λt=>.bool !t)else none
  | _,_=>none
 | x,y=>
  match E.kindOf t,op with
  | some k,.eql=>(tB k x y).map .bool
  | some k,.neq=>(tB k x y).map λt=>.bool !t
  | _,_=>none
def s_ (place:Nat->Option (Nat×Nat)) (cells:List V):List (Nat×V)->Option (List V)
 | []=>some cells
 | (i,v)::rest=>
  match place i with
  | none=>none
  | some (off,size)=>
   if v.cells.length≠size||off+v.cells.length>cells.length then none
   else s_ place (cells.take off++v.cells++cells.drop (off+v.cells.length)) rest
def lq (F:Frame):List (Nat×Operand)->Option (List (Nat×V))
 | []=>some []
 | (i,x)::r=>match ev F x,lq F r with
  | some v,some vs=>some ((i,v)::vs)
  | _,_=>none
def lZ (E:Env):List (Nat×TypeId)->Option (List (Nat×Nat))
 | []=>some []
 | (off,t)::r=>match E.tt t,lZ E r with
  | some d,some ps=>some ((off,d.size)::ps)
  | _,_=>none
def ji (F:Frame):Option Operand->Option (Option Int)
 | none=>some none
 | some x=>match ev F x with
  | some (.int _ n)=>some (some n)
  | _=>none
def dI (len:Nat) (lo hi:Option Int):Option (Nat×Nat):=
 let h:=hi.getD len
 let l:=lo.getD 0
 if 0<=h/\h<=len/\0<=l/\l<=h then some (l.toNat,h.toNat)else none
def AP (a b:Int):Int:=if b>a then b else a
def bG (E:Env) (F:Frame) (op:Op):Option V:=
 match op with
 | .move x|.assign x=>ev F x
 | .pick c a b=>match ev F c with
  | some (.bool t)=>if t then ev F a else ev F b
  | _=>none
 | .nilCheck x=>match ev F x with
  | some (.hptr id el off)=>some (.hptr id el off)
  | some (.fptr cs)=>some (.fptr cs)
  | some (.clo f a b)=>some (.clo f a b)
  | _=>none
 | .binOp op t x y _=>match ev F x,ev F y with
  | some a,some b=>Gz E op t a b
  | _,_=>none
 | .unOp op _ x=>match op,ev F x with
  | .not,some (.bool b)=>some (.bool !b)
  | .neg,some (.int k n)=>some (.int k (k.wrap (0-n)))
  | _,_=>none
 | .convert s d x=>match E.tt s,E.tt d,ev F x with
  | some _,some B,some (.int _ n)=>match B.kind with
   | .int k=>some (.int k (k.wrap n))
   | _=>none
  | _,_,_=>none
 | .fieldAddr s x f=>match E.kindOf s,ev F x with
  | some (.struct fs),some p=>match fs[f]? with
   | some (off,t)=>match E.tt t with
    | some d=>if d.size=0 then none else match p with
     | .fptr cs=>if off<=cs.length then some (.fptr (cs.drop off))else none
     | .hptr id el o=>some (.hptr id el (o+off))
     | _=>none
    | none=>none
   | none=>none
  | _,_=>none
 | .field s x f=>match E.kindOf s,ev F x with
  | some (.struct fs),some (.agg cs)=>match fs[f]? with
   | some (off,t)=>match E.tt t with
    | some d=>(cut cs off d.size).bind (mk d.agg)
    | none=>none
   | none=>none
  | _,_=>none
 | .indexAddr t x i=>match E.kindOf t,ev F x,ev F i with
  | some (.slice e),some s,some (.int _ n)=>match E.tt e with
   | some d=>if n<0 then none else match s with
    | .fsl es u=>if es=d.size then(u[n.toNat]?).map .fptr else none
    | .hsl id es off len=>if es=d.size/\n.toNat<len then some (.hptr id (off+n.toNat) 0)else none
    | _=>none
   | none=>none
  | some (.array len e),some p,some (.int _ n)=>match E.tt e with
   | some d=>if 0<=n/\n<len then match p with
    | .fptr cs=>if n.toNat*d.size<=cs.length then some (.fptr (cs.drop (n.toNat*d.size)))else none
    | .hptr id el o=>some (.hptr id el (o+n.toNat*d.size))
    | _=>none
    else none
   | none=>none
  | _,_,_=>none
 | .index t x i=>match E.kindOf t,ev F x,ev F i with
  | some .str,some (.str s),some (.int _ n)=>if 0<=n then(s[n.toNat]?).map (λb=>.int .u8 b.toNat)else none
  | some (.array len e),some (.agg cs),some (.int _ n)=>match E.tt e with
   | some d=>if 0<=n/\n<len then(cut cs (n.toNat*d.size) d.size).bind (mk d.agg)else none
   | none=>none
  | _,_,_=>none
 | .slice t x lo hi C=>match E.kindOf t,ev F x,ji F lo,ji F hi,ji F C with
  | some .str,some (.str s),some l,some h,some none=>(dI s.size l h).map λ(l,h)=>.str (s.extract l h)
  | some (.slice e),some v,some l,some h,some none=>match E.tt e with
   | some d=>match v with
    | .fsl es u=>if es=d.size then(dI u.length l h).map λ(l,h)=>.fsl es ((u.take h).drop l)else none
    | .hsl id es off len=>if es=d.size then(dI len l h).map λ(l,h)=>.hsl id es (off+l) (h-l)else none
    | .dm=>(dI 0 l h).map λ_=>.dm
    | .bE=>(dI 0 l h).map λ_=>.bE
    | _=>none
   | none=>none
  | some (.slice e),some v,some none,some (some 0),some (some 0)=>match E.tt e,v with
   | some _,.fsl ..|some _,.hsl ..|some _,.dm|some _,.bE=>some .dm
   | _,_=>none
  | _,_,_,_,_=>none
 | .build t D=>match E.tt t,lq F D.toList with
  | some d,some w=>match d.kind with
   | .struct fs=>match lZ E fs with
    | some pl=>(s_ (λi=>pl[i]?) d.zero w).map .agg
    | none=>none
   | .array _ e=>match E.tt e with
    | some A=>(s_ (λi=>some (i*A.size,A.size)) d.zero w).map .agg
    | none=>none
   | _=>none
  | _,_=>none
 | .makeFunc (.func f) a b=>match eP F a.toList,eP F b.toList with
  | some a,some b=>some (.clo f a b)
  | _,_=>none
 | .extract x i=>match ev F x with
  | some (.tup w)=>w[i]?
  | _=>none
 | .call { callee:=.builtin b,args,argTypes }=>match b,eP F args.toList,argTypes[0]? with
  | .len,some [v],some t=>match E.kindOf t,v with
   | some .str,.str s=>some (.int .i64 s.size)
   | some (.slice _),.fsl _ u=>some (.int .i64 u.length)
   | some (.slice _),.hsl _ _ _ len=>some (.int .i64 len)
   | some (.slice _),.dm=>some (.int .i64 0)
   | some (.slice _),.bE=>some (.int .i64 0)
   | _,_=>none
  | .cap,some [v],some t=>match E.kindOf t,v with
   | some (.slice _),.bE=>some (.int .i64 0)
   | some (.slice _),.dm=>some (.int .i64 0)
   | _,_=>none
  | .max,some [.int k a,.int z b],_=>if k=z then some (.int k (if b>a then b else a))else none
  | .max,some [.int k a,.int k1 b,.int G c,.int I d],_=>if k=k1/\k=G/\k=I then some (.int k (AP (AP (AP a b) c) d))else none
  | .min,some [.int k a,.int z b],_=>if k=z then some (.int k (if b<a then b else a))else none
  | _,_,_=>none
 | _=>none
def ei (H:bf) (p:V) (n:Nat):Option (List V):=
 match p with
 | .fptr cs=>cut cs 0 n
 | .hptr id el off=>match (H[id]?).bind Ob.rows with
  | some (_,u)=>match u[el]? with
   | some cs=>cut cs off n
   | none=>none
  | none=>none
 | _=>none
def vB:V->V->Option Bool
 | .int k a,.int B b=>if k=B then some (a==b)else none
 | .str a,.str b=>some (a==b)
 | .agg a,.agg b=>jY a b
 | _,_=>none
def gR (k:V):List (V×V)->Nat->Option (Option (Nat×V))
 | [],_=>some none
 | (B,v)::r,i=>match vB k B with
  | some true=>some (some (i,v))
  | some false=>gR k r (i+1)
  | none=>none
def zV (E:Env) (t:TypeId) (k:V):Bool:=
 match E.kindOf t,k with
 | some (.int k),.int u _=>k==u
 | some .str,.str _=>true
 | some _,.agg cs=>match E.eqN t with|some n=>cs.length==n&&(gJ cs).isSome|none=>false
 | _,_=>false
def lT (H:bf):V->Option (List (V×V))
 | .fR=>some []
 | .fmap B=>some B
 | .hmap id=>match H[id]? with
  | some (.map B)=>some B
  | _=>none
 | _=>none
def dG (E:Env) (F:Frame) (H:bf) (op:Op):Option V:=
 match op with
 | .load t a=>match E.tt t,ev F a with
  | some d,some p=>(ei H p d.size).bind (mk d.agg)
  | _,_=>none
 | .lookup t m k ok=>match E.kindOf t,ev F m,ev F k with
  | some (.map w A),some m,some k=>match E.tt A,lT H m with
   | some d,some u=>if zV E w k then match gR k u 0,mk d.agg d.zero with
    | some (some (_,v)),_=>some (if ok then .tup [v,.bool true]else v)
    | some none,some z=>some (if ok then .tup [z,.bool false]else z)
    | _,_=>none
    else none
   | _,_=>none
  | _,_,_=>none
 | _=>none
inductive Mk where
 | ptr|sl (es len:Nat)|map
def Mk.val (id:Nat):Mk->V
 | .ptr=>.hptr id 0 0
 | .sl es len=>.hsl id es 0 len
 | .map=>.hmap id
def gL (es:Nat) (xs:List (List V)):List (Nat×V)->Option (List (List V))
 | []=>some xs
 | (i,v)::r=>if v.cells.length=es/\i<xs.length/\v.cells.all V.one=true then gL es (xs.set i v.cells) r else none
def ey (E:Env) (F:Frame) (op:Op):Option (Ob×Mk):=
 match op with
 | .alloc t=>(E.tt t).map λd=>(.row d.size [d.zero],.ptr)
 | .box _ x=>match ev F x with
  | some v=>if v.cells.all V.one then some (.row v.cells.length [v.cells],.ptr)else none
  | none=>none
 | .makeSlice t l c=>match E.kindOf t,ev F l,ev F c with
  | some (.slice e),some (.int k n),some (.int u m)=>match E.tt e with
   | some d=>if k=.i64/\u=.i64/\0<=n/\n<=m/\m<=2147483648/\d.bytes<=4096 then some (.row d.size (List.replicate m.toNat d.zero),.sl d.size n.toNat)else none
   | none=>none
  | _,_,_=>none
 | .buildSlice t len w=>match E.kindOf t,lq F w.toList with
  | some (.slice e),some z=>match E.tt e with
   | some d=>if len*d.size<=16777216 then(gL d.size (List.replicate len d.zero) z).map λA=>(.row d.size A,.sl d.size len)else none
   | none=>none
  | _,_=>none
 | .makeMap _ none=>some (.map [],.map)
 | _=>none
def pZ (E:Env) (F:Frame) (op:Op):Option V:=
 match ey E F op with
 | some (.row es u,.sl w n)=>if w=es/\n=u.length/\(u.all λx=>x.all V.scalar)=true then match op with
  | .buildSlice ..=>if u.isEmpty&&es != 0 then some .dm else none
  | _=>some (.fsl es u)
  else none
 | _=>none
def dx (H:bf) (es:Nat):V->Option (List (List V))
 | .dm=>some []
 | .bE=>some []
 | .fsl B xs=>if B=es then some xs else none
 | .hsl id B off len=>if B=es then match (H[id]?).bind Ob.rows with
  | some (_,xs)=>if off+len<=xs.length then some ((xs.drop off).take len)else none
  | none=>none
  else none
 | _=>none
def oB (k v:V) (B:List (V×V)):Option (List (V×V)):=
 match gR k B 0 with
 | some (some (j,_))=>some (B.set j (k,v))
 | some none=>some (B++[(k,v)])
 | none=>none
def gq (H:bf):V->Option bf
 | .dm=>some H
 | .bE=>some H
 | .hsl id _ _ _=>match H[id]? with
  | some (.row _ _)=>some (H.set id .dead)
  | _=>none
 | _=>none
def mkApp (H:bf) (size bytes:Nat) (zero:List V) (s x:V):Option (V×bf):=
 match s,x with
 | .bE,.int _ n=>if n=0 then some (.bE,H)else if 0<n/\n<=2147483648/\bytes<=4096/\0<bytes then some (.hsl H.length size 0 n.toNat,H++[.row size (List.replicate n.toNat zero)])else none
 | _,_=>none
def B9 (H:bf) (size:Nat) (zero:List V):V->Option (V×bf)
 | .bE|.dm=>some (.undef,H)
 | .hsl id es off len=>if es=size then match len with
  | 0=>some (.undef,H)
  | len+1=>match H[id]? with
   | some (.row B xs)=>if off+(len+1)<=xs.length then some (.undef,H.set id (.row B (xs.take off++List.replicate (len+1) zero++xs.drop (off+(len+1)))))else none
   | _=>none
  else none
 | _=>none
def cR (E:Env) (F:Frame) (H:bf) (op:Op):Option (V×bf):=
 match op with
 | .store t a x=>match E.tt t,ev F a,ev F x with
  | some d,some (.hptr id el off),some v=>match H[id]? with
   | some (.row es w)=>match w[el]? with
    | some cs=>if v.cells.length=d.size/\off+d.size<=cs.length/\v.cells.all V.one=true then
     some (.undef,H.set id (.row es (w.set el (cs.take off++v.cells++cs.drop (off+v.cells.length)))))else none
    | none=>none
   | _=>none
  | _,_,_=>none
 | .mapUpdate t m k x|.insert t m k x=>match E.kindOf t,ev F m,ev F k,ev F x with
  | some (.map A _),some (.hmap id),some k,some v=>match H[id]? with
   | some (.map u)=>if zV E A k then(oB k v u).map λu=>(.undef,H.set id (.map u))else none
   | _=>none
  | _,_,_,_=>none
 | .call { callee:=.builtin .append,args,argTypes }=>match argTypes.toList,eP F args.toList with
  | [t,B],some [s,x]=>match E.kindOf t,E.kindOf B with
   | some (.slice e),some (.slice _)=>match E.tt e with
    | some d=>match dx H d.size s,dx H d.size x with
     | some _,some []=>some (s,H)
     | some w,some z=>
      if w.length+z.length<=2147483648/\d.bytes<=4096/\0<d.bytes then
       (gq H s).map λH1=>(.hsl H.length d.size 0 (w.length+z.length),H1++[.row d.size (w++z)])
      else none
     | _,_=>none
    | none=>none
   | some (.slice e),some (.int _)=>match E.tt e with
    | some d=>mkApp H d.size d.bytes d.zero s x
    | none=>none
   | _,_=>none
  | _,_=>none
 | .call { callee:=.builtin .clear,args,argTypes }=>match argTypes[0]?,eP F args.toList with
  | some t,some [v]=>match E.kindOf t with
   | some (.slice e)=>match E.tt e with
    | some d=>B9 H d.size d.zero v
    | none=>none
   | _=>none
  | _,_=>none
 | _=>none
def om:List (List V)->Option (List Int)
 | []=>some []
 | [.int .u8 n]::r=>(om r).map (n::·)
 | _=>none
def KE (l:List Int):ByteArray:=l.foldl (λr n=>r.push (UInt8.ofNat n.toNat)) ByteArray.empty
def evalConv (E:Env) (F:Frame) (H:bf) (op:Op):Option V:=
 match op with
 | .convert s d x=>match E.kindOf s,E.kindOf d,ev F x with
  | some (.slice e),some .str,some v=>match E.kindOf e with
   | some (.int .u8)=>(dx H 1 v).bind λu=>(om u).map λl=>.str (KE l)
   | _=>none
  | _,_,_=>none
 | _=>none
def rJ (E:Env) (F:Frame) (H:bf) (place:Option (Nat×Nat)) (op:Op):Option V:=
 match bG E F op with
 | some v=>some v
 | none=>match place with
  | none=>evalConv E F H op
  | some _=>none
inductive Callee where
 | fn (f:FuncId)
 | yld (id:Nat)
def ja (F:Frame) (op:Op):Option (Callee×List V):=
 match op with
 | .call { callee:=.value f,args,.. }=>match ev F f,eP F args.toList with
  | some (.clo g a b),some u=>some (.fn g,a++u++b)
  | some (.yld id),some u=>some (.yld id,u)
  | _,_=>none
 | _=>none
inductive RG where
 | pure|read|alloc|loud|call
 deriving DecidableEq
def cV:Op->RG
 | .load ..|.lookup ..=>.read
 | .alloc ..|.box ..|.makeSlice ..|.buildSlice ..|.makeMap ..=>.alloc
 | .store ..|.mapUpdate ..|.insert ..=>.loud
 | .call { callee:=.builtin .append,.. }=>.loud
 | .call { callee:=.builtin .clear,.. }=>.loud
 | .call { callee:=.value _,.. }=>.call
 | _=>.pure
def gV (f:V->Option V):List V->Option (List V)
 | []=>some []
 | x::r=>match f x,gV f r with
  | some y,some s=>some (y::s)
  | _,_=>none
def kJ (f:V->Option V):List (List V)->Option (List (List V))
 | []=>some []
 | x::r=>match gV f x,kJ f r with
  | some y,some s=>some (y::s)
  | _,_=>none
def kK (f:V->Option V):List (V×V)->Option (List (V×V))
 | []=>some []
 | (k,x)::r=>match f k,f x,kK f r with
  | some k,some y,some s=>some ((k,y)::s)
  | _,_,_=>none
def borrow:Nat->bf->V->Option V
 | 0,_,x=>if x.closed then some x else none
 | n+1,H,x=>
  if x.closed then some x else
  match x with
  | .hsl id es off len=>match (H[id]?).bind Ob.rows with
   | some (B,xs)=>if B=es/\off+len<=xs.length then(kJ (borrow n H) ((xs.drop off).take len)).map (.fsl es)else none
   | none=>none
  | .hptr id el off=>match (H[id]?).bind Ob.rows with
   | some (_,xs)=>match xs[el]? with
    | some cs=>if off<=cs.length then(gV (borrow n H) (cs.drop off)).map .fptr else none
    | none=>none
   | none=>none
  | .hmap id=>match H[id]? with
   | some (.map D)=>(kK (borrow n H) D).map .fmap
   | _=>none
  | .clo f a b=>match gV (borrow n H) a,gV (borrow n H) b with
   | some a,some b=>some (.clo f a b)
   | _,_=>none
  | .agg cs=>(gV (borrow n H) cs).map .agg
  | .tup cs=>(gV (borrow n H) cs).map .tup
  | _=>none
def borrows (n:Nat) (H:bf) (l:List V):Option (List V):=gV (borrow n H) l
def cI (f:V->List Nat):List V->List Nat
 | []=>[]
 | x::r=>f x++cI f r
def bW:Nat->bf->V->List Nat
 | 0,_,_=>[]
 | n+1,H,x=>
  if x.closed then []else
  match x with
  | .hsl id _ off len=>id::(match (H[id]?).bind Ob.rows with|some (_,xs)=>cI (bW n H) ((xs.drop off).take len).flatten|none=>[])
  | .hptr id el off=>id::(match (H[id]?).bind Ob.rows with|some (_,xs)=>cI (bW n H) (((xs[el]?).getD []).drop off)|none=>[])
  | .hmap id=>id::(match H[id]? with|some (.map B)=>cI (bW n H) (B.map (·.1))++cI (bW n H) (B.map (·.2))|_=>[])
  | .clo _ a b=>cI (bW n H) a++cI (bW n H) b
  | .agg cs=>cI (bW n H) cs
  | .tup cs=>cI (bW n H) cs
  | _=>[]
def tE (H:bf) (id:Nat):bf:=
 match H[id]? with
 | some (.row es u)=>H.set id (.frz es u)
 | some (.map _)=>H.set id .dead
 | _=>H
def ct (H:bf) (l:List Nat):bf:=l.foldl tE H
structure dh where
 lv:Nat
 go:Callee->List V->bf->Option (V×bf)
instance:CoeFun dh λ_=>Callee->List V->bf->Option (V×bf):=⟨dh.go⟩
def hD (H:bf) (T:List Nat):Bool:=T.all λid=>((H[id]?).bind Ob.rows).isSome
def bU (call:dh) (f:FuncId) (args:List V) (H:bf):Option V:=
 match borrows call.lv H args with
 | some az=>match call (.fn f) az []with
  | some (r,H1)=>match borrow call.lv H1 r with
   | some y=>if y.closed then some y else none
   | none=>none
  | none=>none
 | none=>none
def rL (k:Nat) (H1:bf) (id es off len:Nat):Option (V×Ob):=
 match H1[id]? with
 | some (.row u w)=>if u=es/\(w.all λx=>x.all V.scalar)=true then some (.hsl k es off len,.row es w)else none
 | _=>none
def kU (call:dh) (f:FuncId) (args:List V) (H:bf):Option (V×bf):=
 match borrows call.lv H args with
 | some az=>match call (.fn f) az []with
  | some (r,H1)=>
   if r.scalar then some (r,H)else
   match r with
   | .hsl id es off len=>(rL H.length H1 id es off len).map λ(v,ob)=>(v,H++[ob])
   | .tup (.hsl id es off len::rest)=>if V.cG rest then(rL H.length H1 id es off len).map λ(v,ob)=>(.tup (v::rest),H++[ob])else none
   | _=>none
  | none=>none
 | none=>none
def fc (E:Env) (call:dh) (f:FuncId) (args:List V) (H:bf):Option (V×bf):=
 if E.own f then kU call f args H else call (.fn f) args H
def ko (e:Edge):Bool:=match e.ground with|.textOnly _|.gcOnly _=>false|_=>true
def C3 (o:Oper) (i:Nat):Bool:=o.after.any λe=>e.on==i&&ko e
def G4 (acc:List (List Nat)) (o:Oper):List Nat:=
 (o.after.toList.filter ko).foldl (λl e=>(e.on::(acc[e.on]?).getD []).foldl (λl k=>if l.contains k then l else k::l) l) []
def GQ (ops:List Oper):List (List Nat):=ops.foldl (λacc o=>acc++[G4 acc o]) []
def before (ops:List Oper) (i k:Nat):Bool:=(((GQ ops)[i]?).getD []).contains k
def isApp:Op->Bool
 | .call { callee:=.builtin .append,.. }=>true
 | _=>false
def dB (ops:List Oper) (i:Nat):Bool:=
 match ops[i]? with
 | some o=>(List.range ops.length).all λk=>match ops[k]? with
  | some p=>k==i||cV p.op==.pure||(if k<i then before ops i k else before ops k i)||(isApp o.op&&cV p.op==.alloc&&decide (i<k))
  | none=>true
 | none=>false
def dstsOf (ops:List Oper):List Nat:=ops.filterMap (·.dst)
def uY (ops:List Oper) (i k:Nat):Bool:=if k<i then before ops i k else before ops k i
def ED (ops:List Oper) (i k:Nat):Option (List Nat):=
 match ops[k]? with
 | some p=>
  if k==i||cV p.op==.pure||uY ops i k then some []else
  match p.op with
  | .load _ (.tmp a)=>if(dstsOf ops).contains a then some []else some [a]
  | _=>none
 | none=>some []
def Bj (ops:List Oper) (i:Nat):List Nat->Option (List Nat)
 | []=>some []
 | k::r=>match ED ops i k,Bj ops i r with
  | some a,some b=>some (a++b)
  | _,_=>none
def zm (ops:List Oper) (i:Nat):Option (Nat×List Nat):=
 match (ops[i]?).map Oper.op with
 | some (.store _ (.tmp a) _)=>if(dstsOf ops).contains a then none else(Bj ops i (List.range ops.length)).map λl=>(a,l)
 | _=>none
def pK (id:Nat):V->Bool
 | .hptr B _ _=>B != id
 | .fptr _=>true
 | _=>false
def qy (ops:List Oper) (i:Nat) (F:Frame):Bool:=
 match zm ops i with
 | some (a,l)=>match get F a with
  | .hptr id _ _=>l.all λs=>pK id (get F s)
  | _=>false
 | none=>false
def od (ops:List Oper) (k a':Nat):List Nat:=
 if(dstsOf ops).contains a' then(List.range ops.length).filterMap λi=>match (ops[i]?).map Oper.op with
  | some (.store _ (.tmp a) _)=>if uY ops i k||(dstsOf ops).contains a then none else some a
  | _=>none
 else []
def mF (ops:List Oper) (k:Nat) (F:Frame) (op:Op):Bool:=
 match op with
 | .load _ (.tmp u)=>(od ops k u).all λa=>match get F a with
  | .hptr id _ _=>pK id (get F u)
  | _=>true
 | _=>true
def EE (d:Nat) (op:Op):Bool:=op.operands.any λx=>match x with|.tmp t=>t==d|_=>false
def Oe (d:Nat):Op->Bool
 | .call { callee:=.builtin .append,args,.. }=>match args.toList with
  | .tmp t::r=>t==d&&r.all λx=>match x with|.tmp t=>t != d|_=>true
  | _=>false
 | _=>false
def wT (ops:List Oper) (i:Nat):Bool:=
 match ops[i]? with
 | some o=>match o.op,o.dst with
  | .makeSlice ..,some d=>(ops.any λp=>EE d p.op)&&ops.all λp => !EE d p.op||cV p.op==.call
  | .buildSlice _ len u,some d=>len==0&&u.size==0&&((List.range ops.length).any λk=>match ops[k]? with|some p=>EE d p.op && !dB ops k|none=>false)&&ops.all λp => !EE d p.op||Oe d p.op
  | _,_=>false
 | none=>false
def qf (ops:List Oper):Option (Nat×Nat)->Bool
 | some (_,i)=>wT ops i
 | none=>false
def jX (E:Env) (ops:List Oper) (place:Option (Nat×Nat)) (f:FuncId):Bool:=E.keep f&&(match place with|none=>true|some (_,i)=>dB ops i || !E.own f)
def vA (ops:List Oper) (i:Nat):Bool:=
 match ops[i]? with
 | some o=>isApp o.op&&(List.range ops.length).all λk=>match ops[k]? with
  | some p=>k==i||cV p.op==.pure||uY ops i k||cV p.op==.read||(cV p.op==.alloc&&(wT ops k||decide (i<k)))
  | none=>true
 | none=>false
def oN (F:Frame):Op->Bool
 | .call { callee:=.builtin .append,args,.. }=>match args.toList with
  | x::_=>match ev F x with|some .dm|some .bE=>true|_=>false
  | _=>false
 | _=>false
def xS (ops:List Oper) (i b:Nat) (F:Frame) (H:bf) (op:Op):Bool:=vA ops i&&(isApp op&&oN F op&&decide (b<=H.length))
def c6 (E:Env) (call:dh) (ops:List Oper) (place:Option (Nat×Nat)) (F:Frame) (H:bf) (op:Op):Option (V×bf):=
 match cV op with
 | .pure=>(rJ E F H place op).map λv=>(v,H)
 | .read=>match place with
  | none=>(dG E F H op).map λv=>(v,H)
  | some (b,i)=>if mF ops i F op then match dG E F (H.take b) op with
   | some v=>some (v,H)
   | none=>if dB ops i then(dG E F H op).map λv=>(v,H)else none
   else none
 | .alloc=>if qf ops place then(pZ E F op).map λv=>(v,H)else match ey E F op,place with
  | some (ob,m),none=>some (m.val H.length,H++[ob])
  | some (ob,m),some (b,i)=>match H[b+i]? with
   | some .free=>some (m.val (b+i),H.set (b+i) ob)
   | _=>none
  | none,_=>none
 | .loud=>match place with
  | none=>cR E F H op
  | some (b,i)=>if dB ops i||qy ops i F||xS ops i b F H op then cR E F H op else none
 | .call=>match ja F op with
  | some (.fn f,args)=>
   if jX E ops place f then
    match place with
    | none=>fc E call f args H
    | some (_,i)=>if dB ops i then fc E call f args H else none
   else match place with
    | none=>match bU call f args H with
     | some y=>some (y,if y.scalar then H else ct H (cI (bW call.lv H) args))
     | none=>none
    | some (b,i)=>match bU call f args (H.take b)with
     | some y=>if y.scalar then some (y,H)else if hD (H.take b) (cI (bW call.lv (H.take b)) args)then some (y,ct H (cI (bW call.lv (H.take b)) args))else none
     | none=>if dB ops i then match bU call f args H with
      | some y=>some (y,if y.scalar then H else ct H (cI (bW call.lv H) args))
      | none=>none
      else none
  | some (.yld id,args)=>match place with
   | none=>call (.yld id) args H
   | some (_,i)=>if dB ops i then call (.yld id) args H else none
  | none=>none
def jg (n:Nat) (F:Frame) (dst:Option Nat) (v:V):Option Frame:=
 match dst with
 | none=>some F
 | some d=>if d<n then some (set F d v)else none
def fe (ops:List Oper) (F:Frame) (o:Oper):Bool:=
 match o.guard with
 | none=>true
 | some (j,b)=>match (ops[j]?).bind (·.dst)with
  | some d=>match get F d with
   | .bool c=>c==b
   | _=>false
  | none=>false
def fM (E:Env) (call:dh) (n:Nat) (ops:List Oper) (place:Option (Nat×Nat)) (o:Oper) (F:Frame) (H:bf):Option (Frame×bf):=
 if fe ops F o then
  match c6 E call ops place F H o.op with
  | some (v,H')=>(jg n F o.dst v).map λF'=>(F',H')
  | none=>none
 else(jg n F o.dst .undef).map λF'=>(F',H)
def kZ (E:Env) (call:dh) (n:Nat) (ops:List Oper):List Oper->Frame->bf->Option (Frame×bf)
 | [],F,H=>some (F,H)
 | o::r,F,H=>match fM E call n ops none o F H with
  | some (F',H')=>kZ E call n ops r F' H'
  | none=>none
def jf (E:Env) (call:dh) (n:Nat) (ops:List Oper) (base:Nat):List Nat->Frame->bf->Option (Frame×bf)
 | [],F,H=>some (F,H)
 | i::r,F,H=>match ops[i]? with
  | some o=>match fM E call n ops (some (base,i)) o F H with
   | some (F',H')=>jf E call n ops base r F' H'
   | none=>none
  | none=>none
def tmpsOf (o:Oper) (ops:List Oper):List Nat:=
 (o.op.operands.toList.filterMap λ|.tmp t=>some t|_=>none) ++
 (match o.guard with|some (g,_)=>((ops[g]?).bind (·.dst)).toList|none=>[])
def wX (ops:List Oper) (a b:Oper):Bool:=
 (match a.dst with|some d => !(tmpsOf b ops).contains d&&b.dst != some d|none=>true) &&
 (match b.dst with|some d => !(tmpsOf a ops).contains d|none=>true)
def vk (ops:List Oper):Bool:=
 (List.range ops.length).all λj=>(List.range j).all λi=>
  match ops[i]?,ops[j]? with
  | some a,some b=>C3 b i||wX ops a b
  | _,_=>false
def zF (ops:List Oper):Bool:=
 (List.range ops.length).all λj=>match ops[j]? with
  | some o=>o.after.all λe => !ko e||decide (e.on<j)
  | none=>true
def qt (ops:List Oper):Bool:=ops.any λo=>cV o.op==.alloc
def iU (E:Env) (call:dh) (n:Nat) (ops:List Oper) (B:Bool) (F:Frame) (H:bf):Option (Frame×bf):=
 if B then
  if vk ops&&zF ops then
   jf E call n ops H.length (List.range ops.length) F (if qt ops then H++List.replicate ops.length .free else H)
  else none
 else kZ E call n ops ops F H
def jO (step:Frame->bf->Option (Out×Frame×bf)):Nat->Frame->bf->Option (Out×Frame×bf)
 | 0,_,_=>none
 | k+1,F,H=>match step F H with
  | some (.norm,F',H')=>jO step k F' H'
  | r=>r
def j7:Out->Option Code
 | .norm=>none
 | .ret=>some .ret
 | .exit id=>some (.exit id)
def exec (E:Env) (call:dh) (lf:Nat) (ro:Bool) (n:Nat):Code->Frame->bf->Option (Out×Frame×bf)
 | .skip,F,H=>some (.norm,F,H)
 | .label _,F,H=>some (.norm,F,H)
 | .region _ ops B,F,H=>(iU E call n ops.toList B F H).map λ(F',H')=>(.norm,F',H')
 | .seq a b,F,H=>match exec E call lf ro n a F H with
  | some (.norm,F',H')=>exec E call lf ro n b F' H'
  | r=>r
 | .cond c x y,F,H=>match ev F c with
  | some (.bool t)=>if t then exec E call lf ro n x F H else exec E call lf ro n y F H
  | _=>none
 | .block id c,F,H=>match exec E call lf ro n c F H with
  | some (.exit D,F',H')=>if D=id then some (.norm,F',H')else some (.exit D,F',H')
  | r=>r
 | .loop c,F,H=>jO (exec E call lf ro n c) lf F H
 | .rangeFunc g ps assign body,F,H=>match ro,ev F g with
  | false,some (.clo f a b)=>
   match call (.fn f) (a++.yld H.length::b) (H++[.loop ⟨.ready,none,F,n,ps.toList,assign,body⟩])with
   | some (_,H')=>match H'[H.length]? with
    | some (.loop r)=>match r.st with
     | .busy=>none
     | _=>some (r.pend.getD .norm,F,H'.set H.length .dead)
    | _=>none
   | none=>none
  | _,_=>none
 | .exit id,F,H=>some (.exit id,F,H)
 | .ret,F,H=>some (.ret,F,H)
 | _,_,_=>none
def gN (E:Env) (F:Frame) (H:bf):List ResultVar->Option (List V)
 | []=>some []
 | .tmp t::r=>(gN E F H r).map (get F t::·)
 | .cell a t::r=>match E.tt t,gN E F H r with
  | some d,some vs=>((ei H (get F a) d.size).bind (mk d.agg)).map (·::vs)
  | _,_=>none
def result:List V->V
 | [v]=>v
 | vs=>.tup vs
def wv:List Nat->List V->Frame->Frame
 | t::B,v::vs,F=>wv B vs (set F t v)
 | _,_,F=>F
def GH {α:Type} [Inhabited α] (lt:α->α->Bool):Nat->Nat->Array α->Array α
 | 0,_,d=>d
 | k+1,i,d=>GH lt k (i+1) (Sort.insInner lt 0 i d)
def pz (n:Nat) (lt:Fin (n+1)->Fin (n+1)->Bool):Array (Fin (n+1)):=
 if n<12 then GH lt n 1 (List.finRange (n+1)).toArray else Sort.pdq lt (List.finRange (n+1)).toArray 0 (n+1) (Lib.bitLen (n+1)) true true
def ir (call:dh) (g:FuncId) (D B:List V) (n:Nat) (i j:Fin (n+1)):Option Int:=
 match D[i.1]?,D[j.1]? with
 | some a,some b=>match bU call g (a::b::B) []with
  | some (.int .i64 c)=>some c
  | _=>none
 | _,_=>none
def oa {n:Nat} (t:Fin (n+1)->Fin (n+1)->Option Int) (i j:Fin (n+1)):Bool:=decide ((t i j).getD 0<0)
def Ad {n:Nat} (t:Fin (n+1)->Fin (n+1)->Option Int):Bool:=
 let l:=List.finRange (n+1)
 l.all λi => !oa t i i&&l.all λj=>(t i j).isSome&&l.all λk=>(!(oa t i j&&oa t j k)||oa t i k)&&((oa t i j||oa t j k) || !oa t i k)
def pY (xs:List (List V)) (off n:Nat) (l:List (Fin (n+1))):List (List V):=xs.take off++l.map (λi=>(xs[off+i.1]?).getD [])++xs.drop (off+(n+1))
def o6 (keep:FuncId->Bool) (call:dh) (args:List V) (H:bf):Option (V×bf):=
 match args with
 | [s,c]=>match s with
  | .bE|.dm=>some (.undef,H)
  | .hsl id es off len=>match len,c with
   | 0,_=>some (.undef,H)
   | n+1,.clo g [] cb=>match H[id]? with
    | some (.row w z)=>if es=1/\w=1/\off+(n+1)<=z.length/\n<2147483648/\keep g=false then
     match borrows call.lv (H.set id .dead) ((z.drop off).take (n+1)).flatten,borrows call.lv (H.set id .dead) cb with
     | some A,some u=>if Ad (ir call g A u n)then some (.undef,H.set id (.row 1 (pY z off n (pz n (oa (ir call g A u n))).toList)))else none
     | _,_=>none
     else none
    | _=>none
   | _,_=>none
  | _=>none
 | _=>none
def i_ (E:Env) (c:dh) (n:Nat):Callee->List V->bf->Option (V×bf)
 | .fn f,args,H=>match E.ft f with
  | some fi=>if args.length<=fi.ntmps then
   match exec E c n false fi.ntmps fi.body args H with
   | some (.exit _,_,_)=>none
   | some (_,F',H')=>(gN E F' H' fi.results).map λvs=>(result vs,H')
   | none=>none
   else none
  | none=>if E.sort f then o6 E.keep c args H else(E.known f args).map λy=>(y,H)
 | .yld id,args,H=>match H[id]? with
  | some (.loop r)=>match r.st with
   | .ready=>if args.length=r.params.length/\r.params.all (·<r.nt)then
    match exec E c n true r.nt r.assign (wv r.params args r.frame) H with
    | some (.norm,D,H2)=>match H2[id]? with
     | some (.loop r2)=>match r2.st with
      | .ready=>match exec E c n true r.nt r.body D (H2.set id (.loop { r2 with st:=.busy }))with
       | some (o,_,B)=>match B[id]? with
        | some (.loop r4)=>some (.bool (o==.norm),B.set id (.loop { r4 with st:=(if o==.norm then .ready else .done),pend:=(if o==.norm then none else some o) }))
        | _=>none
       | none=>none
      | _=>none
     | _=>none
    | _=>none
    else none
   | _=>none
  | _=>none
def run (E:Env):Nat->dh
 | 0=>⟨0,λ_ _ _=>none⟩
 | n+1=>⟨n+1,i_ E (run E n) n⟩
theorem Ez {E:Env} {n:Nat} {x:Callee} {a:List V} {H:bf}:run E (n+1) x a H=i_ E (run E n) n x a H:=rfl
end Go.VE
namespace Go.VE
variable [bN]
@[simp] theorem get_nil (i:Nat):get [] i=.undef:=by cases i <;> rfl
@[simp] theorem rj (F:Frame) (i:Nat) (v:V):get (set F i v) i=v:=by
 induction F generalizing i with
 | nil=>induction i with
  | zero=>rfl
  | succ i u=>simpa [set,get]using u
 | cons x r u=>cases i with
  | zero=>rfl
  | succ i=>simpa [set,get]using u i
theorem gC (F:Frame) {i j:Nat} (v:V) (h:i≠j):get (set F i v) j=get F j:=by
 induction F generalizing i j with
 | nil=>
  induction i generalizing j with
  | zero=>cases j with
   | zero=>grind
   | succ j=>simp[set,get]
  | succ i u=>cases j with
   | zero=>simp[set,get]
   | succ j=>simpa [set,get]using u  (by omega)
 | cons x r u=>cases i with
  | zero=>cases j with
   | zero=>grind
   | succ j=>simp[set,get]
  | succ i=>cases j with
   | zero=>simp[set,get]
   | succ j=>simpa [set,get]using u   (by omega)
theorem E7 (F:Frame) {i j:Nat} (u v:V) (h:i≠j):set (set F i u) j v=set (set F j v) i u:=by
 induction F generalizing i j with
 | nil=>
  induction i generalizing j with
  | zero=>cases j with
   | zero=>grind
   | succ j=>simp[set]
  | succ i w=>cases j with
   | zero=>simp[set]
   | succ j=>simpa [set]using w  (by omega)
 | cons x r w=>cases i with
  | zero=>cases j with
   | zero=>grind
   | succ j=>simp[set]
  | succ i=>cases j with
   | zero=>simp[set]
   | succ j=>simpa [set]using w   (by omega)
inductive IC where
 | cells (c:Array Value)
 | map (es:Array MapEntry)
abbrev b9:=Nat->Option IC
def IC.at (x:IC) (w:World) (b:Nat):Prop:=
 match x with
 | .cells c=>∃el fr,w.heap[b]? = some (.cells c el fr)
 | .map es=>∃clock,w.heap[b]? = some (.map es clock)
def b9.le (I I':b9):Prop:=∀b x,I b=some x->I' b=some x
theorem b9.le_refl (I:b9):b9.le I I:=λ_ _ h=>h
theorem b9.le_trans {I J K:b9} (h:b9.le I J) (B:b9.le J K):b9.le I K:=λb x e=>B b x (h b x e)
inductive dW (I:b9):V->Value->Prop
 | bool (b:Bool):dW I (.bool b) (.bool b)
 | int (k:IntKind) (n:Int):dW I (.int k n) (.int k n)
 | str (s:ByteArray):dW I (.str s) (.string s)
 | dm (a:Option Addr):dW I .dm (.slice a 0 0)
 | bE:dW I .bE (.slice none 0 0)
 | fsl0 (es:Nat) (a:Addr) (cap:Nat):dW I (.fsl es []) (.slice (some a) 0 cap)
 | fsl (es:Nat) (xs:List (List V)) (b o cap:Nat) (c:Array Value) (hI:I b=some (.cells c)) (hc:xs.length<=cap)
  (hu:∀x∈xs,x.length=es) (ho:∀x∈xs,∀y∈x,V.one y=true) (hb:o+xs.length*es<=c.size)
  (hr:∀(i j:Nat) x y v,xs[i]? = some x->x[j]? = some y->c[o+i*es+j]? = some v->dW I y v) :
  dW I (.fsl es xs) (.slice (some ⟨b,o,none⟩) xs.length cap)
 | gF:dW I .gF (.pointer none)
 | fptr (cs:List V) (b o:Nat) (c:Array Value) (hI:I b=some (.cells c)) (hb:o+cs.length<=c.size)
  (hr:∀(j:Nat) y v,cs[j]? = some y->c[o+j]? = some v->dW I y v):dW I (.fptr cs) (.pointer (some ⟨b,o,none⟩))
 | clo (f:FuncId) (x y:List V) (u v:Array Value) (hx:x.length=u.size) (hy:y.length=v.size)
  (h1:∀(j:Nat) a b,x[j]? = some a->u[j]? = some b->dW I a b) (h2:∀(j:Nat) a b,y[j]? = some a->v[j]? = some b->dW I a b) :
  dW I (.clo f x y) (.func (.func f) u v)
 | fR:dW I .fR (.map none)
 | qJ:dW I .qJ .nilFunc
 | fmap (kvs:List (V×V)) (b:Nat) (es:Array MapEntry) (hI:I b=some (.map es)) (hl:kvs.length=es.size)
  (hk:∀(j:Nat) p e,kvs[j]? = some p->es[j]? = some e->dW I p.1 e.key)
  (hv:∀(j:Nat) p e,kvs[j]? = some p->es[j]? = some e->dW I p.2 e.val):dW I (.fmap kvs) (.map (some b))
 | agg (cs:List V) (vs:Array Value) (hl:cs.length=vs.size) (h:∀(j:Nat) a b,cs[j]? = some a->vs[j]? = some b->dW I a b) :
  dW I (.agg cs) (.agg vs)
 | tup (cs:List V) (vs:Array Value) (hl:cs.length=vs.size) (h:∀(j:Nat) a b,cs[j]? = some a->vs[j]? = some b->dW I a b) :
  dW I (.tup cs) (.tuple vs)
structure Pl where
 b:Nat
 o:Nat
 es:Nat
 sz:Nat
abbrev Mu:=Nat->Option Pl
inductive bz (I:b9) (μ:Mu):V->Value->Prop
 | c (x:V) (v:Value) (h:dW I x v):bz I μ x v
 | hsl (id off len cap:Nat) (p:Pl) (hm:μ id=some p) (hc:len<=cap) (hb:p.o+(off+cap)*p.es<=p.sz) :
  bz I μ (.hsl id p.es off len) (.slice (some ⟨p.b,p.o+off*p.es,none⟩) len cap)
 | hsl0 (id es off:Nat) (a:Addr):bz I μ (.hsl id es off 0) (.slice (some a) 0 0)
 | hptr (id el off:Nat) (p:Pl) (hm:μ id=some p):bz I μ (.hptr id el off) (.pointer (some ⟨p.b,p.o+el*p.es+off,none⟩))
 | yld (id:Nat) (p:Pl) (hm:μ id=some p):bz I μ (.yld id) (.func (.yield p.b) #[] #[])
 | hmap (id:Nat) (p:Pl) (hm:μ id=some p):bz I μ (.hmap id) (.map (some p.b))
 | clo (f:FuncId) (x y:List V) (u v:Array Value) (hx:x.length=u.size) (hy:y.length=v.size)
  (h1:∀(j:Nat) a b,x[j]? = some a->u[j]? = some b->bz I μ a b) (h2:∀(j:Nat) a b,y[j]? = some a->v[j]? = some b->bz I μ a b) :
  bz I μ (.clo f x y) (.func (.func f) u v)
 | agg (cs:List V) (vs:Array Value) (hl:cs.length=vs.size) (h:∀(j:Nat) a b,cs[j]? = some a->vs[j]? = some b->bz I μ a b) :
  bz I μ (.agg cs) (.agg vs)
 | tup (cs:List V) (vs:Array Value) (hl:cs.length=vs.size) (h:∀(j:Nat) a b,cs[j]? = some a->vs[j]? = some b->bz I μ a b) :
  bz I μ (.tup cs) (.tuple vs)
def Mu.le (μ μ':Mu):Prop:=∀id p,μ id=some p->μ' id=some p
theorem Mu.le_refl (μ:Mu):Mu.le μ μ:=λ_ _ h=>h
theorem dW.mono {I I':b9} (h:b9.le I I') {x:V} {v:Value} (r:dW I x v):dW I' x v:=by
 induction r with
 | bool b=>exact .bool b
 | int k n=>exact .int k n
 | str s=>exact .str s
 | dm a=>exact .dm a
 | bE=>exact .bE
 | fsl0 es a cap=>exact .fsl0 es a cap
 | fsl es L b o cap c B hc hu O D _ w=>exact .fsl es L b o cap c (h _ _ B) hc hu O D w
 | gF=>exact .gF
 | fptr cs b o c B D _ w=>exact .fptr cs b o c (h _ _ B) D w
 | clo f x y u v Q S _ _ z A=>exact .clo f x y u v Q S z A
 | fR=>exact .fR
 | qJ=>exact .qJ
 | fmap G b es B C _ _ z A=>exact .fmap G b es (h _ _ B) C z A
 | agg cs J C _ w=>exact .agg cs J C w
 | tup cs J C _ w=>exact .tup cs J C w
theorem bz.mono {I I':b9} {μ μ':Mu} (h:b9.le I I') (B:Mu.le μ μ') {x:V} {v:Value} (r:bz I μ x v):bz I' μ' x v:=by
 induction r with
 | c x v r=>exact .c _ _ (r.mono h)
 | hsl id off len cap p w hc J=>exact .hsl id off len cap p (B _ _ w) hc J
 | hsl0 id es off a=>exact .hsl0 id es off a
 | hptr id el off p w=>exact .hptr id el off p (B _ _ w)
 | yld id p w=>exact .yld id p (B _ _ w)
 | hmap id p w=>exact .hmap id p (B _ _ w)
 | clo f x y u v L O _ _ z A=>exact .clo f x y u v L O z A
 | agg cs C D _ G=>exact .agg cs C D G
 | tup cs C D _ G=>exact .tup cs C D G
def cw (I:b9) (μ:Mu) (xs:List V) (vs:List Value):Prop:=
 xs.length=vs.length/\∀(j:Nat) a b,xs[j]? = some a->vs[j]? = some b->bz I μ a b
theorem cw.nil {I:b9} {μ:Mu}:cw I μ [] []:=⟨rfl,by simp⟩
theorem cw.cons {I:b9} {μ:Mu} {x:V} {v:Value} {xs:List V} {vs:List Value} (h:bz I μ x v) (r:cw I μ xs vs):cw I μ (x::xs) (v::vs):=by
 refine⟨by simp[r.1],?_⟩
 intro j a b h1 u
 cases j with
 | zero=>grind
 | succ j=>exact r.2 j a b (by grind) (by grind)
theorem cw.cons_inv {I:b9} {μ:Mu} {x:V} {xs:List V} {B:List Value} (r:cw I μ (x::xs) B):∃v vs,B=v::vs/\bz I μ x v/\cw I μ xs vs:=by
 obtain⟨u,h⟩:=r
 cases B with
 | nil=>simp_all
 | cons v vs=>
  refine⟨v,vs,rfl,h 0 x v (by simp) (by simp),by grind,?_⟩
  intro j a b h1 w;exact h (j+1) a b (by grind) (by grind)
theorem cw.uI {I:b9} {μ:Mu} {B:List Value} (r:cw I μ [] B):B=[]:=by
 have:=r.1;grind
theorem cw.append {I:b9} {μ:Mu} {xs ys:List V} {B vs:List Value} (h:cw I μ xs B) (D:cw I μ ys vs):cw I μ (xs++ys) (B++vs):=by
 induction xs generalizing B with
 | nil=>rw[cw.uI h];exact D
 | cons x xs u=>
  obtain⟨v,B,rfl,hv,hr⟩:=h.cons_inv;exact .cons hv (u hr)
theorem cw.mono {I I':b9} {μ μ':Mu} (h:b9.le I I') (B:Mu.le μ μ') {xs:List V} {vs:List Value} (r:cw I μ xs vs):cw I' μ' xs vs:=
 ⟨r.1,λj a b h1 u=>(r.2 j a b h1 u).mono h B⟩
theorem cw.take {I:b9} {μ:Mu} {xs:List V} {vs:List Value} (r:cw I μ xs vs) (n:Nat):cw I μ (xs.take n) (vs.take n):=by
 refine⟨by simp[r.1],λj a b h1 u=>?_⟩
 rw[List.getElem?_take]at h1 u;split at h1 <;> simp_all;exact r.2 j a b h1 u
theorem cw.drop {I:b9} {μ:Mu} {xs:List V} {vs:List Value} (r:cw I μ xs vs) (n:Nat):cw I μ (xs.drop n) (vs.drop n):=by
 refine⟨by simp[r.1],λj a b h1 u=>?_⟩
 rw[List.getElem?_drop]at h1 u;exact r.2 _ a b h1 u
theorem bz.cells {I:b9} {μ:Mu} {x:V} {v:Value} (r:bz I μ x v):cw I μ x.cells v.cells.toList:=by
 cases r with
 | c x v h=>
  cases h with
  | agg cs B w h=>exact⟨by simpa [V.cells,Value.cells]using w,λj a b h1 z=>.c _ _ (h j a b h1 (by simpa [Value.cells]using z))⟩
  | bool b=>exact .cons (.c _ _ (.bool b)) .nil
  | int k n=>exact .cons (.c _ _ (.int k n)) .nil
  | str s=>exact .cons (.c _ _ (.str s)) .nil
  | dm a=>exact .cons (.c _ _ (.dm a)) .nil
  | bE=>exact .cons (.c _ _ .bE) .nil
  | fsl0 es a cap=>exact .cons (.c _ _ (.fsl0 es a cap)) .nil
  | fsl es O b o cap c C hc hu Q D hr=>exact .cons (.c _ _ (.fsl es O b o cap c C hc hu Q D hr)) .nil
  | gF=>exact .cons (.c _ _ .gF) .nil
  | fptr cs b o c C D hr=>exact .cons (.c _ _ (.fptr cs b o c C D hr)) .nil
  | clo f x y u v G J h1 z=>exact .cons (.c _ _ (.clo f x y u v G J h1 z)) .nil
  | fR=>exact .cons (.c _ _ .fR) .nil
  | qJ=>exact .cons (.c _ _ .qJ) .nil
  | fmap L b es C w hk hv=>exact .cons (.c _ _ (.fmap L b es C w hk hv)) .nil
  | tup cs B w h=>exact .cons (.c _ _ (.tup cs B w h)) .nil
 | hsl id off len cap p A hc D=>exact .cons (.hsl id off len cap p A hc D) .nil
 | hsl0 id es off a=>exact .cons (.hsl0 id es off a) .nil
 | hptr id el off p A=>exact .cons (.hptr id el off p A) .nil
 | yld id p A=>exact .cons (.yld id p A) .nil
 | hmap id p A=>exact .cons (.hmap id p A) .nil
 | clo f x y u v G J h1 z=>exact .cons (.clo f x y u v G J h1 z) .nil
 | agg cs B w h=>exact⟨by simpa [V.cells,Value.cells]using w,λj a b h1 z=>h j a b h1 (by simpa [Value.cells]using z)⟩
 | tup cs B w h=>exact .cons (.tup cs B w h) .nil
theorem bz.Es {I:b9} {μ:Mu} {cs:List V} {vs:Array Value} (h:cw I μ cs vs.toList):bz I μ (.agg cs) (.agg vs):=
 .agg cs vs (by simpa using h.1) λj a b h1 u=>h.2 j a b h1 (by grind)
theorem bz.PX {I:b9} {μ:Mu} {cs:List V} {vs:Array Value} (h:cw I μ cs vs.toList):bz I μ (.tup cs) (.tuple vs):=
 .tup cs vs (by simpa using h.1) λj a b h1 u=>h.2 j a b h1 (by grind)
section inv
variable {I:b9} {μ:Mu}
theorem bz.qu {b:Bool} {v:Value} (h:bz I μ (.bool b) v):v=.bool b:=by cases h with|c _ _ h=>cases h;rfl
theorem bz.eU {k:IntKind} {n:Int} {v:Value} (h:bz I μ (.int k n) v):v=.int k n:=by cases h with|c _ _ h=>cases h;rfl
theorem bz.rV {s:ByteArray} {v:Value} (h:bz I μ (.str s) v):v=.string s:=by cases h with|c _ _ h=>cases h;rfl
theorem bz.qK {v:Value} (h:bz I μ .dm v):∃a,v=.slice a 0 0:=by cases h with|c _ _ h=>cases h;grind
theorem bz.kY {es:Nat} {xs:List (List V)} {v:Value} (h:bz I μ (.fsl es xs) v):dW I (.fsl es xs) v:=by cases h with|c _ _ h=>omega
theorem bz.k_ {cs:List V} {v:Value} (h:bz I μ (.fptr cs) v):∃b o c,v=.pointer (some ⟨b,o,none⟩)/\I b=some (.cells c)/\o+cs.length<=c.size /\
 (∀(j:Nat) y u,cs[j]? = some y->c[o+j]? = some u->dW I y u):=by
 cases h with|c _ _ h=>cases h with|fptr cs b o c w z hr=>grind
theorem bz.kV {v:Value} (h:bz I μ .bE v):v=.slice none 0 0:=by cases h with|c _ _ h=>cases h;rfl
theorem bz.Nh {v:Value} (h:bz I μ .fR v):v=.map none:=by cases h with|c _ _ h=>cases h;rfl
theorem bz.sG {id el off:Nat} {v:Value} (h:bz I μ (.hptr id el off) v):∃p,μ id=some p/\v=.pointer (some ⟨p.b,p.o+el*p.es+off,none⟩):=by
 cases h with
 | c _ _ h=>cases h
 | hptr _ _ _ p u=>grind
theorem bz.QE {id:Nat} {v:Value} (h:bz I μ (.yld id) v):∃p,μ id=some p/\v=.func (.yield p.b) #[] #[]:=by
 cases h with
 | c _ _ h=>cases h
 | yld _ p u=>grind
theorem bz.A_ {id:Nat} {v:Value} (h:bz I μ (.hmap id) v):∃p,μ id=some p/\v=.map (some p.b):=by
 cases h with
 | c _ _ h=>cases h
 | hmap _ p u=>grind
theorem bz.kT {id es off len:Nat} {v:Value} (h:bz I μ (.hsl id es off len) v) :
 (∃p cap,μ id=some p/\p.es=es/\len<=cap/\p.o+(off+cap)*es<=p.sz/\v=.slice (some ⟨p.b,p.o+off*es,none⟩) len cap)\/(len=0/\∃a,v=.slice (some a) 0 0):=by
 cases h with
 | c _ _ h=>cases h
 | hsl _ _ _ cap p u hc w=>simp_all
 | hsl0 _ _ _ a=>grind
theorem bz.gT {cs:List V} {v:Value} (h:bz I μ (.agg cs) v):∃vs,v=.agg vs/\cw I μ cs vs.toList:=by
 cases h with
 | c _ _ h=>cases h with|agg _ vs u h=>exact⟨vs,rfl,by grind,λj a b h1 w=>.c _ _ (h j a b h1 (by grind))⟩
 | agg _ vs u h=>exact⟨vs,rfl,by grind,λj a b h1 w=>h j a b h1 (by grind)⟩
theorem bz.oR {cs:List V} {v:Value} (h:bz I μ (.tup cs) v):∃vs,v=.tuple vs/\cw I μ cs vs.toList:=by
 cases h with
 | c _ _ h=>cases h with|tup _ vs u h=>exact⟨vs,rfl,by grind,λj a b h1 w=>.c _ _ (h j a b h1 (by grind))⟩
 | tup _ vs u h=>exact⟨vs,rfl,by grind,λj a b h1 w=>h j a b h1 (by grind)⟩
theorem bz.jv {f:FuncId} {x y:List V} {v:Value} (h:bz I μ (.clo f x y) v):∃a b,v=.func (.func f) a b/\cw I μ x a.toList/\cw I μ y b.toList:=by
 cases h with
 | c _ _ h=>cases h with
  | clo _ _ _ u v z A h1 w=>exact⟨u,v,rfl,⟨by grind,λj a b p q=>.c _ _ (h1 j a b p (by grind))⟩,⟨by grind,λj a b p q=>.c _ _ (w j a b p (by grind))⟩⟩
 | clo _ _ _ u v z A h1 w=>exact⟨u,v,rfl,⟨by grind,λj a b p q=>h1 j a b p (by grind)⟩,⟨by grind,λj a b p q=>w j a b p (by grind)⟩⟩
theorem bz.of_bool {x:V} {b:Bool} (h:bz I μ x (.bool b)):x=.bool b:=by
 cases h with|c _ _ h=>cases h;rfl
end inv
def sS (I:b9):Prop:=∀g cs,bN.gl g=some cs->dW I (.fptr cs) (.pointer (some ⟨g,0,none⟩))
theorem sS.mono {I I':b9} (h:b9.le I I') (r:sS I):sS I':=λg cs hg=>(r g cs hg).mono h
structure dP (I:b9) (μ:Mu) (n:Nat) (F:Frame) (tmps:Array Value):Prop where
 size:tmps.size=n
 rel:∀t,bz I μ (get F t) (tmps.getD t undef)
 gl:sS I
theorem bz.undef (I:b9) (μ:Mu):bz I μ .undef Go.undef:=.c _ _ (.tup [] #[] rfl (by simp))
theorem dP.mono {I I':b9} {μ μ':Mu} {n:Nat} {F:Frame} {tmps:Array Value} (h:b9.le I I') (B:Mu.le μ μ') (r:dP I μ n F tmps):dP I' μ' n F tmps:=
 ⟨r.1,λt=>(r.2 t).mono h B,r.gl.mono h⟩
theorem dP.put {I:b9} {μ:Mu} {n:Nat} {F F':Frame} {a:Act} {dst:Option Nat} {x:V} {v:Value} (r:dP I μ n F a.tmps) (h:bz I μ x v)
 (hp:jg n F dst x=some F'):dP I μ n F' (a.put dst v).tmps:=by
 cases dst with
 | none=>simp[jg]at hp;subst hp;exact r
 | some d=>
  simp only[jg]at hp;split at hp
  .simp  at hp;subst hp;refine⟨by simp[Act.put,r.1],λt=>?_,r.gl⟩
   by_cases u:d=t
   .subst u;have:d<a.tmps.size:=by rw[r.1];omega
    simpa [Act.put,Array.getD_eq_getD_getElem?,Array.getElem?_setIfInBounds,this]using h
   .have:=r.2 t;rw[gC _ _ u];simpa [Act.put,Array.getD_eq_getD_getElem?,Array.getElem?_setIfInBounds,u]using this
  grind
theorem AH {I:b9}:∀(n:Nat) (v:Value) (x:V),ofValue n v=some x->dW I x v:=by
 intro n
 induction n with
 | zero=>intro v x h;simp[ofValue]at h
 | succ n A=>
  intro v x h;unfold ofValue at h;split at h <;> (try (simp  at h;subst h;constructor)) <;> (try grind)
  simp  at h;obtain⟨B,w,rfl⟩:=h;have key:∀(l:List Value) (u:List V),l.mapM (ofValue n)=some u->u.length=l.length/\∀(j:Nat) a b,u[j]? = some a->l[j]? = some b->dW I a b:=by
   intro l
   induction l with
   | nil=>grind
   | cons v l z=>
    intro u h;simp[ζg]at h
    grind
  obtain⟨C,hr⟩:=key _ _ w;exact .agg _ _ (by grind) λj a b h1 D=>hr j a b h1 (by grind)
theorem c8 {I:b9} {μ:Mu} {n:Nat} {F:Frame} {a:Act} (r:dP I μ n F a.tmps) {o:Operand} {x:V} (h:ev F o=some x):bz I μ x (a.eval o):=by
 cases o with
 | tmp t=>simp[ev]at h;subst h;exact r.2 t
 | const v=>exact .c _ _ (AH 4 _ _ h)
 | func f=>simp[ev]at h;subst h;exact .c _ _ (.clo f [] [] #[] #[] rfl rfl (by simp) (by simp))
 | global g=>
  obtain⟨cs,h1,rfl⟩:=ζf.1 h;exact .c _ _ (r.gl g cs h1)
theorem mE {I:b9} {μ:Mu} {n:Nat} {F:Frame} {a:Act} (r:dP I μ n F a.tmps):∀{l:List Operand} {xs:List V},eP F l=some xs->cw I μ xs (l.map a.eval):=by
 intro l
 induction l with
 | nil=>intro xs h;simp[eP]at h;subst h;exact .nil
 | cons o l u=>
  intro xs h;simp[eP]at h;split at h
  .rename_i v z h1 w;simp  at h;subst h;exact .cons (c8 r h1) (u w)
  grind
theorem J9 {I:b9} {μ:Mu} {n:Nat} {F:Frame} {a:Act} (r:dP I μ n F a.tmps):∀{l:List (Nat×Operand)} {xs:List (Nat×V)},lq F l=some xs ->
 xs.length=l.length/\∀(j:Nat) x y,xs[j]? = some x->l[j]? = some y->x.1=y.1/\bz I μ x.2 (a.eval y.2):=by
 intro l
 induction l with
 | nil=>intro xs h;simp[lq]at h;grind
 | cons o l z=>
  intro xs h;simp[lq]at h;split at h
  .rename_i v C h1 A;simp  at h;subst h;obtain⟨B,hr⟩:=z A;refine⟨by simp[B],λj x y u w=>?_⟩
   cases j with
   | zero=>simp at u w;subst u;subst w;exact⟨rfl,c8 r h1⟩
   | succ j=>grind
  grind
end Go.VE
namespace Go.VE
variable [bN]
def lu:TypeDesc->TK
 | .bool=>.bool
 | .int k=>.int k
 | .string=>.str
 | .pointer e=>.ptr e
 | .slice e=>.slice e
 | .struct fs=>.struct (fs.toList.map λf=>(f.offset,f.type))
 | .array n e=>.array n e
 | .map k e=>.map k e
 | _=>.other
def BU:Value->Bool
 | .agg _=>true
 | _=>false
def uN (P:Program) (t:TypeId):Option TD:=
 match P.info? t,P.underlying t with
 | some i,some d=>match i.zero with
  | some z=>match z.cells.toList.mapM (ofValue 4)with
   | some cs=>if cs.length=i.size/\cs.all V.one=true/\BU z=(TD.mk i.size i.bytes cs (lu d)).agg then some ⟨i.size,i.bytes,cs,lu d⟩else none
   | none=>none
  | none=>none
 | _,_=>none
def ic (a:List Int):Array Value:=(a.map (Value.int .i64)).toArray
structure uW (P:Program) (t:TypeId) (n:Nat):Prop where
 eq:∀(w:World) (x y:Operand) (a b:List Int),a.length=n->b.length=n ->
  (do eqGuard .eql t x y (.agg (ic a)) (.agg (ic b));binOp .eql t (.agg (ic a)) (.agg (ic b))).run P w=.ok (.bool (a==b)) w
 ne:∀(w:World) (x y:Operand) (a b:List Int),a.length=n->b.length=n ->
  (do eqGuard .neq t x y (.agg (ic a)) (.agg (ic b));binOp .neq t (.agg (ic a)) (.agg (ic b))).run P w=.ok (.bool !(a==b)) w
 key:∀(w:World) (a b:List Int),a.length=n->b.length=n->(Op.equal t (.agg (ic a)) (.agg (ic b))).run P w=.ok (a==b) w
 check:∀(w:World) (e:Bool) (a:List Int),a.length=n->(Instr.checkKey e 10000 t (.agg (ic a))).run P w=.ok () w
 kind:∃d,P.underlying t=some d/\((∃n e,d=.array n e)\/(∃fs,d=.struct fs))
structure dX (P:Program) (E:Env):Prop where
 tt:∀t d,E.tt t=some d->uN P t=some d
 ft:∀f fi,E.ft f=some fi->∃fn,P.funcs[f]? = some fn/\fn.body=some fi.body/\fn.ntmps=fi.ntmps/\fn.results.toList=fi.results/\(fn.name == "runtime.NumGoroutine")=false
 eqN:∀t n,E.eqN t=some n->uW P t n
structure oL (P:Program) (t:TypeId) (d:TD):Prop where
 info:∃i z,P.info? t=some i/\i.size=d.size/\i.bytes=d.bytes/\i.zero=some z/\(∀I μ,cw I μ d.zero z.cells.toList)/\d.zero.length=d.size/\d.zero.all V.one=true/\BU z=d.agg
 und:∃desc,P.underlying t=some desc/\lu desc=d.kind
theorem N6 {I:b9} {μ:Mu}:∀(l:List Value) (ys:List V),l.mapM (ofValue 4)=some ys->cw I μ ys l:=by
 intro l
 induction l with
 | nil=>intro ys h;simp at h;subst h;exact .nil
 | cons v l u=>
  intro ys h;simp only[List.mapM_cons,Option.pure_def,Option.bind_eq_bind,ζg,ζa]at h;obtain⟨y,w,z,A,rfl⟩:=h;exact .cons (.c _ _ (AH 4 _ _ w)) (u z A)
theorem dX.ty {P:Program} {E:Env} (h:dX P E) {t:TypeId} {d:TD} (B:E.tt t=some d):oL P t d:=by
 have:=h.tt t d B;unfold uN at this;split at this
 .rename_i i desc hi hd;split at this
  .rename_i z u;split at this
   .rename_i cs hc;split at this
    .rename_i w;simp only[ζa]at this;subst this;exact⟨⟨i,z,hi,rfl,rfl,u,λI μ=>N6 _ _ hc,w⟩,⟨desc,hd,rfl⟩⟩
    .simp at this
   .simp at this
  .simp at this
 .simp at this
section runs
variable {P:Program} {w:World} {t:TypeId} {d:TD}
theorem dA {desc:TypeDesc} (h:P.underlying t=some desc):(underlying t).run P w=.ok desc w:=by simp[underlying,h]
theorem nG {i:TypeInfo} (h:P.info? t=some i):(typeInfo t).run P w=.ok i w:=by simp[typeInfo,h]
theorem oL.jE (h:oL P t d):(sizeOf t).run P w=.ok d.size w:=by
 obtain⟨i,z,hi,u,_⟩:=h.info;simp[sizeOf,nG hi,u]
theorem oL.dA (h:oL P t d):∃desc,P.underlying t=some desc/\lu desc=d.kind/\∀w,(underlying t).run P w=.ok desc w:=by
 obtain⟨desc,h1,u⟩:=h.und;exact⟨desc,h1,u,λw=>VE.dA h1⟩
theorem oL.I6 (h:oL P t d):(isAgg t).run P w=.ok d.agg w:=by
 obtain⟨desc,h1,u⟩:=h.und;unfold isAgg;simp only[Sem.run_bind,VE.dA h1,Result.andThen_ok];cases desc <;> simp[TD.agg,<-u,lu]
theorem oL.Bx (h:oL P t d):∃z,(∀w,(zeroValue t).run P w=.ok z w)/\(∀I μ,cw I μ d.zero z.cells.toList)/\d.zero.length=d.size/\d.zero.all V.one=true:=by
 obtain⟨i,z,hi,_,_,u,hr,A,h1,_⟩:=h.info;exact⟨z,λw=>by simp[zeroValue,nG hi,u],hr,A,h1⟩
end runs
theorem oL.Rn {P:Program} {t:TypeId} {d:TD} (h:oL P t d):∃z,(∀w,(zeroValue t).run P w=.ok z w)/\∀I μ x,VE.mk d.agg d.zero=some x->bz I μ x z:=by
 obtain⟨i,z,hi,_,_,C,hr,D,h1,u⟩:=h.info;refine⟨z,λw=>by simp[zeroValue,nG hi,C],λI μ x B=>?_⟩
 have A:=hr I μ
 cases hd:d.agg with
 | true=>
  rw[hd]at B u;cases z <;> simp[BU]at u;simp only[VE.mk,if_true,ζa]at B;subst B;exact .Es (by simpa [Value.cells]using A)
 | false=>
  rw[hd]at B u;simp only[VE.mk,Bool.false_eq_true,if_false]at B;split at B
  .rename_i v hv;simp only[ζa]at B;subst B;rw[hv]at A;have e:z.cells.toList=[z]:=by cases z <;> first|rfl|simp[BU]at u
   rw[e]at A;exact A.2 0 _ _ rfl rfl
  .simp at B
theorem eV {E:Env} {t:TypeId} {k:TK} (h:E.kindOf t=some k):∃d,E.tt t=some d/\d.kind=k:=by
 unfold Env.kindOf at h;simpa [ζf]using h
theorem Bz {d:TypeDesc} {k:IntKind} (h:lu d=.int k):d=.int k:=by cases d <;> simp_all [lu]
theorem HX {d:TypeDesc} (h:lu d=.bool):d=.bool:=by cases d <;> simp_all [lu]
theorem zJ {d:TypeDesc} (h:lu d=.str):d=.string:=by cases d <;> simp_all [lu]
theorem iJ {d:TypeDesc} {e:TypeId} (h:lu d=.slice e):d=.slice e:=by cases d <;> simp_all [lu]
theorem Bg {d:TypeDesc} {n:Nat} {e:TypeId} (h:lu d=.array n e):d=.array n e:=by cases d <;> simp_all [lu]
theorem yS {d:TypeDesc} {k e:TypeId} (h:lu d=.map k e):d=.map k e:=by cases d <;> simp_all [lu]
theorem yF {d:TypeDesc} {fs:List (Nat×TypeId)} (h:lu d=.struct fs):∃B,d=.struct B/\fs=B.toList.map λf=>(f.offset,f.type):=by
 cases d <;> simp_all [lu]
theorem zW {I:b9} {μ:Mu} {cs r:List V} {vs:List Value} {off n:Nat} (h:cw I μ cs vs) (hc:cut cs off n=some r) :
 cw I μ r ((vs.drop off).take n)/\r.length=n/\off+n<=cs.length\/(n=0/\r=[]):=by
 unfold cut at hc;simp only at hc;split at hc
 .rename_i u;simp only[ζa]at hc;subst hc
  by_cases w:n=0
  .right;subst w;simp
  .left;refine⟨(h.drop off).take n,u,?_⟩;simp at u;omega
 .simp at hc
theorem K5 {I:b9} {μ:Mu} {cs:List V} {x:V} {vs:Array Value} (h:mk true cs=some x) (r:cw I μ cs vs.toList):bz I μ x (.agg vs):=by
 simp only[mk,if_true,ζa]at h;subst h;exact .Es r
theorem mk_one {I:b9} {μ:Mu} {cs:List V} {x:V} {vs:List Value} (h:mk false cs=some x) (r:cw I μ cs vs):∃v,vs=[v]/\bz I μ x v:=by
 simp only[mk,Bool.false_eq_true,if_false]at h;split at h
 .simp only[ζa]at h;subst h;obtain⟨v,u,rfl,hv,hr⟩:=r.cons_inv;exact⟨v,by rw[hr.uI],hv⟩
 .simp at h
theorem FQ {P:Program} {w:World} {I:b9} {μ:Mu} {t:TypeId} {d:TD} {cs r:List V} {vs:Array Value} {x:V} {off:Nat} (D:oL P t d) (h:cw I μ cs vs.toList)
 (hc:cut cs off d.size=some r) (B:mk d.agg r=some x):∃u,(part t vs off).run P w=.ok u w/\bz I μ x u:=by
 unfold part;simp only[Sem.run_bind,D.I6,Result.andThen_ok]
 cases z:d.agg with
 | true=>
  rw[z]at B;refine⟨.agg (vs.extract off (off+d.size)),by simp[D.jE],?_⟩
  refine K5 B ?_;have e:(vs.extract off (off+d.size)).toList=(vs.toList.drop off).take d.size:=by simp
  rw[e];rcases zW h hc with⟨a,_⟩|⟨A,rfl⟩
  .exact a
  .rw[A];exact .nil
 | false=>
  rw[z]at B;rcases zW h hc with⟨a,G,_⟩|⟨A,rfl⟩
  .obtain⟨v,hv,C⟩:=mk_one B a;refine⟨v,?_,C⟩;have hd:d.size=1:=by
    have:=a.1;rw[hv]at this;simp at this;omega
   rw[hd]at hv;have:vs[off]? = some v:=by
    have:=congrArg (·[0]?) hv;simpa [List.getElem?_take,List.getElem?_drop]using this
   simp[this]
  .simp[mk]at B
theorem Ja {I:b9} {μ:Mu}:∀(az:List V) (a:List Int) (B:List Value),gJ az=some a->cw I μ az B->B=a.map (Value.int .i64)/\a.length=az.length:=by
 intro az
 induction az with
 | nil=>intro a B h u;simp only[gJ,ζa]at h;subst h;rw[u.uI];simp
 | cons x az w=>
  intro a B h u;obtain⟨v,B,rfl,hv,hr⟩:=u.cons_inv;have z:∃y,x=.int .i64 y:=by
   cases x with
   | int k y=>cases k <;> simp[gJ]at h ⊢
   | _=>simp[gJ]at h
  obtain⟨y,rfl⟩:=z;simp only[gJ,ζf]at h;obtain⟨b,A,rfl⟩:=h;obtain⟨g1,g2⟩:=w _ _ A hr;have:=hv.eU;subst this;exact⟨by simp[g1],by simp[g2]⟩
theorem oZ {I:b9} {μ:Mu} {az:List V} {a:List Int} {B:Array Value} (h:gJ az=some a) (D:cw I μ az B.toList):B=ic a/\a.length=az.length:=by
 obtain⟨h1,u⟩:=Ja _ _ _ h D;refine⟨?_,u⟩;have:=congrArg List.toArray h1;simpa [ic]using this
theorem we {az B:List V} {r:Bool} (h:jY az B=some r):∃a b,gJ az=some a/\gJ B=some b/\a.length=b.length/\r=(a==b):=by
 unfold jY at h;split at h
 .rename_i a b h1 u;split at h
  .rename_i w;simp only[ζa]at h;exact⟨a,b,h1,u,w,h.symm⟩
  .simp at h
 .simp at h
end Go.VE
namespace Go.VE
variable [bN]
section
variable {P:Program} {E:Env} {I:b9} {μ:Mu} {n:Nat} {F:Frame} {a:Act} {w:World}
theorem K9 (f:BinOp) (t:TypeId) (p q:Operand) (k B:IntKind) (m m':Int):(eqGuard f t p q (.int k m) (.int B m')).run P w=.ok () w:=by
 unfold eqGuard;cases f <;> simp
theorem LY (f:BinOp) (t:TypeId) (p q:Operand) (s B:ByteArray):(eqGuard f t p q (.string s) (.string B)).run P w=.ok () w:=by
 unfold eqGuard;cases f <;> simp
theorem IY (f:BinOp) (t:TypeId) (p q:Operand) (s B:Bool):(eqGuard f t p q (.bool s) (.bool B)).run P w=.ok () w:=by
 unfold eqGuard;cases f <;> simp
theorem Fv (d:Nat) {t:TypeId} (x y:Bool) (h:P.underlying t=some .bool):(Op.equalIn (d+1) t (.bool x) (.bool y)).run P w=.ok (x==y) w:=by
 simp only[Op.equalIn,Sem.run_bind,dA h,Result.andThen_ok,Sem.run_pure]
theorem BO {t:TypeId} (x y:Bool) (h:P.underlying t=some .bool):(Op.equal t (.bool x) (.bool y)).run P w=.ok (x==y) w:=
 Fv 9999 x y h
theorem As (d:Nat) {t:TypeId} {k:IntKind} (x y:Int) (h:P.underlying t=some (.int k)):(Op.equalIn (d+1) t (.int k x) (.int k y)).run P w=.ok (x==y) w:=by
 simp only[Op.equalIn,Sem.run_bind,dA h,Result.andThen_ok,Sem.run_pure,if_true]
theorem En (d:Nat) {t e:TypeId} (B:Option Addr) (l c:Nat) (h:P.underlying t=some (.slice e)):(Op.equalIn (d+1) t (.slice B l c) (.slice none 0 0)).run P w=.ok B.isNone w:=by
 cases B <;> simp only[Op.equalIn,Sem.run_bind,dA h,Result.andThen_ok,Sem.run_pure] <;> rfl
theorem HQ (d:Nat) {t e:TypeId} (B:Option Addr) (h:P.underlying t=some (.pointer e)):(Op.equalIn (d+1) t (.pointer B) (.pointer none)).run P w=.ok B.isNone w:=by
 cases B <;> simp only[Op.equalIn,Sem.run_bind,dA h,Result.andThen_ok,Sem.run_pure] <;> rfl
theorem Hg (d:Nat) {t e D:TypeId} (B:Option Nat) (h:P.underlying t=some (.map e D)):(Op.equalIn (d+1) t (.map B) (.map none)).run P w=.ok B.isNone w:=by
 cases B <;> simp only[Op.equalIn,Sem.run_bind,dA h,Result.andThen_ok,Sem.run_pure] <;> rfl
theorem D3 (T:dX P E) {t:TypeId} {k:TK} {x y:V} {u v:Value} {b:Bool} (hk:E.kindOf t=some k) (h:tB k x y=some b) (B:bz I μ x u) (D:bz I μ y v) :
 (Op.equal t u v).run P w=.ok b w/\(∀op p q,(eqGuard op t p q u v).run P w=.ok () w)/\binOp .eql t u v=(do pure (.bool (<-Op.equal t u v)))/\binOp .neq t u v=(do pure (.bool (!(<-Op.equal t u v)))):=by
 obtain⟨d,hd,L⟩:=eV hk;obtain⟨desc,h1,A,_⟩:=(T.ty hd).dA;rw[L]at A;have hsl:∀(e:TypeId) (z:Option Addr) (l c:Nat),P.underlying t=some (.slice e)->b=z.isNone ->
  (Op.equal t (.slice z l c) (.slice none 0 0)).run P w=.ok b w/\(∀op p q,(eqGuard op t p q (.slice z l c) (.slice none 0 0)).run P w=.ok () w)/\binOp .eql t (.slice z l c) (.slice none 0 0)=(do pure (.bool (<-Op.equal t (.slice z l c) (.slice none 0 0))))/\binOp .neq t (.slice z l c) (.slice none 0 0)=(do pure (.bool (!(<-Op.equal t (.slice z l c) (.slice none 0 0))))):=by
  intro e z l c hu J;refine⟨?_,λop p q=>by unfold eqGuard;cases op <;> simp,rfl,rfl⟩
  rw[J];exact En 9999 z l c hu
 have C:∀(e:TypeId) (z:Option Addr),P.underlying t=some (.pointer e)->b=z.isNone ->
  (Op.equal t (.pointer z) (.pointer none)).run P w=.ok b w/\(∀op p q,(eqGuard op t p q (.pointer z) (.pointer none)).run P w=.ok () w)/\binOp .eql t (.pointer z) (.pointer none)=(do pure (.bool (<-Op.equal t (.pointer z) (.pointer none))))/\binOp .neq t (.pointer z) (.pointer none)=(do pure (.bool (!(<-Op.equal t (.pointer z) (.pointer none))))):=by
  intro e z hu J;refine⟨?_,λop p q=>by unfold eqGuard;cases op <;> simp,rfl,rfl⟩
  rw[J];exact HQ 9999 z hu
 have G:∀(e Q:TypeId) (z:Option Nat),P.underlying t=some (.map e Q)->b=z.isNone ->
  (Op.equal t (.map z) (.map none)).run P w=.ok b w/\(∀op p q,(eqGuard op t p q (.map z) (.map none)).run P w=.ok () w)/\binOp .eql t (.map z) (.map none)=(do pure (.bool (<-Op.equal t (.map z) (.map none))))/\binOp .neq t (.map z) (.map none)=(do pure (.bool (!(<-Op.equal t (.map z) (.map none))))):=by
  intro e Q z hu J;refine⟨?_,λop p q=>by unfold eqGuard;cases op <;> simp,rfl,rfl⟩
  rw[J];exact Hg 9999 z hu
 unfold tB at h;split at h <;> (try (simp only[ζa]at h;subst h))
 .have:=iJ A;subst this;rw[B.kV,D.kV];exact hsl _ none 0 0 h1 rfl
 .have:=iJ A;subst this;rw[D.kV];have S:=B.kY
  cases S with
  | fsl0 _ z cap=>exact hsl _ _ _ _ h1 rfl
  | fsl=>exact hsl _ _ _ _ h1 rfl
 .have:=iJ A;subst this;rw[D.kV];rcases B.kT with⟨p,cap,_,_,_,_,O⟩|⟨_,z,O⟩
  .rw[O];exact hsl _ _ _ _ h1 rfl
  .rw[O];exact hsl _ _ _ _ h1 rfl
 .obtain⟨e,rfl⟩:∃e,desc=.pointer e:=by cases desc <;> simp_all [lu]
  cases B with|c _ _ B=>cases B;cases D with|c _ _ D=>cases D;exact C _ none h1 rfl
 .obtain⟨e,rfl⟩:∃e,desc=.pointer e:=by cases desc <;> simp_all [lu]
  cases D with|c _ _ D=>cases D;cases B with|c _ _ B=>cases B;exact C _ _ h1 rfl
 .obtain⟨e,rfl⟩:∃e,desc=.pointer e:=by cases desc <;> simp_all [lu]
  cases D with
  | c _ _ D=>
   cases D
   cases B with
   | c _ _ B=>cases B
   | hptr=>exact C _ _ h1 rfl
 .have:=yS A;subst this;cases B with|c _ _ B=>cases B;cases D with|c _ _ D=>cases D;exact G _ _ none h1 rfl
 .have:=yS A;subst this;cases D with|c _ _ D=>cases D;cases B with|c _ _ B=>cases B;exact G _ _ _ h1 rfl
 .have:=yS A;subst this
  cases D with
  | c _ _ D=>
   cases D
   cases B with
   | c _ _ B=>cases B
   | hmap=>exact G _ _ _ h1 rfl
 .cases h
theorem Q9 (G:dX P E) {op:BinOp} {t:TypeId} {x y z:V} {u v:Value} (p q:Operand) (h:Gz E op t x y=some z) (J:bz I μ x u) (T:bz I μ y v) :
 ∃r,(do eqGuard op t p q u v;binOp op t u v).run P w=.ok r w/\bz I μ z r:=by
 unfold Gz at h;split at h
 .
  rename_i k m Z m';rw[J.eU,T.eU];simp only[Sem.run_bind,K9,Result.andThen_ok];split at h
  .
   split at h
   .simp at h
   .rename_i A;simp only[ζa]at h;subst h;exact⟨_,by simp[binOp,Op.shift,A],.c _ _ (.int _ _)⟩
  .split at h
   .simp at h
   .rename_i A;simp only[ζa]at h;subst h;exact⟨_,by simp[binOp,Op.shift,A],.c _ _ (.int _ _)⟩
  .split at h
   .rename_i S U hk;subst hk
    cases op with
    | shl=>exact absurd rfl S
    | shr=>exact absurd rfl U
    | add=>simp only[ζa]at h;subst h;exact⟨_,by simp[binOp,Op.intArith],.c _ _ (.int _ _)⟩
    | sub=>simp only[ζa]at h;subst h;exact⟨_,by simp[binOp,Op.intArith],.c _ _ (.int _ _)⟩
    | mul=>simp only[ζa]at h;subst h;exact⟨_,by simp[binOp,Op.intArith],.c _ _ (.int _ _)⟩
    | quo=>
     simp only at h;split at h
     .simp at h
     .rename_i A;simp only[ζa]at h;subst h;exact⟨_,by simp[binOp,Op.intDiv,A],.c _ _ (.int _ _)⟩
    | rem=>
     simp only at h;split at h
     .simp at h
     .rename_i A;simp only[ζa]at h;subst h;exact⟨_,by simp[binOp,Op.intDiv,A],.c _ _ (.int _ _)⟩
    | and=>simp only[ζa]at h;subst h;exact⟨_,by simp[binOp,Op.intBits],.c _ _ (.int _ _)⟩
    | or=>simp only[ζa]at h;subst h;exact⟨_,by simp[binOp,Op.intBits],.c _ _ (.int _ _)⟩
    | xor=>simp only[ζa]at h;subst h;exact⟨_,by simp[binOp,Op.intBits],.c _ _ (.int _ _)⟩
    | andNot=>simp only[ζa]at h;subst h;exact⟨_,by simp[binOp,Op.intBits],.c _ _ (.int _ _)⟩
    | eql=>simp only[oI,Option.map_some,ζa]at h;subst h;exact⟨_,by simp[binOp,Op.intCmp],.c _ _ (.bool _)⟩
    | neq=>simp only[oI,Option.map_some,ζa]at h;subst h;exact⟨_,by simp[binOp,Op.intCmp],.c _ _ (.bool _)⟩
    | lss=>simp only[oI,Option.map_some,ζa]at h;subst h;exact⟨_,by simp[binOp,Op.intCmp],.c _ _ (.bool _)⟩
    | leq=>simp only[oI,Option.map_some,ζa]at h;subst h;exact⟨_,by simp[binOp,Op.intCmp],.c _ _ (.bool _)⟩
    | gtr=>simp only[oI,Option.map_some,ζa]at h;subst h;exact⟨_,by simp[binOp,Op.intCmp],.c _ _ (.bool _)⟩
    | geq=>simp only[oI,Option.map_some,ζa]at h;subst h;exact⟨_,by simp[binOp,Op.intCmp],.c _ _ (.bool _)⟩
   .simp at h
 .
  rename_i s s';rw[J.rV,T.rV];simp only[Sem.run_bind,LY,Result.andThen_ok];split at h
  .split at h
   .simp at h
   .rename_i A;simp only[ζa]at h;subst h;exact⟨_,by simp only[binOp,Op.stringOp];rw[if_neg A];rfl,.c _ _ (.str _)⟩
  all_goals first
   | (simp only[ζa]at h;subst h;exact⟨_,by simp[binOp,Op.stringOp],.c _ _ (.bool _)⟩)
   | simp at h
 .
  rename_i b b';rw[J.qu,T.qu];simp only[Sem.run_bind,IY,Result.andThen_ok];split at h
  .rename_i hk;obtain⟨d,hd,C⟩:=eV hk;obtain⟨desc,h1,B,_⟩:=(G.ty hd).dA;rw[C]at B;have:=HX B;subst this;simp only[ζa]at h;subst h;exact⟨_,by simp only[binOp,Sem.run_bind,BO _ _ h1,Result.andThen_ok,Sem.run_pure],.c _ _ (.bool _)⟩
  .rename_i hk;obtain⟨d,hd,C⟩:=eV hk;obtain⟨desc,h1,B,_⟩:=(G.ty hd).dA;rw[C]at B;have:=HX B;subst this;simp only[ζa]at h;subst h;exact⟨_,by simp only[binOp,Sem.run_bind,BO _ _ h1,Result.andThen_ok,Sem.run_pure],.c _ _ (.bool _)⟩
  .simp at h
 .
  rename_i az bs;obtain⟨va,rfl,L⟩:=J.gT;obtain⟨vb,rfl,O⟩:=T.gT;split at h
  .rename_i m D;split at h
   .rename_i Y;simp only[ζf]at h;obtain⟨r,hr,rfl⟩:=h;obtain⟨W,X,h1,B,Q,rfl⟩:=we hr;obtain⟨rfl,e1⟩:=oZ h1 L;obtain⟨rfl,e2⟩:=oZ B O;exact⟨_,(G.eqN _ _ D).eq w p q W X (by omega) (by omega),.c _ _ (.bool _)⟩
   .simp at h
  .rename_i m D;split at h
   .rename_i Y;simp only[ζf]at h;obtain⟨r,hr,rfl⟩:=h;obtain⟨W,X,h1,B,Q,rfl⟩:=we hr;obtain⟨rfl,e1⟩:=oZ h1 L;obtain⟨rfl,e2⟩:=oZ B O;exact⟨_,(G.eqN _ _ D).ne w p q W X (by omega) (by omega),.c _ _ (.bool _)⟩
   .simp at h
  .simp at h
 .
  split at h
  .rename_i k hk;simp only[ζf]at h;obtain⟨b,A,rfl⟩:=h;obtain⟨h1,B,Q,_⟩:=D3 (w:=w) G hk A J T;exact⟨.bool b,by rw[Sem.run_bind,B,Q];simp[Result.andThen,h1],.c _ _ (.bool _)⟩
  .rename_i k hk;simp only[ζf]at h;obtain⟨b,A,rfl⟩:=h;obtain⟨h1,B,_,Q⟩:=D3 (w:=w) G hk A J T;exact⟨.bool !b,by rw[Sem.run_bind,B,Q];simp[Result.andThen,h1],.c _ _ (.bool _)⟩
  .simp at h
end
end Go.VE
namespace Go.VE
variable [bN]
section
variable {P:Program} {E:Env} {I:b9} {μ:Mu} {n:Nat} {F:Frame} {a:Act} {w:World}
theorem Hr (off:Nat):∀(l:List Value) (k:Nat) (cells:Array Value),off+k+l.length<=cells.size ->
 ((l.zipIdx k).foldl (λcs (p:Value×Nat)=>cs.setIfInBounds (off+p.2) p.1) cells).toList=cells.toList.take (off+k)++l++cells.toList.drop (off+k+l.length):=by
 intro l
 induction l with
 | nil=>simp_all
 | cons v l u=>
  intro k cells h;simp  at h;simp;rw[u (k+1) _ (by simp;omega)]
  simp;rw[show off+(k+1)=off+k+1 from by omega,List.take_succ_eq_append_getElem (by grind)]
  rw[List.take_set_of_le (by omega),List.getElem_set_self]
  rw[List.drop_set_of_lt (by omega)]
  grind
theorem KI {cs xs:List V} {cells:Array Value} {v:Value} {off:Nat} (h:cw I μ cs cells.toList) (B:cw I μ xs v.cells.toList) (D:off+xs.length<=cs.length) :
 cw I μ (cs.take off++xs++cs.drop (off+xs.length)) (v.cells.zipIdx.foldl (λcs (p:Value×Nat)=>cs.setIfInBounds (off+p.2) p.1) cells).toList:=by
 have e:v.cells.zipIdx.foldl (λcs p=>cs.setIfInBounds (off+p.2) p.1) cells=(v.cells.toList.zipIdx 0).foldl (λcs p=>cs.setIfInBounds (off+p.2) p.1) cells:=by
  rw[<-Array.foldl_toList];simp
 have h1:=h.1;have u:=B.1;rw[e,Hr off _ 0 _ (by grind)]
 rw[<-u];exact((h.take off).append B).append (h.drop _)
theorem A0 {place place':Nat->Option (Nat×Nat)} (hp:∀i p,place i=some p->place' i=some p):∀(vs:List (Nat×V)) (B:List (Nat×Value)) (cs r:List V) (cells:Array Value),
 vs.length=B.length->(∀(j:Nat) x y,vs[j]? = some x->B[j]? = some y->x.1=y.1/\bz I μ x.2 y.2)->cw I μ cs cells.toList->s_ place cs vs=some r ->
 ∃D,Instr.fill place' cells B=some D/\cw I μ r D.toList:=by
 intro vs
 induction vs with
 | nil=>
  intro B cs r cells J _ hc w
  cases B with
  | nil=>simp[s_]at w;subst w;exact⟨cells,rfl,hc⟩
  | cons _ _=>simp_all
 | cons x vs O=>
  intro B cs r cells J hr hc w
  cases B with
  | nil=>simp_all
  | cons y B=>
   obtain⟨i,x⟩:=x;obtain⟨Q,y⟩:=y;obtain⟨A,z⟩:=hr 0 (i,x) (Q,y) rfl rfl;subst A;simp only at z;simp only[s_]at w;split at w
   .simp at w
   .rename_i off size C;split at w
    .simp at w
    .rename_i S;have u:=z.cells;have L:x.cells.length=y.cells.size:=by simpa using u.1
     have T:cs.length=cells.size:=by simpa using hc.1
     have G:¬(decide (y.cells.size≠size)||decide (off+y.cells.size>cells.size))=true:=by
      grind
     simp  at S;obtain⟨D,h1,U⟩:=O B _ r _ (by simpa using J) (λj a b p q=>hr (j+1) a b (by simpa using p) (by simpa using q)) (KI hc u (by omega)) w
     refine⟨D,?_,U⟩;simp only[Instr.fill,hp _ _ C];rw[if_neg G];omega
theorem L6 (ps:Array (Nat×Operand)) (f:Operand->Value):(ps.map λ(i,x)=>(i,f x)).toList=ps.toList.map λp=>(p.1,f p.2):=by simp
theorem Dx {ps:Array (Nat×Operand)} {vs:List (Nat×V)} (r:dP I μ n F a.tmps) (h:lq F ps.toList=some vs) :
 vs.length=(ps.map λ(i,x)=>(i,a.eval x)).toList.length/\∀(j:Nat) x y,vs[j]? = some x->(ps.map λ(i,x)=>(i,a.eval x)).toList[j]? = some y->x.1=y.1/\bz I μ x.2 y.2:=by
 obtain⟨u,hr⟩:=J9 r h;rw[L6]
 grind
theorem Mf (D:dX P E):∀(B:List Field) (pl:List (Nat×Nat)),lZ E (B.map λf=>(f.offset,f.type))=some pl ->
 ((B.mapM λf=>do pure (f.offset,<-sizeOf f.type)):Sem (List (Nat×Nat))).run P w=.ok pl w:=by
 intro B
 induction B with
 | nil=>intro pl h;simp[lZ]at h;simp_all
 | cons f B z=>
  intro pl h;simp[lZ]at h;split at h
  .rename_i d A hd u;simp  at h;subst h;have:=z _ u;simp only[List.mapM_cons,Sem.run_bind,(D.ty hd).jE,Result.andThen_ok,Sem.run_pure,this]
  grind
theorem Kg (D:dX P E) (B:Array Field) (pl:List (Nat×Nat)) (h:lZ E (B.toList.map λf=>(f.offset,f.type))=some pl) :
 ((B.mapM λf=>do pure (f.offset,<-sizeOf f.type)):Sem (Array (Nat×Nat))).run P w=.ok pl.toArray w:=by
 rw[Array.mapM_eq_mapM_toList];simp only[Sem.run_map,Mf D _ _ h,Result.andThen_ok]
theorem NN (B:dX P E) (r:dP I μ n F a.tmps) {t:TypeId} {ps:Array (Nat×Operand)} {x:V} (h:bG E F (.build t ps)=some x) :
 ∃v,(Instr.build t (ps.map λ(i,x)=>(i,a.eval x))).run P w=.ok v w/\bz I μ x v:=by
 simp[bG]at h;split at h
 .rename_i d O hd C;obtain⟨Q,hr⟩:=Dx r C;obtain⟨z,T,u,_⟩:=(B.ty hd).Bx;obtain⟨desc,h1,A,U⟩:=(B.ty hd).dA;unfold Instr.build;simp[Sem.run_bind,T,U,Result.andThen_ok];split at h
  .rename_i fs hk;rw[hk]at A;obtain⟨W,rfl,rfl⟩:=yF A;split at h
   .rename_i pl D;simp  at h;obtain⟨cs,G,rfl⟩:=h;obtain⟨J,g1,g2⟩:=A0 (place':=λi=>pl.toArray[i]?) (by grind) O _ d.zero cs z.cells Q hr (u I μ) G
    refine⟨.agg J,?_,.Es g2⟩;have:=Kg (w:=w) B W pl D;simp_all
   grind
  .rename_i e hk;rw[hk]at A;have:=Bg A;subst this;split at h
   .rename_i S L;simp  at h;obtain⟨cs,G,rfl⟩:=h;obtain⟨J,g1,g2⟩:=A0 (place':=λi=>some (i*S.size,S.size)) (by grind) O _ d.zero cs z.cells Q hr (u I μ) G
    refine⟨.agg J,?_,.Es g2⟩;simp[Sem.run_bind,(B.ty L).jE,Result.andThen_ok];simp_all
   grind
  grind
 grind
theorem oq (b o k:Nat):(⟨b,o,none⟩:Addr).add k=⟨b,o+k,none⟩:=by
 unfold Addr.add;grind
theorem DE {cs:List V} {b o:Nat} {c:Array Value} (k:Nat) (B:I b=some (.cells c)) (D:o+cs.length<=c.size)
 (hr:∀(j:Nat) y u,cs[j]? = some y->c[o+j]? = some u->dW I y u) (hk:k<=cs.length):bz I μ (.fptr (cs.drop k)) (.pointer (some ⟨b,o+k,none⟩)):=
 .c _ _ (.fptr _ b (o+k) c B (by simp;omega) λj y u h1 w=>hr (k+j) y u (by grind) (by grind))
theorem JW (J:dX P E) (r:dP I μ n F a.tmps) {s:TypeId} {o:Operand} {f:Nat} {x:V} (h:bG E F (.fieldAddr s o f)=some x) :
 ∃v,(Instr.fieldAt s (a.eval o) f).run P w=.ok v w/\bz I μ x v:=by
 simp[bG]at h;split at h
 .rename_i fs p hk Q;obtain⟨d,hd,B⟩:=eV hk;obtain⟨desc,h1,L,S⟩:=(J.ty hd).dA;rw[B]at L;obtain⟨T,rfl,rfl⟩:=yF L;have hv:=c8 r Q;split at h
  .rename_i off t O;simp  at O;obtain⟨fd,U,rfl,rfl⟩:=O;have z:T[f]? = some fd:=by grind
   split at h
   .rename_i Z C;split at h
    .simp_all
    .rename_i D;have A:∀(b u:Nat),(Instr.fieldAt s (.pointer (some ⟨b,u,none⟩)) f).run P w=.ok (.pointer (some ⟨b,u+fd.offset,none⟩)) w:=by
      intro b u;unfold Instr.fieldAt;simp[Sem.run_bind,S,Result.andThen_ok,z,Instr.sureAddr,Sem.run_pure,fieldPlace,(J.ty C).jE,if_neg D,oq]
     split at h
     .split at h
      .rename_i G;simp  at h;subst h;obtain⟨b,u,c,e,W,X,hr⟩:=hv.k_;rw[e];exact⟨_,A b u,DE _ W X hr G⟩
      grind
     .rename_i id el u;simp  at h;obtain⟨p,Y,e⟩:=hv.sG;rw[e];have:=bz.hptr (I:=I)  id el (u+fd.offset) p Y
      grind
     grind
   grind
  grind
 grind
theorem Nz (D:dX P E) (r:dP I μ n F a.tmps) {s:TypeId} {o:Operand} {f:Nat} {x:V} (h:bG E F (.field s o f)=some x) :
 ∃v,(Instr.field s (a.eval o) f).run P w=.ok v w/\bz I μ x v:=by
 simp[bG]at h;split at h
 .rename_i fs cs hk L;obtain⟨d,hd,A⟩:=eV hk;obtain⟨desc,h1,G,O⟩:=(D.ty hd).dA;rw[A]at G;obtain⟨Q,rfl,rfl⟩:=yF G;obtain⟨X,e,B⟩:=(c8 r L).gT;rw[e];split at h
  .rename_i off t J;simp  at J;obtain⟨fd,S,rfl,rfl⟩:=J;have z:Q[f]? = some fd:=by grind
   split at h
   .rename_i Y C;simp[ζg]at h;obtain⟨q,T,U⟩:=h;obtain⟨u,hu,W⟩:=FQ (w:=w) (D.ty C) B T U;refine⟨u,?_,W⟩;unfold Instr.field;simp[Sem.run_bind,O,Result.andThen_ok,z,asAgg,Sem.run_pure,hu]
   grind
  grind
 grind
theorem kN (k:IntKind) (m:Int):(asIntOf (.int k m)).run P w=.ok (k,m) w:=rfl
theorem IX (T:dX P E) (r:dP I μ n F a.tmps) {t:TypeId} {o i:Operand} {x:V} (h:bG E F (.indexAddr t o i)=some x) :
 ∃v,(Instr.indexAt t (a.eval o) (a.eval i)).run P w=.ok v w/\bz I μ x v:=by
 simp[bG]at h;split at h
 .
  rename_i e s k m hk U hi;obtain⟨d,hd,D⟩:=eV hk;obtain⟨desc,h1,O,W⟩:=(T.ty hd).dA;rw[D]at O;have:=iJ O;subst this;have hv:=c8 r U;have G:=(c8 r hi).eU;rw[G];split at h
  .rename_i S J;split at h
   .simp_all
   .have A:∀(b z len cap:Nat),m.toNat<len->(Instr.indexAt t (.slice (some ⟨b,z,none⟩) len cap) (.int k m)).run P w=.ok (.pointer (some ⟨b,z+m.toNat*S.size,none⟩)) w:=by
     intro b z len cap B;unfold Instr.indexAt;have hc:0<=m/\m<(len):=by omega
     simp[Sem.run_bind,kN,W,Result.andThen_ok,Sem.run_pure,(T.ty J).jE,Sem.run_ite,if_pos hc,oq]
    split at h
    .rename_i es X;split at h
     .rename_i C;simp only[ζf]at h;obtain⟨cs,L,rfl⟩:=h;have B:m.toNat<X.length:=(ζe.1 L).1;have hf:=hv.kY;generalize hg:a.eval o=g at hf
      cases hf with
      | fsl0=>simp_all
      | fsl _ _ b z cap c Y hc hu ho Z hr=>
       refine⟨_,A b z _ _ B,?_⟩;have Q:cs∈X:=List.mem_of_getElem? L;have ad:=hu cs Q;have aa:(m.toNat+1)*es<=X.length*es:=Nat.mul_le_mul_right _ B;rw[Nat.add_mul]at aa;rw[<-C];exact .c _ _ (.fptr cs b _ c Y (by omega) λj y u p q=>hr m.toNat j cs y u L p q)
     grind
    .rename_i id es off len;split at h
     .rename_i C;simp only[ζa]at h;obtain⟨C,B⟩:=C;rcases hv.kT with⟨p,cap,hm,he,hc,Z,e⟩|⟨h0,_⟩
      .rw[e];have:=bz.hptr (I:=I) (μ:=μ) id (off+m.toNat) 0 p hm
       grind
      omega
     grind
    grind
  grind
 .
  rename_i len e p k m hk U hi;obtain⟨d,hd,D⟩:=eV hk;obtain⟨desc,h1,O,W⟩:=(T.ty hd).dA;rw[D]at O;have:=Bg O;subst this;have hv:=c8 r U;have G:=(c8 r hi).eU;rw[G];split at h
  .rename_i S J;split at h
   .rename_i hc;have A:∀(b z:Nat),(Instr.indexAt t (.pointer (some ⟨b,z,none⟩)) (.int k m)).run P w=.ok (.pointer (some ⟨b,z+m.toNat*S.size,none⟩)) w:=by
     intro b z;unfold Instr.indexAt;simp only[Sem.run_bind,kN,W,Result.andThen_ok,Sem.run_pure,Instr.sureAddr,(T.ty J).jE,Sem.run_ite,if_pos hc,oq]
    split at h
    .split at h
     .rename_i ab;simp only[ζa]at h;subst h;obtain⟨b,z,c,e,Y,Z,hr⟩:=hv.k_;rw[e];exact⟨_,A b z,DE _ Y Z hr ab⟩
     grind
    .rename_i id el z;simp only[ζa]at h;obtain⟨p,hm,e⟩:=hv.sG;rw[e];have:=bz.hptr (I:=I) (μ:=μ) id el (z+m.toNat*S.size) p hm
     grind
    grind
   grind
  grind
 grind
end
end Go.VE
namespace Go.VE
variable [bN]
section
variable {P:Program} {E:Env} {I:b9} {μ:Mu} {n:Nat} {F:Frame} {a:Act} {w:World}
theorem O9 (D:dX P E) (r:dP I μ n F a.tmps) {t:TypeId} {o i:Operand} {x:V} (h:bG E F (.index t o i)=some x) :
 ∃v,(Instr.index t (a.eval o) (a.eval i)).run P w=.ok v w/\bz I μ x v:=by
 simp[bG]at h;split at h
 .rename_i s k m hk C hi;obtain⟨d,hd,z⟩:=eV hk;obtain⟨desc,h1,A,G⟩:=(D.ty hd).dA;rw[z]at A;have:=zJ A;subst this;rw[(c8 r hi).eU,(c8 r C).rV];split at h
  .rename_i hc;simp  at h;obtain⟨b,L,rfl⟩:=h;refine⟨.int .u8 b.toNat,?_,.c _ _ (.int _ _)⟩;unfold Instr.index;simp[Sem.run_bind,kN,G,Result.andThen_ok,if_pos hc,L,Sem.run_pure]
  grind
 .rename_i len e cs k m hk C hi;obtain⟨d,hd,z⟩:=eV hk;obtain⟨desc,h1,A,G⟩:=(D.ty hd).dA;rw[z]at A;have:=Bg A;subst this;obtain⟨T,ev,J⟩:=(c8 r C).gT;rw[(c8 r hi).eU,ev];split at h
  .rename_i U B;split at h
   .rename_i hc;simp[ζg]at h;obtain⟨q,O,Q⟩:=h;obtain⟨u,hu,S⟩:=FQ (w:=w) (D.ty B) J O Q;refine⟨u,?_,S⟩;unfold Instr.index;simp[Sem.run_bind,kN,G,Result.andThen_ok,Sem.run_ite,if_pos hc,(D.ty B).jE,hu]
   grind
  grind
 grind
theorem I_ (B:dX P E) (r:dP I μ n F a.tmps) {s d:TypeId} {o:Operand} {x:V} (h:bG E F (.convert s d o)=some x) :
 ∃v,(convert s d (a.eval o)).run P w=.ok v w/\bz I μ x v:=by
 simp[bG]at h;split at h
 .rename_i D G k m z hd A;split at h
  .rename_i J hk;simp  at h;subst h;obtain⟨d1,g1,_,g3⟩:=(B.ty z).dA;obtain⟨d2,h1,u,C⟩:=(B.ty hd).dA;rw[hk]at u;have:=Bz u;subst this;rw[(c8 r A).eU];refine⟨_,?_,.c _ _ (.int _ _)⟩;unfold convert;simp[Sem.run_bind,g3,C,Result.andThen_ok,Conv.intToInt,Sem.run_pure]
  grind
 grind
theorem oE (r:dP I μ n F a.tmps) {o:Option Operand} {m:Option Int} (h:ji F o=some m) :
 (m=none/\o.map a.eval=none)\/∃k z,m=some z/\o.map a.eval=some (.int k z):=by
 cases o with
 | none=>simp[ji]at h;grind
 | some x=>
  simp[ji]at h;split at h
  .rename_i k z u;simp  at h;subst h;exact .inr ⟨k,z,rfl,by simp[(c8 r u).eU]⟩
  grind
theorem lJ (k:IntKind) (z:Int) (y:Nat) (code:BoundsCode) (B:0<=z) (h1:z<=y):(Instr.sliceBound (.int k z) y code).run P w=.ok z.toNat w:=by
 unfold Instr.sliceBound;simp[Sem.run_bind,kN,Result.andThen_ok,if_pos (And.intro B h1),Sem.run_pure]
theorem kX (r:dP I μ n F a.tmps) {lo hi:Option Operand} {l h:Option Int} (e1:ji F lo=some l) (e2:ji F hi=some h) (D:Bool) (len cap L H:Nat) (hc:len<=cap)
 (B:dI len l h=some (L,H)):(Instr.sliceBounds D len cap (lo.map a.eval) (hi.map a.eval) none).run P w=.ok (L,H,cap) w/\L<=H/\H<=len:=by
 unfold dI at B;simp only at B;split at B
 .rename_i u;obtain⟨rfl,rfl⟩:=B;obtain⟨C,S,G,T⟩:=u;refine⟨?_,by omega,by omega⟩
  unfold Instr.sliceBounds;rcases oE r e1 with⟨rfl,J⟩|⟨k1,A,rfl,J⟩ <;> rcases oE r e2 with⟨rfl,O⟩|⟨Q,z,rfl,O⟩ <;>
   simp only[J,O,Option.getD_some]at C S G T ⊢
  .simp_all
  .simp only[Sem.run_pure,Result.andThen_ok,Sem.run_bind,lJ Q z _ _ C (show z<=cap by omega)]
   simp
  .simp only[Sem.run_pure,Result.andThen_ok,Sem.run_bind,lJ k1 A _ _ G (show A<=len by omega)]
   simp
  .simp[Sem.run_pure,Result.andThen_ok,Sem.run_bind,lJ Q z _ _ C (show z<=cap by omega),lJ k1 A _ _ G (show A<=z.toNat by omega)]
 grind
theorem CK {es:Nat} {xs:List (List V)} {v:Value} {L H:Nat} (h:dW I (.fsl es xs) v) (h1:L<=H) (D:H<=xs.length) :
 ∃B len cap,v=.slice B len cap/\len=xs.length/\len<=cap/\dW I (.fsl es ((xs.take H).drop L)) (.slice (if cap=L then B else B.map (·.add (L*es))) (H-L) (cap-L)):=by
 cases h with
 | fsl0 _ B cap=>
  simp at D;have z:L=0:=by omega
  subst D;subst z;refine⟨some B,0,cap,rfl,rfl,Nat.zero_le _,?_⟩;have:=dW.fsl0 (I:=I) es B cap;split
  .grind
  .simpa [Addr.add]using dW.fsl0  es (B.add (0*es)) cap
 | fsl _ _ b o cap c A hc hu C J hr=>
  refine⟨_,_,cap,rfl,rfl,hc,?_⟩;have u:((xs.take H).drop L).length=H-L:=by simp_all
  by_cases G:H-L=0
  .have:(xs.take H).drop L=[]:=List.eq_nil_of_length_eq_zero (by grind)
   rw[this,G];split
   .exact .fsl0 es _ _
   .exact .fsl0 es _ _
  .simp[oq];have e:dW I (.fsl es ((xs.take H).drop L)) (.slice (some ⟨b,o+L*es,none⟩) ((xs.take H).drop L).length (cap-L)):=by
    refine .fsl es _ b (o+L*es) (cap-L) c A (by grind) (λx w=>hu x (List.mem_of_mem_take (List.mem_of_mem_drop w))) (λx w=>C x (List.mem_of_mem_take (List.mem_of_mem_drop w))) ?_ ?_
    .rw[u];have:L*es+(H-L)*es<=xs.length*es:=by rw[<-Nat.add_mul];exact Nat.mul_le_mul_right _ (by omega)
     omega
    grind
   grind
theorem On (hE:dX P E) (r:dP I μ n F a.tmps) {t:TypeId} {o:Operand} {lo hi Y:Option Operand} {x:V} (h:bG E F (.slice t o lo hi Y)=some x) :
 ∃v,(Instr.sliceAt t (a.eval o) (lo.map a.eval) (hi.map a.eval) (Y.map a.eval)).run P w=.ok v w/\bz I μ x v:=by
 simp[bG]at h;split at h
 .
  rename_i s l hh hk ho T B Q;obtain⟨d,hd,S⟩:=eV hk;obtain⟨desc,h1,X,h3⟩:=(hE.ty hd).dA;rw[S]at X;have:=zJ X;rw[(c8 r ho).rV];simp only[ζf]at h;obtain⟨⟨L,H⟩,D,rfl⟩:=h;obtain⟨g,_,_⟩:=kX (P:=P) (w:=w) r T B false s.size s.size L H (Nat.le_refl _) D;have hm:Y.map a.eval=none:=by rcases oE r Q with⟨_,q⟩|⟨k,z,e,_⟩;exact q;cases e
  refine⟨.string (s.extract L H),?_,.c _ _ (.str _)⟩;unfold Instr.sliceAt Instr.slice;simp_all
 .rename_i e v l hh hk ho T B Q;obtain⟨d,hd,S⟩:=eV hk;obtain⟨desc,h1,X,h3⟩:=(hE.ty hd).dA;rw[S]at X;have:=iJ X;subst this;have hv:=c8 r ho;have hm:Y.map a.eval=none:=by rcases oE r Q with⟨_,q⟩|⟨k,z,e,_⟩;exact q;cases e
  have A:∀(C:Option Addr) (len cap L H:Nat) (G:TD),E.tt e=some G->len<=cap->dI len l hh=some (L,H) ->
   (Instr.sliceAt t (.slice C len cap) (lo.map a.eval) (hi.map a.eval) (Y.map a.eval)).run P w=.ok (.slice (if cap=L then C else C.map (·.add (L*G.size))) (H-L) (cap-L)) w:=by
   intro C len cap L H G u hc D;obtain⟨g,_,_⟩:=kX (P:=P) (w:=w) r T B true len cap L H hc D;unfold Instr.sliceAt Instr.slice;simp[Sem.run_bind,h3,Result.andThen_ok,hm,g,(hE.ty u).jE,Sem.run_pure]
  split at h
  .rename_i G u;split at h
   .rename_i es xs;split at h
    .rename_i Z;simp only[ζf]at h;obtain⟨⟨L,H⟩,D,rfl⟩:=h;obtain⟨_,U,W⟩:=kX (P:=P) (w:=w) r T B true xs.length xs.length L H (Nat.le_refl _) D;obtain⟨C,len,cap,e1,e2,e3,e4⟩:=CK hv.kY U W;rw[e1];subst e2;refine⟨_,A C _ cap L H G u e3 D,?_⟩;rw[<-Z];exact .c _ _ e4
    grind
   .rename_i id es off len;split at h
    .rename_i Z;simp only[ζf]at h;obtain⟨⟨L,H⟩,D,rfl⟩:=h;obtain⟨_,U,W⟩:=kX (P:=P) (w:=w) r T B true len len L H (Nat.le_refl _) D;rcases hv.kT with⟨p,cap,aa,he,hc,ab,J⟩|⟨h0,C,J⟩
     .rw[J];refine⟨_,A _ _ cap L H G u hc D,?_⟩
      by_cases hz:cap=L
      .have:H-L=0:=by omega
       rw[if_pos hz,this,show cap-L=0 by omega]
       exact .hsl0 id es (off+L) _
      .rw[if_neg hz];simp only[Option.map_some,oq];rw[<-Z];subst he;have:=bz.hsl (I:=I) (μ:=μ) id (off+L) (H-L) (cap-L) p aa (by omega) (by
        have:off+L+(cap-L)=off+cap:=by omega
        rw[this];exact ab)
       rwa [Nat.add_mul,<-Nat.add_assoc]at this
     .rw[J];subst h0;refine⟨_,A _ _ 0 L H G u (Nat.le_refl _) D,?_⟩;have hL:L=0:=by omega
      have hH:H=0:=by omega
      subst hL;subst hH;simpa using bz.hsl0   id es (off+0) C
    grind
   .simp only[ζf]at h;obtain⟨⟨L,H⟩,D,rfl⟩:=h;obtain⟨_,U,W⟩:=kX (P:=P) (w:=w) r T B true 0 0 L H (Nat.le_refl _) D;obtain⟨C,J⟩:=hv.qK;rw[J];refine⟨_,A C 0 0 L H G u (Nat.le_refl _) D,?_⟩;have hL:L=0:=by omega
    have hH:H=0:=by omega
    subst hL;subst hH;exact .c _ _ (.dm _)
   .simp only[ζf]at h;obtain⟨⟨L,H⟩,D,rfl⟩:=h;obtain⟨_,U,W⟩:=kX (P:=P) (w:=w) r T B true 0 0 L H (Nat.le_refl _) D;have J:=hv.kV;rw[J];refine⟨_,A none 0 0 L H G u (Nat.le_refl _) D,?_⟩;have hL:L=0:=by omega
    have hH:H=0:=by omega
    subst hL;subst hH;exact .c _ _ .bE
   grind
  grind
 .rename_i e v hk ho T B Q;obtain⟨d,hd,S⟩:=eV hk;obtain⟨desc,h1,X,h3⟩:=(hE.ty hd).dA;rw[S]at X;have:=iJ X;subst this;have hv:=c8 r ho;have q1:lo.map a.eval=none:=by rcases oE r T with⟨_,q⟩|⟨k,z,e,_⟩;exact q;cases e
  obtain⟨k2,q2⟩:∃k,hi.map a.eval=some (.int k 0):=by
   rcases oE r B with⟨q,_⟩|⟨k,z,e,q⟩
   .cases q
   .cases e;exact⟨k,q⟩
  obtain⟨k3,q3⟩:∃k,Y.map a.eval=some (.int k 0):=by
   rcases oE r Q with⟨q,_⟩|⟨k,z,e,q⟩
   .cases q
   .cases e;exact⟨k,q⟩
  have A:∀(C:Option Addr) (len cap:Nat) (G:TD),E.tt e=some G->∃O,(Instr.sliceAt t (.slice C len cap) (lo.map a.eval) (hi.map a.eval) (Y.map a.eval)).run P w=.ok (.slice O 0 0) w:=by
   intro C len cap G u;refine⟨C,?_⟩;unfold Instr.sliceAt Instr.slice Instr.sliceBounds;simp only[Sem.run_bind,h3,Result.andThen_ok,q1,q2,q3,lJ k3 0 cap _ (Int.le_refl _) (by omega),lJ k2 0 _ _ (Int.le_refl _) (by simp),(hE.ty u).jE]
   simp
  split at h
  .rename_i G es xs u;simp  at h;subst h;obtain⟨C,len,cap,e1,_⟩:=CK   hv.kY (Nat.le_refl _) (Nat.zero_le _);rw[e1];obtain⟨O,g⟩:=A C len cap _ u;exact⟨_,g,.c _ _ (.dm _)⟩
  .rename_i G id es off len u;simp  at h;subst h;rcases hv.kT with⟨p,cap,_,_,_,_,J⟩|⟨_,C,J⟩
   .rw[J];obtain⟨O,g⟩:=A _ _ _ _ u;exact⟨_,g,.c _ _ (.dm _)⟩
   .rw[J];obtain⟨O,g⟩:=A _ _ _ _ u;exact⟨_,g,.c _ _ (.dm _)⟩
  .rename_i G u;simp  at h;subst h;obtain⟨C,J⟩:=hv.qK;rw[J];obtain⟨O,g⟩:=A _ _ _ _ u;exact⟨_,g,.c _ _ (.dm _)⟩
  .rename_i G u;simp only[ζa]at h;subst h;have J:=hv.kV;rw[J];obtain⟨O,g⟩:=A _ _ _ _ u;exact⟨_,g,.c _ _ (.dm _)⟩
  .simp at h
 grind
end
end Go.VE
namespace Go.VE
variable [bN]
section
variable {P:Program} {E:Env} {I:b9} {μ:Mu} {n:Nat} {F:Frame} {a:Act} {w:World}
theorem cw.one {x:V} {vs:List Value} (h:cw I μ [x] vs):∃v,vs=[v]/\bz I μ x v:=by
 obtain⟨v,r,rfl,hv,hr⟩:=h.cons_inv;exact⟨v,by rw[hr.uI],hv⟩
theorem cw.two {x y:V} {vs:List Value} (h:cw I μ [x,y] vs):∃u v,vs=[u,v]/\bz I μ x u/\bz I μ y v:=by
 obtain⟨u,r,rfl,hu,hr⟩:=h.cons_inv;obtain⟨v,rfl,hv⟩:=hr.one;exact⟨u,v,rfl,hu,hv⟩
theorem cw.four {x y z t:V} {vs:List Value} (h:cw I μ [x,y,z,t] vs):∃u v p q,vs=[u,v,p,q]/\bz I μ x u/\bz I μ y v/\bz I μ z p/\bz I μ t q:=by
 obtain⟨u,r,rfl,hu,hr⟩:=h.cons_inv;obtain⟨v,r2,rfl,hv,hr⟩:=hr.cons_inv;obtain⟨p,q,rfl,w,A⟩:=hr.two;exact⟨u,v,p,q,rfl,hu,hv,w,A⟩
theorem qN {args:Array Operand} {l:List Value} (h:args.toList.map a.eval=l):args.map a.eval=l.toArray:=by
 subst h;apply Array.ext';simp
def vS:Option TK->V->Option V
 | some .str,.str s=>some (.int .i64 s.size)
 | some (.slice _),.fsl _ xs=>some (.int .i64 xs.length)
 | some (.slice _),.hsl _ _ _ len=>some (.int .i64 len)
 | some (.slice _),.dm=>some (.int .i64 0)
 | some (.slice _),.bE=>some (.int .i64 0)
 | _,_=>none
theorem SS (T:dX P E) {t:TypeId} {x z:V} {v:Value} {ty:TypeId} {B:Array TypeId} (D:B[0]? = some t) (G:bz I μ x v)
 (h:vS (E.kindOf t) x=some z):∃u,(Builtin.len_ B ty #[v]).run P w=.ok u w/\bz I μ z u:=by
 cases hk:E.kindOf t with
 | none=>rw[hk]at h;simp[vS]at h
 | some k=>
  rw[hk]at h;obtain⟨d,hd,O⟩:=eV hk;obtain⟨desc,h1,Q,S⟩:=(T.ty hd).dA;rw[O]at Q
  cases k with
  | str=>
   have:=zJ Q;subst this
   cases x with
   | str s=>
    simp only[vS,ζa]at h;subst h;rw[G.rV];refine⟨_,?_,.c _ _ (.int _ _)⟩;unfold Builtin.len_;simp[D,S,goInt]
   | _=>simp[vS]at h
  | slice e=>
   have:=iJ Q;subst this;have A:∀C (len cap:Nat),(Builtin.len_ B ty #[.slice C len cap]).run P w=.ok (.int .i64 len) w:=by
    intro C len cap;unfold Builtin.len_;simp[D,S,goInt]
   cases x with
   | fsl es W=>
    simp only[vS,ζa]at h;subst h;obtain⟨C,len,cap,e1,e2,_⟩:=CK (L:=0) (H:=0) G.kY (Nat.le_refl _) (Nat.zero_le _);rw[e1,<-e2];exact⟨_,A _ _ _,.c _ _ (.int _ _)⟩
   | hsl id es off len=>
    simp only[vS,ζa]at h;subst h;rcases G.kT with⟨p,cap,_,_,_,_,J⟩|⟨U,C,J⟩
    .rw[J];exact⟨_,A _ _ _,.c _ _ (.int _ _)⟩
    .rw[J,U];exact⟨_,A _ _ _,.c _ _ (.int _ _)⟩
   | dm=>
    simp only[vS,ζa]at h;subst h;obtain⟨C,J⟩:=G.qK;rw[J];exact⟨_,A _ _ _,.c _ _ (.int _ _)⟩
   | bE=>
    simp only[vS,ζa]at h;subst h;rw[G.kV];exact⟨_,A _ _ _,.c _ _ (.int _ _)⟩
   | _=>simp[vS]at h
  | _=>simp[vS]at h
def S0:Option TK->V->Option V
 | some (.slice _),.bE=>some (.int .i64 0)
 | some (.slice _),.dm=>some (.int .i64 0)
 | _,_=>none
theorem Ta (T:dX P E) {t:TypeId} {x z:V} {v:Value} {ty:TypeId} {B:Array TypeId} (D:B[0]? = some t) (G:bz I μ x v)
 (h:S0 (E.kindOf t) x=some z):∃u,(Builtin.cap_ B ty #[v]).run P w=.ok u w/\bz I μ z u:=by
 have key:∀e A,E.kindOf t=some (.slice e)->v=.slice A 0 0->(Builtin.cap_ B ty #[v]).run P w=.ok (.int .i64 0) w:=λe A hk hv=>by
  obtain⟨d,hd,C⟩:=eV hk;obtain⟨desc,h1,J,L⟩:=(T.ty hd).dA;rw[C]at J;have:=iJ J;subst this;unfold Builtin.cap_;simp[D,L,goInt,hv]
 unfold S0 at h;split at h
 .rename_i _ _ e hk;cases h;exact⟨_,key _ _ hk G.kV,.c _ _ (.int _ _)⟩
 .rename_i _ _ e hk;cases h;obtain⟨A,q⟩:=G.qK;exact⟨_,key _ _ hk q,.c _ _ (.int _ _)⟩
 .cases h
theorem dR {s:Sem Value} {v:Value} {w':World} (h:s.run P w=.ok v w'):(do pure (Next.value (<-s)):Sem Next).run P w=.ok (.value v) w':=by
 rw[Sem.run_bind,h];rfl
theorem Q4 (D:dX P E) (r:dP I μ n F a.tmps) (o:Oper) {x:V} (h:bG E F o.op=some x) :
 ∃v,(execOp a.eval o).run P w=.ok (.value v) w/\bz I μ x v:=by
 obtain⟨dst,op,ty,pos,after,guard⟩:=o;simp only at h
 cases op with
 | move y=>exact⟨_,rfl,c8 r (by simpa [bG]using h)⟩
 | assign y=>exact⟨_,rfl,c8 r (by simpa [bG]using h)⟩
 | pick c y z=>
  simp only[bG]at h;simp only[execOp];split at h
  .rename_i t hc;have e:=(c8 r hc).qu;simp only[e,asBool,Sem.run_bind,Sem.run_pure,Result.andThen_ok]
   cases t with
   | true=>simp only[if_true]at h ⊢;exact⟨_,rfl,c8 r h⟩
   | false=>simp only[Bool.false_eq_true,if_false]at h ⊢;exact⟨_,rfl,c8 r h⟩
  .simp at h
 | nilCheck y=>
  simp only[bG]at h;simp only[execOp];split at h
  .rename_i id el off C;simp only[ζa]at h;subst h;have hv:=c8 r C;obtain⟨p,_,e⟩:=hv.sG;rw[e]at hv ⊢;exact⟨_,rfl,hv⟩
  .rename_i cs C;simp only[ζa]at h;subst h;have hv:=c8 r C;obtain⟨b,o,c,e,_⟩:=hv.k_;rw[e]at hv ⊢;exact⟨_,rfl,hv⟩
  .rename_i f u v C;simp only[ζa]at h;subst h;have hv:=c8 r C;obtain⟨b,c,e,_⟩:=hv.jv;rw[e]at hv ⊢;exact⟨_,rfl,hv⟩
  .simp at h
 | binOp op t y z Y=>
  simp only[bG]at h;split at h
  .rename_i u v hu hv;obtain⟨q,L,hr⟩:=Q9 (w:=w) D y z h (c8 r hu) (c8 r hv);exact⟨q,dR L,hr⟩
  .simp at h
 | unOp op t y=>
  simp only[bG]at h;simp only[execOp];split at h
  .rename_i b C;simp only[ζa]at h;subst h;rw[(c8 r C).qu];exact⟨_,dR (by simp only[Op.unary];rfl),.c _ _ (.bool _)⟩
  .rename_i k m C;simp only[ζa]at h;subst h;rw[(c8 r C).eU];exact⟨_,dR (by simp only[Op.unary,Op.intArith];rfl),by simpa using bz.c _ _ (.int k _)⟩
  .simp at h
 | convert s d y=>
  obtain⟨v,h1,B⟩:=I_ (w:=w) D r h;exact⟨v,dR h1,B⟩
 | fieldAddr s y f=>
  obtain⟨v,h1,B⟩:=JW (w:=w) D r h;exact⟨v,dR h1,B⟩
 | field s y f=>
  obtain⟨v,h1,B⟩:=Nz (w:=w) D r h;exact⟨v,dR h1,B⟩
 | indexAddr t y i=>
  obtain⟨v,h1,B⟩:=IX (w:=w) D r h;exact⟨v,dR h1,B⟩
 | index t y i=>
  obtain⟨v,h1,B⟩:=O9 (w:=w) D r h;exact⟨v,dR h1,B⟩
 | slice t y lo hi Z=>
  obtain⟨v,h1,B⟩:=On (w:=w) D r h;exact⟨v,dR h1,B⟩
 | build t ps=>
  obtain⟨v,h1,B⟩:=NN (w:=w) D r h;exact⟨v,dR h1,B⟩
 | makeFunc f u v=>
  cases f with
  | func f=>
   simp only[bG]at h;split at h
   .rename_i O x2 h1 B;simp only[ζa]at h;subst h;have r1:=mE r h1;have r2:=mE r B;refine⟨.func (.func f) (u.map a.eval) (v.map a.eval),rfl,?_⟩;refine .clo f _ _ _ _ (by simpa using r1.1) (by simpa using r2.1) (λj p q s t=>r1.2 j p q s (by simpa using t)) (λj p q s t=>r2.2 j p q s (by simpa using t))
   .simp at h
  | _=>simp[bG]at h
 | extract y i=>
  simp only[bG]at h;simp only[execOp];split at h
  .rename_i vs C;obtain⟨Q,e,S⟩:=(c8 r C).oR;rw[e];have T:=(ζe.1 h).1;have G:i<Q.size:=by have:=S.1;simp at this;omega
   refine⟨Q[i],dR (by simp[Instr.extract,G]),S.2 i x _ h (by simp[G])⟩
  .simp at h
 | call c=>
  obtain⟨callee,args,U⟩:=c
  cases callee with
  | builtin b=>
   simp only[bG]at h;simp only[execOp,resolve,Sem.run_bind,Sem.run_pure,Result.andThen_ok,invoke];split at h
   .rename_i v t A J;obtain⟨u,hu,hr⟩:=(mE r A).one;rw[qN hu];obtain⟨q,h1,B⟩:=SS (w:=w) (ty:=ty) D J hr (by rw[<-h];rfl)
    exact⟨q,by simp only[builtin];exact dR h1,B⟩
   .rename_i v t A J;obtain⟨u,hu,hr⟩:=(mE r A).one;rw[qN hu];obtain⟨q,h1,B⟩:=Ta (w:=w) (ty:=ty) D J hr (by rw[<-h];rfl)
    exact⟨q,by simp only[builtin];exact dR h1,B⟩
   .rename_i k O W x2 A;split at h
    .rename_i hk;simp only[ζa]at h;subst h;subst hk;obtain⟨u,v,e,hu,hv⟩:=(mE r A).two;rw[qN e,hu.eU,hv.eU];exact⟨_,by simp only[builtin];exact dR (by simp[Builtin.max_,Builtin.max2]),.c _ _ (.int _ _)⟩
    .simp at h
   .rename_i k O k1 x2 k2 x3 k3 x4 A;split at h
    .rename_i hk;simp only[ζa]at h;subst h;obtain⟨rfl,rfl,rfl⟩:=hk;obtain⟨u,v,p,q,e,hu,hv,X,L⟩:=(mE r A).four;rw[qN e,hu.eU,hv.eU,X.eU,L.eU];exact⟨_,by simp only[builtin];exact dR (by simp[Builtin.max_,Builtin.max2,AP]),.c _ _ (.int _ _)⟩
    .simp at h
   .rename_i k O W x2 A;split at h
    .rename_i hk;simp only[ζa]at h;subst h;subst hk;obtain⟨u,v,e,hu,hv⟩:=(mE r A).two;rw[qN e,hu.eU,hv.eU];exact⟨_,by simp only[builtin];exact dR (by simp[Builtin.min_,Builtin.min2]),.c _ _ (.int _ _)⟩
    .simp at h
   .simp at h
  | _=>simp[bG]at h
 | _=>simp[bG]at h
end
end Go.VE
namespace Go.VE
variable [bN]
structure fF (I:b9) (μ:Mu) (p:Pl) (c:Array Value) (es:Nat) (xs:List (List V)):Prop where
 es_eq:p.es=es
 sz:c.size=p.sz
 oc:∀x∈xs,x.length=es
 one:∀x∈xs,∀y∈x,V.one y=true
 room:p.o+xs.length*es<=c.size
 rel:cw I μ xs.flatten ((c.toList.drop p.o).take (xs.length*es))
def uy (I:b9) (μ:Mu) (B:List (V×V)) (es:Array MapEntry):Prop:=
 B.length=es.size/\∀(j:Nat) q e,B[j]? = some q->es[j]? = some e->bz I μ q.1 e.key/\bz I μ q.2 e.val
def AG.is:AG->LoopState->Prop
 | .ready,.ready|.busy,.busy|.done,.done=>True
 | _,_=>False
structure uJ (I:b9) (μ:Mu) (r:uD) (l:Loop):Prop where
 st:r.st.is l.state
 pend:l.pending=r.pend.bind j7
 pendOk:r.pend≠some .norm
 frame:dP I μ r.nt r.frame l.tmps
 params:l.params.toList=r.params
 assign:l.assign=r.assign
 body:l.body=r.body
def Ob.live:Ob->Bool
 | .row ..|.map _|.loop _=>true
 | _=>false
def rH (I:b9) (μ:Mu) (w:World) (id:Nat):Ob->Prop
 | .free=>μ id=none
 | .dead=>True
 | .row es xs=>∃p c el,μ id=some p/\I p.b=none/\w.heap[p.b]? = some (.cells c el)/\fF I μ p c es xs
 | .frz es xs=>∃p c,μ id=some p/\I p.b=some (.cells c)/\fF I μ p c es xs
 | .map B=>∃p es clock,μ id=some p/\I p.b=none/\w.heap[p.b]? = some (.map es clock)/\uy I μ B es
 | .loop r=>∃p l,μ id=some p/\I p.b=none/\w.heap[p.b]? = some (.loop l)/\uJ I μ r l
structure cN (I:b9) (μ:Mu) (H:bf) (w:World):Prop where
 dom:∀id,H.length<=id->μ id=none
 imm:∀b x,I b=some x->x.at w b
 obs:∀id ob,H[id]? = some ob->rH I μ w id ob
 inj:∀id id' ob ob' p p',H[id]? = some ob->H[id']? = some ob'->ob.live=true->ob'.live=true->μ id=some p->μ id'=some p'->p.b=p'.b->id=id'
 gl:sS I
def gH (μ:Mu) (H:bf) (b:Nat):Prop:=∃id p ob,H[id]? = some ob/\ob.live=true/\μ id=some p/\p.b=b
def Obj.nf (o:Obj):Prop:=∀c t fr,o=.cells c t fr->fr=(0,0)
theorem sx (c:Array Value) (t:TypeId):Obj.nf (.cells c t):=λ_ _ _ h=>by grind
theorem qn {o:Obj} (h:(match o with|.cells ..=>false|_=>true)=true):Obj.nf o:=λc t fr e=>by grind
theorem BV {w w':World} {o:Obj} {b:Nat} (B:Obj.nf o) (h1:w'.heap[b]? = some o) (D:∀k,k≠b->w'.heap[k]? = w.heap[k]?) (a:Addr) (h:w.frozen? a=false):w'.frozen? a=false:=by
 by_cases e:a.block=b
 .unfold World.frozen?;rw[e,h1];split
  .rename_i c t lo hi u;cases u;have:=B _ _ _ rfl
   grind
  .rfl
 .unfold World.frozen? at h ⊢
  grind
structure uq (w w':World):Prop where
 out:w'.output=w.output
 tape:w'.tape=w.tape
 dr:w.drawn<=w'.drawn
theorem uq.refl (w:World):uq w w:=⟨rfl,rfl,Nat.le_refl _⟩
theorem uq.trans {w w' w'':World} (h:uq w w') (B:uq w' w''):uq w w'':=⟨B.out.trans h.out,B.tape.trans h.tape,Nat.le_trans h.dr B.dr⟩
structure Step (I:b9) (μ:Mu) (H:bf) (w:World) (I':b9) (μ':Mu) (H':bf) (w':World):Prop where
 le:b9.le I I'
 mu:Mu.le μ μ'
 len:H.length<=H'.length
 size:w.heap.size<=w'.heap.size
 frame:∀b,b<w.heap.size->¬gH μ H b->w'.heap[b]? = w.heap[b]?
 terr:∀b,((I' b).isSome=true\/gH μ' H' b)->(I b).isSome=true\/gH μ H b\/w.heap.size<=b
 os:w'.os=w.os
 out:uq w w'
 fz:∀a:Addr,a.block<w.heap.size->w.frozen? a=false->w'.frozen? a=false
section
variable {I I' I'':b9} {μ μ' μ'':Mu} {H H' H'':bf} {w w' w'':World} {P:Program} {E:Env} {n:Nat} {F:Frame} {a:Act}
theorem IC.s6 {x:IC} {b:Nat} (h:x.at w b):b<w.heap.size:=by
 cases x with
 | cells c=>obtain⟨_,_,h⟩:=h;grind
 | map es=>obtain⟨_,h⟩:=h;grind
theorem IC.qG {x:IC} {b:Nat} (h:x.at w b) (e:w'.heap[b]? = w.heap[b]?):x.at w' b:=by
 cases x with
 | cells c=>obtain⟨el,fr,h⟩:=h;exact⟨el,fr,by grind⟩
 | map es=>obtain⟨cl,h⟩:=h;exact⟨cl,by grind⟩
theorem Step.refl (I:b9) (μ:Mu) (H:bf) (w:World):Step I μ H w I μ H w:=
 ⟨b9.le_refl _,Mu.le_refl _,Nat.le_refl _,Nat.le_refl _,λ_ _ _=>rfl,λ_ h=>h.elim .inl λh=>.inr (.inl h),rfl,.refl _,λ_ _ h=>h⟩
theorem fA (s:cN I μ H w) {b:Nat} (h:gH μ H b):I b=none:=by
 obtain⟨id,p,ob,h1,A,C,rfl⟩:=h;have:=s.obs id ob h1
 cases ob with
 | row es D=>obtain⟨q,c,el,u,z,_⟩:=this;grind
 | map B=>obtain⟨q,c,el,u,z,_⟩:=this;grind
 | loop r=>obtain⟨q,c,u,z,_⟩:=this;grind
 | _=>simp[Ob.live]at A
theorem mc (s:cN I μ H w) {b:Nat} (h:gH μ H b):b<w.heap.size:=by
 obtain⟨id,p,ob,h1,B,D,rfl⟩:=h;have:=s.obs id ob h1
 cases ob with
 | row es G=>obtain⟨q,c,el,u,z,A,_⟩:=this;grind
 | map C=>obtain⟨q,c,el,u,z,A,_⟩:=this;grind
 | loop r=>obtain⟨q,c,u,z,A,_⟩:=this;grind
 | _=>simp[Ob.live]at B
theorem Step.trans (D:cN I' μ' H' w') (h1:Step I μ H w I' μ' H' w') (B:Step I' μ' H' w' I'' μ'' H'' w''):Step I μ H w I'' μ'' H'' w'' where
 fz:=λa u h=>B.fz a (Nat.lt_of_lt_of_le u h1.size) (h1.fz a u h)
 le:=b9.le_trans h1.le B.le
 mu:=λid p h=>B.mu id p (h1.mu id p h)
 len:=Nat.le_trans h1.len B.len
 size:=Nat.le_trans h1.size B.size
 frame:=by
  intro b u A;rw[B.frame b (Nat.lt_of_lt_of_le u h1.size) ?_,h1.frame b u A];intro z;rcases h1.terr b (.inr z)with h|h|h
  .have:=fA D z;obtain⟨x,C⟩:=Option.isSome_iff_exists.1 h;rw[h1.le _ _ C]at this;simp_all
  .simp_all
  omega
 terr:=by
  intro b h;rcases B.terr b h with h|h|h
  .exact h1.terr b (.inl h)
  .exact h1.terr b (.inr h)
  .exact .inr (.inr (Nat.le_trans h1.size h))
 os:=B.os.trans h1.os
 out:=h1.out.trans B.out
theorem fF.mono (h:b9.le I I') (B:Mu.le μ μ') {p:Pl} {c:Array Value} {es:Nat} {xs:List (List V)} (r:fF I μ p c es xs):fF I' μ' p c es xs:=
 ⟨r.es_eq,r.sz,r.oc,r.one,r.room,r.rel.mono h B⟩
theorem uy.mono (h:b9.le I I') (D:Mu.le μ μ') {B:List (V×V)} {es:Array MapEntry} (r:uy I μ B es):uy I' μ' B es:=
 ⟨r.1,λj q e a b=>⟨(r.2 j q e a b).1.mono h D,(r.2 j q e a b).2.mono h D⟩⟩
theorem uJ.mono (h:b9.le I I') (B:Mu.le μ μ') {r:uD} {l:Loop} (x:uJ I μ r l):uJ I' μ' r l:=
 ⟨x.st,x.pend,x.pendOk,x.frame.mono h B,x.params,x.assign,x.body⟩
theorem rH.mono (h:b9.le I I') (B:Mu.le μ μ') {id:Nat} {ob:Ob} (r:rH I μ w id ob)
 (D:∀p,μ id=some p->ob.live=true->w'.heap[p.b]? = w.heap[p.b]? /\ I' p.b=none) (G:ob=.free->μ' id=none):rH I' μ' w' id ob:=by
 cases ob with
 | free=>exact G rfl
 | dead=>trivial
 | row es C=>
  obtain⟨p,c,el,h1,z,A,u⟩:=r;obtain⟨g1,g2⟩:=D p h1 rfl;exact⟨p,c,el,B _ _ h1,g2,by grind,u.mono h B⟩
 | frz es C=>
  obtain⟨p,c,h1,z,u⟩:=r;exact⟨p,c,B _ _ h1,h _ _ z,u.mono h B⟩
 | map J=>
  obtain⟨p,es,cl,h1,z,A,u⟩:=r;obtain⟨g1,g2⟩:=D p h1 rfl;exact⟨p,es,cl,B _ _ h1,g2,by grind,u.mono h B⟩
 | loop x=>
  obtain⟨p,l,h1,z,A,u⟩:=r;obtain⟨g1,g2⟩:=D p h1 rfl;exact⟨p,l,B _ _ h1,g2,by grind,u.mono h B⟩
theorem cN.nT (s:cN I μ H w) (e:w'.heap=w.heap):cN I μ H w' where
 dom:=s.dom
 imm:=λb x h=>IC.qG (s.imm b x h) (by rw[e])
 obs:=λid ob h=>(s.obs id ob h).mono (b9.le_refl _) (Mu.le_refl _) (λp u z=>⟨by rw[e],fA s ⟨id,p,ob,h,z,u,rfl⟩⟩) (λA=>by subst A;exact s.obs id _ h)
 inj:=s.inj
 gl:=s.gl
theorem Step.nT (e:w'.heap=w.heap) (h1:w'.os=w.os) (B:uq w w'):Step I μ H w I μ H w':=
 ⟨b9.le_refl _,Mu.le_refl _,Nat.le_refl _,by grind,λ_ _ _=>by rw[e],λb h=>h.elim .inl λh=>.inr (.inl h),h1,B,λa _ h=>by unfold World.frozen? at h ⊢;grind⟩
def Mu.gb (μ:Mu) (k:Nat) (p:Pl):Mu:=λid=>if id=k then some p else μ id
theorem Mu.fI (μ:Mu) (k:Nat) (p:Pl):μ.gb k p k=some p:=by simp[Mu.gb]
theorem Mu.gX (μ:Mu) {k id:Nat} (p:Pl) (h:id≠k):μ.gb k p id=μ id:=by simp[Mu.gb,h]
theorem Mu.pL {k:Nat} {p:Pl} (h:μ k=none):Mu.le μ (μ.gb k p):=by
 intro id q u
 by_cases e:id=k
 .grind
 .rw[Mu.gX _ _ e];omega
theorem kQ (o:Obj) (b:Nat) (h:b<w.heap.size):(w.alloc o).heap[b]? = w.heap[b]? := by
 show (w.heap.push o)[b]? = _
 grind
theorem lP (o:Obj):(w.alloc o).heap[w.heap.size]? = some o:=by
 show (w.heap.push o)[w.heap.size]? = _;simp
theorem Lj {o:Obj} (B:Obj.nf o) (a:Addr) (h:w.frozen? a=false):(w.alloc o).frozen? a=false:=
 BV  B (lP o) (λk hk=>by
  by_cases u:k<w.heap.size
  .exact kQ o k u
  .show (w.heap.push o)[k]? = _
   grind) a h
theorem cN.place (s:cN I μ H w) {k:Nat} {ob:Ob} {o:Obj} {p:Pl} (hk:μ k=none) (G:H.length<=H'.length) (aa:k<H'.length)
 (ab:∀id,id≠k->H'[id]? = some .free\/H'[id]? = H[id]?) (T:∀id,id≠k->H'[id]? = some .free->μ id=none) (ad:H'[k]? = some ob) (hp:p.b=w.heap.size)
 (ae:rH I (μ.gb k p) (w.alloc o) k ob) (hz:Obj.nf o):cN I (μ.gb k p) H' (w.alloc o)/\Step I μ H w I (μ.gb k p) H' (w.alloc o):=by
 have hI:∀b x,I b=some x->b<w.heap.size:=λb x h=>IC.s6 (s.imm b x h)
 have z:∀id u,id≠k->H'[id]? = some u->u≠.free->H[id]? = some u:=by
  grind
 have B:∀b,gH (μ.gb k p) H' b->gH μ H b\/b=w.heap.size:=by
  rintro b ⟨id,q,u,h1,L,S,rfl⟩
  by_cases e:id=k
  .subst e;rw[Mu.fI]at S;grind
  .rw[Mu.gX _ _ e]at S;exact .inl ⟨id,q,u,z id u e h1 (by grind),L,S,rfl⟩
 refine⟨⟨?_,?_,?_,?_,s.gl⟩,⟨b9.le_refl _,Mu.pL hk,G,by simp,?_,?_,rfl,⟨rfl,rfl,Nat.le_refl _⟩,λa _=>BV (b:=w.heap.size) hz (lP o) (λk hk=>?_) a⟩⟩
 .intro id h;rw[Mu.gX _ _ (by omega)]
  exact s.dom id (by omega)
 .intro b x h;exact IC.qG (s.imm b x h) (kQ o b (hI b x h))
 .intro id u h
  by_cases e:id=k
  .grind
  .by_cases U:u=.free
   .subst U;show (μ.gb k p) id=none;rw[Mu.gX _ _ e];grind
   .have Y:=z id u e h U;refine(s.obs id u Y).mono (b9.le_refl _) (Mu.pL hk) (λq hq W=>?_) (λhe=>absurd he U)
    have Z:gH μ H q.b:=⟨id,q,u,Y,W,hq,rfl⟩;exact⟨kQ o _ (mc s Z),fA s Z⟩
 .intro id A o1 o2 q q' h1 L O Q C D X
  by_cases e:id=k <;> by_cases J:A=k
  .simp_all
  .subst e;rw[Mu.fI]at C;cases C;rw[Mu.gX _ _ J]at D;have:=mc s ⟨A,q',o2,z A o2 J L (by rintro rfl;simp[Ob.live]at Q),Q,D,rfl⟩
   omega
  .subst J;rw[Mu.fI]at D;cases D;rw[Mu.gX _ _ e]at C;have:=mc s ⟨id,q,o1,z id o1 e h1 (by rintro rfl;simp[Ob.live]at O),O,C,rfl⟩
   omega
  .rw[Mu.gX _ _ e]at C;rw[Mu.gX _ _ J]at D;exact s.inj id A o1 o2 q q' (z id o1 e h1 (by rintro rfl;simp[Ob.live]at O)) (z A o2 J L (by rintro rfl;simp[Ob.live]at Q)) O Q C D X
 .intro b X _;exact kQ o b X
 .intro b h;rcases h with h|h
  .exact .inl h
  .rcases B b h with h|h
   .exact .inr (.inl h)
   omega
 .by_cases W:k<w.heap.size
  .exact kQ o k W
  .show (w.heap.push o)[k]? = _;rw[Array.getElem?_eq_none (by simp;omega),Array.getElem?_eq_none (by omega)]
theorem cN.push (s:cN I μ H w) {ob:Ob} {o:Obj} {p:Pl} (hp:p.b=w.heap.size) (B:rH I (μ.gb H.length p) (w.alloc o) H.length ob) (D:Obj.nf o:=by first|exact sx _ _|exact qn rfl) :
 cN I (μ.gb H.length p) (H++[ob]) (w.alloc o)/\Step I μ H w I (μ.gb H.length p) (H++[ob]) (w.alloc o):=by
 refine s.place (s.dom _ (Nat.le_refl _)) (by simp) (by simp) (λid h=>.inr ?_) (λid h z=>?_) (by simp) hp B D
 .grind
 .by_cases u:id<H.length
  .rw[List.getElem?_append_left u]at z;exact s.obs id _ z
  grind
theorem cN.fill (s:cN I μ H w) {k:Nat} {ob:Ob} {o:Obj} {p:Pl} (hk:H[k]? = some .free) (hp:p.b=w.heap.size) (B:rH I (μ.gb k p) (w.alloc o) k ob) (D:Obj.nf o:=by first|exact sx _ _|exact qn rfl) :
 cN I (μ.gb k p) (H.set k ob) (w.alloc o)/\Step I μ H w I (μ.gb k p) (H.set k ob) (w.alloc o):=by
 have z:=(ζe.1 hk).1;refine s.place (s.obs k _ hk) (by simp) (by grind) (λid h=>.inr ?_) (λid h u=>?_) (by simp_all) hp B D
 .grind
 .rw[List.getElem?_set_ne (Ne.symm h)]at u;exact s.obs id _ u
def fh (w:World) (b:Nat) (o:Obj):World:={ w with heap:=w.heap.setIfInBounds b o }
theorem fP (o:Obj) {b B:Nat} (h:B≠b):(fh w b o).heap[B]? = w.heap[B]? := by simp[fh,Array.getElem?_setIfInBounds_ne (Ne.symm h)]
theorem gP (o:Obj) {b:Nat} (h:b<w.heap.size):(fh w b o).heap[b]? = some o:=by simp[fh,h]
theorem vL (b:Nat) (o:Obj):(fh w b o).heap.size=w.heap.size:=by simp[fh]
theorem Ma (b:Nat) (o B:Obj):fh (fh w b o) b B=fh w b B:=by simp[fh]
theorem Sp {o:Obj} {b:Nat} (B:Obj.nf o) (a:Addr) (h:w.frozen? a=false):(fh w b o).frozen? a=false:=by
 by_cases u:b<w.heap.size
 .exact BV  B (gP o u) (λk hk=>fP o hk) a h
 .have:(fh w b o).heap=w.heap:=by simp[fh,Array.setIfInBounds,u]
  unfold World.frozen? at h ⊢
  grind
theorem cN.write (s:cN I μ H w) {id:Nat} {ob ob':Ob} {o:Obj} {p:Pl} (B:H[id]? = some ob) (T:ob.live=true) (hp:μ id=some p)
 (W:rH I μ (fh w p.b o) id ob') (Y:Obj.nf o:=by first|exact sx _ _|exact qn rfl):cN I μ (H.set id ob') (fh w p.b o)/\Step I μ H w I μ (H.set id ob') (fh w p.b o):=by
 have z:gH μ H p.b:=⟨id,p,ob,B,T,hp,rfl⟩;have u:∀k x,(H.set id ob')[k]? = some x->∃y,H[k]? = some y/\(x.live=true->y.live=true)/\(k≠id->y=x):=by
  grind
 have J:∀b,gH μ (H.set id ob') b->gH μ H b:=by
  rintro b ⟨k,q,x,h1,L,X,rfl⟩;obtain⟨y,O,A,_⟩:=u k x h1;exact⟨k,q,y,O,A L,X,rfl⟩
 refine⟨⟨?_,?_,?_,?_,s.gl⟩,⟨b9.le_refl _,Mu.le_refl _,by simp,by rw[vL];grind,?_,?_,rfl,⟨rfl,rfl,Nat.le_refl _⟩,λa _=>BV  Y (gP o (mc s z)) (λk hk=>fP o hk) a⟩⟩
 .intro k h;exact s.dom k (by grind)
 .intro b x h;refine IC.qG (s.imm b x h) (fP o ?_);intro C;rw[C,fA s z]at h;cases h
 .intro k x h
  by_cases e:k=id
  .grind
  .rw[List.getElem?_set_ne (Ne.symm e)]at h;refine(s.obs k x h).mono (b9.le_refl _) (Mu.le_refl _) (λq S D=>⟨fP o ?_,fA s ⟨k,q,x,h,D,S,rfl⟩⟩) (λZ=>by subst Z;exact s.obs k _ h)
   intro C;exact e (s.inj k id x ob q p h B D T S hp C)
 .intro k U x x' q q' h1 L l1 l2 m1 m2 C;obtain⟨y,O,A,_⟩:=u k x h1;obtain⟨y',Q,G,_⟩:=u U x' L;exact s.inj k U y y' q q' O Q (A l1) (G l2) m1 m2 C
 .intro b _ hn;refine fP o ?_
  grind
 grind
theorem cN.kill (s:cN I μ H w) {id:Nat} {ob:Ob} (B:H[id]? = some ob):cN I μ (H.set id .dead) w/\Step I μ H w I μ (H.set id .dead) w:=by
 have z:=(ζe.1 B).1;have u:∀k x,(H.set id .dead)[k]? = some x->x.live=true->H[k]? = some x/\k≠id:=by
  intro k x h L
  by_cases e:k=id
  .subst e;rw[List.getElem?_set_self z]at h;cases h;simp[Ob.live]at L
  grind
 refine⟨⟨?_,s.imm,?_,?_,s.gl⟩,⟨b9.le_refl _,Mu.le_refl _,by simp,Nat.le_refl _,λ_ _ _=>rfl,?_,rfl,.refl _,λ_ _ h=>h⟩⟩
 .intro k h;exact s.dom k (by grind)
 .intro k x h
  by_cases e:k=id
  .subst e;rw[List.getElem?_set_self z]at h;cases h;trivial
  .rw[List.getElem?_set_ne (Ne.symm e)]at h;exact s.obs k x h
 .intro k C x D q O h1 A G J Q S T;exact s.inj k C x D q O (u k x h1 G).1 (u C D A J).1 G J Q S T
 .rintro b (h|⟨k,q,x,h1,A,U,rfl⟩)
  .grind
  .exact .inr (.inl ⟨k,q,x,(u k x h1 A).1,A,U,rfl⟩)
end
end Go.VE
namespace Go.VE
variable [bN]
section
variable {P:Program} {E:Env} {I:b9} {μ:Mu} {H:bf} {n:Nat} {F:Frame} {a:Act} {w:World}
theorem uE {b:Nat} {c:Array Value} {el:TypeId} {fr:Nat×Nat} (h:w.heap[b]? = some (.cells c el fr)) (k:Nat):w.cell? ⟨b,k,none⟩=c[k]? := by
 simp[World.cell?,h]
theorem Hu {b o:Nat} {c:Array Value} (hc:∀k,w.cell? ⟨b,k,none⟩=c[k]?):∀(m i:Nat) (acc:Array Value),o+i+m<=c.size ->
 (loadCellsFrom ⟨b,o,none⟩ i m acc).run P w=.ok (acc++((c.toList.drop (o+i)).take m).toArray) w:=by
 intro m
 induction m with
 | zero=>intro i acc _;simp[loadCellsFrom]
 | succ m z=>
  intro i acc h;have u:o+i<c.size:=by omega
  have e:w.cell? ⟨b,o+i,none⟩=some c[o+i]:=by rw[hc];simp[u]
  simp only[loadCellsFrom,Sem.run_bind,oq,run_load,e,Result.andThen_ok];rw[z (i+1) _ (by omega)]
  congr 1
  rw[List.drop_eq_getElem_cons (show o+i<c.toList.length by simpa using u),List.take_succ_cons]
  apply Array.ext';simp[Nat.add_assoc]
theorem CW {b o m:Nat} {c:Array Value} (hc:∀k,w.cell? ⟨b,k,none⟩=c[k]?) (h:o+m<=c.size\/m=0) :
 (loadCells ⟨b,o,none⟩ m).run P w=.ok ((c.toList.drop o).take m).toArray w:=by
 rcases h with h|h
 .have:=Hu (P:=P) hc m 0 #[] (o:=o) (by omega)
  simpa [loadCells]using this
 .subst h;simp[loadCells,loadCellsFrom]
theorem e9 {es:Nat} {xs:List (List V)} (hu:∀x∈xs,x.length=es):xs.flatten.length=xs.length*es:=by
 induction xs with
 | nil=>simp
 | cons x xs u=>
  simp only[List.flatten_cons,ζi,List.length_cons];rw[u (λy w=>hu y (List.mem_cons_of_mem _ w)),hu x (by simp),Nat.add_mul];omega
theorem C9 {es:Nat}:∀{xs:List (List V)} (_:∀x∈xs,x.length=es) {el:Nat} {cs:List V},xs[el]? = some cs->(xs.flatten.drop (el*es)).take es=cs:=by
 intro xs
 induction xs with
 | nil=>intro _ el cs h;simp at h
 | cons x xs w=>
  intro hu el cs h;have u:x.length=es:=hu x (by simp)
  cases el with
  | zero=>simp at h;subst h;simp[u]
  | succ el=>
   have:=w (λy z=>hu y (List.mem_cons_of_mem _ z)) (el:=el) (cs:=cs) (by simpa using h)
   rw[List.flatten_cons,show (el+1)*es=x.length+el*es by rw[u,Nat.add_mul];omega,<-List.drop_drop]
   simpa using this
theorem Fh {es:Nat}:∀{xs:List (List V)} (_:∀x∈xs,x.length=es) {el:Nat} (cs:List V),el<xs.length->cs.length=es ->
 (xs.set el cs).flatten=xs.flatten.take (el*es)++cs++xs.flatten.drop (el*es+es):=by
 intro xs
 induction xs with
 | nil=>intro _ el cs h;simp at h
 | cons x xs w=>
  intro hu el cs h hc;have u:x.length=es:=hu x (by simp)
  cases el with
  | zero=>simp[u]
  | succ el=>
   have:=w (λy z=>hu y (List.mem_cons_of_mem _ z)) (el:=el) cs (by simpa using h) hc
   simp only[List.set_cons_succ,List.flatten_cons,this];rw[show (el+1)*es=x.length+el*es by rw[u,Nat.add_mul];omega]
   rw[show x.length+el*es+es=x.length+(el*es+es)by omega]
   rw[List.take_append,List.drop_append];simp[List.take_of_length_le,List.drop_eq_nil_of_le,Nat.add_sub_cancel_left]
theorem u_ {es:Nat} {xs:List (List V)} (hu:∀x∈xs,x.length=es) {i j:Nat} {x:List V} {y:V} (h1:xs[i]? = some x) (B:x[j]? = some y):xs.flatten[i*es+j]? = some y:=by
 have:=C9 hu h1;have u:j<es:=by rw[<-hu x (List.mem_of_getElem? h1)];exact(ζe.1 B).1
 have e:=congrArg (·[j]?) this;simp only[List.getElem?_take,u,if_true,List.getElem?_drop]at e;rw[e];exact B
theorem fF.elem {p:Pl} {c:Array Value} {es:Nat} {xs:List (List V)} (r:fF I μ p c es xs) {el:Nat} {cs:List V} (h:xs[el]? = some cs) :
 cw I μ cs ((c.toList.drop (p.o+el*es)).take es)/\cs.length=es/\p.o+el*es+es<=c.size:=by
 have u:=(ζe.1 h).1;have z:=r.oc cs (List.mem_of_getElem? h);have h1:=(r.rel.drop (el*es)).take es;rw[C9 r.oc h]at h1;have A:el*es+es<=xs.length*es:=by
  have:=Nat.mul_le_mul_right es (show el+1<=xs.length from u)
  rwa [Nat.add_mul,Nat.one_mul]at this
 have w:=r.room;refine⟨?_,z,by omega⟩
 have e:(((c.toList.drop p.o).take (xs.length*es)).drop (el*es)).take es=(c.toList.drop (p.o+el*es)).take es:=by
  rw[List.drop_take,List.take_take,List.drop_drop,Nat.min_eq_left (by omega)]
 rw[e]at h1;exact h1
theorem fF.span {p:Pl} {c:Array Value} {es:Nat} {xs:List (List V)} (r:fF I μ p c es xs) {off len:Nat} (h:off+len<=xs.length) :
 cw I μ ((xs.drop off).take len).flatten ((c.toList.drop (p.o+off*es)).take (len*es))/\p.o+off*es+len*es<=c.size:=by
 have w:=r.room;have A:off*es+len*es<=xs.length*es:=by
  rw[<-Nat.add_mul];exact Nat.mul_le_mul_right _ h
 have e1:((xs.drop off).take len).flatten=(xs.flatten.drop (off*es)).take (len*es):=by
  have u:xs=xs.take off++((xs.drop off).take len++(xs.drop off).drop len):=by rw[List.take_append_drop,List.take_append_drop]
  have g1:(xs.take off).flatten.length=off*es:=by
   rw[e9 (λx u=>r.oc x (List.mem_of_mem_take u))];rw[List.length_take,Nat.min_eq_left (by omega)]
  have g2:((xs.drop off).take len).flatten.length=len*es:=by
   rw[e9 (λx u=>r.oc x (List.mem_of_mem_drop (List.mem_of_mem_take u))),List.length_take,List.length_drop,Nat.min_eq_left (by omega)]
  have z:=congrArg List.flatten u;simp only[List.flatten_append]at z;rw[z,<-g1,List.drop_left,<-g2,List.take_left]
 have h1:=(r.rel.drop (off*es)).take (len*es);rw[e1];refine⟨?_,by omega⟩
 have e:(((c.toList.drop p.o).take (xs.length*es)).drop (off*es)).take (len*es)=(c.toList.drop (p.o+off*es)).take (len*es):=by
  rw[List.drop_take,List.take_take,List.drop_drop,Nat.min_eq_left (by omega)]
 rw[e]at h1;exact h1
theorem GM {ob:Ob} {es:Nat} {xs:List (List V)} (h:ob.rows=some (es,xs)):ob=.row es xs\/ob=.frz es xs:=by
 cases ob <;> simp_all [Ob.rows]
theorem cN.rows (s:cN I μ H w) {id es:Nat} {xs:List (List V)} (h:(H[id]?).bind Ob.rows=some (es,xs)) :
 ∃p c,μ id=some p/\(∀k,w.cell? ⟨p.b,k,none⟩=c[k]?)/\fF I μ p c es xs:=by
 obtain⟨ob,h1,u⟩:=ζg.1 h;have:=s.obs id ob h1;rcases GM u with rfl|rfl
 .obtain⟨p,c,el,g1,_,g3,g4⟩:=this;exact⟨p,c,g1,uE g3,g4⟩
 .obtain⟨p,c,g1,g2,g4⟩:=this;obtain⟨el,fr,g3⟩:=s.imm _ _ g2;exact⟨p,c,g1,uE g3,g4⟩
theorem N8 (s:cN I μ H w) {p:V} {v:Value} (hv:bz I μ p v) {m:Nat} {cs:List V} (h:ei H p m=some cs) :
 ∃(b o:Nat) (c:Array Value),v=.pointer (some ⟨b,o,none⟩)/\(∀k,w.cell? ⟨b,k,none⟩=c[k]?)/\(o+m<=c.size\/m=0)/\cw I μ cs ((c.toList.drop o).take m):=by
 unfold ei at h;split at h
 .rename_i z;obtain⟨b,o,c,e,G,Q,hr⟩:=hv.k_;obtain⟨el,fr,g⟩:=s.imm _ _ G;refine⟨b,o,c,e,uE g,?_⟩;have J:cw I μ z ((c.toList.drop o).take z.length):=by
   refine⟨by simp;omega,λj x y h1 B=>?_⟩
   have L:=(ζe.1 h1).1;rw[List.getElem?_take,if_pos L,List.getElem?_drop]at B;exact .c _ _ (hr j x y h1 (by simpa using B))
  rcases zW J h with⟨g1,g2,g3⟩|⟨g1,g2⟩
  .refine⟨.inl (by omega),?_⟩
   rw[List.drop_zero,List.take_take,Nat.min_eq_left (by omega)]at g1
   exact g1
  .refine⟨.inr g1,?_⟩;rw[g2,g1];exact .nil
 .rename_i id el off;split at h
  .rename_i es z u;split at h
   .rename_i O A;obtain⟨p,c,g1,g2,g3⟩:=s.rows u;obtain⟨q,C,e⟩:=hv.sG;rw[g1]at C;cases C;refine⟨_,_,c,e,g2,?_⟩;obtain⟨k1,S,T⟩:=g3.elem A;rw[g3.es_eq];rcases zW k1 h with⟨f1,D,U⟩|⟨f1,D⟩
    .refine⟨.inl (by omega),?_⟩
     rw[List.drop_take,List.take_take,Nat.min_eq_left (by omega),List.drop_drop]at f1
     exact f1
    .refine⟨.inr f1,?_⟩;rw[D,f1];exact .nil
   .simp at h
  .simp at h
 .simp at h
theorem BJ (D:dX P E) (s:cN I μ H w) {t:TypeId} {d:TD} (hd:E.tt t=some d) {p x:V} {v:Value} (hv:bz I μ p v) (h:(ei H p d.size).bind (mk d.agg)=some x) :
 ∃u,(Instr.loadAt t v).run P w=.ok u w/\bz I μ x u/\∃G,v=.pointer (some G)/\(loadVar t G).run P w=.ok u w:=by
 obtain⟨cs,hc,B⟩:=ζg.1 h;obtain⟨b,o,c,e,g1,g2,g3⟩:=N8 s hv hc;have key:∃u,(loadVar t ⟨b,o,none⟩).run P w=.ok u w/\bz I μ x u:=by
  unfold loadVar;simp only[Sem.run_bind,(D.ty hd).I6,Result.andThen_ok]
  cases z:d.agg with
  | true=>
   rw[z]at B;refine⟨.agg ((c.toList.drop o).take d.size).toArray,?_,K5 B (by simpa using g3)⟩
   simp only[if_true,Sem.run_bind,(D.ty hd).jE,Result.andThen_ok,CW g1 g2,Sem.run_pure]
  | false=>
   rw[z]at B;obtain⟨u,hu,C⟩:=mk_one B g3;refine⟨u,?_,C⟩;have J:d.size≠0:=by
    intro L;rw[L]at hu;simp at hu
   have A:c[o]? = some u:=by
    have:=congrArg (·[0]?) hu;simp only[List.getElem?_take,List.getElem?_drop,List.getElem?_cons_zero]at this;rw[if_pos (by omega)]at this
    simpa using this
   simp only[Bool.false_eq_true,if_false,run_load,g1,A]
 obtain⟨u,h1,O⟩:=key;refine⟨u,?_,O,_,e,h1⟩;rw[e];unfold Instr.loadAt;simp only[Sem.run_bind,Instr.sureAddr,Sem.run_pure,Result.andThen_ok,h1]
end
end Go.VE
namespace Go.VE
variable [bN]
section
variable {P:Program} {E:Env} {I:b9} {μ:Mu} {H:bf} {n:Nat} {F:Frame} {a:Act} {w:World}
theorem cN.FH (s:cN I μ H w) {b:Nat} {x:IC} (h:I b=some x):b<w.heap.size:=IC.s6 (s.imm b x h)
theorem QW {b es:Nat} {c:Array Value} {xs:List (List V)} (h:cw I μ xs.flatten c.toList) (hu:∀x∈xs,x.length=es) (B:∀x∈xs,∀y∈x,V.one y=true) :
 fF I μ ⟨b,0,es,c.size⟩ c es xs:=by
 have u:xs.length*es=c.size:=by rw[<-e9 hu,h.1];simp
 exact⟨rfl,rfl,hu,B,by simp[u],by simpa [u,List.take_of_length_le]using h⟩
structure P7 (I:b9) (μ:Mu) (w:World) (ob:Ob) (m:Mk) (o:Obj) (p:Pl) (u:Value):Prop where
 b:p.b=w.heap.size
 live:ob.live=true
 nf:Obj.nf o
 len:∀es xs,ob=.row es xs->p.sz=xs.length*es
 rel:∀k,μ k=none->rH I (μ.gb k p) (w.alloc o) k ob/\bz I (μ.gb k p) (m.val k) u
theorem cN.xh (s:cN I μ H w):I w.heap.size=none:=by
 cases h:I w.heap.size with
 | none=>rfl
 | some x=>have:=s.FH h;omega
theorem vC (s:cN I μ H w) {es:Nat} {xs:List (List V)} {c:Array Value} {el:TypeId} {m:Mk} {u:Value} (h:cw I μ xs.flatten c.toList) (hu:∀x∈xs,x.length=es)
 (B:∀x∈xs,∀y∈x,V.one y=true) (hv:∀k,bz I (μ.gb k ⟨w.heap.size,0,es,c.size⟩) (m.val k) u):P7 I μ w (.row es xs) m (.cells c el) ⟨w.heap.size,0,es,c.size⟩ u where
 nf:=sx _ _
 b:=rfl
 live:=rfl
 len:=λz A e=>by cases e;rw[<-e9 hu,h.1];simp
 rel:=λk hk=>⟨⟨_,c,el,Mu.fI _ _ _,s.xh,lP _,(QW h hu B).mono (b9.le_refl _) (Mu.pL hk)⟩,hv k⟩
theorem Ix (t:TypeId) (v:Value):(newVar t v).run P w=.ok ⟨w.heap.size,0,none⟩ (w.alloc (.cells v.cells t)):=by
 simp[newVar,newRow]
theorem vu {z:List V} {B:Array Value} (h:cw I μ z B.toList) (m:Nat) :
 cw I μ (List.replicate m z).flatten (((Array.range (m*B.size)).map (λi=>B[i % B.size]!)).toList):=by
 have D:z.length=B.size:=by simpa using h.1
 have hu:∀x∈List.replicate m z,x.length=z.length:=λx J=>by rw[List.eq_of_mem_replicate J]
 have w:=e9 hu;simp only[List.length_replicate]at w;refine⟨by rw[w,D];simp,λj x y h1 G=>?_⟩
 have A:=(ζe.1 h1).1;rw[w]at A;have u:0<z.length:=by
  rcases Nat.eq_zero_or_pos z.length with h0|h0
  .rw[h0]at A;simp at A
  .exact h0
 have hi:j / z.length<m:=(Nat.div_lt_iff_lt_mul u).2 A;have hr:j % z.length<z.length:=Nat.mod_lt _ u;have e1:=u_ hu (i:=j / z.length) (j:=j % z.length) (x:=z) (y:=z[j % z.length]) (by simp[hi]) (by simp[hr])
 rw[Nat.mul_comm,Nat.div_add_mod]at e1;rw[e1]at h1;cases h1;have C:j % B.size<B.size:=by rw[<-D];exact hr
 have e2:y=B[j % B.size]:=by
  have L:j<(Array.range (m*B.size)).size:=by simp;rw[<-D];exact A
  simp only[Array.toList_map,List.getElem?_map,ζf]at G;obtain⟨q,O,rfl⟩:=G;have:q=j:=by
   have:=(ζe.1 O).2;simpa using this.symm
  subst this;simp[C]
 rw[e2];exact h.2 (j % z.length) _ _ (by simp[hr]) (by rw[D];simp[C])
theorem Ek {es:Nat}:∀(vs:List (Nat×V)) (xs ys:List (List V)),(∀x∈xs,x.length=es)->(∀x∈xs,∀y∈x,V.one y=true)->gL es xs vs=some ys ->
 s_ (λi=>some (i*es,es)) xs.flatten vs=some ys.flatten/\(∀x∈ys,x.length=es)/\(∀x∈ys,∀y∈x,V.one y=true)/\ys.length=xs.length:=by
 intro vs
 induction vs with
 | nil=>intro xs ys hu u h;simp only[gL,ζa]at h;subst h;exact⟨rfl,hu,u,rfl⟩
 | cons v vs D=>
  intro xs ys hu u h;obtain⟨i,v⟩:=v;simp only[gL]at h;split at h
  .rename_i hc;obtain⟨h1,C,G⟩:=hc;have w:∀x∈xs.set i v.cells,x.length=es:=λx z=>by
    rcases List.mem_or_eq_of_mem_set z with h|h
    .exact hu x h
    .rw[h];exact h1
   have A:∀x∈xs.set i v.cells,∀y∈x,V.one y=true:=λx z=>by
    rcases List.mem_or_eq_of_mem_set z with h|h
    .exact u x h
    .rw[h];simpa using G
   obtain⟨g1,g2,g3,g4⟩:=D _ ys w A h;refine⟨?_,g2,g3,by simpa using g4⟩
   rw[Fh hu _ C h1]at g1;have I:i*es+es<=xs.length*es:=by
    have:=Nat.mul_le_mul_right es (show i+1<=xs.length from C)
    rwa [Nat.add_mul,Nat.one_mul]at this
   have B:=e9 hu;simp only[s_];rw[if_neg (by simp[h1,B];omega),h1]
   exact g1
  .simp at h
theorem AN (G:dX P E) (r:dP I μ n F a.tmps) (s:cN I μ H w) (o:Oper) {ob:Ob} {m:Mk} (h:ey E F o.op=some (ob,m)) :
 ∃x p u,(execOp a.eval o).run P w=.ok (.value u) (w.alloc x)/\P7 I μ w ob m x p u:=by
 obtain⟨dst,op,ty,pos,after,guard⟩:=o;simp only at h
 cases op with
 | alloc t=>
  simp only[ey,ζf,ζc]at h;obtain⟨d,hd,rfl,rfl⟩:=h;obtain⟨z,U,hr,W,J⟩:=(G.ty hd).Bx;refine⟨.cells z.cells t,_,.pointer (some ⟨w.heap.size,0,none⟩),?_,vC s (by simpa using hr I μ) (by simp[W]) (by simpa using J) (λk=>?_)⟩
  .simp only[execOp];refine dR ?_;unfold Instr.alloc;simp only[Sem.run_bind,U,Result.andThen_ok,Ix,Sem.run_pure]
  .have:=bz.hptr (I:=I) k 0 0 _ (Mu.fI μ k ⟨w.heap.size,0,d.size,z.cells.size⟩);simp only[Nat.zero_mul,Nat.add_zero]at this;exact this
 | box t x=>
  simp only[ey]at h;split at h
  .rename_i v hv;split at h
   .rename_i J;simp only[ζa,ζc]at h;obtain⟨rfl,rfl⟩:=h;have hr:=c8 r hv;refine⟨.cells (a.eval x).cells t,_,.pointer (some ⟨w.heap.size,0,none⟩),?_,vC s (by simpa using hr.cells) (by simp) (by simpa using J) (λk=>?_)⟩
    .simp only[execOp];refine dR ?_;unfold Instr.box;simp only[Sem.run_bind,Ix,Result.andThen_ok,Sem.run_pure]
    .have:=bz.hptr (I:=I) k 0 0 _ (Mu.fI μ k ⟨w.heap.size,0,v.cells.length,(a.eval x).cells.size⟩);simp only[Nat.zero_mul,Nat.add_zero]at this;exact this
   .simp at h
  .simp at h
 | makeSlice t l c=>
  simp only[ey]at h;split at h
  .rename_i e k1 ln k2 A hk W hc;obtain⟨d,hd,L⟩:=eV hk;obtain⟨desc,h1,X,h3⟩:=(G.ty hd).dA;rw[L]at X;have:=iJ X;subst this;split at h
   .rename_i D C;split at h
    .rename_i O;obtain⟨rfl,rfl,am,an,hm,ao⟩:=O;simp only[ζa,ζc]at h;obtain⟨rfl,rfl⟩:=h;obtain⟨z,U,hr,Q,J⟩:=(G.ty C).Bx;obtain⟨i,_,hi,al,ap,_⟩:=(G.ty C).info;have B:z.cells.size=D.size:=by have:=(hr I μ).1;simp at this;omega
     have Y:(0:Int)<=A:=by omega
     have w1:IntKind.i64.wrap ln=ln:=by simp[IntKind.wrap,IntKind.signed,IntKind.bits];omega
     have w2:IntKind.i64.wrap A=A:=by simp[IntKind.wrap,IntKind.signed,IntKind.bits];omega
     have Z:∀y:Int,0<=y->y<=2147483648->((i.bytes:Int)*y>2 ^ 48)=False:=by
      intro y ad hy;simp only[eq_iff_iff,iff_false,Int.not_lt,gt_iff_lt];have ae:(i.bytes:Int)<=4096:=by omega
      calc (i.bytes:Int)*y<=4096*2147483648:=Int.mul_le_mul ae hy ad (by omega)
       _<=2 ^ 48:=by decide
     have aa:(Instr.makeSlice t (.int .i64 ln) (.int .i64 A)).run P w =
      .ok (.slice (some ⟨w.heap.size,0,none⟩) ln.toNat A.toNat) (w.alloc (.cells ((Array.range (A.toNat*z.cells.size)).map (λi=>z.cells[i % z.cells.size]!)) e)):=by
      unfold Instr.makeSlice;have t1:(decide (A<0)||decide ((i.bytes:Int)*A>2 ^ 48))=false:=by
       rw[Bool.or_eq_false_iff];exact⟨by simp;omega,by simp only[Z A Y hm,decide_false]⟩
      have q1:(((decide (A<0)||decide ((i.bytes:Int)*A>2 ^ 48))||decide (ln<0))||decide (ln>A))=false:=by rw[t1];simp;omega
      simp only[Sem.run_bind,h3,Result.andThen_ok,asInt,kN,Sem.run_pure,nG hi,w1,w2,q1,Bool.false_eq_true,if_false,run_askRoom,(G.ty C).jE];rw[B]
      by_cases T:A.toNat*D.size=0
      .have er:Array.range 0=(#[]:Array Nat):=rfl;simp[T,newRow,er]
      .simp[T,U,B,newRow]
     refine⟨.cells ((Array.range (A.toNat*z.cells.size)).map (λi=>z.cells[i % z.cells.size]!)) e,_,.slice (some ⟨w.heap.size,0,none⟩) ln.toNat A.toNat,?_,vC s (vu (hr I μ) A.toNat) (λx S=>by rw[List.eq_of_mem_replicate S,Q]) (λx S=>by rw[List.eq_of_mem_replicate S];simpa using J) (λk=>?_)⟩
     .simp only[execOp];refine dR ?_;rw[(c8 r W).eU,(c8 r hc).eU];exact aa
     .have:=bz.hsl (I:=I) (μ:=μ.gb k ⟨w.heap.size,0,D.size,((Array.range (A.toNat*z.cells.size)).map (λi=>z.cells[i % z.cells.size]!)).size⟩) k 0 ln.toNat A.toNat _ (Mu.fI _ _ _) (by omega) (by simp[B])
      simpa [Mk.val]using this
    .simp at h
   .simp at h
  .simp at h
 | buildSlice t len ps=>
  simp only[ey]at h;split at h
  .rename_i e vs hk af;obtain⟨d,hd,L⟩:=eV hk;obtain⟨desc,h1,X,h3⟩:=(G.ty hd).dA;rw[L]at X;have:=iJ X;subst this;split at h
   .rename_i D C;split at h
    .rename_i ah;simp only[ζf,ζc]at h;obtain⟨ys,ai,rfl,rfl⟩:=h;obtain⟨z,U,hr,Q,J⟩:=(G.ty C).Bx;have B:z.cells.size=D.size:=by have:=(hr I μ).1;simp at this;omega
     obtain⟨W,aj⟩:=Dx r af;obtain⟨g1,g2,g3,g4⟩:=Ek vs _ ys (λx S=>by rw[List.eq_of_mem_replicate S,Q]) (λx S=>by rw[List.eq_of_mem_replicate S];simpa using J) ai
     obtain⟨r',f1,f2⟩:=A0 (place':=λi=>some (i*D.size,D.size)) (λi p hp=>hp) vs _ _ _ ((Array.range (len*z.cells.size)).map (λi=>z.cells[i % z.cells.size]!)) W aj (vu (hr I μ) len) g1
     have ab:r'.size=len*D.size:=by
      have e1:=f2.1;rw[e9 g2,g4]at e1;simpa using e1.symm
     refine⟨.cells r' e,_,.slice (some ⟨w.heap.size,0,none⟩) len len,?_,vC s f2 g2 g3 (λk=>?_)⟩
     .simp only[execOp];refine dR ?_;unfold Instr.buildSlice;have ak:¬(len*D.size>2 ^ 24):=by omega
      simp only[Sem.run_bind,h3,Result.andThen_ok,(G.ty C).jE,if_neg ak]
      by_cases T:len*D.size=0
      .have e0:(Array.range (len*z.cells.size)).map (λi=>z.cells[i % z.cells.size]!)=#[]:=by rw[B,T];simp
       rw[e0]at f1;have er:Array.range 0=(#[]:Array Nat):=rfl;simp only[T,if_true,Sem.run_pure,Result.andThen_ok,er,Array.map_empty];rw[f1];simp[newRow]
      .simp only[if_neg T,Sem.run_bind,U,Result.andThen_ok,Sem.run_pure];rw[B]at f1;rw[B,f1];simp[newRow]
     .have:=bz.hsl (I:=I) (μ:=μ.gb k ⟨w.heap.size,0,D.size,r'.size⟩) k 0 len len _ (Mu.fI _ _ _) (Nat.le_refl _) (by simp[ab])
      simpa [Mk.val]using this
    .simp at h
   .simp at h
  .simp at h
 | makeMap t r=>
  cases r with
  | none=>
   simp only[ey,ζa,ζc]at h;obtain⟨rfl,rfl⟩:=h;refine⟨.map #[] 0,⟨w.heap.size,0,0,0⟩,.map (some w.heap.size),?_,⟨rfl,rfl,qn rfl,λ_ _ e=>(nomatch e),λk hk=>⟨⟨_,#[],0,Mu.fI _ _ _,s.xh,lP _,rfl,by simp⟩,?_⟩⟩⟩
   .simp only[execOp];refine dR ?_;unfold Instr.makeMap;simp[run_newObj]
   .exact bz.hmap (I:=I) k ⟨w.heap.size,0,0,0⟩ (Mu.fI _ _ _)
  | some x=>simp[ey]at h
 | _=>simp[ey]at h
end
end Go.VE
namespace Go.VE
variable [bN]
section
variable {P:Program} {E:Env} {I:b9} {μ:Mu} {H H':bf} {n:Nat} {F:Frame} {a:Act} {w:World}
theorem bz.one {x:V} {v:Value} (h:bz I μ x v) (B:x.one=true):v.oneCell'=true:=by
 cases h with
 | c _ _ h=>cases h <;> first|rfl|simp[V.one]at B
 | agg=>simp[V.one]at B
 | tup=>simp[V.one]at B
 | _=>rfl
theorem cw.M6 {xs:List V} {vs:List Value} (h:cw I μ xs vs) (B:∀x∈xs,V.one x=true):∀v∈vs,v.oneCell'=true:=by
 intro v hv;obtain⟨j,w,rfl⟩:=List.mem_iff_getElem.1 hv;have u:j<xs.length:=by rw[h.1];exact w
 exact(h.2 j xs[j] vs[j] (by simp[u]) (by simp[w])).one (B _ (List.getElem_mem u))
theorem MJ {b:Nat} {o:Obj} (h:w.heap[b]? = some o):fh w b o=w:=by
 unfold fh;have:w.heap.setIfInBounds b o=w.heap:=by
  apply Array.ext
  .simp
  .intro i h1 u;obtain⟨z,e⟩:=Array.getElem?_eq_some_iff.1 h;rw[Array.getElem_setIfInBounds];split
   .subst_vars;rfl
   .rfl
 rw[this]
theorem EJ {b o:Nat} {c:Array Value} {el:TypeId} {v:Value} (h:w.heap[b]? = some (.cells c el)) :
 w.setCell ⟨b,o,none⟩ v=fh w b (.cells (c.setIfInBounds o v) el):=by
 unfold World.setCell fh
 congr 1
 obtain⟨A,e⟩:=Array.getElem?_eq_some_iff.1 h;apply Array.ext
 .simp
 .intro i h1 z
  by_cases hi:i=b
  .subst hi;simp[Array.getElem_modify,e]
  .have u:i<w.heap.size:=by simpa using z
   rw[Array.getElem_modify_of_ne (Ne.symm hi) _ (by simpa using u),Array.getElem_setIfInBounds]
   .simp[Ne.symm hi]
   .exact u
theorem tM {b o:Nat} {el:TypeId}:∀(vs:List Value) (i:Nat) (w:World) (c:Array Value),w.heap[b]? = some (.cells c el)->(∀v∈vs,v.oneCell'=true)->o+i+vs.length<=c.size ->
 ∃c',(storeCells ⟨b,o,none⟩ vs i).run P w=.ok () (fh w b (.cells c' el))/\c'.toList=c.toList.take (o+i)++vs++c.toList.drop (o+i+vs.length):=by
 intro vs
 induction vs with
 | nil=>
  intro i w c h _ _;exact⟨c,by simp[storeCells,MJ h],by simp⟩
 | cons v vs D=>
  intro i w c h C G;simp only[List.length_cons]at G;have z:o+i<c.size:=by omega
  have u:w.cell? ⟨b,o+i,none⟩=some c[o+i]:=by rw[uE h];simp[z]
  have B:w.frozen? ⟨b,o+i,none⟩=false:=by simp[World.frozen?,h]
  have I:=(Array.getElem?_eq_some_iff.1 h).1;obtain⟨c',g1,g2⟩:=D (i+1) (fh w b (.cells (c.setIfInBounds (o+i) v) el)) (c.setIfInBounds (o+i) v) (gP _ I) (λx J=>C x (List.mem_cons_of_mem _ J)) (by simp;omega)
  refine⟨c',?_,?_⟩
  .simp only[storeCells,Sem.run_bind,oq,run_store P w _ v _ (C v (by simp)),u,B,Bool.false_eq_true,if_false,Result.andThen_ok,EJ h]
   rw[g1,Ma]
  .rw[g2];have A:o+i<c.toList.length:=by simpa using z
   simp only[Array.toList_setIfInBounds,List.length_cons];rw[show o+(i+1)=o+i+1 from by omega,List.take_succ_eq_append_getElem (by simpa using A),List.take_set_of_le (by omega),List.getElem_set_self,List.drop_set_of_lt (by omega)]
   simp[List.append_assoc];omega
structure AM (P:Program) (I:b9) (μ:Mu) (H:bf) (w:World) (s:Sem Next) (x:V) (H':bf):Prop where
 run:∃nx u w' μ',s.run P w=.ok nx w'/\(nx=.value u\/(nx=.skip/\u=undef))/\bz I μ' x u/\cN I μ' H' w'/\Step I μ H w I μ' H' w'
theorem AI {α:Type} (L vs:List α) (o m k:Nat) (D:o+m<=L.length) (hk:k+vs.length<=m) :
 ((L.take (o+k)++vs++L.drop (o+k+vs.length)).drop o).take m=((L.drop o).take m).take k++vs++((L.drop o).take m).drop (k+vs.length):=by
 obtain⟨A,B,C,rfl,u,w⟩:∃A B C:List α,L=A++(B++C)/\A.length=o/\B.length=m:=
  ⟨L.take o,(L.drop o).take m,(L.drop o).drop m,by rw[List.take_append_drop,List.take_append_drop],by simp;omega,by simp;omega⟩
 subst u;subst w;have e1:(A++(B++C)).take (A.length+k)=A++B.take k:=by
  rw[List.take_append,List.take_of_length_le (by omega),Nat.add_sub_cancel_left,List.take_append_of_le_length (by omega)]
 have e2:(A++(B++C)).drop (A.length+k+vs.length)=B.drop (k+vs.length)++C:=by
  rw[List.drop_append,List.drop_eq_nil_of_le (by omega),List.nil_append,List.drop_append_of_le_length (by omega)]
  congr 2;omega
 have e3:((A++(B++C)).drop A.length).take B.length=B:=by simp
 rw[e1,e2,e3];simp only[List.append_assoc,List.drop_left];have z:(B.take k++(vs++B.drop (k+vs.length))).length=B.length:=by simp;omega
 have:B.take k++(vs++(B.drop (k+vs.length)++C))=(B.take k++(vs++B.drop (k+vs.length)))++C:=by simp[List.append_assoc]
 rw[this,<-z,List.take_left]
theorem fF.splice {p:Pl} {c c':Array Value} {es el off:Nat} {xs:List (List V)} {cs ys:List V} {vs:List Value} (r:fF I μ p c es xs) (B:xs[el]? = some cs) (T:cw I μ ys vs)
 (U:∀y∈ys,V.one y=true) (Y:off+ys.length<=cs.length) (hc:c'.toList=c.toList.take (p.o+el*es+off)++vs++c.toList.drop (p.o+el*es+off+vs.length)) :
 fF I μ p c' es (xs.set el (cs.take off++ys++cs.drop (off+ys.length))):=by
 obtain⟨k1,X,Z⟩:=r.elem B;have C:=(ζe.1 B).1;have Q:=T.1;have u:=r.room;have hm:el*es+es<=xs.length*es:=by
  have:=Nat.mul_le_mul_right es (show el+1<=xs.length from C)
  rwa [Nat.add_mul,Nat.one_mul]at this
 have D:c'.size=c.size:=by
  have:=congrArg List.length hc;simp at this;omega
 have G:(cs.take off++ys++cs.drop (off+ys.length)).length=es:=by simp;omega
 have z:∀x∈xs.set el (cs.take off++ys++cs.drop (off+ys.length)),x∈xs\/x=cs.take off++ys++cs.drop (off+ys.length):=λx J=>List.mem_or_eq_of_mem_set J
 refine⟨r.es_eq,by rw[D];exact r.sz,?_,?_,by rw[D];simpa using u,?_⟩
 .intro x J;rcases z x J with h|h
  .exact r.oc x h
  .rw[h];exact G
 .intro x J y w;rcases z x J with h|h
  .exact r.one x h y w
  .rw[h]at w;have L:=r.one cs (List.mem_of_getElem? B);simp only[List.mem_append]at w;rcases w with (h|h)|h
   .exact L y (List.mem_of_mem_take h)
   .exact U y h
   .exact L y (List.mem_of_mem_drop h)
 .rw[Fh r.oc _ C G,hc,List.length_set];have A:=r.rel;have O:=C9 r.oc B;have e:List.take (xs.length*es) (List.drop p.o (List.take (p.o+el*es+off) c.toList++vs++List.drop (p.o+el*es+off+vs.length) c.toList)) =
   (((c.toList.drop p.o).take (xs.length*es)).take (el*es+off))++vs++(((c.toList.drop p.o).take (xs.length*es)).drop (el*es+off+vs.length)):=by
   have:=AI c.toList vs p.o (xs.length*es) (el*es+off) (by simpa using u) (by omega)
   simpa only[Nat.add_assoc]using this
  rw[e];have e2:xs.flatten.take (el*es)++(cs.take off++ys++cs.drop (off+ys.length))++xs.flatten.drop (el*es+es) =
   xs.flatten.take (el*es+off)++ys++xs.flatten.drop (el*es+off+ys.length):=by
   have S:=e9 r.oc;have f1:xs.flatten.take (el*es+off)=xs.flatten.take (el*es)++cs.take off:=by
    rw[<-O,List.take_add,List.take_take,Nat.min_eq_left (by omega)]
   have W:xs.flatten.drop (el*es+off+ys.length)=cs.drop (off+ys.length)++xs.flatten.drop (el*es+es):=by
    rw[<-O,List.drop_take];have:xs.flatten.drop (el*es+es)=(xs.flatten.drop (el*es+(off+ys.length))).drop (es-(off+ys.length)):=by rw[List.drop_drop];congr 1;omega
    rw[this,List.drop_drop,List.take_append_drop,Nat.add_assoc]
   rw[f1,W];simp[List.append_assoc]
  rw[e2,<-Q];exact((A.take _).append T).append (A.drop _)
theorem N9 (T:dX P E) (r:dP I μ n F a.tmps) (s:cN I μ H w) {t:TypeId} {p q:Operand} {x:V} (h:cR E F H (.store t p q)=some (x,H')) :
 AM P I μ H w (do Instr.storeAt t (a.eval p) (a.eval q);pure .skip) x H':=by
 simp only[cR]at h;split at h
 .rename_i d id el off v hd S U;split at h
  .rename_i es L z;split at h
   .rename_i cs A;split at h
    .rename_i hc;obtain⟨W,X,C⟩:=hc;simp only[ζa,ζc]at h;obtain⟨rfl,rfl⟩:=h;obtain⟨pl,c,ty,g1,g2,g3,g4⟩:=s.obs id _ z;obtain⟨Y,O,e⟩:=(c8 r S).sG;rw[g1]at O;cases O;have u:=(c8 r U).cells;have Q:∀y∈v.cells,V.one y=true:=by simpa using C
     obtain⟨k1,k2,k3⟩:=g4.elem A;have D:=u.1;have Z:pl.o+el*es+off+0+(a.eval q).cells.toList.length<=c.size:=by omega
     obtain⟨c',f1,f2⟩:=tM (P:=P) (o:=pl.o+el*es+off) (a.eval q).cells.toList 0 w c g3 (u.M6 Q) Z;have B:fF I μ pl c' es (L.set el (cs.take off++v.cells++cs.drop (off+v.cells.length))):=g4.splice A u Q (by omega) (by simpa using f2)
     have G:=(Array.getElem?_eq_some_iff.1 g3).1;obtain⟨s1,s2⟩:=s.write (ob':=.row es (L.set el (cs.take off++v.cells++cs.drop (off+v.cells.length)))) (o:=.cells c' ty) z rfl g1
      ⟨pl,c',ty,g1,g2,gP _ G,B⟩
     refine⟨.skip,undef,_,μ,?_,.inr ⟨rfl,rfl⟩,.undef I μ,s1,s2⟩;rw[e];have J:¬((a.eval q).cells.size≠d.size):=by simp at D;omega
     rw[g4.es_eq];unfold Instr.storeAt storeVar;simp only[Sem.run_bind,Instr.sureAddr,Sem.run_pure,Result.andThen_ok,(T.ty hd).jE,if_neg J,f1]
    .simp at h
   .simp at h
  .simp at h
 .simp at h
end
end Go.VE
namespace Go.VE
variable [bN]
section
variable {P:Program} {E:Env} {I:b9} {μ:Mu} {H H':bf} {n:Nat} {F:Frame} {a:Act} {w:World}
theorem yX (s:cN I μ H w) {x:V} {v:Value} (Y:bz I μ x v) {es:Nat} {ys:List (List V)} (h:dx H es x=some ys) :
 ∃B cap arr,v=.slice B ys.length cap/\ys.length<=cap/\(∀D:World,D.heap=w.heap->(Builtin.firstCells es ys.length v).run P D=.ok arr D)/\cw I μ ys.flatten arr.toList/\(∀y∈ys,y.length=es) /\
  (∀y∈ys,∀z∈y,V.one z=true):=by
 have A:∀(B:Option Addr) (cap:Nat) (D:World),D.heap=w.heap->(Builtin.firstCells es 0 (.slice B 0 cap)).run P D=.ok #[] D:=by
  intro B cap D _
  cases B with
  | none=>rfl
  | some B=>simp[Builtin.firstCells,loadCells,loadCellsFrom]
 cases x with
 | dm=>
  simp only[dx,ζa]at h;subst h;obtain⟨B,rfl⟩:=Y.qK;exact⟨B,0,#[],rfl,Nat.le_refl _,A B 0,.nil,by simp,by simp⟩
 | bE=>
  simp only[dx,ζa]at h;subst h;rw[Y.kV];exact⟨none,0,#[],rfl,Nat.le_refl _,A none 0,.nil,by simp,by simp⟩
 | fsl u J=>
  simp only[dx]at h;split at h
  .rename_i X;simp only[ζa]at h;subst h;subst X;have hf:=Y.kY
   cases hf with
   | fsl0 _ B cap=>exact⟨some B,cap,#[],rfl,Nat.zero_le _,A (some B) cap,.nil,by simp,by simp⟩
   | fsl _ _ b o cap c hI hc hu ho hb hr=>
    obtain⟨el,fr,Z⟩:=s.imm _ _ hI;refine⟨_,cap,((c.toList.drop o).take (J.length*u)).toArray,rfl,hc,?_,?_,hu,ho⟩
    .intro D L;simp only[Builtin.firstCells];exact CW (uE (w:=D) (by rw[L];exact Z)) (.inl hb)
    .have Q:=e9 hu;refine⟨by simp[Q];omega,λj p q h1 h2=>?_⟩
     have S:=(ζe.1 h1).1;rw[Q]at S;have G:0<u:=by
      rcases Nat.eq_zero_or_pos u with h0|h0
      .rw[h0]at S;simp at S
      .exact h0
     have hi:j / u<J.length:=(Nat.div_lt_iff_lt_mul G).2 S;have T:j % u<u:=Nat.mod_lt _ G;have U:=hu _ (List.getElem_mem hi);have e1:=u_ hu (i:=j / u) (j:=j % u) (x:=J[j / u]) (y:=(J[j / u])[j % u]) (by simp[hi]) (by simp[U,T])
     have ej:j / u*u+j % u=j:=by rw[Nat.mul_comm,Nat.div_add_mod]
     rw[ej,h1]at e1;cases e1;simp only[List.getElem?_take,if_pos S,List.getElem?_drop]at h2;refine .c _ _ (hr (j / u) (j % u) J[j / u] _ q (by simp[hi]) (by simp[U,T]) ?_)
     rw[Nat.add_assoc,ej];simpa using h2
  .simp at h
 | hsl id u off len=>
  simp only[dx]at h;split at h
  .rename_i X;subst X;split at h
   .rename_i O J W;split at h
    .rename_i aa;simp only[ζa]at h;subst h;obtain⟨p,c,g1,g2,g3⟩:=s.rows W;have C:((J.drop off).take len).length=len:=by simp;omega
     rcases Y.kT with⟨q,cap,T,hq,hc,hb,e⟩|⟨h0,B,e⟩
     .rw[g1]at T;cases T;have G:O=u:=by rw[<-g3.es_eq,hq]
      subst G;obtain⟨k1,k2⟩:=g3.span aa;refine⟨_,cap,((c.toList.drop (p.o+off*O)).take (len*O)).toArray,by rw[e,C],by omega,?_,by simpa using k1,?_,?_⟩
      .intro D L;rw[e,C];simp only[Builtin.firstCells];exact CW (λk=>by rw[<-g2 k];simp[World.cell?,L]) (.inl k2)
      .exact λy hy=>g3.oc y (List.mem_of_mem_drop (List.mem_of_mem_take hy))
      .exact λy hy=>g3.one y (List.mem_of_mem_drop (List.mem_of_mem_take hy))
     .subst h0;simp only[List.take_zero]at C ⊢;exact⟨_,0,#[],by rw[e];rfl,Nat.le_refl _,by rw[e];exact A _ 0,.nil,by simp,by simp⟩
    .simp at h
   .simp at h
  .simp at h
 | _=>simp[dx]at h
theorem oU (z:Array Value) (k:Nat):(Builtin.zeroCells z k).size=k*z.size:=by simp[Builtin.zeroCells]
theorem cN.drew (s:cN I μ H w):cN I μ H w.drew:=s.nT rfl
theorem z8 (s:cN I μ H w) {es B:Nat} {xs ys:List (List V)} {old new rest:Array Value} {el:TypeId} (W:cw I μ xs.flatten old.toList) (Y:cw I μ ys.flatten new.toList)
 (G:∀x∈xs,x.length=es) (J:∀x∈ys,x.length=es) (T:∀x∈xs,∀y∈x,V.one y=true) (U:∀x∈ys,∀y∈x,V.one y=true)
 (D:xs.length+ys.length<=B) (hr:rest.size=(B-(xs.length+ys.length))*es) :
 ∃μ',bz I μ' (.hsl H.length es 0 (xs.length+ys.length)) (.slice (some ⟨w.heap.size,0,none⟩) (xs.length+ys.length) B)/\cN I μ' (H++[.row es (xs++ys)]) (w.alloc (.cells (old++new++rest) el)) /\
  Step I μ H w I μ' (H++[.row es (xs++ys)]) (w.alloc (.cells (old++new++rest) el)):=by
 have C:=e9 G;have L:=e9 J;have z:=W.1;have A:=Y.1;simp only[Array.length_toList]at z A;have O:(old++new++rest).size=B*es:=by
  simp only[Array.size_append];rw[<-z,<-A,C,L,hr,<-Nat.add_mul,<-Nat.add_mul];congr 1;omega
 have u:(xs.length+ys.length)*es<=B*es:=Nat.mul_le_mul_right _ D;rw[Nat.add_mul]at u;have Q:fF I μ ⟨w.heap.size,0,es,(old++new++rest).size⟩ (old++new++rest) es (xs++ys):=by
  refine⟨rfl,rfl,?_,?_,?_,?_⟩
  .intro x S;rcases List.mem_append.1 S with h|h;exact G x h;exact J x h
  .intro x S;rcases List.mem_append.1 S with h|h;exact T x h;exact U x h
  .rw[O];simp only[ζi,Nat.zero_add,Nat.add_mul];exact u
  .have e:((old++new++rest).toList.drop 0).take ((xs++ys).length*es)=old.toList++new.toList:=by
    simp only[List.drop_zero,Array.toList_append];rw[List.take_left' (by simp[<-z,<-A,C,L,Nat.add_mul])]
   rw[e,List.flatten_append];exact W.append Y
 obtain⟨s1,X⟩:=s.push (ob:=.row es (xs++ys)) (o:=.cells (old++new++rest) el) (p:=⟨w.heap.size,0,es,(old++new++rest).size⟩) rfl
  ⟨_,_,el,Mu.fI _ _ _,s.xh,lP _,Q.mono (b9.le_refl _) (Mu.pL (s.dom _ (Nat.le_refl _)))⟩
 refine⟨_,?_,s1,X⟩;have:=bz.hsl (I:=I) H.length 0 (xs.length+ys.length) B _ (Mu.fI μ H.length ⟨w.heap.size,0,es,(old++new++rest).size⟩) D (by simp only[Nat.zero_add];rw[O];exact Nat.le_refl _)
 simpa using this
theorem Jl (s:cN I μ H w) {id:Nat} {ob ob':Ob} {p p':Pl} {o:Obj} (B:H[id]? = some ob) (T:ob.live=true) (hp:μ id=some p) (Y:p'.b=p.b)
 (aa:rH I (μ.gb H.length p') (fh w p.b o) H.length ob') (hz:Obj.nf o:=by first|exact sx _ _|exact qn rfl):cN I (μ.gb H.length p') (H.set id .dead++[ob']) (fh w p.b o)/\Step I μ H w I (μ.gb H.length p') (H.set id .dead++[ob']) (fh w p.b o):=by
 have Z:=(ζe.1 B).1;have z:gH μ H p.b:=⟨id,p,ob,B,T,hp,rfl⟩;have hk:=s.dom H.length (Nat.le_refl _);have u:∀k x,(H.set id .dead++[ob'])[k]? = some x->(k=H.length/\x=ob')\/(k≠H.length/\k=id/\x=.dead)\/(k≠H.length/\k≠id/\H[k]? = some x):=by
  intro k x h
  by_cases e:k<H.length
  .rw[List.getElem?_append_left (by simpa using e)]at h
   by_cases C:k=id
   .subst C;rw[List.getElem?_set_self Z]at h;cases h;exact .inr (.inl ⟨by omega,rfl,rfl⟩)
   .rw[List.getElem?_set_ne (Ne.symm C)]at h;exact .inr (.inr ⟨by omega,C,h⟩)
  .have:=(ζe.1 h).1;simp at this;have e2:k=H.length:=by omega
   subst e2;simp at h;exact .inl ⟨rfl,h.symm⟩
 have A:∀b,gH (μ.gb H.length p') (H.set id .dead++[ob']) b->gH μ H b:=by
  rintro b ⟨k,q,x,h1,O,S,rfl⟩;rcases u k x h1 with⟨rfl,rfl⟩|⟨_,_,rfl⟩|⟨e,C,h⟩
  .rw[Mu.fI]at S;cases S;rw[Y];exact z
  .simp[Ob.live]at O
  .rw[Mu.gX _ _ e]at S;exact⟨k,q,x,h,O,S,rfl⟩
 refine⟨⟨?_,?_,?_,?_,s.gl⟩,⟨b9.le_refl _,Mu.pL hk,by simp,by rw[vL];exact Nat.le_refl _,?_,?_,rfl,⟨rfl,rfl,Nat.le_refl _⟩,λa _=>BV (b:=p.b) hz (gP o (mc s z)) (λk hk=>fP o hk) a⟩⟩
 .intro k h;simp at h;rw[Mu.gX _ _ (by omega)]
  exact s.dom k (by omega)
 .intro b x h;refine IC.qG (s.imm b x h) (fP o ?_);intro D;rw[D,fA s z]at h;cases h
 .intro k x h;rcases u k x h with⟨rfl,rfl⟩|⟨_,_,rfl⟩|⟨e,C,h⟩
  .exact aa
  .trivial
  .refine(s.obs k x h).mono (b9.le_refl _) (Mu.pL hk) (λq hq Q=>⟨fP o ?_,fA s ⟨k,q,x,h,Q,hq,rfl⟩⟩) (λhe=>?_)
   .intro D;exact C (s.inj k id x ob q p h B Q T hq hp D)
   .subst he;rw[Mu.gX _ _ e];exact s.obs k _ h
 .intro k U x W q q' h1 O l1 X J L G;rcases u k x h1 with⟨rfl,rfl⟩|⟨_,_,rfl⟩|⟨e,C,h⟩
  .rcases u U W O with⟨rfl,rfl⟩|⟨_,_,rfl⟩|⟨f,f',g⟩
   .rfl
   .simp[Ob.live]at X
   .rw[Mu.fI]at J;cases J;rw[Mu.gX _ _ f]at L;exact absurd (s.inj U id W ob q' p g B X T L hp (by rw[<-G,Y])) f'
  .simp[Ob.live]at l1
  .rcases u U W O with⟨rfl,rfl⟩|⟨_,_,rfl⟩|⟨f,f',g⟩
   .rw[Mu.fI]at L;cases L;rw[Mu.gX _ _ e]at J;exact absurd (s.inj k id x ob q p h B l1 T J hp (by rw[G,Y])) C
   .simp[Ob.live]at X
   .rw[Mu.gX _ _ e]at J;rw[Mu.gX _ _ f]at L;exact s.inj k U x W q q' h g l1 X J L G
 .intro b _ hn;refine fP o ?_;rintro rfl;exact hn z
 .intro b h;rcases h with h|h
  .exact .inl h
  .exact .inr (.inl (A b h))
end
end Go.VE
namespace Go.VE
variable [bN]
section
variable {P:Program} {E:Env} {I:b9} {μ:Mu} {H H':bf} {n:Nat} {F:Frame} {a:Act} {w:World}
theorem Cn (hE:dX P E) {t t' e:TypeId} {d:TD} {D:TypeDesc} (ht:P.underlying t=some (.slice e)) (W:P.underlying t'=some D) (Y:∃e',D=.slice e') (hd:E.tt e=some d)
 (U J:Option Addr) (sl sc B xc:Nat) (new:Array Value) (aa:(Builtin.firstCells d.size B (.slice J B xc)).run P w=.ok new w) (ty:TypeId) :
 (sl+B<=sc->∀w',(match U with|some b=>(storeCells (b.add (sl*d.size)) new.toList).run P w=.ok () w'|none=>w'=w) ->
  (Builtin.append_ #[t,t'] ty #[.slice U sl sc,.slice J B xc]).run P w=.ok (.slice U (sl+B) sc) w') /\
 (sc<sl+B->sl+B<=2147483648->d.bytes<=4096->0<d.bytes->∀old,(∀T,T.heap=w.heap->(Builtin.firstCells d.size sl (.slice U sl sc)).run P T=.ok old T) ->
  (∀T,T.heap=w.heap->(Builtin.firstCells d.size B (.slice J B xc)).run P T=.ok new T) ->
  ∃G rest,sl+B<=G/\rest.size=(G-(sl+B))*d.size /\
   (Builtin.append_ #[t,t'] ty #[.slice U sl sc,.slice J B xc]).run P w=.ok (.slice (some ⟨w.heap.size,0,none⟩) (sl+B) G) (w.drew.alloc (.cells (old++new++rest) e))):=by
 obtain⟨i,z,hi,X,ae,hz,I,af,_⟩:=(hE.ty hd).info;have u:∀w,(zeroValue e).run P w=.ok z w:=λw=>by simp[zeroValue,nG hi,hz]
 have L:z.cells.size=d.size:=by have:=(I (λ_=>none) (λ_=>none)).1;grind
 obtain⟨e',rfl⟩:=Y;constructor
 .intro O w' ah;unfold Builtin.append_;simp only[Sem.run_bind,List.getElem?_toArray,List.getElem?_cons_zero,List.getElem?_cons_succ,dA ht,dA W,Result.andThen_ok,(hE.ty hd).jE,Sem.run_pure,Builtin.lenOf,Bool.false_eq_true,if_false,Bool.not_false,if_true,if_pos O,aa]
  cases U with
  | none=>simp_all
  | some b=>simp_all
 .intro Q Z ai ab old hold A;have S  := nextslicecap_le Q;have c1:¬(Builtin.nextslicecap (sl+B) sc*i.bytes>2 ^ 48):=by
   have:Builtin.nextslicecap (sl+B) sc*i.bytes<=(2*2147483648)*4096:=Nat.mul_le_mul (by omega) (by omega)
   omega
  have C:¬(sl+B<=sc):=by omega
  refine⟨(Question.appendCap (sl+B) sc e).cut (w.tape w.drawn (Question.appendCap (sl+B) sc e)),Builtin.zeroCells z.cells (((Question.appendCap (sl+B) sc e).cut (w.tape w.drawn (Question.appendCap (sl+B) sc e)))-(sl+B)),?_,?_,?_⟩
  .simp[Question.cut]
  .rw[oU,L]
  .unfold Builtin.append_;simp only[Sem.run_bind,List.getElem?_toArray,List.getElem?_cons_zero,List.getElem?_cons_succ,dA ht,dA W,Result.andThen_ok,(hE.ty hd).jE,Sem.run_pure,Builtin.lenOf,Bool.false_eq_true,if_false,Bool.not_false,if_true,if_neg C,nG hi];rw[if_neg (by grind)]
   simp only[Sem.run_bind,nG hi,if_neg c1,run_choose,Question.forced,Bool.false_eq_true,if_false,Result.andThen_ok,run_askRoom,u,newRow,run_newObj,Sem.run_pure];rw[hold { w with drawn:=w.drawn+1 } rfl];simp only[Result.andThen_ok];rw[A { w with drawn:=w.drawn+1 } rfl];rfl
theorem wrap_small {m:Nat} (h:m<=2147483648):IntKind.i64.wrap (m:Int)=m:=by simp[IntKind.wrap,IntKind.bits];omega
theorem Dd (T:dX P E) {t U e:TypeId} {d:TD} {kk k:IntKind} (W:P.underlying t=some (.slice e)) (G:P.underlying U=some (.int kk)) (hd:E.tt e=some d) (ty:TypeId) (m:Nat) (D:m<=2147483648) :
 (m=0->(Builtin.append_ #[t,U] ty #[.slice none 0 0,.int k m]).run P w=.ok (.slice none 0 0) w) /\
 (0<m->d.bytes<=4096->0<d.bytes->∃B z rest,m<=B/\rest.size=(B-m)*d.size/\cw I μ d.zero z.toList /\
  (Builtin.append_ #[t,U] ty #[.slice none 0 0,.int k m]).run P w=.ok (.slice (some ⟨w.heap.size,0,none⟩) m B) (w.drew.alloc (.cells (#[]++Builtin.zeroCells z m++rest) e))):=by
 obtain⟨i,z,hi,X,aa,hz,A,ab,_⟩:=(T.ty hd).info;have u:∀w,(zeroValue e).run P w=.ok z w:=λw=>by simp[zeroValue,nG hi,hz]
 have C:z.cells.size=d.size:=by have:=(A (λ_=>none) (λ_=>none)).1;grind
 have hw:=wrap_small D;constructor
 .rintro rfl;unfold Builtin.append_;have O:IntKind.i64.wrap 0=0:=by omega
  simp[dA W,dA G,(T.ty hd).jE,asInt,nG hi,kN,O]
 .intro Y ad Z;have Q:Builtin.nextslicecap (0+m) 0<=2*(0+m):=nextslicecap_le (by omega)
  have c1:¬(Builtin.nextslicecap (0+m) 0*i.bytes>2 ^ 48):=by
   have:Builtin.nextslicecap (0+m) 0*i.bytes<=(2*2147483648)*4096:=Nat.mul_le_mul (by omega) (by omega)
   omega
  have c0:¬(m*(i.bytes:Int)>2 ^ 48):=by
   have h1:m*i.bytes<=2147483648*4096:=Nat.mul_le_mul D (by omega)
   grind
  have c2:¬((0+m:Nat)>IntKind.i64.max):=by
   have:IntKind.i64.max=9223372036854775807:=by rfl
   omega
  have J:¬(0+m<=0):=by omega
  have L:¬((m:Int)<0):=by omega
  refine⟨(Question.appendCap (0+m) 0 e).cut (w.tape w.drawn (Question.appendCap (0+m) 0 e)),z.cells,Builtin.zeroCells z.cells (((Question.appendCap (0+m) 0 e).cut (w.tape w.drawn (Question.appendCap (0+m) 0 e)))-(0+m)),?_,?_,A _ _,?_⟩
  .simp[Question.cut]
  .rw[oU,C,Nat.zero_add]
  .unfold Builtin.append_;have S:(if m*d.size=0 then pure #[]else do pure (Builtin.zeroCells (<-zeroValue e).cells m))=(do pure (Builtin.zeroCells (<-zeroValue e).cells m))\/(m*d.size=0/\Builtin.zeroCells z.cells m=#[]):=by
    by_cases h:m*d.size=0
    .right;exact⟨h,Array.eq_empty_of_size_eq_zero (by rw[oU,C,h])⟩
    .left;rw[if_neg h]
   simp only[Sem.run_bind,List.getElem?_toArray,List.getElem?_cons_zero,List.getElem?_cons_succ,dA W,dA G,Result.andThen_ok,(T.ty hd).jE,Sem.run_pure,if_true,asInt,kN,hw,if_neg L,nG hi,if_neg c0,Int.toNat_natCast,if_neg J,if_false];rw[if_neg (λh=>c2 h.1)]
   simp only[Sem.run_bind,nG hi,if_neg c1,run_choose,Question.forced,Result.andThen_ok,u,newRow,Builtin.firstCells];rcases S with h|⟨h,h'⟩
   .rw[h];simp[u,run_newObj]
   .rw[if_pos h,h'];simp[run_newObj]
theorem Lw (hE:dX P E) (r:dP I μ n F a.tmps) (s:cN I μ H w) {args:Array Operand} {T:Array TypeId} {x:V} {ty:TypeId}
 (h:cR E F H (.call { callee:=.builtin .append,args,argTypes:=T })=some (x,H')) :
 AM P I μ H w (do let d <-resolve a.eval { callee:=.builtin .append,args,argTypes:=T } ty;invoke d.target d.args) x H':=by
 simp[cR]at h;split at h
 .rename_i t t' vs vx ax ai;obtain⟨us,ux,U,hs,S⟩:=(mE r ai).two;split at h
  .rename_i e e' hk aj;obtain⟨d0,ak,al⟩:=eV hk;obtain⟨desc,h1,h2,h3⟩:=(hE.ty ak).dA;rw[al]at h2;have:=iJ h2;subst this;obtain⟨d1,iA,W⟩:=eV aj;obtain⟨am,g1,g2,g3⟩:=(hE.ty iA).dA;rw[W]at g2;have:=iJ g2;subst this;have B:∀v w',(Builtin.append_ #[t,t'] ty #[us,ux]).run P w=.ok v w' ->
    (do let d <-resolve a.eval { callee:=.builtin .append,args,argTypes:=T } ty;invoke d.target d.args).run P w=.ok (.value v) w':=by
    simp[resolve,Sem.run_bind,Sem.run_pure,Result.andThen_ok,invoke,builtin];rw[qN U];have ea:T=#[t,t']:=by grind
    simp_all
   split at h
   .rename_i d hd;split at h
    .
     rename_i xs A an;obtain⟨ad,cap,arr,e1,e2,e3,e4,_⟩:=yX (P:=P) s hs A;obtain⟨ao,X,C,f1,f2,f3,f4,_⟩:=yX  s S an;simp  at f1 f3;have ay:C=#[]:=by
      have:=f4.1;grind
     have f3:=f3 w rfl;rw[f1]at f3;have key:=(Cn hE h1 g1 ⟨_,rfl⟩ hd ad ao xs.length cap 0 X C f3 ty).1 (by omega) w
      (by
       cases ad with
       | none=>rfl
       | some b=>simp[ay,storeCells])
     rw[<-f1,<-e1,Nat.add_zero,<-e1]at key;have ap:x=vs/\H'=H:=by
      grind
     obtain⟨rfl,rfl⟩:=ap;exact⟨_,us,w,μ,B _ _ key,.inl rfl,hs,s,.refl _ _ _ _⟩
    .rename_i xs ys aG A an;obtain⟨ad,cap,arr,e1,e2,e3,e4,e5,e6⟩:=yX  s hs A;obtain⟨ao,X,C,f1,f2,f3,f4,f5,f6⟩:=yX  s S an;split at h
     .rename_i hc;obtain⟨aA,aq,ar⟩:=hc;have aH:0<ys.length:=by
       rcases Nat.eq_zero_or_pos ys.length with h0|h0
       .exact absurd (List.eq_nil_of_length_eq_zero h0) aG
       .exact h0
      have key:=Cn hE h1 g1 ⟨_,rfl⟩ hd ad ao xs.length cap ys.length X C (by rw[<-f1];exact f3 w rfl) ty
      rw[<-f1,<-e1]at key;have O:cap<xs.length+ys.length->∃D rest,xs.length+ys.length<=D/\rest.size=(D-(xs.length+ys.length))*d.size /\
       (Builtin.append_ #[t,t'] ty #[us,ux]).run P w=.ok (.slice (some ⟨w.heap.size,0,none⟩) (xs.length+ys.length) D) (w.drew.alloc (.cells (arr++C++rest) e)):=by
       intro au;refine key.2 au aA aq ar arr ?_ ?_
       .intro w2 av;exact e3 w2 av
       .intro w2 av;exact f3 w2 av
      simp  at h;obtain⟨H1,J,rfl,rfl⟩:=h
      cases vs with
      | dm=>
       simp[gq]at J;subst J;simp[dx]at A;subst A;obtain⟨aI,q⟩:=hs.qK;have af:cap=0:=by rw[q]at e1;cases e1;rfl
       obtain⟨D,rest,k1,k2,k3⟩:=O (by simp;omega)
       obtain⟨μ',m1,m2,m3⟩:=z8  s.drew e4 f4 e5 f5 e6 f6 k1 k2;refine⟨_,_,_,μ',B _ _ k3,.inl rfl,m1,m2,?_⟩;exact Step.trans s.drew (Step.nT rfl rfl ⟨rfl,rfl,Nat.le_succ _⟩) m3
      | bE=>
       simp[gq]at J;subst J;simp[dx]at A;subst A;have q:=hs.kV;have af:cap=0:=by rw[q]at e1;cases e1;rfl
       obtain⟨D,rest,k1,k2,k3⟩:=O (by simp;omega)
       obtain⟨μ',m1,m2,m3⟩:=z8  s.drew e4 f4 e5 f5 e6 f6 k1 k2;refine⟨_,_,_,μ',B _ _ k3,.inl rfl,m1,m2,?_⟩;exact Step.trans s.drew (Step.nT rfl rfl ⟨rfl,rfl,Nat.le_succ _⟩) m3
      | hsl id es off len=>
       simp[gq]at J;split at J
       .rename_i u aJ ab;simp  at J;subst J;have aB:(H[id]?).bind Ob.rows=some (u,aJ):=by rw[ab];rfl
        have aW:=A;simp only[dx]at A;split at A
        .rename_i aK;rw[aB]at A;simp only at A;split at A
         .rename_i aL;simp  at A;obtain⟨p,c,aC,q1,q2,q3,q4⟩:=s.obs id _ ab;have Y:xs.length=len:=by rw[<-A];simp;omega
          have G:cap<xs.length+ys.length->AM P I μ H w (do let d <-resolve a.eval { callee:=.builtin .append,args,argTypes:=T } ty;invoke d.target d.args)
           (.hsl H.length d.size 0 (xs.length+ys.length)) (H.set id .dead++[.row d.size (xs++ys)]):=by
           intro au;obtain⟨D,rest,k1,k2,k3⟩:=O au;obtain⟨s1,s2⟩:=s.drew.kill ab;obtain⟨μ',m1,m2,m3⟩:=z8  s1 e4 f4 e5 f5 e6 f6 k1 k2;rw[List.length_set]at m1;exact⟨_,_,_,μ',B _ _ k3,.inl rfl,m1,m2,Step.trans s.drew (Step.nT rfl rfl ⟨rfl,rfl,Nat.le_succ _⟩) (Step.trans s1 s2 m3)⟩
          rcases hs.kT with⟨p',Q,hm,aM,aX,aN,ee⟩|⟨h0,aI,ee⟩
          .rw[q1]at hm;cases hm;have aw:Q=cap/\ad=some ⟨p.b,p.o+off*es,none⟩:=by rw[ee]at e1;cases e1;exact⟨rfl,rfl⟩
           obtain⟨rfl,rfl⟩:=aw
           by_cases ah:xs.length+ys.length<=Q
           .have aD:u=es:=by rw[<-q4.es_eq,aM]
            subst aD;have L  := aK;obtain⟨r1,r2⟩:=q4.span aL;rw[A]at r1;have ae:=f4.1;simp only[Array.length_toList]at ae;rw[e9 f5]at ae;have aO:(len+ys.length)*u<=Q*u:=Nat.mul_le_mul_right _ (by omega)
            rw[Nat.add_mul]at aO;rw[Nat.add_mul]at aN;have aP:=q4.sz;rw[<-L]at ae;have Z:p.o+off*u+len*u+0+C.toList.length<=c.size:=by simp;omega
            obtain⟨c',u1,u2⟩:=tM   C.toList 0 w c q3 (f4.M6 (λx S=>by
             obtain⟨l,hl,aQ⟩:=List.mem_flatten.1 S;exact f6 l hl x aQ)) Z
            have aE:c'.size=c.size:=by
             have:=congrArg List.length u2;simp at this Z;omega
            have aF:=key.1 ah (fh w p.b (.cells c' aC)) (by
             simp[oq,Y];rw[<-L];exact u1)
            have aa:fF I μ ⟨p.b,p.o+off*u,u,p.sz⟩ c' u (xs++ys):=by
             refine⟨rfl,by rw[aE];exact aP,?_,?_,?_,?_⟩
             .intro x S;rcases List.mem_append.1 S with h|h;exact(e5 x h).trans L.symm;exact(f5 x h).trans L.symm
             .intro x S;rcases List.mem_append.1 S with h|h;exact e6 x h;exact f6 x h
             .rw[aE,ζi,Y,Nat.add_mul];simp only;omega
             .have e:(c'.toList.drop (p.o+off*u)).take ((xs++ys).length*u)=(c.toList.drop (p.o+off*u)).take (len*u)++C.toList:=by
               rw[u2,ζi,Y,Nat.add_mul,ae];simp only[Nat.add_zero];have aR:(List.take (p.o+off*u+len*u) c.toList).length=p.o+off*u+len*u:=by simp;omega
               rw[List.append_assoc,List.drop_append_of_le_length (by rw[aR];omega),List.drop_take,show p.o+off*u+len*u-(p.o+off*u)=len*u by omega]
               have aS:(List.take (len*u) (List.drop (p.o+off*u) c.toList)).length=len*u:=by simp;omega
               rw[<-List.append_assoc,List.take_left' (by rw[ζi,aS];simp)]
              rw[e,List.flatten_append];exact r1.append f4
            obtain⟨s1,s2⟩:=Jl (ob':=.row u (xs++ys)) (p':=⟨p.b,p.o+off*u,u,p.sz⟩)  s ab rfl q1 rfl
             ⟨_,c',aC,Mu.fI _ _ _,q2,gP _ (Array.getElem?_eq_some_iff.1 q3).1,aa.mono (b9.le_refl _) (Mu.pL (s.dom _ (Nat.le_refl _)))⟩
            rw[<-L];refine⟨_,_,_,_,B _ _ aF,.inl rfl,?_,s1,s2⟩;have:=bz.hsl (I:=I) H.length 0 (xs.length+ys.length) Q _ (Mu.fI μ H.length ⟨p.b,p.o+off*u,u,p.sz⟩) ah (by simp ;omega)
            simpa using this
           .exact G (by omega)
          .have af  := by rw[ee]at e1;simp[Value.slice.injEq]at e1;exact e1.2.2.symm
           exact G (by omega)
         .simp at A
        .simp at A
       .simp at J
      | _=>simp[gq]at J
     grind
    grind
   grind
  .
   rename_i e kk hk aj;obtain⟨d0,ak,al⟩:=eV hk;obtain⟨desc,h1,h2,h3⟩:=(hE.ty ak).dA;rw[al]at h2;have:=iJ h2;subst this;obtain⟨d1,iA,W⟩:=eV aj;obtain⟨am,g1,g2,g3⟩:=(hE.ty iA).dA;rw[W]at g2;have:=Bz g2;subst this;have B:∀v w',(Builtin.append_ #[t,t'] ty #[us,ux]).run P w=.ok v w' ->
    (do let d <-resolve a.eval { callee:=.builtin .append,args,argTypes:=T } ty;invoke d.target d.args).run P w=.ok (.value v) w':=by
    intro v w' hv;simp[resolve,Sem.run_bind,Sem.run_pure,Result.andThen_ok,invoke,builtin];rw[qN U];have ea:T=#[t,t']:=by apply Array.ext';simpa using ax
    rw[ea,hv];rfl
   split at h
   .rename_i d hd;unfold mkApp at h;split at h
    .rename_i k m;have q:=hs.kV;subst q;have q:=S.eU;subst q;split at h
     .rename_i h0;subst h0;cases h;have key:=(Dd (μ:=μ) (I:=I) (w:=w) (k:=k) hE h1 g1 hd ty 0 (by omega)).1 rfl
      exact⟨_,_,w,μ,B _ _ key,.inl rfl,hs,s,.refl _ _ _ _⟩
     .split at h
      .rename_i hc;obtain⟨aT,aA,aq,ar⟩:=hc;cases h;obtain⟨m,rfl⟩:=Int.eq_ofNat_of_zero_le (Int.le_of_lt aT);obtain⟨D,z,rest,k1,k2,k3,k4⟩:=(Dd     hE h1 g1 hd ty m (by omega)).2 (by omega) aq ar
       have aU  := (hE.ty hd).info.choose_spec.choose_spec.2.2.2.2.2.1;have aV  := (hE.ty hd).info.choose_spec.choose_spec.2.2.2.2.2.2.1;have hu:∀x∈List.replicate m d.zero,x.length=d.size:=λx S=>by rw[List.eq_of_mem_replicate S];exact aU
       have ho:∀x∈List.replicate m d.zero,∀y∈x,V.one y=true:=λx S y hy=>by rw[List.eq_of_mem_replicate S]at hy;exact List.all_eq_true.1 aV y hy
       obtain⟨μ',m1,m2,m3⟩:=z8  (xs:=[]) (ys:=List.replicate m d.zero) (old:=#[]) (new:=Builtin.zeroCells z m) (rest:=rest) s.drew .nil (vu k3 m) (by simp) hu (by simp) ho (by simpa using k1) (by simpa using k2)
       simp  at m1 m2 m3;refine⟨_,_,_,μ',B _ _ k4,.inl rfl,by simpa using m1,by simpa using m2,?_⟩
       exact Step.trans s.drew (Step.nT rfl rfl ⟨rfl,rfl,Nat.le_succ _⟩) (by simpa using m3)
      .cases h
    .cases h
   .cases h
  grind
 grind
theorem zj {es:Nat} {xs:List (List V)} (hu:∀x∈xs,x.length=es) (k:Nat) (hk:k<=xs.length):(xs.take k).flatten=xs.flatten.take (k*es)/\(xs.drop k).flatten=xs.flatten.drop (k*es):=by
 have u:xs.flatten=(xs.take k).flatten++(xs.drop k).flatten:=by rw[<-List.flatten_append,List.take_append_drop]
 have g1:(xs.take k).flatten.length=k*es:=by
  rw[e9 (λx u=>hu x (List.mem_of_mem_take u)),List.length_take,Nat.min_eq_left hk]
 grind
theorem NJ (hE:dX P E) (r:dP I μ n F a.tmps) (s:cN I μ H w) {args:Array Operand} {B:Array TypeId} {x:V} {ty:TypeId}
 (h:cR E F H (.call { callee:=.builtin .clear,args,argTypes:=B })=some (x,H')) :
 AM P I μ H w (do let d <-resolve a.eval { callee:=.builtin .clear,args,argTypes:=B } ty;invoke d.target d.args) x H':=by
 simp[cR]at h;split at h
 .rename_i t v ae L;obtain⟨u,hu,hr⟩:=(mE r L).one;split at h
  .rename_i e hk;obtain⟨d0,af,ah⟩:=eV hk;obtain⟨desc,h1,h2,h3⟩:=(hE.ty af).dA;rw[ah]at h2;have:=iJ h2;split at h
   .rename_i d hd;obtain⟨i,z,hi,ar,av,hz,S,ai,aj,_⟩:=(hE.ty hd).info;have ak:∀w,(zeroValue e).run P w=.ok z w:=λw=>by simp[zeroValue,nG hi,hz]
    have al:z.cells.size=d.size:=by have:=(S (λ_=>none) (λ_=>none)).1;grind
    have J:∀v w',(Builtin.clear_ B ty #[u]).run P w=.ok v w' ->
     (do let d <-resolve a.eval { callee:=.builtin .clear,args,argTypes:=B } ty;invoke d.target d.args).run P w=.ok (.value v) w':=by
     intro v w' hv;simp[resolve,Sem.run_bind,Sem.run_pure,Result.andThen_ok,invoke,builtin];rw[qN hu,hv];rfl
    have T:∀U cap,u=.slice U 0 cap->AM P I μ H w (do let d <-resolve a.eval { callee:=.builtin .clear,args,argTypes:=B } ty;invoke d.target d.args) .undef H:=λU cap q=>by
     subst q;refine⟨_,.tuple #[],w,μ,J (.tuple #[]) w ?_,.inl rfl,bz.undef _ _,s,.refl _ _ _ _⟩;unfold Builtin.clear_;cases U <;> simp[ae,h3]
    unfold B9 at h;split at h
    .cases h;exact T _ _ hr.kV
    .obtain⟨U,q⟩:=hr.qK;grind
    .rename_i id es off len;split at h
     .rename_i O;subst O;split at h
      .rcases hr.kT with⟨p,cap,_,_,_,_,q⟩|⟨_,U,q⟩
       .grind
       grind
      .rename_i len;split at h
       .rename_i am Q W;split at h
        .rename_i X;cases h;obtain⟨p,c,el,hp,hI,C,A⟩:=s.obs id _ W;rcases hr.kT with⟨q,cap,hq,an,au,ao,rfl⟩|⟨h0,_⟩
         .rw[hp]at hq;cases hq;have O:am=d.size:=by rw[<-A.es_eq,an]
          subst O;have G:(Builtin.zeroCells z.cells (len+1)).size=(len+1)*d.size:=by rw[oU,al]
          have aw:=A.room;have Y:(off+(len+1))*d.size<=Q.length*d.size:=Nat.mul_le_mul_right _ X;rw[Nat.add_mul]at Y;have D:=vu   (S I μ) (len+1);have ap:∀x∈List.replicate (len+1) d.zero,x.length=d.size:=λx hx=>by rw[List.eq_of_mem_replicate hx];exact ai
          have Z:∀x∈List.replicate (len+1) d.zero,∀y∈x,V.one y=true:=λx hx y hy=>by rw[List.eq_of_mem_replicate hx]at hy;exact List.all_eq_true.1 aj y hy
          obtain⟨c',u1,u2⟩:=tM (P:=P) (o:=p.o+off*d.size) (Builtin.zeroCells z.cells (len+1)).toList 0 w c C (cw.M6 D (λx hx=>by
           obtain⟨l,hl,aq⟩:=List.mem_flatten.1 hx;exact Z l hl x aq)) (by simp[G];omega)
          rw[Nat.add_zero]at u2;have aa:c'.size=c.size:=by
           have:=congrArg List.length u2;simp[G]at this;omega
          obtain⟨s2,st2⟩:=s.write  (ob':=.row d.size (Q.take off++List.replicate (len+1) d.zero++Q.drop (off+(len+1)))) W rfl hp
           ⟨p,c',el,hp,hI,gP _ (Array.getElem?_eq_some_iff.1 C).1,by
            have ab:(Q.take off++List.replicate (len+1) d.zero++Q.drop (off+(len+1))).length=Q.length:=by simp;omega
            refine⟨A.es_eq,by rw[aa];exact A.sz,?_,?_,by rw[ab,aa];exact A.room,?_⟩
            .intro x hx;rcases List.mem_append.1 hx with hx|hx
             .rcases List.mem_append.1 hx with hx|hx
              .exact A.oc x (List.mem_of_mem_take hx)
              .exact ap x hx
             .exact A.oc x (List.mem_of_mem_drop hx)
            .intro x hx;rcases List.mem_append.1 hx with hx|hx
             .rcases List.mem_append.1 hx with hx|hx
              .exact A.one x (List.mem_of_mem_take hx)
              .exact Z x hx
             .exact A.one x (List.mem_of_mem_drop hx)
            .rw[ab,u2];have hL:=AI c.toList (Builtin.zeroCells z.cells (len+1)).toList p.o (Q.length*d.size) (off*d.size) (by simp;omega) (by simp[G];omega)
             rw[hL,List.flatten_append,List.flatten_append,(zj A.oc off (by omega)).1,(zj A.oc _ X).2]
             have e:off*d.size+(Builtin.zeroCells z.cells (len+1)).toList.length=(off+(len+1))*d.size:=by simp[G,Nat.add_mul]
             rw[e];exact((A.rel.take _).append D).append (A.rel.drop _)⟩
          refine⟨_,.tuple #[],_,μ,J (.tuple #[]) (fh w p.b (.cells c' el)) ?_,.inl rfl,bz.undef _ _,s2,st2⟩;unfold Builtin.clear_;simp_all
         simp_all
        simp_all
       simp_all
     simp_all
    simp_all
   simp_all
  simp_all
 simp_all
end
end Go.VE
namespace Go.VE
variable [bN]
section
variable {P:Program} {E:Env} {I:b9} {μ:Mu} {H H':bf} {n:Nat} {F:Frame} {a:Act} {w:World}
theorem TI (s t:ByteArray) (h:(s==t)=true):s=t:=by
 cases s with|mk a=>cases t with|mk b=>
 have u:(a==b)=true:=h
 grind
inductive xO (P:Program) (E:Env) (t:TypeId):V->Value->Prop
 | int (k:IntKind) (m:Int) (h:P.underlying t=some (.int k)):xO P E t (.int k m) (.int k m)
 | str (s:ByteArray) (h:P.underlying t=some .string):xO P E t (.str s) (.string s)
 | agg (m:Nat) (cs:List V) (l:List Int) (h:uW P t m) (hl:l.length=m) (hi:gJ cs=some l):xO P E t (.agg cs) (.agg (ic l))
theorem MB (B:dX P E) {t:TypeId} {k:V} {v:Value} (h:zV E t k=true) (hv:bz I μ k v):xO P E t k v:=by
 unfold zV at h;split at h
 .rename_i k1 C m hk;obtain⟨d,hd,u⟩:=eV hk;obtain⟨desc,h1,w,D⟩:=(B.ty hd).dA;rw[u]at w;have:=Bz w;subst this;have e:k1=C:=by grind
  subst e;rw[hv.eU];exact .int _ _ h1
 .rename_i s hk;obtain⟨d,hd,u⟩:=eV hk;obtain⟨desc,h1,w,D⟩:=(B.ty hd).dA;rw[u]at w;have:=zJ w;subst this;rw[hv.rV];exact .str _ h1
 .rename_i cs _;split at h
  .rename_i m z;simp[Option.isSome_iff_exists]at h;obtain⟨G,l,hi⟩:=h;obtain⟨J,rfl,A⟩:=hv.gT;obtain⟨rfl,e⟩:=oZ hi A;exact .agg m cs l (B.eqN _ _ z) (by omega) hi
  grind
 grind
theorem Li (d:Nat) (e:Bool) {t:TypeId} {k:IntKind} {m:Int} (h:P.underlying t=some (.int k)):(Instr.checkKey e (d+1) t (.int k m)).run P w=.ok () w:=by
 simp[Instr.checkKey,Sem.run_bind,dA h,Result.andThen_ok,Sem.run_pure]
theorem Mz (d:Nat) (e:Bool) {t:TypeId} {m:ByteArray} (h:P.underlying t=some .string):(Instr.checkKey e (d+1) t (.string m)).run P w=.ok () w:=by
 simp[Instr.checkKey,Sem.run_bind,dA h,Result.andThen_ok,Sem.run_pure]
theorem xV {t:TypeId} {k:V} {v:Value} (h:xO P E t k v) (e:Bool):(Instr.checkKey e 10000 t v).run P w=.ok () w:=by
 cases h with
 | int k m h=>exact Li 9999 e h
 | str s h=>exact Mz 9999 e h
 | agg m cs l h u hi=>exact h.check w e l u
def kW (I:b9) (μ:Mu) (es:List MapEntry) (i:Nat):Option (Nat×V)->Option (Nat×Value)->Prop
 | none,none=>True
 | some (j,x),some (B,v)=>j=B/\bz I μ x v/\i<=j/\∃e,es[j-i]? = some e/\e.val=v
 | _,_=>False
theorem Cr {d:TypeDesc} {k:V} {v:Value} (hd:(∃kk m,d=.int kk/\k=.int kk m/\v=.int kk m)\/(∃s,d=.string/\k=.str s/\v=.string s)) :
 ∀(B:List (V×V)) (es:List MapEntry) (i:Nat) (r:Option (Nat×V)),B.length=es.length->(∀(j:Nat) q e,B[j]? = some q->es[j]? = some e->bz I μ q.1 e.key/\bz I μ q.2 e.val) ->
 gR k B i=some r->∃D,Instr.findNow d v es i=some D/\kW I μ es i r D/\∀j x,r=some (j,x)->∃e,es[j-i]? = some e/\e.key=v:=by
 intro B
 induction B with
 | nil=>
  intro es i r L _ h
  cases es with
  | nil=>simp only[gR,ζa]at h;subst h;exact⟨none,rfl,trivial,by simp⟩
  | cons _ _=>simp_all
 | cons q B O=>
  intro es i r L hr h
  cases es with
  | nil=>simp_all
  | cons e es=>
   obtain⟨C,Q⟩:=q;obtain⟨g1,g2⟩:=hr 0 (C,Q) e rfl rfl;simp only[gR]at h;have u:∀b,vB k C=some b->Instr.sameNow d v e.key=some b/\(b=true->e.key=v):=by
    intro b w;rcases hd with⟨kk,m,rfl,rfl,rfl⟩|⟨s,rfl,rfl,rfl⟩
    .cases C <;> simp only[vB]at w <;> (try grind)
     rename_i k2 m2;split at w
     .rename_i G;simp only[ζa]at w;subst w;subst G;rw[g1.eU];exact⟨by simp[Instr.sameNow],by simp;grind⟩
     grind
    .cases C <;> simp only[vB]at w <;> (try (simp at w;done))
     simp only[ζa]at w;subst w;rw[g1.rV];exact⟨by simp[Instr.sameNow],λS=>by rw[TI _ _ S]⟩
   split at h
   .rename_i hk;obtain⟨f1,T⟩:=u true hk;simp only[ζa]at h;subst h;refine⟨some (i,e.val),by simp[Instr.findNow,f1],⟨rfl,g2,Nat.le_refl _,e,by simp,rfl⟩,?_⟩
    intro j x A;simp only[ζa,ζc]at A;obtain⟨rfl,_⟩:=A;exact⟨e,by simp,T rfl⟩
   .rename_i hk;obtain⟨f1,_⟩:=u false hk;obtain⟨D,p1,p2,p3⟩:=O es (i+1) r (by simpa using L) (λj a b x y=>hr (j+1) a b (by simpa using x) (by simpa using y)) h
    refine⟨D,by simp[Instr.findNow,f1,p1],?_,?_⟩
    .cases r with
     | none=>cases D <;> simp_all [kW]
     | some z=>
      cases D with
      | none=>simp[kW]at p2
      | some U=>
       obtain⟨W,X,c3,J,Y,Z⟩:=p2;exact⟨W,X,by omega,J,by rw[show z.1-i=(z.1-(i+1))+1 by omega];simpa using Y,Z⟩
    .intro j x A;obtain⟨J,u1,u2⟩:=p3 j x A;subst A;have:i+1<=j:=by
      cases D with
      | none=>simp[kW]at p2
      | some U=>exact p2.2.2.1
     exact⟨J,by rw[show j-i=(j-(i+1))+1 by omega];simpa using u1,u2⟩
   grind
theorem Ks {t:TypeId} {m:Nat} (T:uW P t m) {cs:List V} {l:List Int} (U:l.length=m) (hi:gJ cs=some l) :
 ∀(B:List (V×V)) (es:List MapEntry) (i:Nat) (r:Option (Nat×V)),B.length=es.length->(∀(j:Nat) q e,B[j]? = some q->es[j]? = some e->bz I μ q.1 e.key/\bz I μ q.2 e.val) ->
 gR (.agg cs) B i=some r->∃D,(Instr.findAsking t (.agg (ic l)) es i).run P w=.ok D w/\kW I μ es i r D/\∀j x,r=some (j,x)->∃e,es[j-i]? = some e/\e.key=.agg (ic l):=by
 intro B
 induction B with
 | nil=>
  intro es i r A _ h
  cases es with
  | nil=>simp[gR]at h;subst h;exact⟨none,rfl,trivial,by simp⟩
  | cons _ _=>simp_all
 | cons q B S=>
  intro es i r A hr h
  cases es with
  | nil=>simp_all
  | cons e es=>
   obtain⟨C,W⟩:=q;obtain⟨g1,g2⟩:=hr 0 (C,W) e rfl rfl;simp[gR]at h;have u:∀b,vB (.agg cs) C=some b->(Op.equal t (.agg (ic l)) e.key).run P w=.ok b w/\(b=true->e.key=.agg (ic l)):=by
    intro b G;cases C <;> simp[vB]at G <;> (try (simp at G))
    obtain⟨ia,X,O,x2,x3,rfl⟩:=we G;rw[hi]at O;cases O;obtain⟨vb,ev,J⟩:=g1.gT;obtain⟨rfl,e2⟩:=oZ x2 J;rw[ev];refine⟨T.key w l X U (by omega),?_⟩
    grind
   split at h
   .rename_i hk;obtain⟨f1,f2⟩:=u true hk;simp  at h;subst h;refine⟨some (i,e.val),by simp[Instr.findAsking,f1],⟨rfl,g2,Nat.le_refl _,e,by simp,rfl⟩,?_⟩
    grind
   .rename_i hk;obtain⟨f1,_⟩:=u false hk;obtain⟨D,p1,p2,p3⟩:=S es (i+1) r (by grind) (λj a b x y=>hr (j+1) a b (by grind) (by simpa using y)) h
    refine⟨D,by simp[Instr.findAsking,f1,p1],?_,?_⟩
    .cases r with
     | none=>cases D <;> simp_all [kW]
     | some z=>
      cases D with
      | none=>simp[kW]at p2
      | some Y=>
       obtain⟨Z,c2,c3,L,c4,c5⟩:=p2;exact⟨Z,c2,by omega,L,by rw[show z.1-i=(z.1-(i+1))+1 by omega];simpa using c4,c5⟩
    .intro j x Q;obtain⟨L,u1,u2⟩:=p3 j x Q;subst Q;have  := by
      cases D with
      | none=>simp[kW]at p2
      | some Y=>exact p2.2.2.1
     exact⟨L,by rw[show j-i=(j-(i+1))+1 by omega];simpa using u1,u2⟩
   grind
theorem uz {t:TypeId} {k:V} {v:Value} (h:xO P E t k v) {B:List (V×V)} {es:Array MapEntry} (hr:uy I μ B es) {r:Option (Nat×V)} (G:gR k B 0=some r) :
 ∃D,(Instr.findKey t v es.toList).run P w=.ok D w/\kW I μ es.toList 0 r D/\∀j x,r=some (j,x)->∃e,es[j]? = some e/\e.key=v:=by
 have u  := by simpa using hr.1
 have z:∀(j:Nat) q e,B[j]? = some q->es.toList[j]? = some e->bz I μ q.1 e.key/\bz I μ q.2 e.val:=λj q e x y=>hr.2 j q e x (by grind)
 have fin:∀(D:Option (Nat×Value)),(∀j x,r=some (j,x)->∃e,es.toList[j-0]? = some e/\e.key=v)->∀j x,r=some (j,x)->∃e,es[j]? = some e/\e.key=v:=by
  grind
 cases h with
 | int kk m h=>
  obtain⟨D,g1,g2,g3⟩:=Cr (.inl ⟨kk,m,rfl,rfl,rfl⟩) B es.toList 0 r u z G;exact⟨D,by simp[Instr.findKey,Sem.run_bind,dA h,Result.andThen_ok,g1,Sem.run_pure],g2,fin D g3⟩
 | str s h=>
  obtain⟨D,g1,g2,g3⟩:=Cr (.inr ⟨s,rfl,rfl,rfl⟩) B es.toList 0 r u z G;exact⟨D,by simp[Instr.findKey,Sem.run_bind,dA h,Result.andThen_ok,g1,Sem.run_pure],g2,fin D g3⟩
 | agg m cs l h J hi=>
  obtain⟨D,g1,g2,g3⟩:=Ks (w:=w) h J hi B es.toList 0 r u z G;obtain⟨d,hd,A⟩:=h.kind;refine⟨D,?_,g2,fin D g3⟩;simp[Instr.findKey,Sem.run_bind,dA hd,Result.andThen_ok]
  cases C:es.toList with
  | nil=>
   rw[C]at g1;simp[Instr.findNow,Sem.run_pure];simpa [Instr.findAsking]using g1
  | cons e rest=>
   have:Instr.findNow d (.agg (ic l)) (e::rest) 0=none:=by
    rcases A with⟨_,_,rfl⟩|⟨_,rfl⟩ <;> simp[Instr.findNow,Instr.sameNow]
   grind
theorem yH {b:Nat} {o:Obj} (h:w.heap[b]? = some o) (B:∀c e f,o≠.cells c e f):(getObj b).run P w=.ok o w:=by
 simp[getObj,Sem.run,h]
theorem N0 (s:cN I μ H w) {m:V} {v:Value} (hv:bz I μ m v) {B:List (V×V)} (h:lT H m=some B) :
 (v=.map none/\B=[])\/∃b es clock,v=.map (some b)/\w.heap[b]? = some (.map es clock)/\uy I μ B es:=by
 cases m with
 | fR=>simp only[lT,ζa]at h;exact .inl ⟨hv.Nh,h.symm⟩
 | fmap k=>
  simp[lT]at h;subst h
  cases hv with
  | c _ _ hv=>cases hv with
   | fmap _ b es A C hk u=>
    obtain⟨cl,g⟩:=s.imm _ _ A;exact .inr ⟨b,es,cl,rfl,g,C,λj q e x y=>⟨.c _ _ (hk j q e x y),.c _ _ (u j q e x y)⟩⟩
 | hmap id=>
  simp[lT]at h;split at h
  .rename_i D z;simp  at h;obtain⟨p,es,cl,g1,g2,g3,g4⟩:=s.obs id _ z;obtain⟨q,G,e⟩:=hv.A_
   grind
  grind
 | _=>simp[lT]at h
theorem Lm (T:dX P E) (r:dP I μ n F a.tmps) (s:cN I μ H w) {t:TypeId} {m k:Operand} {ok:Bool} {x:V} (h:dG E F H (.lookup t m k ok)=some x) :
 ∃v,(Instr.lookup t (a.eval m) (a.eval k) ok).run P w=.ok v w/\bz I μ x v:=by
 simp[dG]at h;split at h
 .rename_i kt et mv kv hk hm O;obtain⟨d,hd,Q⟩:=eV hk;obtain⟨desc,h1,Z,h3⟩:=(T.ty hd).dA;rw[Q]at Z;have:=yS Z;subst this;split at h
  .rename_i de S U G;split at h
   .rename_i W;have C:=MB T W (c8 r O);obtain⟨z,hz,X⟩:=(T.ty U).Rn;obtain⟨es,J,D⟩:∃es:Array MapEntry,uy I μ S es/\∀u,(Instr.findKey kt (a.eval k) es.toList).run P w=.ok u w->(Instr.lookup t (a.eval m) (a.eval k) ok).run P w =
     .ok (if ok then .tuple #[(u.map (·.2)).getD z,.bool u.isSome]else(u.map (·.2)).getD z) w:=by
     rcases N0 s (c8 r hm) G with⟨e1,rfl⟩|⟨b,es,cl,e1,e2,e3⟩
     .refine⟨#[],⟨rfl,by simp⟩,λu B=>?_⟩
      unfold Instr.lookup;rw[e1];simp[Sem.run_bind,h3,Result.andThen_ok,Sem.run_pure,xV C,B];cases u <;> cases ok <;> simp[hz]
     .refine⟨es,e3,λu B=>?_⟩
      unfold Instr.lookup;rw[e1];simp[Sem.run_bind,h3,Result.andThen_ok,Sem.run_pure,yH e2 (by simp),xV C,B]
      cases u <;> cases ok <;> simp[hz]
    split at h
    .rename_i j y _ A;simp  at h;obtain⟨u,Y,L,_⟩:=uz  C J A
     cases u with
     | none=>simp[kW]at L
     | some q=>
      obtain⟨_,hv,_⟩:=L;refine⟨_,D _ Y,?_⟩;subst h
      cases ok with
      | true=>exact .PX (.cons hv (.cons (.c _ _ (.bool _)) .nil))
      | false=>exact hv
    .rename_i y A hy;simp  at h;obtain⟨u,Y,L,_⟩:=uz  C J A
     cases u with
     | some q=>simp[kW]at L
     | none=>
      refine⟨_,D _ Y,?_⟩;subst h
      cases ok with
      | true=>exact .PX (.cons (X _ _ _ hy) (.cons (.c _ _ (.bool _)) .nil))
      | false=>grind
    grind
   grind
  grind
 grind
end
end Go.VE
namespace Go.VE
variable [bN]
section
variable {P:Program} {E:Env} {I:b9} {μ:Mu} {H H':bf} {n:Nat} {F:Frame} {a:Act} {w:World}
theorem Hp (l:List Int) (d:Nat):Instr.sameBits (d+2) (.agg (ic l)) (.agg (ic l))=true:=by
 simp only[Instr.sameBits,beq_self_eq_true,Bool.true_and,List.all_eq_true];intro p u;obtain⟨j,w,rfl⟩:=List.mem_iff_getElem.1 u;simp[ic,Instr.sameBits]
theorem O5 {t:TypeId} {k:V} {v:Value} (h:xO P E t k v):(Instr.keyThatStays v v).run P w=.ok v w:=by
 have:Instr.sameBits 10000 v v=true:=by
  cases h with
  | int k m h=>simp[Instr.sameBits]
  | str s h=>simp[Instr.sameBits];exact(by cases s;exact beq_self_eq_true (α:=Array UInt8) _)
  | agg m cs l h u hi=>exact Hp l 9998
 unfold Instr.keyThatStays;rw[this];rfl
theorem DQ {b:Nat} {es:Array MapEntry} {clock:Nat} (o:Obj) (h:w.heap[b]? = some (.map es clock)):(setObj b o).run P w=.ok () (fh w b o):=by
 simp only[setObj,Sem.run,h];rfl
theorem y_ (hE:dX P E) (r:dP I μ n F a.tmps) (s:cN I μ H w) {t:TypeId} {m k y:Operand} {x:V} (h:cR E F H (.mapUpdate t m k y)=some (x,H')) :
 AM P I μ H w (do Instr.mapUpdate t (a.eval m) (a.eval k) (a.eval y);pure .skip) x H':=by
 simp only[cR]at h;split at h
 .rename_i kt et id Y Z hk hm U hy;obtain⟨d,hd,aa⟩:=eV hk;obtain⟨desc,h1,A,h3⟩:=(hE.ty hd).dA;rw[aa]at A;have:=yS A;subst this;split at h
  .rename_i C T;split at h
   .rename_i ab;simp only[ζf,ζc]at h;obtain⟨af,u,rfl,rfl⟩:=h;have D:=MB hE ab (c8 r U);obtain⟨p,es,cl,g1,g2,g3,g4⟩:=s.obs id _ T;obtain⟨q,hq,em⟩:=(c8 r hm).A_;rw[g1]at hq;cases hq;have S:=(Array.getElem?_eq_some_iff.1 g3).1;have ah:∀(f:Unit->Sem Next) ,True:=λ_=>trivial
    unfold oB at u;have G:=c8 r U;have J:=c8 r hy;split at u
    .rename_i j z B;simp only[ζa]at u;subst u;obtain⟨L,q1,q2,q3⟩:=uz (w:=w) D g4 B
     cases L with
     | none=>simp[kW]at q2
     | some L=>
      obtain⟨j',zv⟩:=L;obtain⟨rfl,_,_,e',ai,_⟩:=q2;obtain⟨e2,W,ad⟩:=q3 j z rfl;have hj:=(Array.getElem?_eq_some_iff.1 W).1;have O:uy I μ (C.set j (Y,Z)) (es.modify j λe=>{ e with key:=a.eval k,val:=a.eval y }):=by
       refine⟨by simpa using g4.1,λi q e h1 A=>?_⟩
       by_cases Q:i=j
       .subst Q;rw[List.getElem?_set_self (by rw[g4.1];exact hj)]at h1
        cases h1;rw[Array.getElem?_modify]at A;simp only[if_true,ζf]at A;obtain⟨_,_,rfl⟩:=A;exact⟨G,J⟩
       .rw[List.getElem?_set_ne (Ne.symm Q)]at h1;rw[Array.getElem?_modify]at A;rw[if_neg (Ne.symm Q)]at A;exact g4.2 i q e h1 A
      obtain⟨s1,s2⟩:=s.write (ob':=.map (C.set j (Y,Z))) (o:=.map (es.modify j λe=>{ e with key:=a.eval k,val:=a.eval y }) cl) T rfl g1
       ⟨p,_,cl,g1,g2,gP _ S,O⟩
      refine⟨.skip,undef,_,μ,?_,.inr ⟨rfl,rfl⟩,.undef I μ,s1,s2⟩;unfold Instr.mapUpdate;rw[em];have X:((es[j]?).map (·.key)).getD (a.eval k)=a.eval k:=by rw[W];simpa using ad
      simp only[Sem.run_bind,h3,Result.andThen_ok,yH g3 (by simp),xV D,q1,X,O5 D,DQ _ g3,Sem.run_pure]
    .rename_i B;simp only[ζa]at u;subst u;obtain⟨L,q1,q2,q3⟩:=uz (w:=w) D g4 B
     cases L with
     | some q=>simp[kW]at q2
     | none=>
      have O:uy I μ (C++[(Y,Z)]) (es.push { key:=a.eval k,val:=a.eval y,born:=cl }):=by
       refine⟨by simp[g4.1],λi q e h1 A=>?_⟩
       by_cases Q:i<C.length
       .rw[List.getElem?_append_left Q]at h1;rw[Array.getElem?_push]at A;rw[if_neg (by rw[<-g4.1];omega)]at A
        exact g4.2 i q e h1 A
       .have ae:=(ζe.1 h1).1;simp at ae;have:i=C.length:=by omega
        subst this;simp at h1;subst h1;rw[Array.getElem?_push,if_pos g4.1]at A;cases A;exact⟨G,J⟩
      obtain⟨s1,s2⟩:=s.write (ob':=.map (C++[(Y,Z)])) (o:=.map (es.push { key:=a.eval k,val:=a.eval y,born:=cl }) (cl+1)) T rfl g1
       ⟨p,_,_,g1,g2,gP _ S,O⟩
      refine⟨.skip,undef,_,μ,?_,.inr ⟨rfl,rfl⟩,.undef I μ,s1,s2⟩;unfold Instr.mapUpdate;rw[em];simp only[Sem.run_bind,h3,Result.andThen_ok,yH g3 (by simp),xV D,q1,DQ _ g3,Sem.run_pure]
    .simp at u
   .simp at h
  .simp at h
 .simp at h
theorem Q3 (B:dX P E) (r:dP I μ n F a.tmps) (s:cN I μ H w) (o:Oper) {x:V} (h:dG E F H o.op=some x) :
 ∃v,(execOp a.eval o).run P w=.ok (.value v) w/\bz I μ x v:=by
 obtain⟨dst,op,ty,pos,after,guard⟩:=o;simp only at h
 cases op with
 | load t p=>
  simp only[dG]at h;split at h
  .rename_i d C hd A;obtain⟨u,h1,z,_⟩:=BJ B s hd (c8 r A) h;exact⟨u,dR h1,z⟩
  .simp at h
 | lookup t m k ok=>
  obtain⟨u,h1,z⟩:=Lm B r s h;exact⟨u,dR h1,z⟩
 | _=>simp[dG]at h
theorem Qk (B:dX P E) (r:dP I μ n F a.tmps) (s:cN I μ H w) (o:Oper) {x:V} (h:cR E F H o.op=some (x,H')):AM P I μ H w (execOp a.eval o) x H':=by
 obtain⟨dst,op,ty,pos,after,guard⟩:=o;simp only at h
 cases op with
 | store t p q=>exact N9 B r s h
 | mapUpdate t m k y=>exact y_ B r s h
 | insert t m k y=>exact y_ (t:=t) (m:=m) (k:=k) (y:=y) B r s h
 | call c=>
  obtain⟨callee,args,u⟩:=c
  cases callee with
  | builtin b=>
   cases b with
   | append=>exact Lw B r s h
   | clear=>exact NJ B r s h
   | _=>simp[cR]at h
  | _=>simp[cR]at h
 | _=>simp[cR]at h
end
end Go.VE
namespace Go.VE
variable [bN]
theorem sO {xs:List V} (h:V.j9 xs=true):∀x∈xs,V.closed x=true:=by
 induction xs with
 | nil=>simp
 | cons x r u=>
  simp[V.j9]at h
  grind
theorem sN {xs:List V} (h:V.cG xs=true):∀x∈xs,V.scalar x=true:=by
 induction xs with
 | nil=>simp
 | cons x r u=>
  simp[V.cG]at h
  grind
section
variable {I I':b9} {μ:Mu} {H H':bf} {w:World}
theorem bz.closed {x:V} {v:Value} (h:bz I μ x v) (hc:x.closed=true):dW I x v:=by
 induction h with
 | c x v h=>omega
 | hsl id off len cap p w h1 L=>simp[V.closed]at hc
 | hsl0 id es off a=>simp[V.closed]at hc
 | hptr id el off p w=>simp[V.closed]at hc
 | yld id p w=>simp[V.closed]at hc
 | hmap id p w=>simp[V.closed]at hc
 | clo f x y u v G J _ _ z A=>
  simp[V.closed]at hc;exact .clo f x y u v G J (λj a b p q=>z j a b p q (sO hc.1 a (List.mem_of_getElem? p))) (λj a b p q=>A j a b p q (sO hc.2 a (List.mem_of_getElem? p)))
 | agg cs B C _ D=>
  exact .agg cs B C λj a b p q=>D j a b p q (sO hc a (List.mem_of_getElem? p))
 | tup cs B C _ D=>
  exact .tup cs B C λj a b p q=>D j a b p q (sO hc a (List.mem_of_getElem? p))
theorem dW.scalar {x:V} {v:Value} (h:dW I x v) (B:x.scalar=true):dW I' x v:=by
 induction h with
 | bool b=>exact .bool b
 | int k n=>exact .int k n
 | str s=>exact .str s
 | dm a=>exact .dm a
 | bE=>exact .bE
 | gF=>exact .gF
 | fR=>exact .fR
 | qJ=>exact .qJ
 | agg cs u w _ z=>
  exact .agg cs u w λj a b p q=>z j a b p q (sN B a (List.mem_of_getElem? p))
 | tup cs u w _ z=>
  exact .tup cs u w λj a b p q=>z j a b p q (sN B a (List.mem_of_getElem? p))
 | _=>simp[V.scalar]at B
theorem iq {f:V->Option V}:∀{xs ys:List V},gV f xs=some ys->ys.length=xs.length/\∀(j:Nat) y,ys[j]? = some y->∃x,xs[j]? = some x/\f x=some y:=by
 intro xs
 induction xs with
 | nil=>intro ys h;simp[gV]at h;grind
 | cons x xs u=>
  intro ys h;simp[gV]at h;split at h
  .grind
  grind
theorem Kx {f:V->Option V}:∀{xs ys:List (List V)},kJ f xs=some ys->ys.length=xs.length/\∀(j:Nat) y,ys[j]? = some y->∃x,xs[j]? = some x/\gV f x=some y:=by
 intro xs
 induction xs with
 | nil=>intro ys h;simp[kJ]at h;grind
 | cons x xs u=>
  intro ys h;simp[kJ]at h
  grind
theorem Jv {f:V->Option V}:∀{xs ys:List (V×V)},kK f xs=some ys->ys.length=xs.length/\∀(j:Nat) y,ys[j]? = some y->∃x,xs[j]? = some x/\f x.1=some y.1/\f x.2=some y.2:=by
 intro xs
 induction xs with
 | nil=>intro ys h;simp only[kK]at h;grind
 | cons x xs u=>
  intro ys h;simp only[kK]at h
  grind
def Obj.ic:Obj->Option IC
 | .cells c _ _=>some (.cells c)
 | .map es _=>some (.map es)
 | _=>none
def zQ (μ:Mu) (H:bf) (T:List Nat) (b:Nat):Prop:=∃id p ob,id∈T/\H[id]? = some ob/\ob.live=true/\μ id=some p/\p.b=b
open Classical in
noncomputable def plus (I:b9) (μ:Mu) (H:bf) (w:World) (T:List Nat):b9:=λb=>
 match I b with
 | some x=>some x
 | none=>if zQ μ H T b then(w.heap[b]?).bind Obj.ic else none
theorem nQ (I:b9) (μ:Mu) (H:bf) (w:World) (T:List Nat):b9.le I (plus I μ H w T):=by
 intro b x h;simp[plus,h]
theorem rZ (s:cN I μ H w) (T:List Nat):∀b x,plus I μ H w T b=some x->x.at w b:=by
 intro b x h;unfold plus at h;split at h
 .rename_i y A;cases h;exact s.imm b _ A
 .split at h
  .obtain⟨o,z,u⟩:=ζg.1 h;cases o <;> simp[Obj.ic]at u
   .subst u;exact⟨_,_,z⟩
   .subst u;exact⟨_,z⟩
  grind
theorem xE {T:List Nat} {b:Nat} (h:(plus I μ H w T b).isSome=true):(I b).isSome=true\/zQ μ H T b:=by
 unfold plus at h
 grind
theorem Ax {T:List Nat} {b:Nat} (h:zQ μ H T b):gH μ H b:=by
 obtain⟨id,p,ob,_,h1,u,w,z⟩:=h;exact⟨id,p,ob,h1,u,w,z⟩
theorem Bh (s:cN I μ H w) {T:List Nat} {id es:Nat} {xs:List (List V)} (B:id∈T) (h:(H[id]?).bind Ob.rows=some (es,xs)) :
 ∃p c,μ id=some p/\plus I μ H w T p.b=some (.cells c)/\fF I μ p c es xs:=by
 obtain⟨ob,h1,z⟩:=ζg.1 h;have u:=s.obs id ob h1;rcases GM z with rfl|rfl
 .obtain⟨p,c,el,g1,g2,g3,g4⟩:=u;refine⟨p,c,g1,?_,g4⟩;have A:zQ μ H T p.b:=⟨id,p,_,B,h1,rfl,g1,rfl⟩;unfold plus;rw[g2];simp[A,g3,Obj.ic]
 .obtain⟨p,c,g1,g2,g4⟩:=u;exact⟨p,c,g1,nQ _ _ _ _ _ _ _ g2,g4⟩
theorem fF.idx {p:Pl} {c:Array Value} {es:Nat} {xs:List (List V)} (r:fF I μ p c es xs) {i j:Nat} {x:List V} {y:V} {v:Value} (h1:xs[i]? = some x) (B:x[j]? = some y)
 (D:c[p.o+i*es+j]? = some v):bz I μ y v:=by
 have w:=u_ r.oc h1 B;refine r.rel.2 (i*es+j) y v w ?_;have u:=(ζe.1 w).1;rw[e9 r.oc]at u
 grind
theorem jA {f:V->List Nat} {xs:List V} {x:V} {k:Nat} (B:x∈xs) (hk:k∈f x):k∈cI f xs:=by
 induction xs with
 | nil=>simp_all
 | cons y r u=>
  simp[cI]
  grind
theorem jy (n:Nat) (H:bf) {x:V} (h:x.closed=true):borrow n H x=some x:=by
 cases n <;> simp[borrow,h]
theorem tv (s:cN I μ H w) (T:List Nat):∀(n:Nat) (x y:V) (v:Value),borrow n H x=some y->(∀k∈bW n H x,k∈T)->bz I μ x v ->
 dW (plus I μ H w T) y v/\(x.one=true->y.one=true):=by
 intro n
 induction n with
 | zero=>
  intro x y v h _ hv;simp only[borrow]at h;split at h
  .rename_i hc;simp  at h;subst h;exact⟨(hv.closed hc).mono (nQ _ _ _ _ _),id⟩
  grind
 | succ n ih=>
  intro x y v h L hv;simp[borrow]at h;split at h
  .rename_i hc;simp  at h;subst h;exact⟨(hv.closed hc).mono (nQ _ _ _ _ _),id⟩
  .rename_i ak;simp[bW,if_neg ak]at L;split at h
   .
    rename_i id es off len;split at h
    .rename_i A xs G;split at h
     .rename_i hc;obtain⟨rfl,al⟩:=hc;simp only[G]at L;simp  at h;obtain⟨S,hz,rfl⟩:=h;obtain⟨aa,U⟩:=Kx hz;refine⟨?_,λ_=>rfl⟩
      have ai:S.length=len:=by grind
      rcases hv.kT with⟨p,cap,hm,hp,aq,hb,rfl⟩|⟨h0,a,rfl⟩
      .obtain⟨p',c,g1,g2,g3⟩:=Bh s  (L id (by simp)) G
       rw[hm]at g1;cases g1;have W:∀i z,S[i]? = some z->∃O,xs[off+i]? = some O/\gV (borrow n H) O=some z:=by
        grind
       have aj:∀i O,i<len->xs[off+i]? = some O->∀q∈O,∀k∈bW n H q,k∈T:=by
        intro i O hi am q hq k hk;refine L k ?_;refine List.mem_cons_of_mem _ (jA (List.mem_flatten.2 ⟨O,List.mem_of_getElem? (i:=i) ?_,hq⟩) hk);rw[List.getElem?_take,if_pos hi,List.getElem?_drop];exact am
       have ar:dW (plus I μ H w T) (.fsl A S) (.slice (some ⟨p.b,p.o+off*A,none⟩) S.length cap):=by
        refine .fsl A S p.b (p.o+off*A) cap c g2 (by omega) ?_ ?_ ?_ ?_
        .intro z ae;obtain⟨i,hi⟩:=List.mem_iff_getElem?.1 ae;obtain⟨O,D,X⟩:=W i z hi;rw[(iq X).1];exact g3.oc O (List.mem_of_getElem? D)
        .intro z ae q hq;obtain⟨i,hi⟩:=List.mem_iff_getElem?.1 ae;obtain⟨O,D,X⟩:=W i z hi;obtain⟨j,hj⟩:=List.mem_iff_getElem?.1 hq;obtain⟨J,C,Y⟩:=(iq X).2 j q hj;have ab:=List.mem_of_getElem? D;have ad:=List.mem_of_getElem? C;have an:=g3.room;have av:=g3.oc O ab;have aw:=(ζe.1 C).1;have ao:=(ζe.1 D).1;have au:(off+i)*A+A<=xs.length*A:=by
          have:=Nat.mul_le_mul_right A (ao)
          grind
         have ap  := by omega
         have Z:=g3.idx D C (v:=c[p.o+(off+i)*A+j]) (by simp[ap])
         exact(ih J q _ Y (aj i O (by have:=(ζe.1 hi).1;omega) D J ad) Z).2 (g3.one O ab J ad)
        .have h1:=(g3.span al).2
         grind
        .intro i j z q u hi hj hu;obtain⟨O,D,X⟩:=W i z hi;obtain⟨J,C,Y⟩:=(iq X).2 j q hj;have Z:=g3.idx D C (v:=u) (by grind)
         exact(ih J q u Y (aj i O (by have:=(ζe.1 hi).1;omega) D J (List.mem_of_getElem? C)) Z).1
       grind
      .subst h0;have  := List.eq_nil_of_length_eq_zero ai;subst this;exact .fsl0 A _ _
     grind
    grind
   .
    rename_i id el off;split at h
    .rename_i A xs G;split at h
     .rename_i cs af;split at h
      .simp only[G]at L;simp  at h;obtain⟨S,hz,rfl⟩:=h;obtain⟨aa,U⟩:=iq hz;refine⟨?_,λ_=>rfl⟩
       obtain⟨p,hm,rfl⟩:=hv.sG;obtain⟨p',c,g1,g2,g3⟩:=Bh s  (L id (by simp)) G
       rw[hm]at g1;cases g1;obtain⟨k1,k2,k3⟩:=g3.elem af;rw[g3.es_eq];refine .fptr S p.b _ c g2 ?_ ?_
       .rw[aa,List.length_drop];omega
       .intro j q u hj hu;obtain⟨J,C,Y⟩:=U j q hj;rw[List.getElem?_drop]at C;have Z:=g3.idx af C  (by rw[<-Nat.add_assoc];exact hu)
        refine(ih J q u Y (λk hk=>L k ?_) Z).1
        exact List.mem_cons_of_mem _ (jA (List.mem_of_getElem? (i:=j) (by rw[af,Option.getD_some,List.getElem?_drop];exact C)) hk)
      .simp at h
     .simp at h
    .simp at h
   .
    rename_i id;split at h
    .rename_i ax ah;simp  at h;obtain⟨S,hz,rfl⟩:=h;simp only[ah]at L;obtain⟨aa,U⟩:=Jv hz;refine⟨?_,λ_=>rfl⟩
     obtain⟨p,hm,rfl⟩:=hv.A_;obtain⟨p',es,cl,g1,g2,g3,g4⟩:=s.obs id _ ah;rw[hm]at g1;cases g1;have ht:zQ μ H T p.b:=⟨id,p,_,L id (by simp),ah,rfl,hm,rfl⟩
     have hI:plus I μ H w T p.b=some (.map es):=by
      unfold plus;rw[g2];simp[ht,g3,Obj.ic]
     refine .fmap S p.b es hI (by rw[aa];exact g4.1) ?_ ?_
     .intro j q e hj he;obtain⟨J,h1,h2,h3⟩:=U j q hj;refine(ih J.1 q.1 e.key h2 (λk hk=>L k ?_) (g4.2 j J e h1 he).1).1
      exact List.mem_cons_of_mem _ (List.mem_append.2 (.inl (jA (List.mem_map.2 ⟨J,List.mem_of_getElem? h1,rfl⟩) hk)))
     .intro j q e hj he;obtain⟨J,h1,h2,h3⟩:=U j q hj;refine(ih J.2 q.2 e.val h3 (λk hk=>L k ?_) (g4.2 j J e h1 he).2).1
      exact List.mem_cons_of_mem _ (List.mem_append.2 (.inr (jA (List.mem_map.2 ⟨J,List.mem_of_getElem? h1,rfl⟩) hk)))
    .simp at h
   .rename_i f p q;split at h
    .rename_i p' q' hp hq;simp  at h;subst h;obtain⟨u1,u2,rfl,r1,r2⟩:=hv.jv;obtain⟨l1,m1⟩:=iq hp;obtain⟨l2,m2⟩:=iq hq;refine⟨.clo f p' q' u1 u2 (by rw[l1];simpa using r1.1) (by rw[l2];simpa using r2.1) ?_ ?_,λ_=>rfl⟩
     .intro j a b ha hb;obtain⟨a0,B,Q⟩:=m1 j a ha;exact(ih a0 a b Q (λk hk=>L k (List.mem_append.2 (.inl (jA (List.mem_of_getElem? B) hk)))) (r1.2 j a0 b B (by simpa using hb))).1
     .intro j a b ha hb;obtain⟨a0,B,Q⟩:=m2 j a ha;exact(ih a0 a b Q (λk hk=>L k (List.mem_append.2 (.inr (jA (List.mem_of_getElem? B) hk)))) (r2.2 j a0 b B (by simpa using hb))).1
    .simp at h
   .rename_i cs;simp  at h;obtain⟨S,hz,rfl⟩:=h;obtain⟨l1,m1⟩:=iq hz;obtain⟨u1,rfl,r1⟩:=hv.gT;refine⟨.agg S u1 (by rw[l1];simpa using r1.1) ?_,λh=>by simp[V.one]at h⟩
    intro j a b ha hb;obtain⟨a0,B,Q⟩:=m1 j a ha;exact(ih a0 a b Q (λk hk=>L k (jA (List.mem_of_getElem? B) hk)) (r1.2 j a0 b B (by simpa using hb))).1
   .rename_i cs;simp  at h;obtain⟨S,hz,rfl⟩:=h;obtain⟨l1,m1⟩:=iq hz;obtain⟨u1,rfl,r1⟩:=hv.oR;refine⟨.tup S u1 (by rw[l1];simpa using r1.1) ?_,λh=>by simp[V.one]at h⟩
    intro j a b ha hb;obtain⟨a0,B,Q⟩:=m1 j a ha;exact(ih a0 a b Q (λk hk=>L k (jA (List.mem_of_getElem? B) hk)) (r1.2 j a0 b B (by simpa using hb))).1
   grind
end
end Go.VE
namespace Go.VE
variable [bN]
def fr (ro:Option Nat):Fence:={ fn:=λ_=>True,depth:=none,alive:=false,round:=ro }
def wY (I:b9) (μ:Mu) (H:bf) (w:World) (r:V) (H':bf):Ending->World->Prop:=
 λe w'=>∃u I' μ',e=.returned u/\bz I' μ' r u/\cN I' μ' H' w'/\Step I μ H w I' μ' H' w'
def xW (P:Program) (f:FuncId):Prop:=∃fn,P.funcs[f]? = some fn/\fn.body.isSome=true/\(fn.name == "runtime.NumGoroutine")=false
structure jW (P:Program) (call:dh):Prop where
 fn:∀f args H r H',call (.fn f) args H=some (r,H')->xW P f/\∀I μ w vs,cN I μ H w->cw I μ args vs->CallsIn (fr none) 0 P f vs.toArray w (wY I μ H w r H')
 yld:∀id args H r H',call (.yld id) args H=some (r,H')->∀I μ w vs p,cN I μ H w->cw I μ args vs->μ id=some p ->
  ∃l f tmps assign body,(Instr.yield p.b vs.toArray).run P w=.ok (.round l f tmps assign body) w/\RoundIn (fr none) 0 P l f tmps assign body w (wY I μ H w r H')
def rm:Ob->Ob
 | .row es xs=>.frz es xs
 | .map _=>.dead
 | o=>o
theorem Ei (H:bf) (k id:Nat):(tE H k)[id]? = (H[id]?).map λob=>if id=k then rm ob else ob:=by
 unfold tE
 by_cases e:id=k
 .subst e
  cases h:H[id]? with
  | none=>simp[h]
  | some ob=>
   have u:=(ζe.1 h).1;cases ob <;> simp[rm,u] <;> exact(ζe.1 h).2
 grind
theorem Ar (o:Ob):rm (rm o)=rm o:=by cases o <;> rfl
theorem gU:∀(T:List Nat) (H:bf) (id:Nat),(ct H T)[id]? = (H[id]?).map λob=>if id∈T then rm ob else ob:=by
 intro T
 induction T with
 | nil=>simp[ct]
 | cons k T u=>
  intro H id;have:=u (tE H k) id;simp[ct]at this ⊢;rw[this,Ei]
  cases h:H[id]? with
  | none=>simp
  | some ob=>
   by_cases e:id=k <;> by_cases w:id∈T <;> simp[Ar] <;> (simp_all) <;> simp_all [Ar]
theorem jr (T:List Nat) (H:bf):(ct H T).length=H.length:=by
 induction T generalizing H with
 | nil=>rfl
 | cons k T u=>
  simp[ct]at u ⊢;rw[u];unfold tE
  grind
section
variable {P:Program} {I I':b9} {μ μ':Mu} {H H':bf} {w w':World}
theorem cN.kept (s:cN I μ H w) (hk:∀b,b<w.heap.size->w'.heap[b]? = w.heap[b]?):cN I μ H w' where
 dom:=s.dom
 imm:=λb x h=>IC.qG (s.imm b x h) (hk b (s.FH h))
 obs:=λid ob h=>(s.obs id ob h).mono (b9.le_refl _) (Mu.le_refl _) (λp z A=>by
  have u:gH μ H p.b:=⟨id,p,ob,h,A,z,rfl⟩;exact⟨hk _ (mc s u),fA s u⟩) (λB=>by subst B;exact s.obs id _ h)
 inj:=s.inj
 gl:=s.gl
theorem qd (μ:Mu) (b:Nat):¬gH μ [] b:=by
 rintro⟨id,p,ob,h,_⟩;simp_all
theorem Cw {call:dh} (hc:jW P call) {f:FuncId} {args:List V} {y:V} (h:bU call f args H=some y) (s:cN I μ H w) {vs:List Value} (hv:cw I μ args vs) :
 xW P f/\CallsIn (fr none) 0 P f vs.toArray w (wY I μ H w y (if y.scalar then H else ct H (cI (bW call.lv H) args))):=by
 unfold bU at h;split at h
 .rename_i az has;split at h
  .rename_i r H1 W;split at h
   .rename_i y' hy;split at h
    .rename_i aa;simp  at h;subst h;generalize hT:cI (bW call.lv H) args=T;obtain⟨ab,C⟩:=iq has;have s0:cN (plus I μ H w T) (λ_=>none) [] w:=⟨λ_ _=>rfl,rZ s T,by simp,by simp,s.gl.mono (nQ I μ H w T)⟩
     have X:cw (plus I μ H w T) (λ_=>none) az vs:=by
      refine⟨ab.trans hv.1,λj a b h1 z=>?_⟩
      obtain⟨x,L,af⟩:=C j a h1;refine .c _ _ (tv s T call.lv x a b af (λk hk=>?_) (hv.2 j x b L z)).1
      rw[<-hT];exact jA (List.mem_of_getElem? L) hk
     obtain⟨hf,O⟩:=hc.fn f az [] r H1 W;refine⟨hf,(O _ _ w vs s0 X).mono ?_⟩;rintro e w' ⟨u,I1,μ1,rfl,hr,s1,st⟩;have A  := λb C=>st.frame b C (qd _ _)
     generalize ak:bW call.lv H1 r=T1;have ad:=(tv s1 T1 call.lv r y' u hy (λk hk=>by grind) hr).1
     cases ah:y'.scalar with
     | true=>
      exact⟨u,I,μ,rfl,.c _ _ (ad.scalar ah),s.kept A,⟨b9.le_refl _,Mu.le_refl _,Nat.le_refl _,st.size,λb C _=>A b C,λ_ h=>h.elim .inl λh=>.inr (.inl h),st.os,st.out,st.fz⟩⟩
     | false=>
      simp only[Bool.false_eq_true,if_false]
      let I2:=plus I1 μ1 H1 w' T1
      have D:b9.le I I2:=b9.le_trans (nQ I μ H w T) (b9.le_trans st.le (nQ _ _ _ _ _));have G:∀b,(I2 b).isSome=true->(I b).isSome=true\/zQ μ H T b\/w.heap.size<=b:=by
       intro b C;have h1:(I1 b).isSome=true\/gH μ1 H1 b:=by
        rcases xE C with h|h
        .grind
        .exact .inr (Ax h)
       rcases st.terr b h1 with h|h|h
       .rcases xE h with h|h
        .grind
        grind
       .exact absurd h (qd _ _)
       grind
      have Y:∀id ob p,H[id]? = some ob->ob.live=true->id∉T->μ id=some p->I2 p.b=none:=by
       intro id ob p h1 z h3 h4
       cases hI:I2 p.b with
       | none=>rfl
       | some x=>
        have ho:gH μ H p.b:=⟨id,p,ob,h1,z,h4,rfl⟩;rcases G p.b (by grind)with h|⟨Q,p',ai,g0,g1,g2,g3,g4⟩|h
        .rw[fA s ho]at h;cases h
        .have:=s.inj Q id ai ob p' p g1 h1 g2 z g3 h4 g4;simp_all
        .have:=mc s ho;omega
      have S:∀id x,(ct H T)[id]? = some x->∃ob,H[id]? = some ob/\x=(if id∈T then rm ob else ob):=by
       intro id x L;rw[gU]at L;obtain⟨ob,h1,z⟩:=ζf.1 L;exact⟨ob,h1,z.symm⟩
      have B:∀id x,(ct H T)[id]? = some x->x.live=true->H[id]? = some x/\(id∉T\/∃r,x=.loop r):=by
       intro id x L Z;obtain⟨ob,h1,z⟩:=S id x L
       by_cases U:id∈T
       .rw[if_pos U]at z;cases ob <;> simp[rm]at z <;> subst z <;> simp[Ob.live]at Z;exact⟨h1,.inr ⟨_,rfl⟩⟩
       .rw[if_neg U]at z;subst z;exact⟨h1,.inl U⟩
      refine⟨u,I2,μ,rfl,.c _ _ ad,⟨?_,?_,?_,?_,s.gl.mono D⟩,⟨D,Mu.le_refl _,by rw[jr];exact Nat.le_refl _,st.size,λb C _=>A b C,?_,st.os,st.out,st.fz⟩⟩
      .intro id h;rw[jr]at h;exact s.dom id h
      .exact rZ s1 T1
      .intro id x L;obtain⟨ob,h1,z⟩:=S id x L;have J:=s.obs id ob h1
       by_cases U:id∈T
       .rw[if_pos U]at z
        cases ob with
        | row es xs=>
         subst z;obtain⟨p,c,g1,g2,g3⟩:=Bh s  U    (by rw[h1];rfl)
         exact⟨p,c,g1,nQ _ _ _ _ _ _ _ (st.le _ _ g2),g3.mono D (Mu.le_refl _)⟩
        | frz es xs=>
         subst z;exact J.mono D (Mu.le_refl _) (λp _ Z=>by simp[Ob.live]at Z) (λhe=>by cases he)
        | map al=>subst z;trivial
        | free=>simp[rm]at z;subst z;exact J
        | dead=>subst z;trivial
        | loop r=>
         simp[rm]at z;subst z;obtain⟨p,l,g1,g2,g3,g4⟩:=J;refine⟨p,l,g1,?_,?_,g4.mono D (Mu.le_refl _)⟩
         .
          cases hI:I2 p.b with
          | none=>rfl
          | some x=>
           have ae:=rZ s1 T1 p.b x hI;have aj  := (Array.getElem?_eq_some_iff.1 g3).1;have hh:=A p.b aj;rw[g3]at hh
           cases x with
           | cells c=>obtain⟨_,_,q⟩:=ae;rw[hh]at q;cases q
           | map es=>obtain⟨_,q⟩:=ae;rw[hh]at q;cases q
         .rw[A p.b (Array.getElem?_eq_some_iff.1 g3).1];omega
       .rw[if_neg U]at z;subst z;refine J.mono D (Mu.le_refl _) (λp hp Z=>⟨A _ (mc s ⟨id,p,x,h1,Z,hp,rfl⟩),Y id x p h1 Z U hp⟩) (λhe=>by subst he;exact J)
      .intro id Q o1 o2 p p' h1 z l1 l2 m1 m2 C;exact s.inj id Q o1 o2 p p' (B id o1 h1 l1).1 (B Q o2 z l2).1 l1 l2 m1 m2 C
      .intro b C;rcases C with h|⟨id,p,x,h1,z,h3,rfl⟩
       .rcases G b h with h|h|h
        .exact .inl h
        .exact .inr (.inl (Ax h))
        .exact .inr (.inr h)
       .exact .inr (.inl ⟨id,p,x,(B id x h1 z).1,z,h3,rfl⟩)
    grind
   grind
  grind
 grind
theorem bz.scalar {x:V} {v:Value} (h:bz I μ x v) (B:x.scalar=true):bz I' μ' x v:=by
 have key:∀(l:List V) (u:List Value),(∀x∈l,∀v,bz I μ x v->x.scalar=true->bz I' μ' x v)->V.cG l=true->(∀(j:Nat) a b,l[j]? = some a->u[j]? = some b->bz I μ a b) ->
  ∀(j:Nat) a b,l[j]? = some a->u[j]? = some b->bz I' μ' a b:=by
  intro l
  induction l with
  | nil=>grind
  | cons x l A=>
   intro u h1 G J j a b C w;simp only[V.cG,ζh]at G
   cases j with
   | zero=>
    grind
   | succ j=>
    cases u with
    | nil=>simp at w
    | cons v u=>exact A u (λy z=>h1 y (List.mem_cons_of_mem _ z)) G.2 (λj a b p q=>J (j+1) a b (by grind) (by grind)) j a b (by grind) (by simpa using w)
 have main:∀(k:Nat) (x:V) (v:Value),SizeOf.sizeOf x<k->bz I μ x v->x.scalar=true->bz I' μ' x v:=by
  intro k
  induction k with
  | zero=>grind
  | succ k A=>
   intro x v hk h B
   cases h with
   | c _ _ h=>exact .c _ _ (h.scalar B)
   | agg cs u D h=>
    refine .agg cs u D (λj a b C w=>key cs u.toList (λy z v hv B=>A y v ?_ hv B) B (λj a b p q=>h j a b p (by simpa using q)) j a b C (by simpa using w))
    have:=List.sizeOf_lt_of_mem z;simp at hk;omega
   | tup cs u D h=>
    refine .tup cs u D (λj a b C w=>key cs u.toList (λy z v hv B=>A y v ?_ hv B) B (λj a b p q=>h j a b p (by simpa using q)) j a b C (by simpa using w))
    have:=List.sizeOf_lt_of_mem z;simp at hk;omega
   | _=>simp[V.scalar]at B
 exact main (SizeOf.sizeOf x+1) x v (by omega) h B
theorem cN.Jl (s:cN I μ H w) {ob:Ob} {p:Pl} (T:ob≠.free) (hI:I p.b=none) (D:¬gH μ H p.b) (U:rH I (μ.gb H.length p) w H.length ob) :
 cN I (μ.gb H.length p) (H++[ob]) w:=by
 have hk  := s.dom _ (Nat.le_refl _);have u:∀id x,(H++[ob])[id]? = some x->(id≠H.length/\H[id]? = some x)\/(id=H.length/\x=ob):=by
  grind
 refine⟨?_,s.imm,?_,?_,s.gl⟩
 .intro id h;simp at h;rw[Mu.gX _ _ (by omega)];exact s.dom id (by omega)
 .intro id x h;rcases u id x h with⟨e,h⟩|⟨rfl,rfl⟩
  .refine(s.obs id x h).mono (b9.le_refl _) (Mu.pL hk) (λq Q S=>?_) (λW=>by subst W;rw[Mu.gX _ _ e];exact s.obs id _ h)
   exact⟨rfl,fA s ⟨id,q,x,h,S,Q,rfl⟩⟩
  grind
 .intro id z o1 o2 q G h1 X J L A B C;rcases u id o1 h1 with⟨e1,k1⟩|⟨Y,b1⟩ <;> rcases u z o2 X with⟨e2,O⟩|⟨Z,b2⟩
  .rw[Mu.gX _ _ e1]at A;rw[Mu.gX _ _ e2]at B;exact s.inj id z o1 o2 q G k1 O J L A B C
  .subst Z;rw[Mu.gX _ _ e1]at A;rw[Mu.fI]at B;cases B;exact absurd ⟨id,q,o1,k1,J,A,C⟩ D
  .subst Y;rw[Mu.gX _ _ e2]at B;rw[Mu.fI]at A;cases A;exact absurd ⟨z,G,o2,O,L,B,C.symm⟩ D
  grind
theorem Sj {call:dh} (hc:jW P call) {f:FuncId} {args:List V} {y:V} (h:kU call f args H=some (y,H')) (s:cN I μ H w) {vs:List Value} (hv:cw I μ args vs) :
 xW P f/\CallsIn (fr none) 0 P f vs.toArray w (wY I μ H w y H'):=by
 unfold kU at h;split at h
 .rename_i az has;split at h
  .rename_i r H1 L;generalize hT:cI (bW call.lv H) args=T;obtain⟨W,A⟩:=iq has;have s0:cN (plus I μ H w T) (λ_=>none) [] w:=⟨λ_ _=>rfl,rZ s T,by simp,by simp,s.gl.mono (nQ I μ H w T)⟩
   have O:cw (plus I μ H w T) (λ_=>none) az vs:=by
    refine⟨W.trans hv.1,λj a b h1 X=>?_⟩
    obtain⟨x,hx,ab⟩:=A j a h1;refine .c _ _ (tv s T call.lv x a b ab (λk hk=>?_) (hv.2 j x b hx X)).1
    rw[<-hT];exact jA (List.mem_of_getElem? hx) hk
   obtain⟨hf,D⟩:=hc.fn f az [] r H1 L;refine⟨hf,(D _ _ w vs s0 O).mono ?_⟩;rintro e w' ⟨u,I1,μ1,rfl,hr,s1,st⟩;have z:∀b,b<w.heap.size->w'.heap[b]? = w.heap[b]? := λb A=>st.frame b A (qd _ _)
   have sk:cN I μ H w':=s.kept z;have ae:Step I μ H w I μ H w':=⟨b9.le_refl _,Mu.le_refl _,Nat.le_refl _,st.size,λb A _=>z b A,λ_ h=>h.elim .inl λh=>.inr (.inl h),st.os,st.out,st.fz⟩
   split at h
   .rename_i af;simp only[ζa,ζc]at h;obtain⟨rfl,rfl⟩:=h;exact⟨u,I,μ,rfl,hr.scalar af,sk,ae⟩
   .
    have key:∀(id es off len:Nat) (v:V) (ob:Ob) (u:Value),rL H.length H1 id es off len=some (v,ob)->bz I1 μ1 (.hsl id es off len) u ->
     ∃p,bz I (μ.gb H.length p) v u/\cN I (μ.gb H.length p) (H++[ob]) w'/\Step I μ H w I (μ.gb H.length p) (H++[ob]) w':=by
     intro id es off len v ob u B hu;unfold rL at B;split at B
     .rename_i Y xs J;split at B
      .rename_i Q;obtain⟨rfl,am⟩:=Q;obtain⟨rfl,rfl⟩:=B;obtain⟨p,c,el,g1,g2,g3,g4⟩:=s1.obs id _ J;have Z:w.heap.size<=p.b:=by
        rcases st.terr p.b (.inr ⟨id,p,_,J,rfl,g1,rfl⟩)with h|h|h
        .obtain⟨x,hx⟩:=Option.isSome_iff_exists.1 h;have:=st.le _ _ hx
         grind
        .exact absurd h (qd _ _)
        simp_all
       have hI:I p.b=none:=by
        cases hx:I p.b with
        | none=>rfl
        | some x=>have:=s.FH hx;omega
       have hn:¬gH μ H p.b:=λho=>by have:=mc s ho;omega
       have ah:fF I (μ.gb H.length p) p c Y xs:=by
        refine⟨g4.es_eq,g4.sz,g4.oc,g4.one,g4.room,g4.rel.1,λj a b B A=>(g4.rel.2 j a b B A).scalar ?_⟩
        have hm:=List.mem_of_getElem? B;rw[List.mem_flatten]at hm
        grind
       have sa:=sk.Jl (ob:=.row Y xs)  (by simp) hI hn ⟨p,c,el,Mu.fI _ _ _,hI,g3,ah⟩
       refine⟨p,?_,sa,⟨b9.le_refl _,Mu.pL (s.dom _ (Nat.le_refl _)),by simp,st.size,λb A _=>z b A,?_,st.os,st.out,st.fz⟩⟩
       .rcases hu.kT with⟨p',cap,hm,ai,aj,ak,ee⟩|⟨h0,ad,ee⟩
        .rw[g1]at hm;cases hm;rw[ee];subst ai;exact .hsl _ off len cap p (Mu.fI _ _ _) aj ak
        .rw[ee,h0];exact .hsl0 _ _ _ _
       .rintro b (h|⟨k,q,x,h1,X,h3,rfl⟩)
        .exact .inl h
        .by_cases e:k=H.length
         .subst e;rw[Mu.fI]at h3;cases h3;exact .inr (.inr Z)
         .rw[Mu.gX _ _ e]at h3;have al:k<H.length:=by
           have:=(ζe.1 h1).1;simp at this;omega
          rw[List.getElem?_append_left al]at h1;exact .inr (.inl ⟨k,q,x,h1,X,h3,rfl⟩)
      grind
     grind
    split at h
    .rename_i id es off len _;simp only[ζf]at h;obtain⟨⟨v,ob⟩,B,rfl,rfl⟩:=h;obtain⟨p,k1,k2,k3⟩:=key id es off len v ob u B hr;exact⟨u,I,_,rfl,k1,k2,k3⟩
    .rename_i id es off len rest _;split at h
     .rename_i S;simp only[ζf,ζc]at h;obtain⟨⟨v,ob⟩,B,rfl,rfl⟩:=h;obtain⟨us,rfl,C⟩:=hr.oR;have aa:0<us.toList.length:=by have:=C.1;simp at this ⊢;omega
      obtain⟨u0,ur,U⟩:∃u0 ur,us.toList=u0::ur:=by
       cases hl:us.toList with
       | nil=>rw[hl]at aa;simp at aa
       | cons a b=>exact⟨a,b,rfl⟩
      rw[U]at C;obtain⟨p,k1,k2,k3⟩:=key id es off len v ob u0 B (C.2 0 _ _ rfl rfl);refine⟨_,I,_,rfl,.tup _ _ ?_ ?_,k2,k3⟩
      .have:=C.1;simp at this;have X:us.toList.length=ur.length+1:=by rw[U];rfl
       simp at X ⊢;omega
      .intro j a b hj A;have G:(u0::ur)[j]? = some b:=by rw[<-U];simpa using A
       cases j with
       | zero=>simp at hj G;subst hj;subst G;exact k1
       | succ j=>
        simp at hj G;refine(C.2 (j+1) a b (by simpa using hj) (by simpa using G)).scalar ?_
        have:∀(l:List V),V.cG l=true->∀x∈l,x.scalar=true:=by
         intro l
         induction l with
         | nil=>intro _ x hx;simp at hx
         | cons y l ih=>
          intro hl x hx;simp[V.cG]at hl;rcases List.mem_cons.1 hx with rfl|hx
          .exact hl.1
          .exact ih hl.2 x hx
        exact this rest S a (List.mem_of_getElem? hj)
     .simp at h
    grind
  grind
 grind
theorem Tm {E:Env} {call:dh} (hc:jW P call) {f:FuncId} {args:List V} {y:V} (h:fc E call f args H=some (y,H')) (s:cN I μ H w) {vs:List Value} (hv:cw I μ args vs) :
 xW P f/\CallsIn (fr none) 0 P f vs.toArray w (wY I μ H w y H'):=by
 unfold fc at h;split at h
 .exact Sj hc h s hv
 .obtain⟨k1,u⟩:=hc.fn f args H y H' h
  grind
end
end Go.VE
namespace Go.VE
variable [bN]
def Ob.mp:Ob->Option (List (V×V))
 | .map B=>some B
 | _=>none
def lS (H H2:bf):Prop:=∀id:Nat,(H[id]?).bind Ob.rows=(H2[id]?).bind Ob.rows/\(H[id]?).bind Ob.mp=(H2[id]?).bind Ob.mp
theorem lS.refl (H:bf):lS H H:=λ_=>⟨rfl,rfl⟩
theorem lS.symm {H H2:bf} (h:lS H H2):lS H2 H:=λid=>⟨(h id).1.symm,(h id).2.symm⟩
theorem lS.trans {H H2 B:bf} (h:lS H H2) (k:lS H2 B):lS H B:=λid=>⟨(h id).1.trans (k id).1,(h id).2.trans (k id).2⟩
theorem lS.of_eq {H H2:bf} (h:H=H2):lS H H2:=by subst h;exact .refl _
theorem Ht {H H2:bf} (h:lS H H2):∀n,borrow n H=borrow n H2:=by
 intro n
 induction n with
 | zero=>funext x;rfl
 | succ n u=>
  funext x
  cases x with
  | hsl id es off len=>simp only[borrow,(h id).1,u]
  | hptr id el off=>simp only[borrow,(h id).1,u]
  | hmap id=>
   have:=(h id).2;simp only[borrow,u];split
   .rfl
   .cases h1:H[id]? with
    | none=>
     cases w:H2[id]? with
     | none=>rfl
     | some o2=>rw[h1,w]at this;cases o2 <;> simp[Ob.mp]at this <;> rfl
    | some o=>
     cases w:H2[id]? with
     | none=>rw[h1,w]at this;cases o <;> simp[Ob.mp]at this <;> rfl
     | some o2=>rw[h1,w]at this;cases o <;> cases o2 <;> simp[Ob.mp]at this <;> first|rfl|(subst this;rfl)
  | _=>simp only[borrow,u]
theorem KG {H H2:bf} (h:lS H H2):∀n,bW n H=bW n H2:=by
 intro n
 induction n with
 | zero=>funext x;rfl
 | succ n u=>
  funext x
  cases x with
  | hsl id es off len=>simp only[bW,(h id).1,u]
  | hptr id el off=>simp only[bW,(h id).1,u]
  | hmap id=>
   have:=(h id).2;simp only[bW,u];split
   .rfl
   .cases h1:H[id]? with
    | none=>
     cases w:H2[id]? with
     | none=>rfl
     | some o2=>rw[h1,w]at this;cases o2 <;> simp[Ob.mp]at this <;> rfl
    | some o=>
     cases w:H2[id]? with
     | none=>rw[h1,w]at this;cases o <;> simp[Ob.mp]at this <;> rfl
     | some o2=>rw[h1,w]at this;cases o <;> cases o2 <;> simp[Ob.mp]at this <;> first|rfl|(subst this;rfl)
  | _=>simp only[bW,u]
theorem yu {H H2:bf} (h:lS H H2) (call:dh) (f:FuncId) (args:List V):bU call f args H=bU call f args H2:=by
 unfold bU borrows;rw[Ht h]
theorem Fz {H H2:bf} (h:lS H H2) (p:V) (n:Nat):ei H p n=ei H2 p n:=by
 cases p with
 | hptr id el off=>simp only[ei,(h id).1]
 | _=>rfl
theorem KF {H H2:bf} (h:lS H H2) (p:V):lT H p=lT H2 p:=by
 cases p with
 | hmap id=>
  have:=(h id).2;simp only[lT]
  cases h1:H[id]? with
  | none=>
   cases u:H2[id]? with
   | none=>rfl
   | some o2=>rw[h1,u]at this;cases o2 <;> simp[Ob.mp]at this <;> rfl
  | some o=>
   cases u:H2[id]? with
   | none=>rw[h1,u]at this;cases o <;> simp[Ob.mp]at this <;> rfl
   | some o2=>rw[h1,u]at this;cases o <;> cases o2 <;> simp[Ob.mp]at this <;> first|rfl|(subst this;rfl)
 | _=>rfl
theorem yh {E:Env} {F:Frame} {H H2:bf} (h:lS H H2) (op:Op):dG E F H op=dG E F H2 op:=by
 cases op <;> simp only[dG,Fz h,KF h]
theorem tT {H H2:bf} (h:lS H H2) (T:List Nat):hD H T=hD H2 T:=by
 unfold hD
 congr 1
 funext id
 rw[(h id).1]
theorem yW {H:bf} {T:List Nat} (h:hD H T=true) {id:Nat} (hi:id∈T):∃es xs,H[id]? = some (.row es xs)\/H[id]? = some (.frz es xs):=by
 unfold hD at h;rw[List.all_eq_true]at h;have:=h id hi
 cases h1:H[id]? with
 | none=>rw[h1]at this;simp at this
 | some o=>rw[h1]at this;cases o <;> simp[Ob.rows]at this <;> exact⟨_,_,by first|exact .inl rfl|exact .inr rfl⟩
theorem oO {H:bf} {b id:Nat}:(H.take b)[id]? = if id<b then H[id]? else none:=by
 rw[List.getElem?_take]
theorem pJ {H:bf} {T:List Nat} {b:Nat} (h:hD (H.take b) T=true):lS (ct H T) H:=by
 intro id;rw[gU]
 by_cases hi:id∈T
 .obtain⟨es,w,hx⟩:=yW h hi;rw[oO]at hx
  by_cases u:id<b
  .rw[if_pos u]at hx;rcases hx with hx|hx <;> simp[hx,hi,rm,Ob.rows,Ob.mp]
  .rw[if_neg u]at hx;rcases hx with hx|hx <;> cases hx
 .cases H[id]? <;> simp[hi]
theorem lS.take {H H2:bf} (h:lS H H2) (b:Nat):lS (H.take b) (H2.take b):=by
 intro id;rw[oO,oO]
 by_cases u:id<b
 .rw[if_pos u,if_pos u];exact h id
 .rw[if_neg u,if_neg u];exact⟨rfl,rfl⟩
theorem yP {H:bf} {T:List Nat} {b:Nat} (h:hD (H.take b) T=true) {id:Nat} (hi:id∈T):id<b:=by
 obtain⟨es,w,hx⟩:=yW h hi;rw[oO]at hx
 by_cases u:id<b
 .exact u
 .rw[if_neg u]at hx;rcases hx with hx|hx <;> cases hx
theorem Cs {H:bf} {T:List Nat} {k:Nat} {ob:Ob} (h:k∉T):ct (H.set k ob) T=(ct H T).set k ob:=by
 apply List.ext_getElem?;intro i;rw[gU]
 by_cases e:i=k
 .subst e
  by_cases u:i<H.length
  .rw[List.getElem?_set_self u,List.getElem?_set_self (by rw[jr];exact u)];simp[h]
  .rw[List.getElem?_eq_none (by simp;omega),List.getElem?_eq_none (by rw[List.length_set,jr];omega)];rfl
 .rw[List.getElem?_set_ne (Ne.symm e),List.getElem?_set_ne (Ne.symm e),gU]
theorem Hz (H:bf) (T B:List Nat):ct (ct H T) B=ct (ct H B) T:=by
 apply List.ext_getElem?;intro i;simp only[gU]
 cases H[i]? with
 | none=>rfl
 | some o=>by_cases h1:i∈T <;> by_cases u:i∈B <;> simp[h1,u]
theorem Jq {H:bf} {b:Nat}:∀(n:Nat) (x:V),(∀id∈bW n (H.take b) x,id<b)->bW n H x=bW n (H.take b) x:=by
 intro n
 induction n with
 | zero=>intro x _;rfl
 | succ n A=>
  have u:∀l:List V,(∀id∈cI (bW n (H.take b)) l,id<b)->cI (bW n H) l=cI (bW n (H.take b)) l:=by
   intro l
   induction l with
   | nil=>intro _;rfl
   | cons x r z=>
    intro h;simp only[cI,List.mem_append]at h ⊢;rw[A x λid hi=>h id (.inl hi),z λid hi=>h id (.inr hi)]
  intro x h;simp only[bW]at h ⊢;split
  .rfl
  .rename_i hc;rw[if_neg hc]at h
   cases x with
   | hsl id es off len=>
    simp only at h ⊢;have w:id<b:=h id (List.mem_cons_self ..);rw[oO,if_pos w]at h ⊢
    cases hr:(H[id]?).bind Ob.rows with
    | none=>rfl
    | some q=>
     rw[hr]at h;simp only at h ⊢;rw[u _ λi hi=>h i (List.mem_cons_of_mem _ hi)]
   | hptr id el off=>
    simp only at h ⊢;have w:id<b:=h id (List.mem_cons_self ..);rw[oO,if_pos w]at h ⊢
    cases hr:(H[id]?).bind Ob.rows with
    | none=>rfl
    | some q=>
     rw[hr]at h;simp only at h ⊢;rw[u _ λi hi=>h i (List.mem_cons_of_mem _ hi)]
   | hmap id=>
    simp only at h ⊢;have w:id<b:=h id (List.mem_cons_self ..);rw[oO,if_pos w]at h ⊢;split
    .rename_i B hk;rw[hk]at h;simp only[List.mem_cons,List.mem_append]at h;rw[u _ λi hi=>h i (.inr (.inl hi)),u _ λi hi=>h i (.inr (.inr hi))]
    .rfl
   | clo f a c=>
    simp only[List.mem_append]at h ⊢;rw[u _ λi hi=>h i (.inl hi),u _ λi hi=>h i (.inr hi)]
   | agg cs=>simp only at h ⊢;exact u _ h
   | tup cs=>simp only at h ⊢;exact u _ h
   | _=>rfl
theorem s7 {H:bf} {b n:Nat}:∀(l:List V),(∀id∈cI (bW n (H.take b)) l,id<b)->cI (bW n H) l=cI (bW n (H.take b)) l
 | [],_=>rfl
 | x::r,h=>by
  simp only[cI,List.mem_append]at h ⊢;rw[Jq n x λid hi=>h id (.inl hi),s7 r λid hi=>h id (.inr hi)]
end Go.VE
namespace Go.VE
variable [bN]
theorem M3 {H:bf} {b id:Nat} {ob:Ob} (h:(H.take b)[id]? = some ob):H[id]? = some ob:=by
 grind
theorem Dq {H:bf} {b id es:Nat} {xs:List (List V)} (h:((H.take b)[id]?).bind Ob.rows=some (es,xs)):(H[id]?).bind Ob.rows=some (es,xs):=by
 grind
theorem GK {H:bf} {b:Nat} {p:V} {n:Nat} {cs:List V} (h:ei (H.take b) p n=some cs):ei H p n=some cs:=by
 unfold ei at h ⊢;split at h
 .omega
 .grind
 grind
theorem Jp {H:bf} {b:Nat} {m:V} {B:List (V×V)} (h:lT (H.take b) m=some B):lT H m=some B:=by
 unfold lT at h ⊢
 grind
theorem ye {E:Env} {F:Frame} {H:bf} {b:Nat} {op:Op} {x:V} (h:dG E F (H.take b) op=some x):dG E F H op=some x:=by
 cases op with
 | load t a=>
  simp[dG]at h ⊢;split at h
  .obtain⟨cs,h1,w⟩:=ζg.1 h;rw[GK h1];exact w
  grind
 | lookup t m k ok=>
  simp[dG]at h ⊢;split at h
  .split at h
   .rename_i hd u;rw[hd,Jp u];omega
   grind
  grind
 | _=>simp[dG]at h
theorem lQ {f g:V->Option V} (B:∀x y,f x=some y->g x=some y):∀{xs ys:List V},gV f xs=some ys->gV g xs=some ys:=by
 intro xs
 induction xs with
 | nil=>intro ys h;exact h
 | cons x xs u=>
  intro ys h;simp[gV]at h ⊢
  grind
theorem HL {f g:V->Option V} (B:∀x y,f x=some y->g x=some y):∀{xs ys:List (List V)},kJ f xs=some ys->kJ g xs=some ys:=by
 intro xs
 induction xs with
 | nil=>intro ys h;exact h
 | cons x xs u=>
  intro ys h;simp[kJ]at h ⊢;split at h
  .rename_i y s w z;rw[lQ B w,u z];omega
  grind
theorem Hq {f g:V->Option V} (B:∀x y,f x=some y->g x=some y):∀{xs ys:List (V×V)},kK f xs=some ys->kK g xs=some ys:=by
 intro xs
 induction xs with
 | nil=>intro ys h;exact h
 | cons x xs u=>
  intro ys h;simp[kK]at h ⊢
  grind
theorem AJ {H:bf} {b:Nat}:∀(n:Nat) (x y:V),borrow n (H.take b) x=some y->borrow n H x=some y:=by
 intro n
 induction n with
 | zero=>intro x y h;exact h
 | succ n z=>
  intro x y h;simp[borrow]at h ⊢;split at h
  .grind
  .rename_i hc;rw[if_neg hc];split at h
   .split at h
    .rename_i hr;simp only[Dq hr];split at h
     .rename_i A;rw[if_pos A];obtain⟨B,w,u⟩:=ζf.1 h;rw[HL z w,<-u];rfl
     grind
    grind
   .split at h
    .rename_i hr;simp[Dq hr];split at h
     .split at h
      .rename_i C;rw[if_pos C];obtain⟨B,w,u⟩:=ζf.1 h;rw[lQ z w,<-u];rfl
      grind
     grind
    grind
   .split at h
    .rename_i hr;simp only[M3 hr];obtain⟨B,w,u⟩:=ζf.1 h;rw[Hq z w,<-u];rfl
    grind
   .split at h
    .rename_i h1 D;rw[lQ z h1,lQ z D];omega
    grind
   .obtain⟨B,w,u⟩:=ζf.1 h;rw[lQ z w,<-u];rfl
   .obtain⟨B,w,u⟩:=ζf.1 h;rw[lQ z w,<-u];rfl
   grind
theorem oH {call:dh} {f:FuncId} {args:List V} {H:bf} {b:Nat} {y:V} (h:bU call f args (H.take b)=some y):bU call f args H=some y:=by
 unfold bU borrows at h ⊢;split at h
 .rename_i az has;rw[lQ (AJ call.lv) has];omega
 grind
theorem Gc (n:Nat) (H:bf) {x:V} (h:x.closed=true):bW n H x=[]:=by
 cases n with
 | zero=>rfl
 | succ n=>simp[bW,h]
section
variable {P:Program} {E:Env} {I I':b9} {μ μ':Mu} {H H':bf} {n:Nat} {F:Frame} {a:Act} {w w':World}
theorem vT {f:FuncId} (h:xW P f) (args:Array Value):(callFunc f args).run P w=.ok (.enter f args) w:=by
 obtain⟨fn,h1,A,u⟩:=h;unfold callFunc;have z:fn.body.isNone=false:=by simp_all
 simp only[Sem.run_bind,run_program,Result.andThen_ok,h1,u,z,Bool.false_eq_true,if_false,Sem.run_pure]
theorem Bw {o:Oper} {ro:Option Nat} {K:Act->World->Prop} {Q:Exit->Act->World->Prop} {f:FuncId} {args:Array Value} {r:V}
 (B:CallsIn (fr none) 0 P f args w (wY I μ H w r H')) (D:∀u I' μ' w',bz I' μ' r u->cN I' μ' H' w'->Step I μ H w I' μ' H' w'->K (a.put o.dst u) w') :
 o.uponIn (fr ro) 0 P a K Q (.ok (.enter f args) w):=by
 refine⟨λh=>by simp[fr]at h,?_⟩
 have z  := B;refine z.mono ?_;rintro e w' ⟨u,I',μ',rfl,h1,z,A⟩
 grind
theorem Eo {x:V} (h:x.scalar=true) {I:b9} {μ:Mu} {v:Value} (r:bz I μ x v):dW I x v:=by
 induction r with
 | c x v A=>omega
 | agg cs u w _ z=>
  exact .agg cs u w λj a b p q=>z j a b p q (sN h a (List.mem_of_getElem? p))
 | tup cs u w _ z=>
  exact .tup cs u w λj a b p q=>z j a b p q (sN h a (List.mem_of_getElem? p))
 | _=>simp[V.scalar]at h
theorem QZ (hE:dX P E) (r:dP I μ n F a.tmps) (s:cN I μ H w) (o:Oper) {x:V} (h:pZ E F o.op=some x) :
 ∃u I' w',(execOp a.eval o).run P w=.ok (.value u) w'/\bz I' μ x u/\cN I' μ H w'/\Step I μ H w I' μ H w':=by
 unfold pZ at h;split at h
 rotate_left
 .cases h
 rename_i es G A n X;split at h
 rotate_left
 .cases h
 rename_i hc;obtain⟨rfl,rfl,Y⟩:=hc;obtain⟨obj,p,u,h1,W⟩:=AN hE r s o X;have Z:=W.len _ _ rfl;obtain⟨⟨q,c,el,g1,g2,g3,g4⟩,gv⟩:=W.rel _ (s.dom _ (Nat.le_refl _));rw[Mu.fI]at g1;cases g1;have J:=W.b;have Q:obj=.cells c el:=by
  rw[J,lP]at g3;cases g3;rfl
 subst Q
 let I':b9:=λb=>if b=w.heap.size then some (.cells c)else I b
 have B:b9.le I I':=λb y C=>by
  show (if b=w.heap.size then some (IC.cells c)else I b)=some y;rw[if_neg (λe=>by have:=IC.s6 (s.imm b y C);omega)];exact C
 have D:I' p.b=some (.cells c):=by show (if p.b=w.heap.size then some (IC.cells c)else I p.b)=_;rw[if_pos J]
 have aa:∀y∈G,∀z∈y,z.scalar=true:=λy C z hz=>List.all_eq_true.1 (List.all_eq_true.1 Y y C) z hz
 have hw:∀b,b<w.heap.size->(w.alloc (.cells c el)).heap[b]? = w.heap[b]? := λb hb=>kQ _ b hb
 have ab:∀b,b<w.heap.size->I' b=I b:=λb hb=>by show (if b=w.heap.size then some (IC.cells c)else I b)=_;rw[if_neg (by omega)]
 refine⟨u,I',_,h1,?_,⟨s.dom,?_,?_,s.inj,s.gl.mono B⟩,⟨B,Mu.le_refl _,Nat.le_refl _,by simp,λb hb _=>hw b hb,?_,rfl,⟨rfl,rfl,Nat.le_refl _⟩,λa hb=>Lj W.nf a⟩⟩
 .refine .c _ _ ?_;have ad:∀cap,G.length<=cap->p.o+(0+cap)*A<=p.sz->u=.slice (some ⟨p.b,p.o+0*A,none⟩) G.length cap->dW I' x u:=by
   rintro cap k1 k2 rfl;rw[Nat.zero_mul,Nat.add_zero];split at h
   .split at h
    .rename_i O;simp only[ζa]at h;subst h;simp only[ζh,List.isEmpty_iff,bne_iff_ne,ne_eq]at O;obtain⟨O,ae⟩:=O;subst O;have:cap=0:=by
      simp only[List.length_nil,Nat.zero_mul]at Z;rcases Nat.eq_zero_or_pos cap with k|k
      .exact k
      .have:=Nat.mul_pos k (Nat.pos_of_ne_zero ae);rw[Nat.zero_add]at k2;omega
     subst this;exact .dm _
    .cases h
   .simp only[ζa]at h;subst h;refine .fsl A G p.b p.o cap c D k1 g4.oc g4.one g4.room λi j y z v m1 m2 m3=>?_
    exact dW.mono B (Eo (aa y (List.mem_of_getElem? m1) z (List.mem_of_getElem? m2)) (g4.idx m1 m2 m3))
  have hp:p.es=A:=g4.es_eq;change bz I _ (.hsl H.length A 0 G.length) u at gv;generalize S:G.length=ln at gv
  cases gv with
  | c _ _ af=>cases af
  | hsl id off len cap p' hm k1 k2=>
   rw[Mu.fI]at hm;cases hm;rw[hp]at *;subst S;exact ad cap k1 k2 rfl
  | hsl0 id es off a=>
   have O:G=[]:=List.length_eq_zero_iff.1 S;subst O;split at h
   .split at h
    .simp only[ζa]at h;subst h;exact .dm _
    .cases h
   .simp only[ζa]at h;subst h;exact .fsl0 _ _ _
 .intro b y C
  by_cases e:b=w.heap.size
  .subst e;have:y=.cells c:=by have:=D;rw[J]at this;rw[this]at C;cases C;rfl
   subst this;exact⟨el,_,lP _⟩
  .have T:I b=some y:=by have:(if b=w.heap.size then some (IC.cells c)else I b)=some y:=C;rw[if_neg e]at this;exact this
   exact IC.qG (s.imm b y T) (hw b (IC.s6 (s.imm b y T)))
 .intro id ob L;refine(s.obs id ob L).mono B (Mu.le_refl _) (λq hq hl=>?_) (λe=>by subst e;exact s.obs id _ L)
  have ho:gH μ H q.b:=⟨id,q,ob,L,hl,hq,rfl⟩;have U:=mc s ho;exact⟨hw _ U,by rw[ab _ U];exact fA s ho⟩
 .intro b hb;rcases hb with hb|hb
  .by_cases e:b=w.heap.size
   .exact .inr (.inr (by omega))
   .have:(if b=w.heap.size then some (IC.cells c)else I b).isSome=true:=hb;rw[if_neg e]at this;exact .inl this
  .exact .inr (.inl hb)
theorem Ds:∀{ys:List (List V)} {l:List Int},om ys=some l->ys.flatten=l.map (V.int .u8)/\l.length=ys.length
 | [],l,h=>by cases h;exact⟨rfl,rfl⟩
 | x::r,l,h=>by
  unfold om at h;split at h
  .rename_i e;cases e
  .rename_i n B e;cases e;obtain⟨k,h1,rfl⟩:=ζf.1 h;obtain⟨u,w⟩:=Ds h1;exact⟨by simp[u],by simp[w]⟩
  .cases h
theorem RE (T:dX P E) (r:dP I μ n F a.tmps) (s:cN I μ H w) (o:Oper) {x:V} (h:evalConv E F H o.op=some x):∃u,(execOp a.eval o).run P w=.ok (.value u) w/\bz I μ x u:=by
 unfold evalConv at h;split at h
 .rename_i st L y A;split at h
  .rename_i e v O hd hv;split at h
   .rename_i Q;obtain⟨G,h1,S⟩:=ζg.1 h;obtain⟨l,U,rfl⟩:=ζf.1 S;obtain⟨W,Z⟩:=Ds U;have B:∀{t:TypeId} {k:TK},E.kindOf t=some k->∃d desc,E.tt t=some d/\P.underlying t=some desc/\lu desc=k:=λ{t k} hk=>by
     unfold Env.kindOf at hk;obtain⟨d,g1,g2⟩:=ζf.1 hk;obtain⟨desc,C,D,_⟩:=(T.ty g1).dA;exact⟨d,desc,g1,C,by rw[D,g2]⟩
    obtain⟨_,d1,_,p1,C⟩:=B O;obtain⟨_,d2,_,p2,D⟩:=B hd;obtain⟨_,d3,_,p3,X⟩:=B Q;rw[iJ C]at p1;rw[zJ D]at p2;rw[Bz X]at p3;obtain⟨J,cap,arr,e1,_,e2,e3,_⟩:=yX s (c8 r hv) h1;have z:arr=(l.map (Value.int .u8)).toArray:=by
     apply Array.ext';rw[W]at e3;refine List.ext_getElem (by simpa using e3.1.symm) λj g1 g2=>?_
     have g3:j<l.length:=by simpa using g2
     have:=e3.2 j (V.int .u8 l[j]) arr.toList[j] (by simp[g3]) (ζd g1)
     rw[this.eU];simp
    refine⟨.string (KE l),?_,.c _ _ (.str _)⟩;rw[show execOp a.eval o=_ from by unfold execOp;rw[A]]
    refine dR ?_;rw[e1];rw[run_convert_bytes_string w st L e J G.length cap p1 p3 p2]
    cases J with
    | none=>
     have:=e2 w rfl;rw[e1]at this;simp only[Builtin.firstCells,Sem.run_pure]at this;cases this;have Y:l=[]:=by
      have:=congrArg Array.size z;simp at this;exact List.eq_nil_of_length_eq_zero this.symm
     subst Y;rfl
    | some q=>
     have:=e2 w rfl;rw[e1]at this;simp only[Builtin.firstCells,Nat.mul_one]at this;rw[z]at this;exact run_bytesToString w q G.length cap l this
   .cases h
  .cases h
 .cases h
theorem NK (U:dX P E) {call:dh} (hc:jW P call) {ops:List Oper} {place:Option (Nat×Nat)} {o:Oper} {x:V} (h:c6 E call ops place F H o.op=some (x,H'))
 (r:dP I μ n F a.tmps) (s:cN I μ H w) (ro:Option Nat) {K:Act->World->Prop} {Q:Exit->Act->World->Prop}
 (hK:∀u I' μ' w',bz I' μ' x u->cN I' μ' H' w'->Step I μ H w I' μ' H' w'->K (a.put o.dst u) w'):o.wpIn (fr ro) 0 P a w K Q:=by
 refine⟨λ_ _=>trivial,?_⟩
 have ad:∀c,o.op≠.defer c:=by
  intro c ae;rw[ae]at h;simp[c6,cV,rJ,bG]at h;cases place <;> simp[evalConv]at h
 show o.uponIn (fr ro) 0 P a K Q ((o.semAt ro a.eval).run P w);rw[Oper.semAt_eq ro a.eval o ad];have aa:∀v,(execOp a.eval o).run P w=.ok (.value v) w->bz I μ x v->H'=H->o.uponIn (fr ro) 0 P a K Q ((execOp a.eval o).run P w):=by
  intro v e hv hH;rw[e,Oper.uponIn_value];subst hH;exact hK v I μ w hv s (.refl _ _ _ _)
 unfold c6 at h;split at h
 .
  simp  at h;obtain⟨v,hv,rfl,rfl⟩:=h;unfold rJ at hv;split at hv
  .rename_i hp;cases hv;obtain⟨u,h1,A⟩:=Q4 (w:=w) U r o hp
   grind
  .split at hv
   .obtain⟨u,h1,A⟩:=RE U r s o hv;exact aa u h1 A rfl
   .cases hv
 .
  have hr:dG E F H o.op=some x/\H'=H:=by
   split at h
   .simp  at h
    grind
   .split at h
    .split at h
     .rename_i v hv;obtain⟨rfl,rfl⟩:=h;exact⟨ye hv,rfl⟩
     .split at h
      .simp  at h
       grind
      grind
    grind
  obtain⟨u,h1,A⟩:=Q3 U r s o hr.1
  grind
 .
  by_cases G:qf ops place=true
  .rw[if_pos G]at h;obtain⟨v,hv,e⟩:=ζf.1 h;obtain⟨u,I',w',k1,Z,k3,k4⟩:=QZ U r s o hv;rw[k1,Oper.uponIn_value]
   grind
  rw[if_neg G]at h;split at h
  .rename_i ob m W;obtain⟨obj,p,u,h1,A⟩:=AN U r s o W;rw[h1,Oper.uponIn_value];obtain⟨g1,g2⟩:=A.rel _ (s.dom _ (Nat.le_refl _));obtain⟨s1,s2⟩:=s.push A.b g1 A.nf
   grind
  .rename_i ob m b i W;split at h
   .rename_i J;obtain⟨obj,p,u,h1,A⟩:=AN U r s o W;rw[h1,Oper.uponIn_value];obtain⟨g1,g2⟩:=A.rel _ (s.obs _ _ J);obtain⟨s1,s2⟩:=s.fill J A.b g1 A.nf
    grind
   grind
  grind
 .
  have hl:cR E F H o.op=some (x,H'):=by
   split at h
   .exact h
   .split at h
    .exact h
    .simp at h
  obtain⟨nx,u,w',μ',h1,A,h3,h4,h5⟩:=(Qk U r s o hl).run;rw[h1];rcases A with rfl|⟨rfl,rfl⟩
  .exact hK u I μ' w' h3 h4 h5
  .exact hK _ I μ' w' h3 h4 h5
 .
  have B:∀c args,ja F o.op=some (c,args)->∃O:List Value,cw I μ args O /\
   (∀f,c=.fn f->xW P f->(execOp a.eval o).run P w=.ok (.enter f O.toArray) w) /\
   (∀id,c=.yld id->∃p,μ id=some p/\(execOp a.eval o).run P w=(Instr.yield p.b O.toArray).run P w):=by
   intro c args z;obtain⟨dst,op,ty,pos,after,guard⟩:=o
   cases op with
   | call cl=>
    obtain⟨callee,L,aj⟩:=cl
    cases callee with
    | value f=>
     simp only[ja]at z;split at z
     .rename_i g p q O hf X;obtain⟨rfl,rfl⟩:=z;obtain⟨u,v,ef,hu,hv⟩:=(c8 r hf).jv;have C:=mE r X;refine⟨u.toList++L.toList.map a.eval++v.toList,(hu.append C).append hv,?_,by simp⟩
      intro f' af ah;cases af;simp[execOp,resolve,Sem.run_bind];rw[ef];simp only[Deferred.ofValue,Sem.run_pure,Result.andThen_ok,invoke,vT ah]
      congr 2
      apply Array.ext';simp
     .rename_i id O hf X;simp  at z;obtain⟨rfl,rfl⟩:=z;obtain⟨p,hm,ef⟩:=(c8 r hf).QE;have C:=mE r X;refine⟨L.toList.map a.eval,C,by simp,?_⟩
      intro ak ab;cases ab;refine⟨p,hm,?_⟩;simp[execOp,resolve,Sem.run_bind];rw[ef];simp[Deferred.ofValue,Sem.run_pure,Result.andThen_ok,invoke]
      congr 1
      congr 1
      apply Array.ext';simp
     .simp at z
    | _=>simp[ja]at z
   | _=>simp[ja]at z
  have D:∀f args y,ja F o.op=some (.fn f,args)->bU call f args H=some y->x=y->H'=(if y.scalar then H else ct H (cI (bW call.lv H) args)) ->
   o.uponIn (fr ro) 0 P a K Q ((execOp a.eval o).run P w):=by
   intro f args y h1 A h3 h4;obtain⟨O,g1,g2,_⟩:=B _ _ h1;obtain⟨k1,Z⟩:=Cw hc A s g1;rw[g2 f rfl k1];subst h3;subst h4;exact Bw Z hK
  have S:∀f args,ja F o.op=some (.fn f,args)->fc E call f args H=some (x,H')->o.uponIn (fr ro) 0 P a K Q ((execOp a.eval o).run P w):=by
   intro f args h1 A;obtain⟨O,g1,g2,_⟩:=B _ _ h1;obtain⟨k1,Z⟩:=Tm hc A s g1;rw[g2 f rfl k1];exact Bw Z hK
  have T:∀id args,ja F o.op=some (.yld id,args)->call (.yld id) args H=some (x,H')->o.uponIn (fr ro) 0 P a K Q ((execOp a.eval o).run P w):=by
   intro id args h1 A;obtain⟨O,g1,_,g3⟩:=B _ _ h1;obtain⟨p,hm,e⟩:=g3 id rfl;obtain⟨l,f,tmps,assign,body,k1,Z⟩:=hc.yld id args H x H' A I μ w O p s g1 hm;rw[e,k1,Oper.uponIn_round];refine⟨λh=>by simp[fr]at h,?_⟩
   have A  := Z;refine A.mono ?_;rintro e w' ⟨u,I',μ',rfl,h1,A,h3⟩;exact hK u I' μ' w' h1 A h3
  split at h
  .rename_i f args z;split at h
   .split at h
    .exact S f args z h
    .split at h
     .exact S f args z h
     .simp at h
   .split at h
    .split at h
     .rename_i y hy;simp  at h;exact D f args y z hy h.1.symm h.2.symm
     .simp at h
    .split at h
     .rename_i y hy;split at h
      .rename_i Y;simp  at h;refine D f args y z (oH hy) h.1.symm ?_;rw[<-h.2,if_pos Y]
      .rename_i Y;split at h
       .rename_i ai;simp  at h;refine D f args y z (oH hy) h.1.symm ?_;rw[<-h.2,if_neg Y,s7 _ λid hi=>yP ai hi]
       .simp at h
     .split at h
      .split at h
       .rename_i y hy;simp  at h;exact D f args y z hy h.1.symm h.2.symm
       .simp at h
      .simp at h
  .rename_i id args z;split at h
   .exact T id args z h
   .split at h
    .exact T id args z h
    .simp at h
  .simp at h
end
end Go.VE
namespace Go.VE
variable [bN]
structure iO (B:Nat) (ds:List Deferred) (w:World):Prop where
 all:∀d∈ds,∃r,d.target=.collected r/\B<=r/\w.heap[r]? = some (.deferred (some []))
 apart:ds.Pairwise λd d'=>∀r,d.target=.collected r->d'.target≠.collected r
section
variable {P:Program} {E:Env} {I I' I'':b9} {μ μ' μ'':Mu} {H H' H'':bf} {n B:Nat} {F F':Frame} {a:Act} {w w' w'':World}
theorem tI (s:cN I μ H w) {r:Nat} {c:Option (List Deferred)} (h:w.heap[r]? = some (.deferred c)):¬gH μ H r:=by
 rintro⟨id,p,ob,h1,B,A,rfl⟩;have:=s.obs id ob h1
 cases ob with
 | row es D=>obtain⟨q,c,el,u,_,z,_⟩:=this;rw[A]at u;cases u;rw[h]at z;cases z
 | map C=>obtain⟨q,c,el,u,_,z,_⟩:=this;rw[A]at u;cases u;rw[h]at z;cases z
 | loop x=>obtain⟨q,c,u,_,z,_⟩:=this;rw[A]at u;cases u;rw[h]at z;cases z
 | _=>simp[Ob.live]at B
theorem iO.step {ds:List Deferred} (h:iO B ds w) (s:cN I μ H w) (st:Step I μ H w I' μ' H' w'):iO B ds w' where
 all:=by
  intro d hd;obtain⟨r,h1,z,u⟩:=h.all d hd;refine⟨r,h1,z,?_⟩;rw[st.frame r (Array.getElem?_eq_some_iff.1 u).1 (tI s u)];exact u
 apart:=h.apart
structure At (B n:Nat) (I0:b9) (μ0:Mu) (H0:bf) (w0:World) (F:Frame) (H:bf) (ds:List Deferred) (a:Act) (w:World):Prop where
 rel:∃I μ,dP I μ n F a.tmps/\cN I μ H w/\Step I0 μ0 H0 w0 I μ H w
 defers:a.defers=ds
 marks:iO B ds w
theorem MM (r:dP I μ n F a.tmps) (ops:Array Oper) (o:Oper):fe ops.toList F o=Region.wanted o (yielded ops a.tmps):=by
 unfold fe Region.wanted
 cases hg:o.guard with
 | none=>rfl
 | some g=>
  obtain⟨j,b⟩:=g;simp only;unfold yielded;have e:ops.toList[j]? = ops[j]? := by simp
  rw[e]
  cases hd:(ops[j]?).bind (·.dst)with
  | none=>simp
  | some d=>
   simp only[ζb];have hr:=r.2 d
   by_cases w:d<a.tmps.size
   .have u:a.tmps[d]? = some a.tmps[d]:=by simp[w]
    have z:a.tmps.getD d undef=a.tmps[d]:=by simp[w]
    rw[z]at hr;rw[u]
    cases A:get F d with
    | bool c=>rw[A]at hr;rw[hr.qu];cases c <;> cases b <;> rfl
    | _=>
     cases hv:a.tmps[d]with
     | bool c=>rw[hv]at hr;have:=hr.of_bool;rw[A]at this;cases this
     | _=>rfl
   .have u:a.tmps[d]? = none:=Array.getElem?_eq_none (Nat.le_of_not_lt w);have z:a.tmps.getD d undef=undef:=by simp[w]
    rw[z]at hr;rw[u]
    cases A:get F d with
    | bool c=>rw[A]at hr;have:=hr.qu;simp[undef]at this
    | _=>rfl
theorem BP (J:dX P E) {call:dh} (hc:jW P call) {ops:Array Oper} {place:Option (Nat×Nat)} {o:Oper} (h:fM E call n ops.toList place o F H=some (F',H'))
 (r:dP I μ n F a.tmps) (s:cN I μ H w) (ro:Option Nat) {K:Act->World->Prop} {Q:Exit->Act->World->Prop}
 (G:∀a' I' μ' w',dP I' μ' n F' a'.tmps->a'.defers=a.defers->cN I' μ' H' w'->Step I μ H w I' μ' H' w'->K a' w') :
 if Region.wanted o (yielded ops a.tmps)then o.wpIn (fr ro) 0 P a w K Q else(∀f,o.about P w a.eval=some f->(fr ro).fn f)/\K (a.put o.dst undef) w:=by
 unfold fM at h;rw[<-MM r];have z:∀v,(a.put o.dst v).defers=a.defers:=λv=>by cases o.dst <;> rfl
 split at h
 .rename_i B;rw[if_pos B];split at h
  .rename_i x H2 C;simp only[ζf,ζc]at h;obtain⟨L,D,rfl,rfl⟩:=h;refine NK J hc C r s ro (λu I' μ' w' O S A=>?_)
   exact G _ I' μ' w' ((r.mono A.le A.mu).put O D) (z u) S A
  .simp at h
 .rename_i B;rw[if_neg B];simp only[ζf,ζc]at h;obtain⟨L,D,rfl,rfl⟩:=h;exact⟨λ_ _=>trivial,G _ I μ w (r.put (.undef I μ) D) (z _) s (.refl _ _ _ _)⟩
theorem LG (T:dX P E) {call:dh} (hc:jW P call) {ops:Array Oper} (ro:Option Nat) {Q:Exit->Act->World->Prop}:∀(rest:List Oper) (k:Nat) (I:b9) (μ:Mu) (F:Frame) (H:bf) (a:Act) (w:World),
 (∀j,rest[j]? = ops[k+j]?)->kZ E call n ops.toList rest F H=some (F',H')->dP I μ n F a.tmps->cN I μ H w ->
 (∀a' I' μ' w',dP I' μ' n F' a'.tmps->a'.defers=a.defers->cN I' μ' H' w'->Step I μ H w I' μ' H' w'->Q .normal a' w') ->
 wpOpsIn (fr ro) 0 P ops Q (List.range' k rest.length) a w:=by
 intro rest
 induction rest with
 | nil=>
  intro k I μ F H a w _ h r s B;simp only[kZ,ζa,ζc]at h;obtain⟨rfl,rfl⟩:=h;exact B a I μ w r rfl s (.refl _ _ _ _)
 | cons o rest O=>
  intro k I μ F H a w u h r s B;simp only[kZ]at h;split at h
  .rename_i F1 H1 z;have S:ops[k]? = some o:=by simpa using (u 0).symm
   simp only[List.length_cons,List.range'_succ,wpOpsIn,S];refine BP T hc z r s ro (λa' I' μ' w' hr hd L C=>?_)
   refine O (k+1) I' μ' F1 H1 a' w' (λj=>by have:=u (j+1);simpa [Nat.add_assoc,Nat.add_comm 1 j]using this) h hr L ?_
   intro U I2 W X D G J A;exact B U I2 W X D (G.trans hd) J (Step.trans L C A)
  .simp at h
end
end Go.VE
namespace Go.VE
variable [bN]
def mH (F F':Frame) (op:Op):Prop:=∀x∈op.operands,ev F x=ev F' x
theorem qR {F F':Frame}:∀{l:List Operand},(∀x∈l,ev F x=ev F' x)->eP F l=eP F' l:=by
 intro l
 induction l with
 | nil=>intro _;rfl
 | cons x l u=>
  simp[eP]
  grind
theorem yz {F F':Frame}:∀{l:List (Nat×Operand)},(∀x∈l,ev F x.2=ev F' x.2)->lq F l=lq F' l:=by
 intro l
 induction l with
 | nil=>intro _;rfl
 | cons x l u=>
  intro h;simp[lq];simp_all
theorem vR {F F':Frame} {o:Option Operand} (h:∀x∈o.toArray,ev F x=ev F' x):ji F o=ji F' o:=by
 cases o with
 | none=>rfl
 | some x=>simp[ji];grind
theorem CM {E:Env} {F F':Frame} {op:Op} (h:mH F F' op):bG E F op=bG E F' op:=by
 cases op with
 | move x=>exact h x (by simp[Op.operands])
 | assign x=>exact h x (by simp[Op.operands])
 | pick c a b=>
  simp[bG];rw[h c (by simp[Op.operands]),h a (by simp[Op.operands]),h b (by simp[Op.operands])]
 | nilCheck x=>simp[bG];rw[h x (by simp[Op.operands])]
 | binOp op t x y A=>simp[bG];rw[h x (by simp[Op.operands]),h y (by simp[Op.operands])]
 | unOp op t x=>simp[bG];rw[h x (by simp[Op.operands])]
 | convert s d x=>simp[bG];rw[h x (by simp[Op.operands])]
 | fieldAddr s x f=>simp[bG];rw[h x (by simp[Op.operands])]
 | field s x f=>simp[bG];rw[h x (by simp[Op.operands])]
 | indexAddr t x i=>simp[bG];rw[h x (by simp[Op.operands]),h i (by simp[Op.operands])]
 | index t x i=>simp[bG];rw[h x (by simp[Op.operands]),h i (by simp[Op.operands])]
 | slice t x lo hi B=>
  simp[bG];rw[h x (by simp[Op.operands]),vR  (λy u=>h y (by simp[Op.operands]at u ⊢;simp_all)),vR  (λy u=>h y (by simp[Op.operands]at u ⊢;simp_all)),
   vR  (λy u=>h y (by simp[Op.operands]at u ⊢;simp_all))]
 | build t C=>
  simp[bG];rw[yz  (λx w=>h x.2 (by simp[Op.operands];grind))]
 | makeFunc f a b=>
  cases f with
  | func f=>
   simp[bG];rw[qR  (λx w=>h x (by simp[Op.operands];grind)),qR  (λx w=>h x (by simp[Op.operands];grind))]
  | _=>rfl
 | extract x i=>simp[bG];rw[h x (by simp[Op.operands])]
 | call c=>
  obtain⟨callee,args,z⟩:=c
  cases callee with
  | builtin b=>
   simp[bG];rw[qR  (λx w=>h x (by simp[Op.operands,Call.operands];grind))]
  | _=>rfl
 | _=>rfl
theorem wU {E:Env} {F F':Frame} {H:bf} {op:Op} (h:mH F F' op):dG E F H op=dG E F' H op:=by
 cases op with
 | load t x=>simp[dG];rw[h x (by simp[Op.operands])]
 | lookup t m k ok=>simp[dG];rw[h m (by simp[Op.operands]),h k (by simp[Op.operands])]
 | _=>rfl
theorem vG {E:Env} {F F':Frame} {op:Op} (h:mH F F' op):ey E F op=ey E F' op:=by
 cases op with
 | alloc t=>rfl
 | box t x=>simp[ey];rw[h x (by simp[Op.operands])]
 | makeSlice t l c=>simp[ey];rw[h l (by simp[Op.operands]),h c (by simp[Op.operands])]
 | buildSlice t len u=>
  simp[ey];rw[yz  (λx w=>h x.2 (by simp[Op.operands];grind))]
 | makeMap t r=>cases r <;> rfl
 | _=>rfl
theorem C4 {E:Env} {F F':Frame} {H:bf} {op:Op} (h:mH F F' op):cR E F H op=cR E F' H op:=by
 cases op with
 | store t p x=>simp[cR];rw[h p (by simp[Op.operands]),h x (by simp[Op.operands])]
 | mapUpdate t m k x=>simp[cR];rw[h m (by simp[Op.operands]),h k (by simp[Op.operands]),h x (by simp[Op.operands])]
 | insert t m k x=>simp[cR];rw[h m (by simp[Op.operands]),h k (by simp[Op.operands]),h x (by simp[Op.operands])]
 | call c=>
  obtain⟨callee,args,u⟩:=c
  cases callee with
  | builtin b=>
   cases b with
   | append=>
    simp[cR];rw[qR  (λx w=>h x (by simp[Op.operands,Call.operands];grind))]
   | clear=>
    simp[cR];rw[qR  (λx w=>h x (by simp[Op.operands,Call.operands];grind))]
   | _=>rfl
  | _=>rfl
 | _=>rfl
theorem CU {F F':Frame} {op:Op} (h:mH F F' op):ja F op=ja F' op:=by
 cases op with
 | call c=>
  obtain⟨callee,args,u⟩:=c
  cases callee with
  | value f=>
   simp[ja];rw[h f (by simp[Op.operands,Call.operands]),qR  (λx w=>h x (by simp[Op.operands,Call.operands];grind))]
  | _=>rfl
 | _=>rfl
theorem HA {E:Env} {F F':Frame} {op:Op} (h:mH F F' op):pZ E F op=pZ E F' op:=by unfold pZ;rw[vG h]
theorem JC {F F':Frame} {ops:List Oper} {i b:Nat} {H:bf} {op:Op} (h:mH F F' op):xS ops i b F H op=xS ops i b F' H op:=by
 have:oN F op=oN F' op:=by
  unfold oN;split
  .rename_i args _;split
   .rename_i x r u;rw[h x (by
     have:x∈args.toList:=by rw[u];simp
     simp only[Op.operands,Call.operands,Array.mem_append];right;simpa using this)]
   .rfl
  .rfl
 unfold xS;rw[this]
theorem HD {E:Env} {place:Option (Nat×Nat)} {F F':Frame} {H:bf} {op:Op} (h:mH F F' op):rJ E F H place op=rJ E F' H place op:=by
 unfold rJ;rw[CM h];have:evalConv E F H op=evalConv E F' H op:=by
  unfold evalConv;split
  .rw[h _ (by simp[Op.operands])]
  .rfl
 rw[this]
theorem um {E:Env} {b:Nat×Nat} {F:Frame} {H:bf} {op:Op}:rJ E F H (some b) op=bG E F op:=by
 unfold rJ;split <;> simp_all
theorem B8 {E:Env} {call:dh} {ops:List Oper} {place:Option (Nat×Nat)} {F F':Frame} {H:bf} {op:Op} (h:mH F F' op) (B:∀b i,place=some (b,i)->qy ops i F=qy ops i F'/\mF ops i F op=mF ops i F' op):c6 E call ops place F H op=c6 E call ops place F' H op:=by
 unfold c6;rw[HD h,vG h,C4 h,CU h,wU (H:=H) h,HA h];split <;> (try rfl)
 .split <;> (try rfl)
  rename_i i;rw[wU h,(B _ i rfl).2]
 .split <;> (try rfl)
  rename_i b i;rw[(B _ i rfl).1,JC h]
section
variable {E:Env} {call:dh} {n:Nat} {ops:List Oper} {base:Nat}
theorem JH {o:Oper} {t:Nat} (h:.tmp t∈o.op.operands):t∈tmpsOf o ops:=by
 refine List.mem_append.2 (.inl (List.mem_filterMap.2 ⟨.tmp t,by grind,rfl⟩))
theorem Dm {F F':Frame} {o:Oper} {dst:Option Nat} {v:V} (hp:jg n F dst v=some F') (h:∀d,dst=some d->d∉tmpsOf o ops):mH F' F o.op:=by
 intro x w
 cases x with
 | tmp t=>
  cases dst with
  | none=>simp[jg]at hp;grind
  | some d=>
   simp only[jg]at hp;split at hp
   .simp  at hp;subst hp;have u:d≠t:=λe=>h d rfl (by rw[e];exact JH w)
    simp[ev];rw[gC _ _ u]
   grind
 | const v=>rfl
 | func f=>rfl
 | global g=>rfl
theorem AB {F F':Frame} {o:Oper} {dst:Option Nat} {v:V} (hp:jg n F dst v=some F') (h:∀d,dst=some d->d∉tmpsOf o ops):fe ops F' o=fe ops F o:=by
 unfold fe
 cases hg:o.guard with
 | none=>rfl
 | some g=>
  obtain⟨j,b⟩:=g;simp only
  cases hd:(ops[j]?).bind (·.dst)with
  | none=>rfl
  | some t=>
   simp only
   cases dst with
   | none=>simp[jg]at hp;grind
   | some d=>
    simp only[jg]at hp;split at hp
    .simp  at hp;subst hp;have u:d≠t:=λe=>h d rfl (by
      unfold tmpsOf
      grind)
     rw[gC _ _ u]
    grind
theorem LM {F F1 J:Frame} {d G:Option Nat} {u v:V} (h1:jg n F d u=some F1) (B:jg n F1 G v=some J) (T:∀x,d=some x->G≠some x) :
 ∃D,jg n F G v=some D/\jg n D d u=some J:=by
 cases d with
 | none=>
  simp[jg]at h1;subst h1;exact⟨J,B,rfl⟩
 | some x=>
  cases G with
  | none=>
   simp[jg]at B;subst B;exact⟨F,rfl,h1⟩
  | some y=>
   simp only[jg]at h1 B ⊢;split at h1
   .rename_i w;split at B
    .simp  at h1 B;subst h1;subst B;have:x≠y:=λe=>T x rfl (by rw[e])
     exact⟨set F y v,by grind,by rw[if_pos w,E7 _ _ _ (Ne.symm this)]⟩
    grind
   grind
theorem vQ {i k:Nat} {B ok:Oper} (h:dB ops i=true) (hi:ops[i]? = some B) (hk:ops[k]? = some ok) (D:k≠i):cV ok.op=.pure\/(if k<i then before ops i k else before ops k i)=true\/(isApp B.op=true/\cV ok.op=.alloc/\i<k):=by
 unfold dB at h
 grind
theorem vJ {H:bf} {j es:Nat} {ob:Ob} {x:V} {xs:List (List V)} (B:H[j]? = some .free) (h:dx H es x=some xs):dx (H.set j ob) es x=some xs:=by
 unfold dx at h ⊢;split at h <;> first|omega|skip
 rename_i id u off len
 by_cases e:j=id
 .subst e;rw[B]at h;simp only[ζb,Ob.rows]at h
  grind
 grind
theorem NV {H H1:bf} {j:Nat} {ob:Ob} {x:V} (h:gq H x=some H1):H1.length=H.length/\(H1[j]? = some .free->H[j]? = some .free)/\(H[j]? = some .free->gq (H.set j ob) x=some (H1.set j ob)):=by
 unfold gq at h ⊢;split at h
 .grind
 .grind
 .rename_i id a b c;split at h
  .rename_i hr;cases h;refine⟨by simp,λh=>?_,λh=>?_⟩
   .grind
   .have e:id≠j:=λe=>by grind
    rw[List.getElem?_set_ne (Ne.symm e),hr];rw[List.set_comm _ _ e]
  simp_all
 simp_all
theorem E9 {H:bf} {o:Ob} {j:Nat} (B:o≠.free) (h:(H++[o])[j]? = some .free):j<H.length/\H[j]? = some .free:=by
 grind
theorem QN {F:Frame} {H H1:bf} {op:Op} {v:V} {j:Nat} {ob:Ob} (J:isApp op=true) (h:cR E F H op=some (v,H1)) (B:H1[j]? = some .free):H[j]? = some .free/\cR E F (H.set j ob) op=some (v,H1.set j ob):=by
 unfold isApp at J;split at J
 .simp only[cR]at h ⊢;split at h
  .split at h
   .rename_i e _ w u;split at h
    .rename_i d hd;split at h
     .rename_i C D;obtain⟨rfl,rfl⟩:=h;refine⟨B,?_⟩;simp[w,u,hd,vJ  B C,vJ  B D]
     .rename_i O Q I C D;split at h
      .obtain⟨H0,hg,L⟩:=ζf.1 h;obtain⟨rfl,rfl⟩:=L;obtain⟨G,z⟩:=E9 (by simp) B
       obtain⟨g1,g2,g3⟩:=NV  (ob:=ob) hg;have A:=g2 z;simp[w,u,hd,vJ  A C,vJ  A D]
       grind
      simp_all
     simp_all
    simp_all
   .rename_i e _ w u;split at h
    .rename_i d hd;unfold mkApp at h;split at h
     .split at h
      .obtain⟨rfl,rfl⟩:=h;simp only[w,u,hd,mkApp]
       grind
      .split at h
       .obtain⟨rfl,rfl⟩:=h;obtain⟨G,z⟩:=E9 (by simp) B
        simp only[u,mkApp]
        grind
       simp_all
     simp_all
    simp_all
   simp_all
  simp_all
 simp_all
theorem sY {i:Nat} {F:Frame} {H H':bf} {op:Op} {v:V} (h:c6 E call ops (some (base,i)) F H op=some (v,H')) (U:dB ops i=false) (B:cV op≠.loud) :
 (H'=H/\∀H2:bf,lS (H2.take base) (H.take base)->c6 E call ops (some (base,i)) F H2 op=some (v,H2)) \/
 (∃ob,H[base+i]? = some .free/\H'=H.set (base+i) ob/\∀H2:bf,H2[base+i]? = some .free->c6 E call ops (some (base,i)) F H2 op=some (v,H2.set (base+i) ob)) \/
 (∃T,hD (H.take base) T=true/\H'=ct H T/\∀H2:bf,lS (H2.take base) (H.take base)->c6 E call ops (some (base,i)) F H2 op=some (v,ct H2 T)):=by
 unfold c6 at h;split at h
 .rename_i I;simp  at h;obtain⟨x,C,rfl,rfl⟩:=h;refine .inl ⟨rfl,λH2 _=>?_⟩
  rw[um]at C;unfold c6;rw[I];simp only[um,C,Option.map_some]
 .rename_i B;simp only at h;split at h
  .rename_i J;split at h
   .rename_i x C;obtain⟨rfl,rfl⟩:=h;refine .inl ⟨rfl,λH2 u=>?_⟩
    unfold c6;rw[B];simp[yh u,C,J]
   grind
  grind
 .split at h
  .obtain⟨x,C,e⟩:=ζf.1 h;obtain⟨rfl,rfl⟩:=e;refine .inl ⟨rfl,λH2 _=>?_⟩
   unfold c6;grind
  split at h
  .grind
  .rename_i ob m S W Q L;obtain⟨rfl,rfl⟩:=L;split at h
   .rename_i w;obtain⟨rfl,rfl⟩:=h;refine .inr (.inl ⟨ob,w,rfl,λH2 u=>?_⟩)
    unfold c6;grind
   grind
  grind
 .grind
 .rename_i B;split at h
  .rename_i f args D;split at h
   .grind
   .rename_i z;simp only at h;split at h
    .rename_i y O;split at h
     .rename_i A;obtain⟨rfl,rfl⟩:=h;refine .inl ⟨rfl,λH2 u=>?_⟩
      unfold c6;rw[B];simp[D];rw[if_neg z];simp[yu u,O,A]
     .split at h
      .rename_i G;obtain⟨rfl,rfl⟩:=h;refine .inr (.inr ⟨_,G,rfl,λH2 u=>?_⟩)
       unfold c6;simp[D];simp[yu u,O,KG u,tT u,G]
       grind
      grind
    grind
  .grind
  grind
theorem Di {i:Nat}:∀{r l:List Nat},Bj ops i r=some l->∀k∈r,∃a,ED ops i k=some a/\∀s∈a,s∈l
 | [],l,h,k,hk=>by simp_all
 | q::r,l,h,k,hk=>by
  simp[Bj]at h;split at h
  .rename_i a b h1 B;simp  at h;rcases List.mem_cons.1 hk with rfl|hk
   .grind
   .obtain⟨a',g1,g2⟩:=Di B k hk
    grind
  grind
theorem E8 {i:Nat}:∀{r l:List Nat},Bj ops i r=some l->∀s∈l,s∉dstsOf ops
 | [],l,h,s,hs=>by simp[Bj]at h;grind
 | q::r,l,h,s,hs=>by
  simp[Bj]at h;split at h
  .rename_i a b h1 B;simp  at h;subst h;rcases List.mem_append.1 hs with hs|hs
   .unfold ED at h1
    grind
   .exact E8 B s hs
  grind
theorem D5 {i a:Nat} {l:List Nat} {B:Oper} (hi:ops[i]? = some B) (h:zm ops i=some (a,l)):(∃t x,B.op=.store t (.tmp a) x)/\a∉dstsOf ops/\(∀s∈l,s∉dstsOf ops) /\
 ∀k ok,ops[k]? = some ok->k≠i->cV ok.op=.pure\/(if k<i then before ops i k else before ops k i)=true\/∃D a',ok.op=.load D (.tmp a')/\(a'∈l\/a'∈dstsOf ops):=by
 unfold zm at h;rw[hi]at h;simp  at h;split at h
 .rename_i t a0 x w;simp  at w;split at h
  .simp_all
  .obtain⟨C,z,e⟩:=ζf.1 h;obtain⟨rfl,rfl⟩:=e;refine⟨⟨t,x,w⟩,by grind,E8 z,λk ok hk A=>?_⟩
   obtain⟨b,h1,G⟩:=Di z k (List.mem_range.2 (ζe.1 hk).1);unfold ED at h1;rw[hk]at h1;simp only at h1;split at h1
   .rename_i u;simp  at u;rcases u with (u|u)|u
    .grind
    .grind
    .exact .inr (.inl u)
   .split at h1
    .grind
    grind
 grind
theorem Gy {F F':Frame} {dst:Option Nat} {v:V} {s:Nat} (hp:jg n F dst v=some F') (h:∀d,dst=some d->s≠d):get F' s=get F s:=by
 unfold jg at hp;split at hp
 .grind
 .rename_i d;split at hp
  .simp  at hp;subst hp;exact gC _ _ (Ne.symm (h d rfl))
  grind
theorem GA {k d:Nat} {ok:Oper} (hk:ops[k]? = some ok) (hd:ok.dst=some d):d∈dstsOf ops:=
 List.mem_filterMap.2 ⟨ok,List.mem_of_getElem? hk,hd⟩
theorem DL {F F':Frame} {k i:Nat} {ok B:Oper} {v:V} (hk:ops[k]? = some ok) (hi:ops[i]? = some B) (hp:jg n F ok.dst v=some F'):qy ops i F'=qy ops i F:=by
 unfold qy
 cases u:zm ops i with
 | none=>rfl
 | some w=>
  obtain⟨a,l⟩:=w;obtain⟨_,A,C,_⟩:=D5 hi u;have hg:∀s,s∉dstsOf ops->get F' s=get F s:=λs z=>Gy hp λd hd e=>z (e▸GA hk hd)
  grind
theorem My {i k a a':Nat} {t:TypeId} {x:Operand} {B:Oper} (hi:ops[i]? = some B) (e1:B.op=.store t (.tmp a) x) (h1:a'∈dstsOf ops) (D:a∉dstsOf ops) (G:uY ops i k=false):a∈od ops k a':=by
 unfold od
 grind
theorem xK {k a' s:Nat} (h:s∈od ops k a'):s∉dstsOf ops/\∃i B t x,ops[i]? = some B/\B.op=.store t (.tmp s) x/\uY ops i k=false:=by
 unfold od at h
 grind
theorem Ec {F F':Frame} {k i:Nat} {ok:Oper} {op:Op} {v:V} (hk:ops[k]? = some ok) (hp:jg n F ok.dst v=some F') (B:mH F' F op):mF ops i F' op=mF ops i F op:=by
 have hg:∀s,s∉dstsOf ops->get F' s=get F s:=λs h=>Gy hp λd hd e=>h (e▸GA hk hd)
 unfold mF;split
 .rename_i t u;have w  := by
   have:=B (.tmp u) (by simp[Op.operands])
   simpa [ev]using this
  rw[w,Bool.eq_iff_iff];simp;exact⟨λh s B=>by rw[<-hg s (xK B).1];grind,λh s B=>by rw[hg s (xK B).1];grind⟩
 .rfl
theorem Ci {k a':Nat} {ok:Oper} {t:TypeId} (hk:ops[k]? = some ok) (e:ok.op=.load t (.tmp a')) (h:dB ops k=true):od ops k a'=[]:=by
 refine List.eq_nil_iff_forall_not_mem.2 λs w=>?_
 obtain⟨_,i,B,C,x,h1,z,A⟩:=xK w;have u:i≠k:=λe2=>by grind
 rcases vQ h hk h1 u with g|g|g
 .rw[z]at g;cases g
 .unfold uY at A
  grind
 .rw[e]at g;exact absurd g.1 (by simp[isApp])
theorem HJ {F:Frame} {H H':bf} {t:TypeId} {a:Nat} {x:Operand} {id el off:Nat} {u:V} (B:get F a=.hptr id el off) (h:cR E F H (.store t (.tmp a) x)=some (u,H')):∃r,H'=H.set id r:=by
 simp only[cR,ev]at h;split at h
 .grind
 grind
theorem I8 {F:Frame} {H:bf} {t:TypeId} {a id b:Nat} {r:Ob} (B:pK id (get F a)=true):dG E F ((H.set id r).take b) (.load t (.tmp a))=dG E F (H.take b) (.load t (.tmp a)):=by
 have:∀m,ei ((H.set id r).take b) (get F a) m=ei (H.take b) (get F a) m:=λm=>by
  unfold pK at B;split at B
  .rename_i u el off hg;rw[hg];simp[ei]
   grind
  .rename_i cs hg;rw[hg];rfl
  grind
 unfold dG;simp[ev]
 grind
theorem Gp {k i:Nat} {ok G:Oper} (hk:ops[k]? = some ok) (hi:ops[i]? = some G) (U:k≠i) (J:(if k<i then before ops i k else before ops k i)=false) (lk:dB ops k=false) (pk:cV ok.op≠.pure) (hl:cV G.op=.loud) (li:dB ops i=false) (W:isApp G.op=false)
 {F:Frame} {H0 H1 H2 Y T:bf} {u v:V} (D:c6 E call ops (some (base,i)) F Y G.op=some (u,T)) (B:c6 E call ops (some (base,k)) F H0 ok.op=some (v,H1)) :
 H1=H0/\∃id,(∀(H:bf) (r:Ob),dG E F ((H.set id r).take base) ok.op=dG E F (H.take base) ok.op)/\(∃r,T=Y.set id r)/\cV ok.op=.read/\dG E F (H0.take base) ok.op=some v/\mF ops k F ok.op=true:=by
 unfold c6 at D;rw[hl]at D;simp only[li,Bool.false_or,show ∀F b H,xS ops i b F H G.op=false from λF b H=>by unfold xS;rw[W];simp,Bool.or_false]at D
 split at D
 .rename_i A;unfold qy at A;split at A
  .rename_i a l I;split at A
   .rename_i id el off hg;obtain⟨⟨t,x,C⟩,S,h3,X⟩:=D5 hi I;rcases X k ok hk U with h|h|⟨t',Q,w,hmem⟩
    .exact absurd h pk
    .rw[J]at h;cases h
    .unfold c6 at B;rw[w]at B;simp only[cV]at B;split at B
     rotate_left
     .simp at B
     rename_i z;have L:pK id (get F Q)=true:=by
      rcases hmem with hmem|hmem
      .exact List.all_eq_true.1 A Q hmem
      .have O:uY ops i k=false:=by
        unfold uY
        by_cases e:k<i
        .rw[if_pos e]at J ⊢;exact J
        .rw[if_neg e]at J ⊢;exact J
       have Z:=My hi C hmem S O;unfold mF at z;simp only[List.all_eq_true]at z;have:=z a Z;rw[hg]at this;exact this
     rw[C]at D;obtain⟨r,hr⟩:=HJ hg D;split at B
     .rename_i v' hv;simp only[ζa,ζc]at B;obtain⟨rfl,rfl⟩:=B;refine⟨rfl,id,λH r=>by rw[w];exact I8 L,⟨r,hr⟩,by rw[w];rfl,by rw[w];exact hv,by rw[w];exact z⟩
     .rw[lk]at B;simp at B
   .simp at A
  .simp at A
 .simp at D
theorem B6 {place:Nat×Nat} {F:Frame} {H H':bf} {op:Op} {v:V} (B:cV op=.pure\/cV op=.alloc/\qf ops (some place)=true) (h:c6 E call ops (some place) F H op=some (v,H')) :
 H'=H/\∀H2:bf,c6 E call ops (some place) F H2 op=some (v,H2):=by
 rcases B with B|⟨B,u⟩
 rotate_left
 .unfold c6 at h;rw[B]at h;simp only[u]at h;obtain⟨x,w,e⟩:=ζf.1 h;obtain⟨rfl,rfl⟩:=e;refine⟨rfl,λH2=>?_⟩
  unfold c6;grind
 unfold c6 at h;rw[B]at h;simp  at h;obtain⟨x,w,rfl,rfl⟩:=h;refine⟨rfl,λH2=>?_⟩
 rw[um]at w;unfold c6;rw[B];simp only[um,w,Option.map_some]
theorem take_set_of_le {H:bf} {b k:Nat} {x:Ob} (h:b<=k):(H.set k x).take b=H.take b:=List.take_set_of_le h
theorem apart_spec {a b:Oper} (h:wX ops a b=true):(∀d,a.dst=some d->d∉tmpsOf b ops/\b.dst≠some d)/\(∀d,b.dst=some d->d∉tmpsOf a ops):=by
 unfold wX at h
 grind
theorem BA {i k:Nat} {ok:Oper} (h:vA ops i=true) (hk:ops[k]? = some ok) (B:k≠i) (D:uY ops i k=false):cV ok.op=.pure\/cV ok.op=.read\/cV ok.op=.alloc/\(wT ops k=true\/i<k):=by
 unfold vA at h;split at h
 .simp only[ζh,List.all_eq_true,List.mem_range]at h;have:=h.2 k (ζe.1 hk).1;rw[hk]at this;simp only[Bool.or_eq_true,beq_iff_eq,ζh,decide_eq_true_eq,D,Bool.false_eq_true,or_false]at this;rcases this with ((h|h)|h)|h
  .exact absurd h B
  .exact .inl h
  .exact .inr (.inl h)
  .exact .inr (.inr h)
 .cases h
theorem yN {op:Op} (h:isApp op=true):cV op=.loud:=by
 unfold isApp at h;split at h
 .rfl
 .cases h
theorem EX {F:Frame} {H H1:bf} {op:Op} {v:V} {b:Nat} (D:isApp op=true) (B:oN F op=true) (G:b<=H.length) (h:cR E F H op=some (v,H1)):H1.take b=H.take b:=by
 unfold isApp at D;split at D
 rotate_left
 .cases D
 rename_i args z;simp only[cR]at h;split at h
 rotate_left
 .cases h
 rename_i t J s x A u;have C:s=.dm\/s=.bE:=by
  simp only[oN]at B;split at B
  .rename_i y r I;rw[I]at u;have h1:ev F y=some s:=by
    simp only[eP]at u;split at u
    .rename_i a b h1 w;simp only[ζa,List.cons.injEq]at u;rw[h1,u.1]
    .cases u
   rw[h1]at B;cases s <;> simp at B <;> simp
  .cases B
 have hg:∀H2,gq H s=some H2->H2=H:=λH2 h=>by rcases C with rfl|rfl <;> (simp only[gq,ζa]at h;exact h.symm)
 split at h
 .split at h
  .split at h
   .simp only[ζa,ζc]at h;rw[h.2]
   .split at h
    .obtain⟨H0,h1,w⟩:=ζf.1 h;simp only[ζc]at w;rw[<-w.2,hg H0 h1,List.take_append_of_le_length G]
    .cases h
   .cases h
  .cases h
 .split at h
  .unfold mkApp at h;split at h
   .split at h
    .simp only[ζa,ζc]at h;rw[h.2]
    .split at h
     .simp only[ζa,ζc]at h;rw[<-h.2,List.take_append_of_le_length G]
     .cases h
   .cases h
  .cases h
 .cases h
theorem C2 {i:Nat} {F:Frame} {H H':bf} {op:Op} {u:V} (B:isApp op=true) (D:dB ops i=false) (hi:(ops[i]?).map Oper.op=some op) (h:c6 E call ops (some (base,i)) F H op=some (u,H')) :
 vA ops i=true/\oN F op=true/\base<=H.length/\cR E F H op=some (u,H'):=by
 unfold c6 at h;rw[yN B]at h;have w:qy ops i F=false:=by
  unfold qy zm;rw[hi];unfold isApp at B;split at B
  .rfl
  .cases B
 simp only[D,w,Bool.false_or]at h;split at h
 .rename_i hc;unfold xS at hc;simp only[ζh,decide_eq_true_eq]at hc;exact⟨hc.1,hc.2.1.2,hc.2.2,h⟩
 .cases h
theorem MN {i:Nat} {F:Frame} {H H':bf} {op:Op} {u:V} (B:isApp op=true) (h:cR E F H op=some (u,H')) (hc:dB ops i=true\/vA ops i=true/\oN F op=true/\base<=H.length):c6 E call ops (some (base,i)) F H op=some (u,H'):=by
 unfold c6;rw[yN B];rcases hc with hc|⟨h1,w,z⟩
 .simp only[hc,Bool.true_or,if_true,h]
 .have:xS ops i base F H op=true:=by unfold xS;simp[h1,B,w,z]
  simp only[this,Bool.or_true,if_true,h]
theorem Ck {i:Nat} {F:Frame} {H H':bf} {op:Op} {v:V} (B:cV op=.read) (D:dB ops i=false) (h:c6 E call ops (some (base,i)) F H op=some (v,H')) :
 H'=H/\∀H2:bf,lS (H2.take base) (H.take base)->c6 E call ops (some (base,i)) F H2 op=some (v,H2):=by
 unfold c6 at h;rw[B]at h;simp only at h;split at h
 .rename_i u;split at h
  .rename_i x w;simp only[ζa,ζc]at h;obtain⟨rfl,rfl⟩:=h;refine⟨rfl,λH2 z=>?_⟩
   unfold c6;rw[B];simp only[yh z,w,u,if_true]
  .rw[D]at h;simp at h
 .simp at h
theorem swap {k i:Nat} {ok D:Oper} (hk:ops[k]? = some ok) (hi:ops[i]? = some D) (aa:k<i) (U:before ops i k=false) (J:wX ops ok D=true) {F F1 F2:Frame} {H H1 H2:bf}
 (h1:fM E call n ops (some (base,k)) ok F H=some (F1,H1)) (h2:fM E call n ops (some (base,i)) D F1 H1=some (F2,H2)) :
 ∃G B,fM E call n ops (some (base,i)) D F H=some (G,B)/\fM E call n ops (some (base,k)) ok G B=some (F2,H2):=by
 obtain⟨a1,a2⟩:=apart_spec J;have ab:∃v,jg n F ok.dst v=some F1/\((fe ops F ok=true/\c6 E call ops (some (base,k)) F H ok.op=some (v,H1))\/(fe ops F ok=false/\v=.undef/\H1=H)):=by
  unfold fM at h1;split at h1
  .rename_i hw;split at h1
   .rename_i v H' hd;simp only[ζf,ζc]at h1;obtain⟨Fx,hp,rfl,rfl⟩:=h1;exact⟨v,hp,.inl ⟨hw,hd⟩⟩
   .simp at h1
  .rename_i hw;simp only[ζf,ζc]at h1;obtain⟨Fx,hp,rfl,rfl⟩:=h1;exact⟨_,hp,.inr ⟨by simpa using hw,rfl,rfl⟩⟩
 have ad:∃v,jg n F1 D.dst v=some F2/\((fe ops F1 D=true/\c6 E call ops (some (base,i)) F1 H1 D.op=some (v,H2))\/(fe ops F1 D=false/\v=.undef/\H2=H1)):=by
  unfold fM at h2;split at h2
  .rename_i hw;split at h2
   .rename_i v H' hd;simp only[ζf,ζc]at h2;obtain⟨Fx,hp,rfl,rfl⟩:=h2;exact⟨v,hp,.inl ⟨hw,hd⟩⟩
   .simp at h2
  .rename_i hw;simp only[ζf,ζc]at h2;obtain⟨Fx,hp,rfl,rfl⟩:=h2;exact⟨_,hp,.inr ⟨by simpa using hw,rfl,rfl⟩⟩
 obtain⟨v,O,iA⟩:=ab;obtain⟨u,au,ae⟩:=ad;have av:fe ops F1 D=fe ops F D:=AB O λd hd=>(a1 d hd).1
 have am:mH F1 F D.op:=Dm O λd hd=>(a1 d hd).1
 have aw:∀(b j:Nat),(some (base,i):Option (Nat×Nat))=some (b,j)->qy ops j F1=qy ops j F/\mF ops j F1 D.op=mF ops j F D.op:=λb j e=>by cases e;exact⟨DL hk hi O,Ec hk O am⟩
 rw[av,B8 am aw]at ae;obtain⟨G,L,an⟩:=LM O au λx hx=>(a1 x hx).2
 have ax:fe ops G ok=fe ops F ok:=AB L λd hd=>a2 d hd
 have ao:mH G F ok.op:=Dm L λd hd=>a2 d hd
 have ay:∀(b j:Nat),(some (base,k):Option (Nat×Nat))=some (b,j)->qy ops j G=qy ops j F/\mF ops j G ok.op=mF ops j F ok.op:=λb j e=>by cases e;exact⟨DL hi hk L,Ec hi L ao⟩
 have fin:∀B,((fe ops F D=true/\c6 E call ops (some (base,i)) F H D.op=some (u,B))\/(fe ops F D=false/\u=.undef/\B=H)) ->
  ((fe ops F ok=true/\c6 E call ops (some (base,k)) F B ok.op=some (v,H2))\/(fe ops F ok=false/\v=.undef/\H2=B)) ->
  ∃G B,fM E call n ops (some (base,i)) D F H=some (G,B)/\fM E call n ops (some (base,k)) ok G B=some (F2,H2):=by
  intro B e1 e2;refine⟨G,B,?_,?_⟩
  .unfold fM;rcases e1 with⟨x1,x2⟩|⟨x1,x2,x3⟩
   .rw[if_pos x1,x2];simp[L]
   .rw[if_neg (by simp[x1])];subst x2;subst x3;simp[L]
  .unfold fM;rw[ax];rcases e2 with⟨x1,x2⟩|⟨x1,x2,x3⟩
   .rw[if_pos x1,B8 ao ay,x2];simp[an]
   .rw[if_neg (by simp[x1])];subst x2;subst x3;simp[an]
 rcases iA with⟨z,d1⟩|⟨z,rfl,rfl⟩
 .rcases ae with⟨w,d2⟩|⟨w,rfl,rfl⟩
  .by_cases pk:cV ok.op=.pure\/cV ok.op=.alloc/\qf ops (some (base,k))=true
   .obtain⟨rfl,q⟩:=B6 pk d1;exact fin H2 (.inl ⟨w,d2⟩) (.inl ⟨z,q H2⟩)
   .by_cases pi:cV D.op=.pure\/cV D.op=.alloc/\qf ops (some (base,i))=true
    .obtain⟨rfl,q⟩:=B6 pi d2;exact fin H (.inl ⟨w,q H⟩) (.inl ⟨z,d1⟩)
    .by_cases J:isApp ok.op=true/\cV D.op=.alloc
     .
      obtain⟨J,af⟩:=J;have aA:=yN J;have ah:(dB ops k=true\/vA ops k=true/\oN F ok.op=true/\base<=H.length)/\cR E F H ok.op=some (v,H1):=by
       cases hl:dB ops k with
       | true=>
        refine⟨.inl rfl,?_⟩;unfold c6 at d1;rw[aA]at d1;simpa only[hl,Bool.true_or,if_true]using d1
       | false=>
        obtain⟨a,b,c,d⟩:=C2 J hl (by rw[hk];rfl) d1
        exact⟨.inr ⟨a,b,c⟩,d⟩
      obtain⟨ah,e1⟩:=ah;have ap:qf ops (some (base,i))=false:=by
       cases hc:qf ops (some (base,i))with
       | false=>rfl
       | true=>exact absurd (.inr ⟨af,hc⟩) pi
      have e2:∃ob m,ey E F D.op=some (ob,m)/\H1[base+i]? = some .free/\u=m.val (base+i)/\H2=H1.set (base+i) ob:=by
       unfold c6 at d2;rw[af]at d2;simp only[ap,Bool.false_eq_true,if_false]at d2;split at d2
       .rename_i ai;cases ai
       .rename_i ob m b' i' aj ai;cases ai;split at d2
        .rename_i A;simp only[ζa,ζc]at d2;exact⟨ob,m,aj,A,d2.1.symm,d2.2.symm⟩
        .cases d2
       .cases d2
      obtain⟨ob,m,aj,A,rfl,rfl⟩:=e2;obtain⟨f0,f1⟩:=QN (ob:=ob) J e1 A;refine fin (H.set (base+i) ob) (.inl ⟨w,?_⟩) (.inl ⟨z,?_⟩)
      .unfold c6;rw[af];simp only[ap,Bool.false_eq_true,if_false,aj,f0]
      .exact MN J f1 (ah.imp id λ⟨a,b,c⟩=>⟨a,b,by rw[List.length_set];exact c⟩)
     have lk:dB ops k=false:=by
      cases hl:dB ops k with
      | false=>rfl
      | true=>
       rcases vQ hl hk hi (by omega)with h|h|h
       .exact absurd (.inl h) pi
       .rw[if_neg (by omega)]at h;rw[U]at h;cases h
       .exact absurd ⟨h.1,h.2.1⟩ J
     have li:dB ops i=false:=by
      cases hl:dB ops i with
      | false=>rfl
      | true=>
       rcases vQ hl hi hk (by omega)with h|h|h
       .exact absurd (.inl h) pk
       .rw[if_pos aa]at h;rw[U]at h;cases h
       .exact absurd h.2.2 (by omega)
     by_cases ak:isApp D.op=true
     .obtain⟨g1,g2,g3,g4⟩:=C2 ak li (by rw[hi];rfl) d2
      rcases BA g1 hk (by omega) (by unfold uY;rw[if_pos aa];exact U)with h|h|⟨h,h2⟩
      .exact absurd (.inl h) pk
      .obtain⟨rfl,q⟩:=Ck h lk d1;exact fin H2 (.inl ⟨w,d2⟩) (.inl ⟨z,q H2 (lS.of_eq (EX ak g2 g3 g4))⟩)
      .rcases h2 with h2|h2
       .exact absurd (.inr ⟨h,h2⟩) pk
       .omega
     by_cases W:isApp ok.op=true
     .obtain⟨g1,g2,g3,g4⟩:=C2 W lk (by rw[hk];rfl) d1
      rcases BA g1 hi (by omega) (by unfold uY;rw[if_neg (by omega)];exact U)with h|h|⟨h,h2⟩
      .exact absurd (.inl h) pi
      .obtain⟨rfl,q⟩:=Ck h li d2;exact fin H (.inl ⟨w,q H (lS.of_eq (EX W g2 g3 g4).symm)⟩) (.inl ⟨z,d1⟩)
      .exact absurd ⟨W,h⟩ J
     by_cases C:cV D.op=.loud
     .obtain⟨rfl,id,q1,⟨r,hr⟩,q3,q4,q5⟩:=Gp (H2:=H2) hk hi (by omega) (by rw[if_pos aa];exact U) lk (λh=>pk (.inl h)) C li (by simpa using ak) d2 d1
      refine fin H2 (.inl ⟨w,d2⟩) (.inl ⟨z,?_⟩);unfold c6;rw[q3];subst hr;simp only[q1,q4,q5,if_true]
     by_cases Z:cV ok.op=.loud
     .obtain⟨rfl,id,q1,⟨r,hr⟩,q3,q4,q5⟩:=Gp (H2:=H2) hi hk (by omega) (by rw[if_neg (by omega)];exact U) li (λh=>pi (.inl h)) Z lk (by simpa using W) d1 d2
      refine fin H (.inl ⟨w,?_⟩) (.inl ⟨z,d1⟩);unfold c6;rw[q3];subst hr;rw[q1]at q4;simp only[q4,q5,if_true]
     have tk:∀(X:bf) (k:Nat) (o:Ob),lS ((X.set (base+k) o).take base) (X.take base):=λX k o=>lS.of_eq (take_set_of_le (by omega))
     rcases sY d1 lk Z with⟨rfl,qk⟩|⟨ob,fk,rfl,qk⟩|⟨T,tr,rfl,qk⟩
     .rcases sY d2 li C with⟨rfl,I⟩|⟨Y,fi,rfl,I⟩|⟨T2,Q,rfl,I⟩
      .exact fin H2 (.inl ⟨w,d2⟩) (.inl ⟨z,d1⟩)
      .exact fin _ (.inl ⟨w,d2⟩) (.inl ⟨z,qk _ (tk _ _ _)⟩)
      .exact fin _ (.inl ⟨w,d2⟩) (.inl ⟨z,qk _ ((pJ Q).take base)⟩)
     .rcases sY d2 li C with⟨rfl,I⟩|⟨Y,fi,rfl,I⟩|⟨T2,Q,rfl,I⟩
      .refine fin H (.inl ⟨w,I H (tk _ _ _).symm⟩) (.inl ⟨z,d1⟩)
      .have al:H[base+i]? = some .free:=by rw[List.getElem?_set_ne (by omega)]at fi;exact fi
       refine fin (H.set (base+i) Y) (.inl ⟨w,I H al⟩) (.inl ⟨z,?_⟩);rw[qk _ (by rw[List.getElem?_set_ne (by omega)];exact fk)]
       rw[List.set_comm _ _ (by omega)]
      .have S:hD (H.take base) T2=true:=by rw[<-tT (tk H k ob)];exact Q
       have aq:base+k∉T2:=λhm=>absurd (yP S hm) (by omega)
       refine fin (ct H T2) (.inl ⟨w,I H (tk _ _ _).symm⟩) (.inl ⟨z,?_⟩);rw[qk _ (by rw[gU,fk];simp[aq]),Cs aq]
     .rcases sY d2 li C with⟨rfl,I⟩|⟨Y,fi,rfl,I⟩|⟨T2,Q,rfl,I⟩
      .refine fin H (.inl ⟨w,I H ((pJ tr).take base).symm⟩) (.inl ⟨z,d1⟩)
      .have ar:base+i∉T:=λhm=>absurd (yP tr hm) (by omega)
       have al:H[base+i]? = some .free:=by
        rw[gU]at fi;obtain⟨o,ho,hf⟩:=ζf.1 fi;rw[if_neg ar]at hf;rw[ho,hf]
       refine fin (H.set (base+i) Y) (.inl ⟨w,I H al⟩) (.inl ⟨z,?_⟩);rw[qk _ (tk _ _ _),Cs ar]
      .have S:hD (H.take base) T2=true:=by rw[<-tT ((pJ tr).take base)];exact Q
       refine fin (ct H T2) (.inl ⟨w,I H ((pJ tr).take base).symm⟩) (.inl ⟨z,?_⟩);rw[qk _ ((pJ S).take base),Hz]
  .exact fin H (.inr ⟨w,rfl,rfl⟩) (.inl ⟨z,d1⟩)
 .rcases ae with⟨w,d2⟩|⟨w,rfl,rfl⟩
  .exact fin H2 (.inl ⟨w,d2⟩) (.inr ⟨z,rfl,rfl⟩)
  .exact fin _ (.inr ⟨w,rfl,rfl⟩) (.inr ⟨z,rfl,rfl⟩)
theorem HR (h:vk ops=true) {k i:Nat} {ok B:Oper} (hk:ops[k]? = some ok) (hi:ops[i]? = some B) (D:k<i):C3 B k=true\/wX ops ok B=true:=by
 unfold vk at h;simp  at h
 grind
theorem OI (hd:vk ops=true) {i:Nat} {B:Oper} (hi:ops[i]? = some B):∀(l r:List Nat),(∀k∈l,k<i/\C3 B k=false/\before ops i k=false)->∀{F F':Frame} {H H':bf},
 jf E call n ops base (l++i::r) F H=some (F',H')->jf E call n ops base (i::(l++r)) F H=some (F',H'):=by
 intro l
 induction l with
 | nil=>grind
 | cons k l C=>
  intro r A F F' H H' h;obtain⟨u,D,w⟩:=A k (by simp)
  simp[jf]at h;split at h
  .rename_i ok hk;split at h
   .rename_i F1 H1 h1;have:=C r (λx G=>A x (List.mem_cons_of_mem _ G)) h
    simp[jf,hi]at this;split at this
    .rename_i O H2 I;have z:wX ops ok B=true:=by
      rcases HR hd hk hi u with h|h
      .grind
      omega
     obtain⟨J,L,g1,g2⟩:=swap hk hi u w z h1 I;simp[jf,hi,g1,hk,g2];simp_all
    grind
   grind
  grind
inductive Reach (ops:List Oper):Nat->Nat->Prop
 | one (i k:Nat) (o:Oper) (e:Edge) (hi:ops[i]? = some o) (he:e∈o.after) (hb:ko e=true) (hk:e.on=k):Reach ops i k
 | more (i j k:Nat) (o:Oper) (e:Edge) (hi:ops[i]? = some o) (he:e∈o.after) (hb:ko e=true) (hk:e.on=j) (h:Reach ops j k):Reach ops i k
theorem BW:∀(B l:List Nat) (k:Nat),k∈B.foldl (λl k=>if l.contains k then l else k::l) l->k∈B\/k∈l
 | [],_,_,h=>.inr h
 | x::B,l,k,h=>by
  rcases BW B _ k h with h|h
  .grind
  grind
theorem JL {acc:List (List Nat)} {o:Oper} {k:Nat} (h:k∈G4 acc o):∃e∈o.after,ko e=true/\(k=e.on\/∃S,acc[e.on]? = some S/\k∈S):=by
 have key:∀(es:List Edge) (l:List Nat),k∈es.foldl (λl e=>(e.on::(acc[e.on]?).getD []).foldl (λl k=>if l.contains k then l else k::l) l) l->k∈l\/∃e∈es,k=e.on\/∃S,acc[e.on]? = some S/\k∈S:=by
  intro es
  induction es with
  | nil=>grind
  | cons e es w=>
   intro l h;rcases w _ h with h|⟨z,h1,u⟩
   .rcases BW _ _ _ h with h|h
    .refine .inr ⟨e,by simp,?_⟩
     rcases List.mem_cons.1 h with h|h
     .grind
     .cases hS:acc[e.on]? with
      | none=>rw[hS]at h;simp at h
      | some S=>grind
    grind
   .exact .inr ⟨z,List.mem_cons_of_mem _ h1,u⟩
 rcases key _ _ h with h|⟨e,h1,u⟩
 .simp at h
 grind
theorem wB (ops:List Oper):∀(l:List Oper) (acc:List (List Nat)) (pre:List Oper),ops=pre++l->acc.length=pre.length->(∀(i:Nat) S,acc[i]? = some S->∀k∈S,Reach ops i k) ->
 ∀(i:Nat) S,(l.foldl (λacc o=>acc++[G4 acc o]) acc)[i]? = some S->∀k∈S,Reach ops i k
 | [],_,_,_,_,h=>h
 | o::l,acc,pre,D,G,h=>by
  refine wB ops l _ (pre++[o]) (by simp_all) (by simp_all) ?_
  intro i S hS k hk
  by_cases hi:i<acc.length
  .grind
  .rw[List.getElem?_append_right (by omega)]at hS
   have B:i=acc.length:=by
    grind
   subst B;simp at hS;subst hS;have u:ops[acc.length]? = some o:=by grind
   obtain⟨e,w,z,hk⟩:=JL hk;rcases hk with hk|⟨S,hS,hk⟩
   .exact .one _ _ o e u w z hk.symm
   .exact .more _ e.on _ o e u w z rfl (h _ S hS k hk)
theorem Fj {i k:Nat} (h:before ops i k=true):Reach ops i k:=by
 unfold before at h
 cases hS:(GQ ops)[i]? with
 | none=>grind
 | some S=>
  exact wB ops ops [] [] rfl rfl (by simp) i S hS k (by grind)
end
end Go.VE
namespace Go.VE
variable [bN]
section
variable {P:Program} {E:Env} {I I':b9} {μ μ':Mu} {H H':bf} {n B:Nat} {F F':Frame} {a:Act} {w w':World}
theorem D9 (e:Edge):Region.binds .any e=ko e:=by
 unfold Region.binds ko
 grind
def todo (ops:Array Oper) (listed:Array Bool):List Nat:=(List.range ops.size).filter λi => !listed.getD i true
theorem wj (ops:Array Oper) (listed:Array Bool):(todo ops listed).Pairwise (·<·):=List.pairwise_lt_range.filter _
theorem O6 {ops:Array Oper} {listed:Array Bool} {i:Nat} (G:listed.size=ops.size) (hi:i<ops.size) {B D:List Nat} (h:todo ops listed=B++i::D) :
 todo ops (listed.setIfInBounds i true)=B++D:=by
 have C:∀j∈List.range ops.size,(!(listed.setIfInBounds i true).getD j true)=((!listed.getD j true)&&(j != i)):=by
  intro j _
  by_cases e:j=i
  .simp_all
  .have:(listed.setIfInBounds i true).getD j true=listed.getD j true:=by simp[Array.getElem?_setIfInBounds_ne (Ne.symm e)]
   grind
 have:todo ops (listed.setIfInBounds i true)=(todo ops listed).filter (· != i):=by
  unfold todo;rw[List.filter_filter]
  grind
 rw[this,h];have u:=wj ops listed;rw[h]at u;rw[List.pairwise_append]at u;obtain⟨_,z,A⟩:=u;rw[List.pairwise_cons]at z;rw[List.filter_append,List.filter_cons];simp;rw[List.filter_eq_self.2 (λx w=>by have:=A x w i (by simp);simp;omega),List.filter_eq_self.2 (λx w=>by grind)]
def Down (ops:Array Oper) (listed:Array Bool):Prop:=∀j o,listed.getD j false=true->ops[j]? = some o->∀e∈o.after,ko e=true->listed.getD e.on false=true
theorem JG {ops:Array Oper} {listed:Array Bool} (hd:Down ops listed) {i k:Nat} (h:Reach ops.toList i k) (hi:∀o,ops[i]? = some o->∀e∈o.after,ko e=true->listed.getD e.on false=true):listed.getD k false=true:=by
 induction h with
 | one i k o e A w z hk=>grind
 | more i j k o e A w z hk _ B=>
  subst hk;exact B λC u=>hd _ _ (hi o (by grind) e w z) u
theorem D1 (hE:dX P E) {call:dh} (hc:jW P call) {ops:Array Oper} (hd:vk ops.toList=true) (hb:zF ops.toList=true) (ro:Option Nat) {Q:Exit->Act->World->Prop} (base:Nat) :
 ∀(D:Nat) (listed:Array Bool) (I:b9) (μ:Mu) (F:Frame) (H:bf) (a:Act) (w:World),listed.size=ops.size->Down ops listed->(todo ops listed).length=D ->
 jf E call n ops.toList base (todo ops listed) F H=some (F',H')->dP I μ n F a.tmps->cN I μ H w ->
 (∀a' I' μ' w',dP I' μ' n F' a'.tmps->a'.defers=a.defers->cN I' μ' H' w'->Step I μ H w I' μ' H' w'->Q .normal a' w') ->
 wpAnyIn (fr ro) 0 P .any ops Q D listed a w:=by
 intro D
 induction D with
 | zero=>
  intro listed I μ F H a w L J hl h r s hQ;have O:todo ops listed=[]:=List.eq_nil_of_length_eq_zero hl;rw[O]at h;obtain⟨rfl,rfl⟩:=h;refine⟨?_,hQ a I μ w r rfl s (.refl _ _ _ _)⟩;unfold Region.ready;rw[List.filter_eq_nil_iff];intro i hi;have:i∉todo ops listed:=by grind
  unfold todo at this
  grind
 | succ D ih=>
  intro listed I μ F H a w L J hl h r s hQ;have U:∀i,i∈Region.ready .any ops listed->i<ops.size/\i∈todo ops listed/\∃o,ops[i]? = some o/\∀e∈o.after,ko e=true->listed.getD e.on false=true:=by
   intro i hi;unfold Region.ready at hi;rw[List.mem_filter]at hi;obtain⟨h1,h2⟩:=hi;simp only[ζh]at h2;have C:i<ops.size:=by grind
   refine⟨C,by unfold todo;grind,ops[i],by simp_all,?_⟩
   have h5:(ops[i].after.all λe => !Region.binds .any e||listed.getD e.on false)=true:=by
    grind
   rw[Array.all_eq_true_iff_forall_mem]at h5;intro e T W;have:=h5 e T;rw[D9,W]at this
   grind
  refine⟨?_,?_⟩
  .
   intro O
   cases X:todo ops listed with
   | nil=>rw[X]at hl;simp at hl
   | cons Y rest=>
    have z:Y∈todo ops listed:=by rw[X];simp
    have hs:=wj ops listed;rw[X,List.pairwise_cons]at hs;unfold todo at z;rw[List.mem_filter]at z;have C:Y<ops.size:=by simpa using z.1
    have:Y∈Region.ready .any ops listed:=by
     unfold Region.ready;rw[List.mem_filter];refine⟨z.1,?_⟩;simp only[ζh];refine⟨z.2,?_⟩;have e0:ops[Y]? = some ops[Y]:=by simp[C]
     rw[e0];simp only[Option.map_some,Option.getD_some];rw[Array.all_eq_true_iff_forall_mem];intro e T;rw[D9]
     cases al:ko e with
     | false=>simp
     | true=>
      simp only[Bool.not_true];have am:e.on<Y:=by
       unfold zF at hb;simp only[List.all_eq_true]at hb;have:=hb Y (by simpa using C)
       have e1:ops.toList[Y]? = some ops[Y]:=by simp[C]
       rw[e1]at this;simp only[Array.all_eq_true_iff_forall_mem]at this;have:=this e T;rw[al]at this;simpa using this
      cases an:listed.getD e.on false with
      | true=>rfl
      | false=>
       exfalso;have ah:e.on∈todo ops listed:=by
        unfold todo;rw[List.mem_filter];refine⟨by simp;omega,?_⟩
        have ai:e.on<listed.size:=by omega
        have:listed.getD e.on true=listed.getD e.on false:=by simp[ai]
        rw[this,an];rfl
       rw[X]at ah;rcases List.mem_cons.1 ah with h|h
       .omega
       .have:=hs.1 _ h;omega
    rw[O]at this;simp at this
  .intro i hi;obtain⟨C,z,o,ho,B⟩:=U i hi;obtain⟨l1,l2,u⟩:=List.append_of_mem z;have G:=wj ops listed;rw[u,List.pairwise_append]at G;have Z:∀k∈l1,k<i/\C3 o k=false/\before ops.toList i k=false:=by
    intro k hk;have ao:listed.getD k false=false:=by
     have A:k∈todo ops listed:=by rw[u];simp[hk]
     unfold todo at A;rw[List.mem_filter]at A;have ad:k<listed.size:=by rw[L];simpa using A.1
     have:listed.getD k true=listed.getD k false:=by simp[ad]
     rw[this]at A;simpa using A.2
    refine⟨G.2.2 k hk i (by simp),?_,?_⟩
    rotate_left
    .cases ap:before ops.toList i k with
     | false=>rfl
     | true=>
      have:=JG J (Fj ap) (λo' aa=>by rw[ho]at aa;cases aa;exact B)
      rw[ao]at this;cases this
    cases T:C3 o k with
    | false=>rfl
    | true=>
     exfalso;unfold C3 at T;rw[Array.any_eq_true]at T;obtain⟨ix,aq,ab⟩:=T;have aj:o.after[ix]∈o.after:=Array.getElem_mem aq;generalize o.after[ix]=e at aj ab;simp only[ζh,beq_iff_eq]at ab;have h1:=B e aj ab.2;rw[ab.1]at h1;have A:k∈todo ops listed:=by rw[u];simp[hk]
     unfold todo at A;rw[List.mem_filter]at A;have ad:k<listed.size:=by rw[L];simpa using A.1
     have:listed.getD k true=listed.getD k false:=by simp[ad]
     rw[this,h1]at A;simp at A
   rw[u]at h;have h':=OI hd (by simpa using ho) l1 l2 Z h
   simp only[jf]at h';have aa:ops.toList[i]? = some o:=by simpa using ho
   rw[aa]at h';simp only at h';split at h'
   .rename_i F1 H1 ae;unfold wpOpIn;rw[ho];simp only;refine BP hE hc ae r s ro (λa' I' μ' w' hr ar hs au=>?_)
    have ht:=O6 L C u;refine ih (listed.setIfInBounds i true) I' μ' F1 H1 a' w' (by simpa using L) ?_ ?_ (by rw[ht];exact h') hr hs ?_
    .have S:∀j,listed.getD j false=true->(listed.setIfInBounds i true).getD j false=true:=by
      intro j hj
      by_cases e:i=j
      .subst e;simp[L,C]
      .simpa [Array.getD_eq_getD_getElem?,Array.getElem?_setIfInBounds_ne e]using hj
     intro j oj hj af e T W
     by_cases e':i=j
     .subst e';rw[ho]at af;cases af;exact S _ (B e T W)
     .refine S _ (J j oj ?_ af e T W);simpa [Array.getD_eq_getD_getElem?,Array.getElem?_setIfInBounds_ne e']using hj
    .rw[ht];rw[u]at hl;simp at hl ⊢;omega
    .intro a2 I2 μ2 w2 av aw ax ak;exact hQ a2 I2 μ2 w2 av (aw.trans ar) ax (Step.trans hs au ak)
   .simp at h'
theorem cN.Ey (s:cN I μ H w) (k:Nat):cN I μ (H++List.replicate k .free) w:=by
 have u:∀id ob,(H++List.replicate k Ob.free)[id]? = some ob->H[id]? = some ob\/(ob=.free/\H.length<=id):=by
  grind
 refine⟨λid h=>s.dom id (by grind),s.imm,?_,?_,s.gl⟩
 .intro id ob h;rcases u id ob h with h|⟨rfl,z⟩
  .exact s.obs id ob h
  .exact s.dom id z
 .intro id A ob B p G h1 z C D;rcases u id ob h1 with h1|⟨rfl,_⟩
  .rcases u A B z with z|⟨rfl,_⟩
   .exact s.inj id A ob B p G h1 z C D
   .simp[Ob.live]at D
  .simp[Ob.live]at C
theorem HI (k:Nat) (b:Nat):gH μ (H++List.replicate k .free) b↔gH μ H b:=by
 constructor
 .rintro⟨id,p,ob,h1,u,w,z⟩
  by_cases A:id<H.length
  .rw[List.getElem?_append_left A]at h1;exact⟨id,p,ob,h1,u,w,z⟩
  .rw[List.getElem?_append_right (by omega),List.getElem?_replicate]at h1
   split at h1
   .simp at h1;subst h1;simp[Ob.live]at u
   grind
 .rintro⟨id,p,ob,h1,u,w,z⟩;exact⟨id,p,ob,by grind,u,w,z⟩
theorem Step.Ey (k:Nat):Step I μ H w I μ (H++List.replicate k .free) w:=
 ⟨b9.le_refl _,Mu.le_refl _,by simp,Nat.le_refl _,λ_ _ _=>rfl,λb h=>h.elim .inl λh=>.inr (.inl ((HI k b).1 h)),rfl,.refl _,λ_ _ h=>h⟩
theorem GC (D:dX P E) (T:P.follows .mixedOrders=true) {call:dh} (hc:jW P call) {id:Nat} {ops:Array Oper} {B:Bool} (ro:Option Nat) {Q:Exit->Act->World->Prop}
 (h:iU E call n ops.toList B F H=some (F',H')) (r:dP I μ n F a.tmps) (s:cN I μ H w)
 (G:∀a' I' μ' w',dP I' μ' n F' a'.tmps->a'.defers=a.defers->cN I' μ' H' w'->Step I μ H w I' μ' H' w'->Q .normal a' w') :
 (Code.region id ops B).wpIn (fr ro) 0 P Q a w:=by
 unfold iU at h
 cases B with
 | false=>
  refine wpIn_region ?_;rw[List.range_eq_range',<-Array.length_toList];exact LG D hc ro ops.toList 0 I μ F H a w (by simp) h r s G
 | true=>
  simp only[if_true]at h;split at h
  .rename_i u;simp  at u;refine wpIn_region_draw λt=>?_
   simp[Region.schedule,T];have s0:cN I μ H { w with drawn:=w.drawn+1 }:=s.nT rfl;have st0:Step I μ H w I μ H { w with drawn:=w.drawn+1 }:=Step.nT rfl rfl ⟨rfl,rfl,Nat.le_succ _⟩;have z:todo ops (Array.replicate ops.size false)=List.range ops.toList.length:=by
    unfold todo;simp_all
   have A:Down ops (Array.replicate ops.size false):=by
    intro j o O;simp[Array.getElem?_replicate]at O
    grind
   refine wpAnyIn_sound ops.size t _ a _ ?_;split at h
   .refine D1 D hc u.1 u.2 ro H.length ops.size _ I μ F (H++List.replicate ops.toList.length .free) a _ (by simp) A (by grind) (by rw[z];omega) r (s0.Ey _) ?_
    intro a' I' μ' w' h1 C J L;exact G a' I' μ' w' h1 C J (Step.trans s0 st0 (Step.trans (s0.Ey _) (Step.Ey _) L))
   .refine D1 D hc u.1 u.2 ro H.length ops.size _ I μ F H a _ (by simp) A (by grind) (by rw[z];omega) r s0 ?_
    intro a' I' μ' w' h1 C J L;exact G a' I' μ' w' h1 C J (Step.trans s0 st0 L)
  grind
end
end Go.VE
