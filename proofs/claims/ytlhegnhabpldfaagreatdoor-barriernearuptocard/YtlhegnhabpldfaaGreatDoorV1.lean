/-
 The engine: operations of the loaded code on values without a heap; a run of it is a run of the program.
-/
import Derived.RangeFuncLeaves
import Derived.Sort.Defs
import Derived.Lib.BitFns
import Derived.Laws.Sem
import Derived.Laws.World
import Derived.Laws.Append
import Derived.Laws.BytesString
import Derived.OrdersIn
set_option linter.all false
namespace Go.VE
theorem Za{p:Prop}(h:p:=by omega):p:=h
theorem Zc{p:Prop}(h:p:=by simp):p:=h
theorem Zd{p:Prop}(h:p:=by grind):p:=h
theorem ζa{α:Type _}(a b:α):(some a=some b)=(a=b):=Option.some.injEq a b
theorem ζb{α β:Type _}(a:α)(f:α->Option β):(some a).bind f=f a:=rfl
theorem ζc{α β:Type _}(a:α)(b:β)(c:α)(d:β):((a,b)=(c,d))=(a=c/\b=d):=Prod.mk.injEq a b c d
theorem ζd{α:Type _}{l:List α}{i:Nat}(h:i<l.length):l[i]?=some l[i]:=List.getElem?_eq_getElem h
theorem ζe{α:Type _}{l:List α}{i:Nat}{a:α}:l[i]?=some a↔∃h:i<l.length,l[i]=a:=List.getElem?_eq_some_iff
theorem ζf{α β:Type _}{b:β}{x:Option α}{f:α->β}:x.map f=some b↔∃a,x=some a/\f a=b:=Option.map_eq_some_iff
theorem ζg{α β:Type _}{b:β}{x:Option α}{f:α->Option β}:x.bind f=some b↔∃a,x=some a/\f a=some b:=Option.bind_eq_some_iff
theorem ζh(a b:Bool):((a&&b)=true)=(a=true/\b=true):=Bool.and_eq_true a b
theorem ζi{α:Type _}{a b:List α}:(a++b).length=a.length+b.length:=List.length_append
inductive V where
 | bool (b:Bool)
 | int (k:IntKind) (n:Int)
 | str (s:ByteArray)
 | dD
 | bK
 | fsl (es:Nat) (xs:List (List V))
 | hsl (id es off len:Nat)
 | gY
 | fptr (cs:List V)
 | hptr (id el off:Nat)
 | clo (f:FuncId) (first cap:List V)
 | yld (id:Nat)
 | f_
 | ru
 | fmap (kvs:List (V×V))
 | hmap (id:Nat)
 | agg (cs:List V)
 | tup (vs:List V)
 deriving Inhabited
def V.undef:V:=.tup []
def V.one:V->Bool
 | .agg _|.tup _=>false
 | _=>true
def V.cells:V->List V
 | .agg cs=>cs
 | v=>[v]
mutual
def V.scalar:V->Bool
 | .bool _|.int ..|.str _|.gY|.f_|.ru|.dD|.bK=>true
 | .agg cs=>V.cO cs
 | .tup cs=>V.cO cs
 | _=>false
def V.cO:List V->Bool
 | []=>true
 | v::r=>V.scalar v&&V.cO r
end
mutual
def V.closed:V->Bool
 | .hsl ..|.hptr ..|.yld ..|.hmap ..=>false
 | .clo _ a b=>V.kM a&&V.kM b
 | .agg cs=>V.kM cs
 | .tup cs=>V.kM cs
 | _=>true
def V.kM:List V->Bool
 | []=>true
 | v::r=>V.closed v&&V.kM r
end
inductive TK where
 | bool|int (k:IntKind)|str|ptr (e:TypeId)|slice (e:TypeId)
 | struct (fs:List (Nat×TypeId))|array (n:Nat) (e:TypeId)|map (k e:TypeId)|other
 deriving Inhabited
structure TD where
 size:Nat
 bytes:Nat
 zero:List V
 kind:TK
 deriving Inhabited
def TD.agg (d:TD):Bool:=match d.kind with|.struct _|.array _ _=>true|_=>false
abbrev Frame:=List V
def get:Frame->Nat->V
 | [],_=>.undef
 | x::_,0=>x
 | _::r,i+1=>get r i
def set:Frame->Nat->V->Frame
 | [],0,v=>[v]
 | [],i+1,v=>.undef::set [] i v
 | _::r,0,v=>v::r
 | x::r,i+1,v=>x::set r i v
inductive AR where
 | ready|busy|done
inductive Out where
 | norm
 | exit (id:Nat)
 | ret
 deriving DecidableEq,Inhabited
structure uU where
 st:AR
 pend:Option Out
 frame:Frame
 nt:Nat
 params:List Nat
 assign:Code
 body:Code
inductive Ob where
 | free
 | dead
 | row (es:Nat) (xs:List (List V))
 | frz (es:Nat) (xs:List (List V))
 | map (kvs:List (V×V))
 | loop (r:uU)
def Ob.rows:Ob->Option (Nat×List (List V))
 | .row es xs|.frz es xs=>some (es,xs)
 | _=>none
abbrev bl:=List Ob
structure FI where
 ntmps:Nat
 results:List ResultVar
 body:Code
structure Env where
 tt:TypeId->Option TD
 ft:FuncId->Option FI
 keep:FuncId->Bool
 own:FuncId->Bool
 eqN:TypeId->Option Nat
 sort:FuncId->Bool
 known:FuncId->List V->Option V:=λ_ _=>none
def Env.c8 (E:Env) (t:TypeId):Option TK:=(E.tt t).map TD.kind
def ofValue:Nat->Value->Option V
 | 0,_=>none
 | n+1,v=>
  match v with
  | .bool b=>some (.bool b)
  | .int k n=>some (.int k n)
  | .string s=>some (.str s)
  | .pointer none=>some .gY
  | .slice none 0 0=>some .bK
  | .map none=>some .f_
  | .nilFunc=>some .ru
  | .agg cs=>(cs.toList.mapM (ofValue n)).map .agg
  | _=>none
class bV where
 gl:Nat->Option (List V)
 sc:∀g cs,gl g=some cs->∃(k:IntKind) (l:List Int),cs=l.map (V.int k)
variable [bV]
def ev (F:Frame):Operand->Option V
 | .tmp t=>some (get F t)
 | .const v=>ofValue 4 v
 | .func f=>some (.clo f [] [])
 | .global g=>(bV.gl g).map .fptr
def fL (F:Frame):List Operand->Option (List V)
 | []=>some []
 | x::r=>match ev F x,fL F r with
  | some v,some vs=>some (v::vs)
  | _,_=>none
def mk (agg:Bool) (cs:List V):Option V:=
 if agg then some (.agg cs)else match cs with|[v]=>some v|_=>none
def cut (cs:List V) (off n:Nat):Option (List V):=
 let r:=(cs.drop off).take n
 if r.length=n then some r else none
def iA:List V->Option (List Int)
 | []=>some []
 | .int .i64 a::r=>(iA r).map (a::·)
 | _=>none
def kJ (az B:List V):Option Bool:=
 match iA az,iA B with
 | some a,some b=>if a.length=b.length then some (a==b)else none
 | _,_=>none
def nJ (op:BinOp) (x y:Int):Option Bool:=
 match op with
 | .eql=>some (x==y)|.neq=>some (x != y)|.lss=>some (decide (x<y))|.leq=>some (decide (x<=y))
 | .gtr=>some (decide (x>y))|.geq=>some (decide (x>=y))|_=>none
def tZ (k:TK) (x y:V):Option Bool:=
 match k,x,y with
 | .slice _,.bK,.bK=>some true
 | .slice _,.fsl ..,.bK=>some false
 | .slice _,.hsl ..,.bK=>some false
 | .ptr _,.gY,.gY=>some true
 | .ptr _,.fptr _,.gY=>some false
 | .ptr _,.hptr ..,.gY=>some false
 | .map ..,.f_,.f_=>some true
 | .map ..,.fmap _,.f_=>some false
 | .map ..,.hmap _,.f_=>some false
 | _,_,_=>none
def He (E:Env) (op:BinOp) (t:TypeId) (x y:V):Option V:=
 match x,y with
 | .int k a,.int u b=>
  match op with
  | .shl=>if b<0 then none else some (.int k (k.wrap (a*2 ^ (min b.toNat k.bits))))
  | .shr=>if b<0 then none else some (.int k (a.fdiv (2 ^ (min b.toNat k.bits))))
  | _=>if k=u then
   match op with
   | .add=>some (.int k (k.wrap (a+b)))
   | .sub=>some (.int k (k.wrap (a-b)))
   | .mul=>some (.int k (k.wrap (a*b)))
   | .quo=>if b=0 then none else some (.int k (k.wrap (a.tdiv b)))
   | .rem=>if b=0 then none else some (.int k (a.tmod b))
   | .and=>some (.int k (k.wrap (BitVec.ofInt k.bits a &&& BitVec.ofInt k.bits b).toNat))
   | .or=>some (.int k (k.wrap (BitVec.ofInt k.bits a ||| BitVec.ofInt k.bits b).toNat))
   | .xor=>some (.int k (k.wrap (BitVec.ofInt k.bits a ^^^ BitVec.ofInt k.bits b).toNat))
   | .andNot=>some (.int k (k.wrap (BitVec.ofInt k.bits a &&& ~~~ BitVec.ofInt k.bits b).toNat))
   | op=>(nJ op a b).map .bool
   else none
 | .str a,.str b=>
  match op with
  | .add=>if((a.size+b.size:Nat):Int)>IntKind.i64.max then none else some (.str (a++b))
  | .eql=>some (.bool (a.toList==b.toList))
  | .neq=>some (.bool !(a.toList==b.toList))
  | .lss=>some (.bool (Op.bytesLess a.toList b.toList))
  | .leq=>some (.bool (Op.bytesLess a.toList b.toList||a.toList==b.toList))
  | .gtr=>some (.bool !(Op.bytesLess a.toList b.toList||a.toList==b.toList))
  | .geq=>some (.bool !(Op.bytesLess a.toList b.toList))
  | _=>none
 | .bool a,.bool b=>
  match E.c8 t,op with
  | some .bool,.eql=>some (.bool (a==b))
  | some .bool,.neq=>some (.bool !(a==b))
  | _,_=>none
 | .agg a,.agg b=>
  match E.eqN t,op with
  | some n,.eql=>if a.length=n then(kJ a b).map .bool else none
  | some n,.neq=>if a.length=n then(kJ a b).map (λt=>.bool !t)else none
  | _,_=>none
 | x,y=>
  match E.c8 t,op with
  | some k,.eql=>(tZ k x y).map .bool
  | some k,.neq=>(tZ k x y).map λt=>.bool !t
  | _,_=>none
def tv (place:Nat->Option (Nat×Nat)) (cells:List V):List (Nat×V)->Option (List V)
 | []=>some cells
 | (i,v)::rest=>
  match place i with
  | none=>none
  | some (off,size)=>
   if v.cells.length≠size||off+v.cells.length>cells.length then none
   else tv place (cells.take off++v.cells++cells.drop (off+v.cells.length)) rest
def lZ (F:Frame):List (Nat×Operand)->Option (List (Nat×V))
 | []=>some []
 | (i,x)::r=>match ev F x,lZ F r with
  | some v,some vs=>some ((i,v)::vs)
  | _,_=>none
def mN (E:Env):List (Nat×TypeId)->Option (List (Nat×Nat))
 | []=>some []
 | (off,t)::r=>match E.tt t,mN E r with
  | some d,some ps=>some ((off,d.size)::ps)
  | _,_=>none
def jH (F:Frame):Option Operand->Option (Option Int)
 | none=>some none
 | some x=>match ev F x with
  | some (.int _ n)=>some (some n)
  | _=>none
def dU (len:Nat) (B D:Option Int):Option (Nat×Nat):=
 let h:=D.getD len
 let l:=B.getD 0
 if 0<=h/\h<=len/\0<=l/\l<=h then some (l.toNat,h.toNat)else none
def BB (a b:Int):Int:=if b>a then b else a
def bO (E:Env) (F:Frame) (op:Op):Option V:=
 match op with
 | .move x|.assign x=>ev F x
 | .pick c a b=>match ev F c with
  | some (.bool t)=>if t then ev F a else ev F b
  | _=>none
 | .nilCheck x=>match ev F x with
  | some (.hptr id el off)=>some (.hptr id el off)
  | some (.fptr u)=>some (.fptr u)
  | some (.clo f a b)=>some (.clo f a b)
  | _=>none
 | .binOp op t x y _=>match ev F x,ev F y with
  | some a,some b=>He E op t a b
  | _,_=>none
 | .unOp op _ x=>match op,ev F x with
  | .not,some (.bool b)=>some (.bool !b)
  | .neg,some (.int k n)=>some (.int k (k.wrap (0-n)))
  | _,_=>none
 | .convert s d x=>match E.tt s,E.tt d,ev F x with
  | some _,some D,some (.int _ n)=>match D.kind with
   | .int k=>some (.int k (k.wrap n))
   | _=>none
  | _,_,_=>none
 | .fieldAddr s x f=>match E.c8 s,ev F x with
  | some (.struct fs),some p=>match fs[f]? with
   | some (off,t)=>match E.tt t with
    | some d=>if d.size=0 then none else match p with
     | .fptr u=>if off<=u.length then some (.fptr (u.drop off))else none
     | .hptr id el o=>some (.hptr id el (o+off))
     | _=>none
    | none=>none
   | none=>none
  | _,_=>none
 | .field s x f=>match E.c8 s,ev F x with
  | some (.struct fs),some (.agg u)=>match fs[f]? with
   | some (off,t)=>match E.tt t with
    | some d=>(cut u off d.size).bind (mk d.agg)
    | none=>none
   | none=>none
  | _,_=>none
 | .indexAddr t x i=>match E.c8 t,ev F x,ev F i with
  | some (.slice e),some s,some (.int _ n)=>match E.tt e with
   | some d=>if n<0 then none else match s with
    | .fsl es w=>if es=d.size then(w[n.toNat]?).map .fptr else none
    | .hsl id es off len=>if es=d.size/\n.toNat<len then some (.hptr id (off+n.toNat) 0)else none
    | _=>none
   | none=>none
  | some (.array len e),some p,some (.int _ n)=>match E.tt e with
   | some d=>if 0<=n/\n<len then match p with
    | .fptr u=>if n.toNat*d.size<=u.length then some (.fptr (u.drop (n.toNat*d.size)))else none
    | .hptr id el o=>some (.hptr id el (o+n.toNat*d.size))
    | _=>none
    else none
   | none=>none
  | _,_,_=>none
 | .index t x i=>match E.c8 t,ev F x,ev F i with
  | some .str,some (.str s),some (.int _ n)=>if 0<=n then(s[n.toNat]?).map (λb=>.int .u8 b.toNat)else none
  | some (.array len e),some (.agg u),some (.int _ n)=>match E.tt e with
   | some d=>if 0<=n/\n<len then(cut u (n.toNat*d.size) d.size).bind (mk d.agg)else none
   | none=>none
  | _,_,_=>none
 | .slice t x G I J=>match E.c8 t,ev F x,jH F G,jH F I,jH F J with
  | some .str,some (.str s),some l,some h,some none=>(dU s.size l h).map λ(l,h)=>.str (s.extract l h)
  | some (.slice e),some v,some l,some h,some none=>match E.tt e with
   | some d=>match v with
    | .fsl es w=>if es=d.size then(dU w.length l h).map λ(l,h)=>.fsl es ((w.take h).drop l)else none
    | .hsl id es off len=>if es=d.size then(dU len l h).map λ(l,h)=>.hsl id es (off+l) (h-l)else none
    | .dD=>(dU 0 l h).map λ_=>.dD
    | .bK=>(dU 0 l h).map λ_=>.bK
    | _=>none
   | none=>none
  | some (.slice e),some v,some none,some (some 0),some (some 0)=>match E.tt e,v with
   | some _,.fsl ..|some _,.hsl ..|some _,.dD|some _,.bK=>some .dD
   | _,_=>none
  | _,_,_,_,_=>none
 | .build t ps=>match E.tt t,lZ F ps.toList with
  | some d,some z=>match d.kind with
   | .struct fs=>match mN E fs with
    | some pl=>(tv (λi=>pl[i]?) d.zero z).map .agg
    | none=>none
   | .array _ e=>match E.tt e with
    | some C=>(tv (λi=>some (i*C.size,C.size)) d.zero z).map .agg
    | none=>none
   | _=>none
  | _,_=>none
 | .makeFunc (.func f) a b=>match fL F a.toList,fL F b.toList with
  | some a,some b=>some (.clo f a b)
  | _,_=>none
 | .extract x i=>match ev F x with
  | some (.tup z)=>z[i]?
  | _=>none
 | .call { callee:=.builtin b,args,argTypes }=>match b,fL F args.toList,argTypes[0]? with
  | .len,some [v],some t=>match E.c8 t,v with
   | some .str,.str s=>some (.int .i64 s.size)
   | some (.slice _),.fsl _ w=>some (.int .i64 w.length)
   | some (.slice _),.hsl _ _ _ len=>some (.int .i64 len)
   | some (.slice _),.dD=>some (.int .i64 0)
   | some (.slice _),.bK=>some (.int .i64 0)
   | _,_=>none
  | .cap,some [v],some t=>match E.c8 t,v with
   | some (.slice _),.bK=>some (.int .i64 0)
   | some (.slice _),.dD=>some (.int .i64 0)
   | _,_=>none
  | .max,some [.int k a,.int B b],_=>if k=B then some (.int k (if b>a then b else a))else none
  | .max,some [.int k a,.int k1 b,.int k2 c,.int k3 d],_=>if k=k1/\k=k2/\k=k3 then some (.int k (BB (BB (BB a b) c) d))else none
  | .min,some [.int k a,.int B b],_=>if k=B then some (.int k (if b<a then b else a))else none
  | _,_,_=>none
 | _=>none
def ey (H:bl) (p:V) (n:Nat):Option (List V):=
 match p with
 | .fptr u=>cut u 0 n
 | .hptr id el off=>match (H[id]?).bind Ob.rows with
  | some (_,w)=>match w[el]? with
   | some u=>cut u off n
   | none=>none
  | none=>none
 | _=>none
def vQ:V->V->Option Bool
 | .int k a,.int B b=>if k=B then some (a==b)else none
 | .str a,.str b=>some (a==b)
 | .agg a,.agg b=>kJ a b
 | _,_=>none
def gR (k:V):List (V×V)->Nat->Option (Option (Nat×V))
 | [],_=>some none
 | (B,v)::r,i=>match vQ k B with
  | some true=>some (some (i,v))
  | some false=>gR k r (i+1)
  | none=>none
def vH (E:Env) (t:TypeId) (k:V):Bool:=
 match E.c8 t,k with
 | some (.int k),.int w _=>k==w
 | some .str,.str _=>true
 | some _,.agg u=>match E.eqN t with|some n=>u.length==n&&(iA u).isSome|none=>false
 | _,_=>false
def mc (H:bl):V->Option (List (V×V))
 | .f_=>some []
 | .fmap B=>some B
 | .hmap id=>match H[id]? with
  | some (.map B)=>some B
  | _=>none
 | _=>none
def dX (E:Env) (F:Frame) (H:bl) (op:Op):Option V:=
 match op with
 | .load t a=>match E.tt t,ev F a with
  | some d,some p=>(ey H p d.size).bind (mk d.agg)
  | _,_=>none
 | .lookup t m k ok=>match E.c8 t,ev F m,ev F k with
  | some (.map w B),some m,some k=>match E.tt B,mc H m with
   | some d,some u=>if vH E w k then match gR k u 0,mk d.agg d.zero with
    | some (some (_,v)),_=>some (if ok then .tup [v,.bool true]else v)
    | some none,some z=>some (if ok then .tup [z,.bool false]else z)
    | _,_=>none
    else none
   | _,_=>none
  | _,_,_=>none
 | _=>none
inductive Mk where
 | ptr|sl (es len:Nat)|map
def Mk.val (id:Nat):Mk->V
 | .ptr=>.hptr id 0 0
 | .sl es len=>.hsl id es 0 len
 | .map=>.hmap id
def gA (es:Nat) (xs:List (List V)):List (Nat×V)->Option (List (List V))
 | []=>some xs
 | (i,v)::r=>if v.cells.length=es/\i<xs.length/\v.cells.all V.one=true then gA es (xs.set i v.cells) r else none
def eS (E:Env) (F:Frame) (op:Op):Option (Ob×Mk):=
 match op with
 | .alloc t=>(E.tt t).map λd=>(.row d.size [d.zero],.ptr)
 | .box _ x=>match ev F x with
  | some v=>if v.cells.all V.one then some (.row v.cells.length [v.cells],.ptr)else none
  | none=>none
 | .makeSlice t l c=>match E.c8 t,ev F l,ev F c with
  | some (.slice e),some (.int k n),some (.int u m)=>match E.tt e with
   | some d=>if k=.i64/\u=.i64/\0<=n/\n<=m/\m<=2147483648/\d.bytes<=4096 then some (.row d.size (List.replicate m.toNat d.zero),.sl d.size n.toNat)else none
   | none=>none
  | _,_,_=>none
 | .buildSlice t len ps=>match E.c8 t,lZ F ps.toList with
  | some (.slice e),some w=>match E.tt e with
   | some d=>if len*d.size<=16777216 then(gA d.size (List.replicate len d.zero) w).map λz=>(.row d.size z,.sl d.size len)else none
   | none=>none
  | _,_=>none
 | .makeMap _ none=>some (.map [],.map)
 | _=>none
def qD (E:Env) (F:Frame) (op:Op):Option V:=
 match eS E F op with
 | some (.row es u,.sl w n)=>if w=es/\n=u.length/\(u.all λx=>x.all V.scalar)=true then match op with
  | .buildSlice ..=>if u.isEmpty&&es != 0 then some .dD else none
  | _=>some (.fsl es u)
  else none
 | _=>none
def dG (H:bl) (es:Nat):V->Option (List (List V))
 | .dD=>some []
 | .bK=>some []
 | .fsl B xs=>if B=es then some xs else none
 | .hsl id B off len=>if B=es then match (H[id]?).bind Ob.rows with
  | some (_,xs)=>if off+len<=xs.length then some ((xs.drop off).take len)else none
  | none=>none
  else none
 | _=>none
def pK (k v:V) (B:List (V×V)):Option (List (V×V)):=
 match gR k B 0 with
 | some (some (j,_))=>some (B.set j (k,v))
 | some none=>some (B++[(k,v)])
 | none=>none
def gH (H:bl):V->Option bl
 | .dD=>some H
 | .bK=>some H
 | .hsl id _ _ _=>match H[id]? with
  | some (.row _ _)=>some (H.set id .dead)
  | _=>none
 | _=>none
def mkApp (H:bl) (size bytes:Nat) (zero:List V) (s x:V):Option (V×bl):=
 match s,x with
 | .bK,.int _ n=>if n=0 then some (.bK,H)else if 0<n/\n<=2147483648/\bytes<=4096/\0<bytes then some (.hsl H.length size 0 n.toNat,H++[.row size (List.replicate n.toNat zero)])else none
 | _,_=>none
def CW (H:bl) (size:Nat) (zero:List V):V->Option (V×bl)
 | .bK|.dD=>some (.undef,H)
 | .hsl id es off len=>if es=size then match len with
  | 0=>some (.undef,H)
  | len+1=>match H[id]? with
   | some (.row B xs)=>if off+(len+1)<=xs.length then some (.undef,H.set id (.row B (xs.take off++List.replicate (len+1) zero++xs.drop (off+(len+1)))))else none
   | _=>none
  else none
 | _=>none
def c9 (E:Env) (F:Frame) (H:bl) (op:Op):Option (V×bl):=
 match op with
 | .store t a x=>match E.tt t,ev F a,ev F x with
  | some d,some (.hptr id el off),some v=>match H[id]? with
   | some (.row es w)=>match w[el]? with
    | some z=>if v.cells.length=d.size/\off+d.size<=z.length/\v.cells.all V.one=true then
     some (.undef,H.set id (.row es (w.set el (z.take off++v.cells++z.drop (off+v.cells.length)))))else none
    | none=>none
   | _=>none
  | _,_,_=>none
 | .mapUpdate t m k x|.insert t m k x=>match E.c8 t,ev F m,ev F k,ev F x with
  | some (.map C _),some (.hmap id),some k,some v=>match H[id]? with
   | some (.map u)=>if vH E C k then(pK k v u).map λu=>(.undef,H.set id (.map u))else none
   | _=>none
  | _,_,_,_=>none
 | .call { callee:=.builtin .append,args,argTypes }=>match argTypes.toList,fL F args.toList with
  | [t,D],some [s,x]=>match E.c8 t,E.c8 D with
   | some (.slice e),some (.slice _)=>match E.tt e with
    | some d=>match dG H d.size s,dG H d.size x with
     | some _,some []=>some (s,H)
     | some w,some B=>
      if w.length+B.length<=2147483648/\d.bytes<=4096/\0<d.bytes then
       (gH H s).map λH1=>(.hsl H.length d.size 0 (w.length+B.length),H1++[.row d.size (w++B)])
      else none
     | _,_=>none
    | none=>none
   | some (.slice e),some (.int _)=>match E.tt e with
    | some d=>mkApp H d.size d.bytes d.zero s x
    | none=>none
   | _,_=>none
  | _,_=>none
 | .call { callee:=.builtin .clear,args,argTypes }=>match argTypes[0]?,fL F args.toList with
  | some t,some [v]=>match E.c8 t with
   | some (.slice e)=>match E.tt e with
    | some d=>CW H d.size d.zero v
    | none=>none
   | _=>none
  | _,_=>none
 | _=>none
def kU:List (List V)->Option (List Int)
 | []=>some []
 | [.int .u8 n]::r=>(kU r).map (n::·)
 | _=>none
def lq (l:List Int):ByteArray:=l.foldl (λr n=>r.push (UInt8.ofNat n.toNat)) ByteArray.empty
def evalConv (E:Env) (F:Frame) (H:bl) (op:Op):Option V:=
 match op with
 | .convert s d x=>match E.c8 s,E.c8 d,ev F x with
  | some (.slice e),some .str,some v=>match E.c8 e with
   | some (.int .u8)=>(dG H 1 v).bind λu=>(kU u).map λl=>.str (lq l)
   | _=>none
  | _,_,_=>none
 | _=>none
def rR (E:Env) (F:Frame) (H:bl) (place:Option (Nat×Nat)) (op:Op):Option V:=
 match bO E F op with
 | some v=>some v
 | none=>match place with
  | none=>evalConv E F H op
  | some _=>none
inductive Callee where
 | fn (f:FuncId)
 | yld (id:Nat)
def jJ (F:Frame) (op:Op):Option (Callee×List V):=
 match op with
 | .call { callee:=.value f,args,.. }=>match ev F f,fL F args.toList with
  | some (.clo g a b),some u=>some (.fn g,a++u++b)
  | some (.yld id),some u=>some (.yld id,u)
  | _,_=>none
 | _=>none
inductive RD where
 | pure|read|alloc|loud|call
 deriving DecidableEq
def dh:Op->RD
 | .load ..|.lookup ..=>.read
 | .alloc ..|.box ..|.makeSlice ..|.buildSlice ..|.makeMap ..=>.alloc
 | .store ..|.mapUpdate ..|.insert ..=>.loud
 | .call { callee:=.builtin .append,.. }=>.loud
 | .call { callee:=.builtin .clear,.. }=>.loud
 | .call { callee:=.value _,.. }=>.call
 | _=>.pure
def hG (f:V->Option V):List V->Option (List V)
 | []=>some []
 | x::r=>match f x,hG f r with
  | some y,some s=>some (y::s)
  | _,_=>none
def lp (f:V->Option V):List (List V)->Option (List (List V))
 | []=>some []
 | x::r=>match hG f x,lp f r with
  | some y,some s=>some (y::s)
  | _,_=>none
def lg (f:V->Option V):List (V×V)->Option (List (V×V))
 | []=>some []
 | (k,x)::r=>match f k,f x,lg f r with
  | some k,some y,some s=>some ((k,y)::s)
  | _,_,_=>none
def borrow:Nat->bl->V->Option V
 | 0,_,x=>if x.closed then some x else none
 | n+1,H,x=>
  if x.closed then some x else
  match x with
  | .hsl id es off len=>match (H[id]?).bind Ob.rows with
   | some (B,xs)=>if B=es/\off+len<=xs.length then(lp (borrow n H) ((xs.drop off).take len)).map (.fsl es)else none
   | none=>none
  | .hptr id el off=>match (H[id]?).bind Ob.rows with
   | some (_,xs)=>match xs[el]? with
    | some cs=>if off<=cs.length then(hG (borrow n H) (cs.drop off)).map .fptr else none
    | none=>none
   | none=>none
  | .hmap id=>match H[id]? with
   | some (.map D)=>(lg (borrow n H) D).map .fmap
   | _=>none
  | .clo f a b=>match hG (borrow n H) a,hG (borrow n H) b with
   | some a,some b=>some (.clo f a b)
   | _,_=>none
  | .agg cs=>(hG (borrow n H) cs).map .agg
  | .tup cs=>(hG (borrow n H) cs).map .tup
  | _=>none
def borrows (n:Nat) (H:bl) (l:List V):Option (List V):=hG (borrow n H) l
def cT (f:V->List Nat):List V->List Nat
 | []=>[]
 | x::r=>f x++cT f r
def cm:Nat->bl->V->List Nat
 | 0,_,_=>[]
 | n+1,H,x=>
  if x.closed then []else
  match x with
  | .hsl id _ off len=>id::(match (H[id]?).bind Ob.rows with|some (_,xs)=>cT (cm n H) ((xs.drop off).take len).flatten|none=>[])
  | .hptr id el off=>id::(match (H[id]?).bind Ob.rows with|some (_,xs)=>cT (cm n H) (((xs[el]?).getD []).drop off)|none=>[])
  | .hmap id=>id::(match H[id]? with|some (.map B)=>cT (cm n H) (B.map (·.1))++cT (cm n H) (B.map (·.2))|_=>[])
  | .clo _ a b=>cT (cm n H) a++cT (cm n H) b
  | .agg cs=>cT (cm n H) cs
  | .tup cs=>cT (cm n H) cs
  | _=>[]
def tU (H:bl) (id:Nat):bl:=
 match H[id]? with
 | some (.row es u)=>H.set id (.frz es u)
 | some (.map _)=>H.set id .dead
 | _=>H
def cI (H:bl) (l:List Nat):bl:=l.foldl tU H
structure dx where
 lv:Nat
 go:Callee->List V->bl->Option (V×bl)
instance:CoeFun dx λ_=>Callee->List V->bl->Option (V×bl):=⟨dx.go⟩
def iM (H:bl) (T:List Nat):Bool:=T.all λid=>((H[id]?).bind Ob.rows).isSome
def cg (call:dx) (f:FuncId) (args:List V) (H:bl):Option V:=
 match borrows call.lv H args with
 | some az=>match call (.fn f) az []with
  | some (r,H1)=>match borrow call.lv H1 r with
   | some y=>if y.closed then some y else none
   | none=>none
  | none=>none
 | none=>none
def qt (k:Nat) (H1:bl) (id es off len:Nat):Option (V×Ob):=
 match H1[id]? with
 | some (.row u w)=>if u=es/\(w.all λx=>x.all V.scalar)=true then some (.hsl k es off len,.row es w)else none
 | _=>none
def j9 (call:dx) (f:FuncId) (args:List V) (H:bl):Option (V×bl):=
 match borrows call.lv H args with
 | some az=>match call (.fn f) az []with
  | some (r,H1)=>
   if r.scalar then some (r,H)else
   match r with
   | .hsl id es off len=>(qt H.length H1 id es off len).map λ(v,ob)=>(v,H++[ob])
   | .tup (.hsl id es off len::rest)=>if V.cO rest then(qt H.length H1 id es off len).map λ(v,ob)=>(.tup (v::rest),H++[ob])else none
   | _=>none
  | none=>none
 | none=>none
def eT (E:Env) (call:dx) (f:FuncId) (args:List V) (H:bl):Option (V×bl):=
 if E.own f then j9 call f args H else call (.fn f) args H
def kT (e:Edge):Bool:=match e.ground with|.textOnly _|.gcOnly _=>false|_=>true
def Ds (o:Oper) (i:Nat):Bool:=o.after.any λe=>e.on==i&&kT e
def HC (acc:List (List Nat)) (o:Oper):List Nat:=
 (o.after.toList.filter kT).foldl (λl e=>(e.on::(acc[e.on]?).getD []).foldl (λl k=>if l.contains k then l else k::l) l) []
def HH (ops:List Oper):List (List Nat):=ops.foldl (λacc o=>acc++[HC acc o]) []
def before (ops:List Oper) (i k:Nat):Bool:=(((HH ops)[i]?).getD []).contains k
def isApp:Op->Bool
 | .call { callee:=.builtin .append,.. }=>true
 | _=>false
def dF (ops:List Oper) (i:Nat):Bool:=
 match ops[i]? with
 | some o=>(List.range ops.length).all λk=>match ops[k]? with
  | some p=>k==i||dh p.op==.pure||(if k<i then before ops i k else before ops k i)||(isApp o.op&&dh p.op==.alloc&&decide (i<k))
  | none=>true
 | none=>false
def dstsOf (ops:List Oper):List Nat:=ops.filterMap (·.dst)
def vc (ops:List Oper) (i k:Nat):Bool:=if k<i then before ops i k else before ops k i
def Fy (ops:List Oper) (i k:Nat):Option (List Nat):=
 match ops[k]? with
 | some p=>
  if k==i||dh p.op==.pure||vc ops i k then some []else
  match p.op with
  | .load _ (.tmp a)=>if(dstsOf ops).contains a then some []else some [a]
  | _=>none
 | none=>some []
def BH (ops:List Oper) (i:Nat):List Nat->Option (List Nat)
 | []=>some []
 | k::r=>match Fy ops i k,BH ops i r with
  | some a,some b=>some (a++b)
  | _,_=>none
def zP (ops:List Oper) (i:Nat):Option (Nat×List Nat):=
 match (ops[i]?).map Oper.op with
 | some (.store _ (.tmp a) _)=>if(dstsOf ops).contains a then none else(BH ops i (List.range ops.length)).map λl=>(a,l)
 | _=>none
def qi (id:Nat):V->Bool
 | .hptr B _ _=>B != id
 | .fptr _=>true
 | _=>false
def qN (ops:List Oper) (i:Nat) (F:Frame):Bool:=
 match zP ops i with
 | some (a,l)=>match get F a with
  | .hptr id _ _=>l.all λs=>qi id (get F s)
  | _=>false
 | none=>false
def oM (ops:List Oper) (k a':Nat):List Nat:=
 if(dstsOf ops).contains a' then(List.range ops.length).filterMap λi=>match (ops[i]?).map Oper.op with
  | some (.store _ (.tmp a) _)=>if vc ops i k||(dstsOf ops).contains a then none else some a
  | _=>none
 else []
def mZ (ops:List Oper) (k:Nat) (F:Frame) (op:Op):Bool:=
 match op with
 | .load _ (.tmp u)=>(oM ops k u).all λa=>match get F a with
  | .hptr id _ _=>qi id (get F u)
  | _=>true
 | _=>true
def Fp (d:Nat) (op:Op):Bool:=op.operands.any λx=>match x with|.tmp t=>t==d|_=>false
def O2 (d:Nat):Op->Bool
 | .call { callee:=.builtin .append,args,.. }=>match args.toList with
  | .tmp t::r=>t==d&&r.all λx=>match x with|.tmp t=>t != d|_=>true
  | _=>false
 | _=>false
def wV (ops:List Oper) (i:Nat):Bool:=
 match ops[i]? with
 | some o=>match o.op,o.dst with
  | .makeSlice ..,some d=>(ops.any λp=>Fp d p.op)&&ops.all λp => !Fp d p.op||dh p.op==.call
  | .buildSlice _ len ps,some d=>len==0&&ps.size==0&&((List.range ops.length).any λk=>match ops[k]? with|some p=>Fp d p.op && !dF ops k|none=>false)&&ops.all λp => !Fp d p.op||O2 d p.op
  | _,_=>false
 | none=>false
def qK (ops:List Oper):Option (Nat×Nat)->Bool
 | some (_,i)=>wV ops i
 | none=>false
def kV (E:Env) (ops:List Oper) (place:Option (Nat×Nat)) (f:FuncId):Bool:=E.keep f&&(match place with|none=>true|some (_,i)=>dF ops i || !E.own f)
def vE (ops:List Oper) (i:Nat):Bool:=
 match ops[i]? with
 | some o=>isApp o.op&&(List.range ops.length).all λk=>match ops[k]? with
  | some p=>k==i||dh p.op==.pure||vc ops i k||dh p.op==.read||(dh p.op==.alloc&&(wV ops k||decide (i<k)))
  | none=>true
 | none=>false
def pM (F:Frame):Op->Bool
 | .call { callee:=.builtin .append,args,.. }=>match args.toList with
  | x::_=>match ev F x with|some .dD|some .bK=>true|_=>false
  | _=>false
 | _=>false
def xI (ops:List Oper) (i b:Nat) (F:Frame) (H:bl) (op:Op):Bool:=vE ops i&&(isApp op&&pM F op&&decide (b<=H.length))
def dn (E:Env) (call:dx) (ops:List Oper) (place:Option (Nat×Nat)) (F:Frame) (H:bl) (op:Op):Option (V×bl):=
 match dh op with
 | .pure=>(rR E F H place op).map λv=>(v,H)
 | .read=>match place with
  | none=>(dX E F H op).map λv=>(v,H)
  | some (b,i)=>if mZ ops i F op then match dX E F (H.take b) op with
   | some v=>some (v,H)
   | none=>if dF ops i then(dX E F H op).map λv=>(v,H)else none
   else none
 | .alloc=>if qK ops place then(qD E F op).map λv=>(v,H)else match eS E F op,place with
  | some (ob,m),none=>some (m.val H.length,H++[ob])
  | some (ob,m),some (b,i)=>match H[b+i]? with
   | some .free=>some (m.val (b+i),H.set (b+i) ob)
   | _=>none
  | none,_=>none
 | .loud=>match place with
  | none=>c9 E F H op
  | some (b,i)=>if dF ops i||qN ops i F||xI ops i b F H op then c9 E F H op else none
 | .call=>match jJ F op with
  | some (.fn f,args)=>
   if kV E ops place f then
    match place with
    | none=>eT E call f args H
    | some (_,i)=>if dF ops i then eT E call f args H else none
   else match place with
    | none=>match cg call f args H with
     | some y=>some (y,if y.scalar then H else cI H (cT (cm call.lv H) args))
     | none=>none
    | some (b,i)=>match cg call f args (H.take b)with
     | some y=>if y.scalar then some (y,H)else if iM (H.take b) (cT (cm call.lv (H.take b)) args)then some (y,cI H (cT (cm call.lv (H.take b)) args))else none
     | none=>if dF ops i then match cg call f args H with
      | some y=>some (y,if y.scalar then H else cI H (cT (cm call.lv H) args))
      | none=>none
      else none
  | some (.yld id,args)=>match place with
   | none=>call (.yld id) args H
   | some (_,i)=>if dF ops i then call (.yld id) args H else none
  | none=>none
def jM (n:Nat) (F:Frame) (dst:Option Nat) (v:V):Option Frame:=
 match dst with
 | none=>some F
 | some d=>if d<n then some (set F d v)else none
def fN (ops:List Oper) (F:Frame) (o:Oper):Bool:=
 match o.guard with
 | none=>true
 | some (j,b)=>match (ops[j]?).bind (·.dst)with
  | some d=>match get F d with
   | .bool c=>c==b
   | _=>false
  | none=>false
def gp (E:Env) (call:dx) (n:Nat) (ops:List Oper) (place:Option (Nat×Nat)) (o:Oper) (F:Frame) (H:bl):Option (Frame×bl):=
 if fN ops F o then
  match dn E call ops place F H o.op with
  | some (v,H')=>(jM n F o.dst v).map λF'=>(F',H')
  | none=>none
 else(jM n F o.dst .undef).map λF'=>(F',H)
def lU (E:Env) (call:dx) (n:Nat) (ops:List Oper):List Oper->Frame->bl->Option (Frame×bl)
 | [],F,H=>some (F,H)
 | o::r,F,H=>match gp E call n ops none o F H with
  | some (F',H')=>lU E call n ops r F' H'
  | none=>none
def jD (E:Env) (call:dx) (n:Nat) (ops:List Oper) (base:Nat):List Nat->Frame->bl->Option (Frame×bl)
 | [],F,H=>some (F,H)
 | i::r,F,H=>match ops[i]? with
  | some o=>match gp E call n ops (some (base,i)) o F H with
   | some (F',H')=>jD E call n ops base r F' H'
   | none=>none
  | none=>none
def tmpsOf (o:Oper) (ops:List Oper):List Nat:=
 (o.op.operands.toList.filterMap λ|.tmp t=>some t|_=>none) ++
 (match o.guard with|some (g,_)=>((ops[g]?).bind (·.dst)).toList|none=>[])
def wY (ops:List Oper) (a b:Oper):Bool:=
 (match a.dst with|some d => !(tmpsOf b ops).contains d&&b.dst != some d|none=>true) &&
 (match b.dst with|some d => !(tmpsOf a ops).contains d|none=>true)
def vo (ops:List Oper):Bool:=
 (List.range ops.length).all λj=>(List.range j).all λi=>
  match ops[i]?,ops[j]? with
  | some a,some b=>Ds b i||wY ops a b
  | _,_=>false
def yQ (ops:List Oper):Bool:=
 (List.range ops.length).all λj=>match ops[j]? with
  | some o=>o.after.all λe => !kT e||decide (e.on<j)
  | none=>true
def qP (ops:List Oper):Bool:=ops.any λo=>dh o.op==.alloc
def jk (E:Env) (call:dx) (n:Nat) (ops:List Oper) (B:Bool) (F:Frame) (H:bl):Option (Frame×bl):=
 if B then
  if vo ops&&yQ ops then
   jD E call n ops H.length (List.range ops.length) F (if qP ops then H++List.replicate ops.length .free else H)
  else none
 else lU E call n ops ops F H
def kr (step:Frame->bl->Option (Out×Frame×bl)):Nat->Frame->bl->Option (Out×Frame×bl)
 | 0,_,_=>none
 | k+1,F,H=>match step F H with
  | some (.norm,F',H')=>kr step k F' H'
  | r=>r
def kL:Out->Option Code
 | .norm=>none
 | .ret=>some .ret
 | .exit id=>some (.exit id)
def exec (E:Env) (call:dx) (lf:Nat) (ro:Bool) (n:Nat):Code->Frame->bl->Option (Out×Frame×bl)
 | .skip,F,H=>some (.norm,F,H)
 | .label _,F,H=>some (.norm,F,H)
 | .region _ ops B,F,H=>(jk E call n ops.toList B F H).map λ(F',H')=>(.norm,F',H')
 | .seq a b,F,H=>match exec E call lf ro n a F H with
  | some (.norm,F',H')=>exec E call lf ro n b F' H'
  | r=>r
 | .cond c x y,F,H=>match ev F c with
  | some (.bool t)=>if t then exec E call lf ro n x F H else exec E call lf ro n y F H
  | _=>none
 | .block id c,F,H=>match exec E call lf ro n c F H with
  | some (.exit D,F',H')=>if D=id then some (.norm,F',H')else some (.exit D,F',H')
  | r=>r
 | .loop c,F,H=>kr (exec E call lf ro n c) lf F H
 | .rangeFunc g ps assign body,F,H=>match ro,ev F g with
  | false,some (.clo f a b)=>
   match call (.fn f) (a++.yld H.length::b) (H++[.loop ⟨.ready,none,F,n,ps.toList,assign,body⟩])with
   | some (_,H')=>match H'[H.length]? with
    | some (.loop r)=>match r.st with
     | .busy=>none
     | _=>some (r.pend.getD .norm,F,H'.set H.length .dead)
    | _=>none
   | none=>none
  | _,_=>none
 | .exit id,F,H=>some (.exit id,F,H)
 | .ret,F,H=>some (.ret,F,H)
 | _,_,_=>none
def iq (E:Env) (F:Frame) (H:bl):List ResultVar->Option (List V)
 | []=>some []
 | .tmp t::r=>(iq E F H r).map (get F t::·)
 | .cell a t::r=>match E.tt t,iq E F H r with
  | some d,some vs=>((ey H (get F a) d.size).bind (mk d.agg)).map (·::vs)
  | _,_=>none
def result:List V->V
 | [v]=>v
 | vs=>.tup vs
def xo:List Nat->List V->Frame->Frame
 | t::B,v::vs,F=>xo B vs (set F t v)
 | _,_,F=>F
def HI {α:Type} [Inhabited α] (lt:α->α->Bool):Nat->Nat->Array α->Array α
 | 0,_,d=>d
 | k+1,i,d=>HI lt k (i+1) (Sort.insInner lt 0 i d)
def qb (n:Nat) (lt:Fin (n+1)->Fin (n+1)->Bool):Array (Fin (n+1)):=
 if n<12 then HI lt n 1 (List.finRange (n+1)).toArray else Sort.pdq lt (List.finRange (n+1)).toArray 0 (n+1) (Lib.bitLen (n+1)) true true
def iR (call:dx) (g:FuncId) (D B:List V) (n:Nat) (i j:Fin (n+1)):Option Int:=
 match D[i.1]?,D[j.1]? with
 | some a,some b=>match cg call g (a::b::B) []with
  | some (.int .i64 c)=>some c
  | _=>none
 | _,_=>none
def oS {n:Nat} (t:Fin (n+1)->Fin (n+1)->Option Int) (i j:Fin (n+1)):Bool:=decide ((t i j).getD 0<0)
def Au {n:Nat} (t:Fin (n+1)->Fin (n+1)->Option Int):Bool:=
 let l:=List.finRange (n+1)
 l.all λi => !oS t i i&&l.all λj=>(t i j).isSome&&l.all λk=>(!(oS t i j&&oS t j k)||oS t i k)&&((oS t i j||oS t j k) || !oS t i k)
def qy (xs:List (List V)) (off n:Nat) (l:List (Fin (n+1))):List (List V):=xs.take off++l.map (λi=>(xs[off+i.1]?).getD [])++xs.drop (off+(n+1))
def p_ (keep:FuncId->Bool) (call:dx) (args:List V) (H:bl):Option (V×bl):=
 match args with
 | [s,c]=>match s with
  | .bK|.dD=>some (.undef,H)
  | .hsl id es off len=>match len,c with
   | 0,_=>some (.undef,H)
   | n+1,.clo g [] cb=>match H[id]? with
    | some (.row w z)=>if es=1/\w=1/\off+(n+1)<=z.length/\n<2147483648/\keep g=false then
     match borrows call.lv (H.set id .dead) ((z.drop off).take (n+1)).flatten,borrows call.lv (H.set id .dead) cb with
     | some B,some u=>if Au (iR call g B u n)then some (.undef,H.set id (.row 1 (qy z off n (qb n (oS (iR call g B u n))).toList)))else none
     | _,_=>none
     else none
    | _=>none
   | _,_=>none
  | _=>none
 | _=>none
def jx (E:Env) (c:dx) (n:Nat):Callee->List V->bl->Option (V×bl)
 | .fn f,args,H=>match E.ft f with
  | some fi=>if args.length<=fi.ntmps then
   match exec E c n false fi.ntmps fi.body args H with
   | some (.exit _,_,_)=>none
   | some (_,F',H')=>(iq E F' H' fi.results).map λvs=>(result vs,H')
   | none=>none
   else none
  | none=>if E.sort f then p_ E.keep c args H else(E.known f args).map λy=>(y,H)
 | .yld id,args,H=>match H[id]? with
  | some (.loop r)=>match r.st with
   | .ready=>if args.length=r.params.length/\r.params.all (·<r.nt)then
    match exec E c n true r.nt r.assign (xo r.params args r.frame) H with
    | some (.norm,D,H2)=>match H2[id]? with
     | some (.loop r2)=>match r2.st with
      | .ready=>match exec E c n true r.nt r.body D (H2.set id (.loop { r2 with st:=.busy }))with
       | some (o,_,B)=>match B[id]? with
        | some (.loop r4)=>some (.bool (o==.norm),B.set id (.loop { r4 with st:=(if o==.norm then .ready else .done),pend:=(if o==.norm then none else some o) }))
        | _=>none
       | none=>none
      | _=>none
     | _=>none
    | _=>none
    else none
   | _=>none
  | _=>none
def run (E:Env):Nat->dx
 | 0=>⟨0,λ_ _ _=>none⟩
 | n+1=>⟨n+1,jx E (run E n) n⟩
theorem Fh {E:Env} {n:Nat} {x:Callee} {a:List V} {H:bl}:run E (n+1) x a H=jx E (run E n) n x a H:=rfl
end Go.VE
namespace Go.VE
variable [bV]
@[simp] theorem get_nil (i:Nat):get [] i=.undef:=by cases i <;> rfl
@[simp] theorem rX (F:Frame) (i:Nat) (v:V):get (set F i v) i=v:=by
 induction F generalizing i with
 | nil=>induction i with
  | zero=>rfl
  | succ i u=>simpa [set,get]using u
 | cons x r u=>cases i with
  | zero=>rfl
  | succ i=>simpa [set,get]using u i
theorem gU (F:Frame) {i j:Nat} (v:V) (h:i≠j):get (set F i v) j=get F j:=by
 induction F generalizing i j with
 | nil=>
  induction i generalizing j with
  | zero=>cases j with
   | zero=>grind
   | succ j=>simp[set,get]
  | succ i u=>cases j with
   | zero=>simp[set,get]
   | succ j=>simpa [set,get]using u  Za
 | cons x r u=>cases i with
  | zero=>cases j with
   | zero=>grind
   | succ j=>simp[set,get]
  | succ i=>cases j with
   | zero=>simp[set,get]
   | succ j=>simpa [set,get]using u   Za
theorem Gp (F:Frame) {i j:Nat} (u v:V) (h:i≠j):set (set F i u) j v=set (set F j v) i u:=by
 induction F generalizing i j with
 | nil=>
  induction i generalizing j with
  | zero=>cases j with
   | zero=>grind
   | succ j=>simp[set]
  | succ i w=>cases j with
   | zero=>simp[set]
   | succ j=>simpa [set]using w  Za
 | cons x r w=>cases i with
  | zero=>cases j with
   | zero=>grind
   | succ j=>simp[set]
  | succ i=>cases j with
   | zero=>simp[set]
   | succ j=>simpa [set]using w   Za
inductive IC where
 | cells (c:Array Value)
 | map (es:Array MapEntry)
abbrev cw:=Nat->Option IC
def IC.at (x:IC) (w:World) (b:Nat):Prop:=
 match x with
 | .cells c=>∃el fr,w.heap[b]? = some (.cells c el fr)
 | .map es=>∃clock,w.heap[b]? = some (.map es clock)
def cw.le (I I':cw):Prop:=∀b x,I b=some x->I' b=some x
theorem cw.le_refl (I:cw):cw.le I I:=λ_ _ h=>h
theorem cw.le_trans {I J K:cw} (h:cw.le I J) (B:cw.le J K):cw.le I K:=λb x e=>B b x (h b x e)
inductive eH (I:cw):V->Value->Prop
 | bool (b:Bool):eH I (.bool b) (.bool b)
 | int (k:IntKind) (n:Int):eH I (.int k n) (.int k n)
 | str (s:ByteArray):eH I (.str s) (.string s)
 | dD (a:Option Addr):eH I .dD (.slice a 0 0)
 | bK:eH I .bK (.slice none 0 0)
 | fsl0 (es:Nat) (a:Addr) (cap:Nat):eH I (.fsl es []) (.slice (some a) 0 cap)
 | fsl (es:Nat) (xs:List (List V)) (b o cap:Nat) (c:Array Value) (hI:I b=some (.cells c)) (hc:xs.length<=cap)
  (hu:∀x∈xs,x.length=es) (ho:∀x∈xs,∀y∈x,V.one y=true) (hb:o+xs.length*es<=c.size)
  (hr:∀(i j:Nat) x y v,xs[i]? = some x->x[j]? = some y->c[o+i*es+j]? = some v->eH I y v) :
  eH I (.fsl es xs) (.slice (some ⟨b,o,none⟩) xs.length cap)
 | gY:eH I .gY (.pointer none)
 | fptr (cs:List V) (b o:Nat) (c:Array Value) (hI:I b=some (.cells c)) (hb:o+cs.length<=c.size)
  (hr:∀(j:Nat) y v,cs[j]? = some y->c[o+j]? = some v->eH I y v):eH I (.fptr cs) (.pointer (some ⟨b,o,none⟩))
 | clo (f:FuncId) (x y:List V) (u v:Array Value) (hx:x.length=u.size) (hy:y.length=v.size)
  (h1:∀(j:Nat) a b,x[j]? = some a->u[j]? = some b->eH I a b) (h2:∀(j:Nat) a b,y[j]? = some a->v[j]? = some b->eH I a b) :
  eH I (.clo f x y) (.func (.func f) u v)
 | f_:eH I .f_ (.map none)
 | ru:eH I .ru .nilFunc
 | fmap (kvs:List (V×V)) (b:Nat) (es:Array MapEntry) (hI:I b=some (.map es)) (hl:kvs.length=es.size)
  (hk:∀(j:Nat) p e,kvs[j]? = some p->es[j]? = some e->eH I p.1 e.key)
  (hv:∀(j:Nat) p e,kvs[j]? = some p->es[j]? = some e->eH I p.2 e.val):eH I (.fmap kvs) (.map (some b))
 | agg (cs:List V) (vs:Array Value) (hl:cs.length=vs.size) (h:∀(j:Nat) a b,cs[j]? = some a->vs[j]? = some b->eH I a b) :
  eH I (.agg cs) (.agg vs)
 | tup (cs:List V) (vs:Array Value) (hl:cs.length=vs.size) (h:∀(j:Nat) a b,cs[j]? = some a->vs[j]? = some b->eH I a b) :
  eH I (.tup cs) (.tuple vs)
structure Pl where
 b:Nat
 o:Nat
 es:Nat
 sz:Nat
abbrev Mu:=Nat->Option Pl
inductive bJ (I:cw) (μ:Mu):V->Value->Prop
 | c (x:V) (v:Value) (h:eH I x v):bJ I μ x v
 | hsl (id off len cap:Nat) (p:Pl) (hm:μ id=some p) (hc:len<=cap) (hb:p.o+(off+cap)*p.es<=p.sz) :
  bJ I μ (.hsl id p.es off len) (.slice (some ⟨p.b,p.o+off*p.es,none⟩) len cap)
 | hsl0 (id es off:Nat) (a:Addr):bJ I μ (.hsl id es off 0) (.slice (some a) 0 0)
 | hptr (id el off:Nat) (p:Pl) (hm:μ id=some p):bJ I μ (.hptr id el off) (.pointer (some ⟨p.b,p.o+el*p.es+off,none⟩))
 | yld (id:Nat) (p:Pl) (hm:μ id=some p):bJ I μ (.yld id) (.func (.yield p.b) #[] #[])
 | hmap (id:Nat) (p:Pl) (hm:μ id=some p):bJ I μ (.hmap id) (.map (some p.b))
 | clo (f:FuncId) (x y:List V) (u v:Array Value) (hx:x.length=u.size) (hy:y.length=v.size)
  (h1:∀(j:Nat) a b,x[j]? = some a->u[j]? = some b->bJ I μ a b) (h2:∀(j:Nat) a b,y[j]? = some a->v[j]? = some b->bJ I μ a b) :
  bJ I μ (.clo f x y) (.func (.func f) u v)
 | agg (cs:List V) (vs:Array Value) (hl:cs.length=vs.size) (h:∀(j:Nat) a b,cs[j]? = some a->vs[j]? = some b->bJ I μ a b) :
  bJ I μ (.agg cs) (.agg vs)
 | tup (cs:List V) (vs:Array Value) (hl:cs.length=vs.size) (h:∀(j:Nat) a b,cs[j]? = some a->vs[j]? = some b->bJ I μ a b) :
  bJ I μ (.tup cs) (.tuple vs)
def Mu.le (μ μ':Mu):Prop:=∀id p,μ id=some p->μ' id=some p
theorem Mu.le_refl (μ:Mu):Mu.le μ μ:=λ_ _ h=>h
theorem eH.mono {I I':cw} (h:cw.le I I') {x:V} {v:Value} (r:eH I x v):eH I' x v:=by
 induction r with
 | bool b=>exact .bool b
 | int k n=>exact .int k n
 | str s=>exact .str s
 | dD a=>exact .dD a
 | bK=>exact .bK
 | fsl0 es a cap=>exact .fsl0 es a cap
 | fsl es Q b o cap c C hc hu S J _ w=>exact .fsl es Q b o cap c (h _ _ C) hc hu S J w
 | gY=>exact .gY
 | fptr D b o c C J _ w=>exact .fptr D b o c (h _ _ C) J w
 | clo f x y u v T U _ _ z B=>exact .clo f x y u v T U z B
 | f_=>exact .f_
 | ru=>exact .ru
 | fmap L b es C G _ _ z B=>exact .fmap L b es (h _ _ C) G z B
 | agg D O G _ w=>exact .agg D O G w
 | tup D O G _ w=>exact .tup D O G w
theorem bJ.mono {I I':cw} {μ μ':Mu} (h:cw.le I I') (B:Mu.le μ μ') {x:V} {v:Value} (r:bJ I μ x v):bJ I' μ' x v:=by
 induction r with
 | c x v r=>exact .c _ _ (r.mono h)
 | hsl id off len cap p w hc O=>exact .hsl id off len cap p (B _ _ w) hc O
 | hsl0 id es off a=>exact .hsl0 id es off a
 | hptr id el off p w=>exact .hptr id el off p (B _ _ w)
 | yld id p w=>exact .yld id p (B _ _ w)
 | hmap id p w=>exact .hmap id p (B _ _ w)
 | clo f x y u v Q S _ _ z C=>exact .clo f x y u v Q S z C
 | agg D G J _ L=>exact .agg D G J L
 | tup D G J _ L=>exact .tup D G J L
def cM (I:cw) (μ:Mu) (xs:List V) (vs:List Value):Prop:=
 xs.length=vs.length/\∀(j:Nat) a b,xs[j]? = some a->vs[j]? = some b->bJ I μ a b
theorem cM.nil {I:cw} {μ:Mu}:cM I μ [] []:=⟨rfl,by simp⟩
theorem cM.cons {I:cw} {μ:Mu} {x:V} {v:Value} {xs:List V} {vs:List Value} (h:bJ I μ x v) (r:cM I μ xs vs):cM I μ (x::xs) (v::vs):=by
 refine⟨by simp[r.1],?_⟩
 intro j a b h1 u
 cases j with
 | zero=>grind
 | succ j=>exact r.2 j a b Zd Zd
theorem cM.cons_inv {I:cw} {μ:Mu} {x:V} {xs:List V} {B:List Value} (r:cM I μ (x::xs) B):∃v vs,B=v::vs/\bJ I μ x v/\cM I μ xs vs:=by
 obtain⟨u,h⟩:=r
 cases B with
 | nil=>simp_all
 | cons v vs=>
  refine⟨v,vs,rfl,h 0 x v Zc Zc,by grind,?_⟩
  intro j a b h1 w;exact h (j+1) a b Zd Zd
theorem cM.uT {I:cw} {μ:Mu} {B:List Value} (r:cM I μ [] B):B=[]:=by
 have:=r.1;grind
theorem cM.append {I:cw} {μ:Mu} {xs ys:List V} {B vs:List Value} (h:cM I μ xs B) (D:cM I μ ys vs):cM I μ (xs++ys) (B++vs):=by
 induction xs generalizing B with
 | nil=>rw[cM.uT h];exact D
 | cons x xs u=>
  obtain⟨v,B,rfl,hv,hr⟩:=h.cons_inv;exact .cons hv (u hr)
theorem cM.mono {I I':cw} {μ μ':Mu} (h:cw.le I I') (B:Mu.le μ μ') {xs:List V} {vs:List Value} (r:cM I μ xs vs):cM I' μ' xs vs:=
 ⟨r.1,λj a b h1 u=>(r.2 j a b h1 u).mono h B⟩
theorem cM.take {I:cw} {μ:Mu} {xs:List V} {vs:List Value} (r:cM I μ xs vs) (n:Nat):cM I μ (xs.take n) (vs.take n):=by
 refine⟨by simp[r.1],λj a b h1 u=>?_⟩
 rw[List.getElem?_take]at h1 u;split at h1 <;> simp_all;exact r.2 j a b h1 u
theorem cM.drop {I:cw} {μ:Mu} {xs:List V} {vs:List Value} (r:cM I μ xs vs) (n:Nat):cM I μ (xs.drop n) (vs.drop n):=by
 refine⟨by simp[r.1],λj a b h1 u=>?_⟩
 rw[List.getElem?_drop]at h1 u;exact r.2 _ a b h1 u
theorem bJ.cells {I:cw} {μ:Mu} {x:V} {v:Value} (r:bJ I μ x v):cM I μ x.cells v.cells.toList:=by
 cases r with
 | c x v h=>
  cases h with
  | agg z D w h=>exact⟨by simpa [V.cells,Value.cells]using w,λj a b h1 B=>.c _ _ (h j a b h1 (by simpa [Value.cells]using B))⟩
  | bool b=>exact .cons (.c _ _ (.bool b)) .nil
  | int k n=>exact .cons (.c _ _ (.int k n)) .nil
  | str s=>exact .cons (.c _ _ (.str s)) .nil
  | dD a=>exact .cons (.c _ _ (.dD a)) .nil
  | bK=>exact .cons (.c _ _ .bK) .nil
  | fsl0 es a cap=>exact .cons (.c _ _ (.fsl0 es a cap)) .nil
  | fsl es S b o cap c G hc hu T J hr=>exact .cons (.c _ _ (.fsl es S b o cap c G hc hu T J hr)) .nil
  | gY=>exact .cons (.c _ _ .gY) .nil
  | fptr z b o c G J hr=>exact .cons (.c _ _ (.fptr z b o c G J hr)) .nil
  | clo f x y u v L O h1 B=>exact .cons (.c _ _ (.clo f x y u v L O h1 B)) .nil
  | f_=>exact .cons (.c _ _ .f_) .nil
  | ru=>exact .cons (.c _ _ .ru) .nil
  | fmap Q b es G w hk hv=>exact .cons (.c _ _ (.fmap Q b es G w hk hv)) .nil
  | tup z D w h=>exact .cons (.c _ _ (.tup z D w h)) .nil
 | hsl id off len cap p C hc J=>exact .cons (.hsl id off len cap p C hc J) .nil
 | hsl0 id es off a=>exact .cons (.hsl0 id es off a) .nil
 | hptr id el off p C=>exact .cons (.hptr id el off p C) .nil
 | yld id p C=>exact .cons (.yld id p C) .nil
 | hmap id p C=>exact .cons (.hmap id p C) .nil
 | clo f x y u v L O h1 B=>exact .cons (.clo f x y u v L O h1 B) .nil
 | agg z D w h=>exact⟨by simpa [V.cells,Value.cells]using w,λj a b h1 B=>h j a b h1 (by simpa [Value.cells]using B)⟩
 | tup z D w h=>exact .cons (.tup z D w h) .nil
theorem bJ.FA {I:cw} {μ:Mu} {cs:List V} {vs:Array Value} (h:cM I μ cs vs.toList):bJ I μ (.agg cs) (.agg vs):=
 .agg cs vs (by simpa using h.1) λj a b h1 u=>h.2 j a b h1 Zd
theorem bJ.PZ {I:cw} {μ:Mu} {cs:List V} {vs:Array Value} (h:cM I μ cs vs.toList):bJ I μ (.tup cs) (.tuple vs):=
 .tup cs vs (by simpa using h.1) λj a b h1 u=>h.2 j a b h1 Zd
section inv
variable {I:cw} {μ:Mu}
theorem bJ.qR {b:Bool} {v:Value} (h:bJ I μ (.bool b) v):v=.bool b:=by cases h with|c _ _ h=>cases h;rfl
theorem bJ.fC {k:IntKind} {n:Int} {v:Value} (h:bJ I μ (.int k n) v):v=.int k n:=by cases h with|c _ _ h=>cases h;rfl
theorem bJ.sH {s:ByteArray} {v:Value} (h:bJ I μ (.str s) v):v=.string s:=by cases h with|c _ _ h=>cases h;rfl
theorem bJ.rL {v:Value} (h:bJ I μ .dD v):∃a,v=.slice a 0 0:=by cases h with|c _ _ h=>cases h;grind
theorem bJ.lS {es:Nat} {xs:List (List V)} {v:Value} (h:bJ I μ (.fsl es xs) v):eH I (.fsl es xs) v:=by cases h with|c _ _ h=>omega
theorem bJ.lW {cs:List V} {v:Value} (h:bJ I μ (.fptr cs) v):∃b o c,v=.pointer (some ⟨b,o,none⟩)/\I b=some (.cells c)/\o+cs.length<=c.size /\
 (∀(j:Nat) y u,cs[j]? = some y->c[o+j]? = some u->eH I y u):=by
 cases h with|c _ _ h=>cases h with|fptr cs b o c w z hr=>grind
theorem bJ.lN {v:Value} (h:bJ I μ .bK v):v=.slice none 0 0:=by cases h with|c _ _ h=>cases h;rfl
theorem bJ.O7 {v:Value} (h:bJ I μ .f_ v):v=.map none:=by cases h with|c _ _ h=>cases h;rfl
theorem bJ.sM {id el off:Nat} {v:Value} (h:bJ I μ (.hptr id el off) v):∃p,μ id=some p/\v=.pointer (some ⟨p.b,p.o+el*p.es+off,none⟩):=by
 cases h with
 | c _ _ h=>cases h
 | hptr _ _ _ p u=>grind
theorem bJ.RR {id:Nat} {v:Value} (h:bJ I μ (.yld id) v):∃p,μ id=some p/\v=.func (.yield p.b) #[] #[]:=by
 cases h with
 | c _ _ h=>cases h
 | yld _ p u=>grind
theorem bJ.Ba {id:Nat} {v:Value} (h:bJ I μ (.hmap id) v):∃p,μ id=some p/\v=.map (some p.b):=by
 cases h with
 | c _ _ h=>cases h
 | hmap _ p u=>grind
theorem bJ.lR {id es off len:Nat} {v:Value} (h:bJ I μ (.hsl id es off len) v) :
 (∃p cap,μ id=some p/\p.es=es/\len<=cap/\p.o+(off+cap)*es<=p.sz/\v=.slice (some ⟨p.b,p.o+off*es,none⟩) len cap)\/(len=0/\∃a,v=.slice (some a) 0 0):=by
 cases h with
 | c _ _ h=>cases h
 | hsl _ _ _ cap p u hc w=>simp_all
 | hsl0 _ _ _ a=>grind
theorem bJ.iF {cs:List V} {v:Value} (h:bJ I μ (.agg cs) v):∃vs,v=.agg vs/\cM I μ cs vs.toList:=by
 cases h with
 | c _ _ h=>cases h with|agg _ vs u h=>exact⟨vs,rfl,by grind,λj a b h1 w=>.c _ _ (h j a b h1 Zd)⟩
 | agg _ vs u h=>exact⟨vs,rfl,by grind,λj a b h1 w=>h j a b h1 Zd⟩
theorem bJ.pU {cs:List V} {v:Value} (h:bJ I μ (.tup cs) v):∃vs,v=.tuple vs/\cM I μ cs vs.toList:=by
 cases h with
 | c _ _ h=>cases h with|tup _ vs u h=>exact⟨vs,rfl,by grind,λj a b h1 w=>.c _ _ (h j a b h1 Zd)⟩
 | tup _ vs u h=>exact⟨vs,rfl,by grind,λj a b h1 w=>h j a b h1 Zd⟩
theorem bJ.jT {f:FuncId} {x y:List V} {v:Value} (h:bJ I μ (.clo f x y) v):∃a b,v=.func (.func f) a b/\cM I μ x a.toList/\cM I μ y b.toList:=by
 cases h with
 | c _ _ h=>cases h with
  | clo _ _ _ u v z B h1 w=>exact⟨u,v,rfl,⟨by grind,λj a b p q=>.c _ _ (h1 j a b p Zd)⟩,⟨by grind,λj a b p q=>.c _ _ (w j a b p Zd)⟩⟩
 | clo _ _ _ u v z B h1 w=>exact⟨u,v,rfl,⟨by grind,λj a b p q=>h1 j a b p Zd⟩,⟨by grind,λj a b p q=>w j a b p Zd⟩⟩
theorem bJ.of_bool {x:V} {b:Bool} (h:bJ I μ x (.bool b)):x=.bool b:=by
 cases h with|c _ _ h=>cases h;rfl
end inv
def tn (I:cw):Prop:=∀g u,bV.gl g=some u->eH I (.fptr u) (.pointer (some ⟨g,0,none⟩))
theorem tn.mono {I I':cw} (h:cw.le I I') (r:tn I):tn I':=λg u hg=>(r g u hg).mono h
structure eE (I:cw) (μ:Mu) (n:Nat) (F:Frame) (tmps:Array Value):Prop where
 size:tmps.size=n
 rel:∀t,bJ I μ (get F t) (tmps.getD t undef)
 gl:tn I
theorem bJ.undef (I:cw) (μ:Mu):bJ I μ .undef Go.undef:=.c _ _ (.tup [] #[] rfl Zc)
theorem eE.mono {I I':cw} {μ μ':Mu} {n:Nat} {F:Frame} {tmps:Array Value} (h:cw.le I I') (B:Mu.le μ μ') (r:eE I μ n F tmps):eE I' μ' n F tmps:=
 ⟨r.1,λt=>(r.2 t).mono h B,r.gl.mono h⟩
theorem eE.put {I:cw} {μ:Mu} {n:Nat} {F F':Frame} {a:Act} {dst:Option Nat} {x:V} {v:Value} (r:eE I μ n F a.tmps) (h:bJ I μ x v)
 (B:jM n F dst x=some F'):eE I μ n F' (a.put dst v).tmps:=by
 cases dst with
 | none=>simp[jM]at B;subst B;exact r
 | some d=>
  simp only[jM]at B;split at B
  .simp  at B;subst B;refine⟨by simp[Act.put,r.1],λt=>?_,r.gl⟩
   by_cases u:d=t
   .subst u;have:d<a.tmps.size:=by rw[r.1];omega
    simpa [Act.put,Array.getD_eq_getD_getElem?,Array.getElem?_setIfInBounds,this]using h
   have:=r.2 t;rw[gU _ _ u];simpa [Act.put,Array.getD_eq_getD_getElem?,Array.getElem?_setIfInBounds,u]using this
  grind
theorem AJ {I:cw}:∀(n:Nat) (v:Value) (x:V),ofValue n v=some x->eH I x v:=by
 intro n
 induction n with
 | zero=>intro v x h;simp[ofValue]at h
 | succ n B=>
  intro v x h;unfold ofValue at h;split at h <;> (try (simp  at h;subst h;constructor)) <;> (try grind)
  simp  at h;obtain⟨C,w,rfl⟩:=h;have key:∀(l:List Value) (u:List V),l.mapM (ofValue n)=some u->u.length=l.length/\∀(j:Nat) a b,u[j]? = some a->l[j]? = some b->eH I a b:=by
   intro l
   induction l with
   | nil=>grind
   | cons v l z=>
    intro u h;simp[ζg]at h
    grind
  obtain⟨D,hr⟩:=key _ _ w;exact .agg _ _ Zd λj a b h1 G=>hr j a b h1 Zd
theorem dy {I:cw} {μ:Mu} {n:Nat} {F:Frame} {a:Act} (r:eE I μ n F a.tmps) {o:Operand} {x:V} (h:ev F o=some x):bJ I μ x (a.eval o):=by
 cases o with
 | tmp t=>simp[ev]at h;subst h;exact r.2 t
 | const v=>exact .c _ _ (AJ 4 _ _ h)
 | func f=>simp[ev]at h;subst h;exact .c _ _ (.clo f [] [] #[] #[] rfl rfl Zc Zc)
 | global g=>
  obtain⟨u,h1,rfl⟩:=ζf.1 h;exact .c _ _ (r.gl g u h1)
theorem nj {I:cw} {μ:Mu} {n:Nat} {F:Frame} {a:Act} (r:eE I μ n F a.tmps):∀{l:List Operand} {xs:List V},fL F l=some xs->cM I μ xs (l.map a.eval):=by
 intro l
 induction l with
 | nil=>intro xs h;simp[fL]at h;subst h;exact .nil
 | cons o l u=>
  intro xs h;simp[fL]at h;split at h
  next v z h1 w=>simp  at h;subst h;exact .cons (dy r h1) (u w)
  grind
theorem JS {I:cw} {μ:Mu} {n:Nat} {F:Frame} {a:Act} (r:eE I μ n F a.tmps):∀{l:List (Nat×Operand)} {xs:List (Nat×V)},lZ F l=some xs ->
 xs.length=l.length/\∀(j:Nat) x y,xs[j]? = some x->l[j]? = some y->x.1=y.1/\bJ I μ x.2 (a.eval y.2):=by
 intro l
 induction l with
 | nil=>intro xs h;simp[lZ]at h;grind
 | cons o l z=>
  intro xs h;simp[lZ]at h;split at h
  .rename_i v D h1 B;simp  at h;subst h;obtain⟨C,hr⟩:=z B;refine⟨by simp[C],λj x y u w=>?_⟩
   cases j with
   | zero=>simp at u w;subst u;subst w;exact⟨rfl,dy r h1⟩
   | succ j=>grind
  grind
def lY:TypeDesc->TK
 | .bool=>.bool
 | .int k=>.int k
 | .string=>.str
 | .pointer e=>.ptr e
 | .slice e=>.slice e
 | .struct fs=>.struct (fs.toList.map λf=>(f.offset,f.type))
 | .array n e=>.array n e
 | .map k e=>.map k e
 | _=>.other
def B3:Value->Bool
 | .agg _=>true
 | _=>false
def sZ (P:Program) (t:TypeId):Option TD:=
 match P.info? t,P.underlying t with
 | some i,some d=>match i.zero with
  | some z=>match z.cells.toList.mapM (ofValue 4)with
   | some u=>if u.length=i.size/\u.all V.one=true/\B3 z=(TD.mk i.size i.bytes u (lY d)).agg then some ⟨i.size,i.bytes,u,lY d⟩else none
   | none=>none
  | none=>none
 | _,_=>none
def ic (a:List Int):Array Value:=(a.map (Value.int .i64)).toArray
structure sF (P:Program) (t:TypeId) (n:Nat):Prop where
 eq:∀(w:World) (x y:Operand) (a b:List Int),a.length=n->b.length=n ->
  (do eqGuard .eql t x y (.agg (ic a)) (.agg (ic b));binOp .eql t (.agg (ic a)) (.agg (ic b))).run P w=.ok (.bool (a==b)) w
 ne:∀(w:World) (x y:Operand) (a b:List Int),a.length=n->b.length=n ->
  (do eqGuard .neq t x y (.agg (ic a)) (.agg (ic b));binOp .neq t (.agg (ic a)) (.agg (ic b))).run P w=.ok (.bool !(a==b)) w
 key:∀(w:World) (a b:List Int),a.length=n->b.length=n->(Op.equal t (.agg (ic a)) (.agg (ic b))).run P w=.ok (a==b) w
 check:∀(w:World) (e:Bool) (a:List Int),a.length=n->(Instr.checkKey e 10000 t (.agg (ic a))).run P w=.ok () w
 kind:∃d,P.underlying t=some d/\((∃n e,d=.array n e)\/(∃fs,d=.struct fs))
structure eG (P:Program) (E:Env):Prop where
 tt:∀t d,E.tt t=some d->sZ P t=some d
 ft:∀f fi,E.ft f=some fi->∃fn,P.funcs[f]? = some fn/\fn.body=some fi.body/\fn.ntmps=fi.ntmps/\fn.results.toList=fi.results/\(fn.name == "runtime.NumGoroutine")=false
 eqN:∀t n,E.eqN t=some n->sF P t n
structure nW (P:Program) (t:TypeId) (d:TD):Prop where
 info:∃i z,P.info? t=some i/\i.size=d.size/\i.bytes=d.bytes/\i.zero=some z/\(∀I μ,cM I μ d.zero z.cells.toList)/\d.zero.length=d.size/\d.zero.all V.one=true/\B3 z=d.agg
 und:∃desc,P.underlying t=some desc/\lY desc=d.kind
theorem N5 {I:cw} {μ:Mu}:∀(l:List Value) (ys:List V),l.mapM (ofValue 4)=some ys->cM I μ ys l:=by
 intro l
 induction l with
 | nil=>intro ys h;simp at h;subst h;exact .nil
 | cons v l u=>
  intro ys h;simp only[List.mapM_cons,Option.pure_def,Option.bind_eq_bind,ζg,ζa]at h;obtain⟨y,w,z,B,rfl⟩:=h;exact .cons (.c _ _ (AJ 4 _ _ w)) (u z B)
theorem eG.ty {P:Program} {E:Env} (h:eG P E) {t:TypeId} {d:TD} (B:E.tt t=some d):nW P t d:=by
 have:=h.tt t d B;unfold sZ at this;split at this
 .rename_i i desc u w;split at this
  .rename_i z C;split at this
   .rename_i G hc;split at this
    next D=>simp only[ζa]at this;subst this;exact⟨⟨i,z,u,rfl,rfl,C,λI μ=>N5 _ _ hc,D⟩,⟨desc,w,rfl⟩⟩
    simp at this
   simp at this
  simp at this
 simp at this
section runs
variable {P:Program} {w:World} {t:TypeId} {d:TD}
theorem dB {desc:TypeDesc} (h:P.underlying t=some desc):(underlying t).run P w=.ok desc w:=by simp[underlying,h]
theorem oe {i:TypeInfo} (h:P.info? t=some i):(typeInfo t).run P w=.ok i w:=by simp[typeInfo,h]
theorem nW.ij (h:nW P t d):(sizeOf t).run P w=.ok d.size w:=by
 obtain⟨i,z,u,B,_⟩:=h.info;simp[sizeOf,oe u,B]
theorem nW.dB (h:nW P t d):∃desc,P.underlying t=some desc/\lY desc=d.kind/\∀w,(underlying t).run P w=.ok desc w:=by
 obtain⟨desc,h1,u⟩:=h.und;exact⟨desc,h1,u,λw=>VE.dB h1⟩
theorem nW.Ct (h:nW P t d):(isAgg t).run P w=.ok d.agg w:=by
 obtain⟨desc,h1,u⟩:=h.und;unfold isAgg;simp only[Sem.run_bind,VE.dB h1,Result.andThen_ok];cases desc <;> simp[TD.agg,<-u,lY]
theorem nW.zj (h:nW P t d):∃z,(∀w,(zeroValue t).run P w=.ok z w)/\(∀I μ,cM I μ d.zero z.cells.toList)/\d.zero.length=d.size/\d.zero.all V.one=true:=by
 obtain⟨i,z,u,_,_,B,hr,C,h1,_⟩:=h.info;exact⟨z,λw=>by simp[zeroValue,oe u,B],hr,C,h1⟩
end runs
theorem nW.RQ {P:Program} {t:TypeId} {d:TD} (h:nW P t d):∃z,(∀w,(zeroValue t).run P w=.ok z w)/\∀I μ x,VE.mk d.agg d.zero=some x->bJ I μ x z:=by
 obtain⟨i,z,G,_,_,J,hr,L,h1,u⟩:=h.info;refine⟨z,λw=>by simp[zeroValue,oe G,J],λI μ x C=>?_⟩
 have B:=hr I μ
 cases D:d.agg with
 | true=>
  rw[D]at C u;cases z <;> simp[B3]at u;simp only[VE.mk,if_true,ζa]at C;subst C;exact .FA (by simpa [Value.cells]using B)
 | false=>
  rw[D]at C u;simp only[VE.mk,Bool.false_eq_true,if_false]at C;split at C
  .rename_i v hv;simp only[ζa]at C;subst C;rw[hv]at B;have e:z.cells.toList=[z]:=by cases z <;> first|rfl|simp[B3]at u
   rw[e]at B;exact B.2 0 _ _ rfl rfl
  simp at C
theorem fB {E:Env} {t:TypeId} {k:TK} (h:E.c8 t=some k):∃d,E.tt t=some d/\d.kind=k:=by
 unfold Env.c8 at h;simpa [ζf]using h
theorem CL {d:TypeDesc} {k:IntKind} (h:lY d=.int k):d=.int k:=by cases d <;> simp_all [lY]
theorem IM {d:TypeDesc} (h:lY d=.bool):d=.bool:=by cases d <;> simp_all [lY]
theorem zU {d:TypeDesc} (h:lY d=.str):d=.string:=by cases d <;> simp_all [lY]
theorem jd {d:TypeDesc} {e:TypeId} (h:lY d=.slice e):d=.slice e:=by cases d <;> simp_all [lY]
theorem Bp {d:TypeDesc} {n:Nat} {e:TypeId} (h:lY d=.array n e):d=.array n e:=by cases d <;> simp_all [lY]
theorem zC {d:TypeDesc} {k e:TypeId} (h:lY d=.map k e):d=.map k e:=by cases d <;> simp_all [lY]
theorem yW {d:TypeDesc} {fs:List (Nat×TypeId)} (h:lY d=.struct fs):∃B,d=.struct B/\fs=B.toList.map λf=>(f.offset,f.type):=by
 cases d <;> simp_all [lY]
theorem z_ {I:cw} {μ:Mu} {cs r:List V} {vs:List Value} {off n:Nat} (h:cM I μ cs vs) (hc:cut cs off n=some r) :
 cM I μ r ((vs.drop off).take n)/\r.length=n/\off+n<=cs.length\/(n=0/\r=[]):=by
 unfold cut at hc;simp only at hc;split at hc
 .rename_i u;simp only[ζa]at hc;subst hc
  by_cases w:n=0
  .right;subst w;simp
  left;refine⟨(h.drop off).take n,u,?_⟩;simp at u;omega
 simp at hc
theorem Mw {I:cw} {μ:Mu} {cs:List V} {x:V} {vs:Array Value} (h:mk true cs=some x) (r:cM I μ cs vs.toList):bJ I μ x (.agg vs):=by
 simp only[mk,if_true,ζa]at h;subst h;exact .FA r
theorem mk_one {I:cw} {μ:Mu} {cs:List V} {x:V} {vs:List Value} (h:mk false cs=some x) (r:cM I μ cs vs):∃v,vs=[v]/\bJ I μ x v:=by
 simp only[mk,Bool.false_eq_true,if_false]at h;split at h
 .simp only[ζa]at h;subst h;obtain⟨v,u,rfl,hv,hr⟩:=r.cons_inv;exact⟨v,by rw[hr.uT],hv⟩
 simp at h
theorem FN {P:Program} {w:World} {I:cw} {μ:Mu} {t:TypeId} {d:TD} {cs r:List V} {vs:Array Value} {x:V} {off:Nat} (D:nW P t d) (h:cM I μ cs vs.toList)
 (hc:cut cs off d.size=some r) (B:mk d.agg r=some x):∃u,(part t vs off).run P w=.ok u w/\bJ I μ x u:=by
 unfold part;simp only[Sem.run_bind,D.Ct,Result.andThen_ok]
 cases z:d.agg with
 | true=>
  rw[z]at B;refine⟨.agg (vs.extract off (off+d.size)),by simp[D.ij],?_⟩
  refine Mw B ?_;have e:(vs.extract off (off+d.size)).toList=(vs.toList.drop off).take d.size:=by simp
  rw[e];rcases z_ h hc with⟨a,_⟩|⟨h0,rfl⟩
  .exact a
  rw[h0];exact .nil
 | false=>
  rw[z]at B;rcases z_ h hc with⟨a,J,_⟩|⟨h0,rfl⟩
  .obtain⟨v,hv,C⟩:=mk_one B a;refine⟨v,?_,C⟩;have G:d.size=1:=by
    have:=a.1;rw[hv]at this;simp at this;omega
   rw[G]at hv;have:vs[off]? = some v:=by
    have:=congrArg (·[0]?) hv;simpa [List.getElem?_take,List.getElem?_drop]using this
   simp[this]
  simp[mk]at B
theorem Jv {I:cw} {μ:Mu}:∀(az:List V) (a:List Int) (B:List Value),iA az=some a->cM I μ az B->B=a.map (Value.int .i64)/\a.length=az.length:=by
 intro az
 induction az with
 | nil=>intro a B h u;simp only[iA,ζa]at h;subst h;rw[u.uT];simp
 | cons x az w=>
  intro a B h u;obtain⟨v,B,rfl,hv,hr⟩:=u.cons_inv;have z:∃y,x=.int .i64 y:=by
   cases x with
   | int k y=>cases k <;> simp[iA]at h ⊢
   | _=>simp[iA]at h
  obtain⟨y,rfl⟩:=z;simp only[iA,ζf]at h;obtain⟨b,C,rfl⟩:=h;obtain⟨g1,g2⟩:=w _ _ C hr;have:=hv.fC;subst this;exact⟨by simp[g1],by simp[g2]⟩
theorem qa {I:cw} {μ:Mu} {az:List V} {a:List Int} {B:Array Value} (h:iA az=some a) (D:cM I μ az B.toList):B=ic a/\a.length=az.length:=by
 obtain⟨h1,u⟩:=Jv _ _ _ h D;refine⟨?_,u⟩;have:=congrArg List.toArray h1;simpa [ic]using this
theorem wo {az B:List V} {r:Bool} (h:kJ az B=some r):∃a b,iA az=some a/\iA B=some b/\a.length=b.length/\r=(a==b):=by
 unfold kJ at h;split at h
 .rename_i a b h1 u;split at h
  next w=>simp only[ζa]at h;exact⟨a,b,h1,u,w,h.symm⟩
  simp at h
 simp at h
section
variable {P:Program} {E:Env} {I:cw} {μ:Mu} {n:Nat} {F:Frame} {a:Act} {w:World}
theorem Lp (f:BinOp) (t:TypeId) (p q:Operand) (k B:IntKind) (m m':Int):(eqGuard f t p q (.int k m) (.int B m')).run P w=.ok () w:=by
 unfold eqGuard;cases f <;> simp
theorem LY (f:BinOp) (t:TypeId) (p q:Operand) (s B:ByteArray):(eqGuard f t p q (.string s) (.string B)).run P w=.ok () w:=by
 unfold eqGuard;cases f <;> simp
theorem Ky (f:BinOp) (t:TypeId) (p q:Operand) (s B:Bool):(eqGuard f t p q (.bool s) (.bool B)).run P w=.ok () w:=by
 unfold eqGuard;cases f <;> simp
theorem GB (d:Nat) {t:TypeId} (x y:Bool) (h:P.underlying t=some .bool):(Op.equalIn (d+1) t (.bool x) (.bool y)).run P w=.ok (x==y) w:=by
 simp only[Op.equalIn,Sem.run_bind,dB h,Result.andThen_ok,Sem.run_pure]
theorem Cl {t:TypeId} (x y:Bool) (h:P.underlying t=some .bool):(Op.equal t (.bool x) (.bool y)).run P w=.ok (x==y) w:=
 GB 9999 x y h
theorem AQ (d:Nat) {t:TypeId} {k:IntKind} (x y:Int) (h:P.underlying t=some (.int k)):(Op.equalIn (d+1) t (.int k x) (.int k y)).run P w=.ok (x==y) w:=by
 simp only[Op.equalIn,Sem.run_bind,dB h,Result.andThen_ok,Sem.run_pure,if_true]
theorem EZ (d:Nat) {t e:TypeId} (B:Option Addr) (l c:Nat) (h:P.underlying t=some (.slice e)):(Op.equalIn (d+1) t (.slice B l c) (.slice none 0 0)).run P w=.ok B.isNone w:=by
 cases B <;> simp only[Op.equalIn,Sem.run_bind,dB h,Result.andThen_ok,Sem.run_pure] <;> rfl
theorem HQ (d:Nat) {t e:TypeId} (B:Option Addr) (h:P.underlying t=some (.pointer e)):(Op.equalIn (d+1) t (.pointer B) (.pointer none)).run P w=.ok B.isNone w:=by
 cases B <;> simp only[Op.equalIn,Sem.run_bind,dB h,Result.andThen_ok,Sem.run_pure] <;> rfl
theorem HV (d:Nat) {t e D:TypeId} (B:Option Nat) (h:P.underlying t=some (.map e D)):(Op.equalIn (d+1) t (.map B) (.map none)).run P w=.ok B.isNone w:=by
 cases B <;> simp only[Op.equalIn,Sem.run_bind,dB h,Result.andThen_ok,Sem.run_pure] <;> rfl
theorem Es (U:eG P E) {t:TypeId} {k:TK} {x y:V} {u v:Value} {b:Bool} (hk:E.c8 t=some k) (h:tZ k x y=some b) (B:bJ I μ x u) (D:bJ I μ y v) :
 (Op.equal t u v).run P w=.ok b w/\(∀op p q,(eqGuard op t p q u v).run P w=.ok () w)/\binOp .eql t u v=(do pure (.bool (<-Op.equal t u v)))/\binOp .neq t u v=(do pure (.bool (!(<-Op.equal t u v)))):=by
 obtain⟨d,T,O⟩:=fB hk;obtain⟨desc,h1,C,_⟩:=(U.ty T).dB;rw[O]at C;have hsl:∀(e:TypeId) (z:Option Addr) (l c:Nat),P.underlying t=some (.slice e)->b=z.isNone ->
  (Op.equal t (.slice z l c) (.slice none 0 0)).run P w=.ok b w/\(∀op p q,(eqGuard op t p q (.slice z l c) (.slice none 0 0)).run P w=.ok () w)/\binOp .eql t (.slice z l c) (.slice none 0 0)=(do pure (.bool (<-Op.equal t (.slice z l c) (.slice none 0 0))))/\binOp .neq t (.slice z l c) (.slice none 0 0)=(do pure (.bool (!(<-Op.equal t (.slice z l c) (.slice none 0 0))))):=by
  intro e z l c hu L;refine⟨?_,λop p q=>by unfold eqGuard;cases op <;> simp,rfl,rfl⟩
  rw[L];exact EZ 9999 z l c hu
 have G:∀(e:TypeId) (z:Option Addr),P.underlying t=some (.pointer e)->b=z.isNone ->
  (Op.equal t (.pointer z) (.pointer none)).run P w=.ok b w/\(∀op p q,(eqGuard op t p q (.pointer z) (.pointer none)).run P w=.ok () w)/\binOp .eql t (.pointer z) (.pointer none)=(do pure (.bool (<-Op.equal t (.pointer z) (.pointer none))))/\binOp .neq t (.pointer z) (.pointer none)=(do pure (.bool (!(<-Op.equal t (.pointer z) (.pointer none))))):=by
  intro e z hu L;refine⟨?_,λop p q=>by unfold eqGuard;cases op <;> simp,rfl,rfl⟩
  rw[L];exact HQ 9999 z hu
 have J:∀(e S:TypeId) (z:Option Nat),P.underlying t=some (.map e S)->b=z.isNone ->
  (Op.equal t (.map z) (.map none)).run P w=.ok b w/\(∀op p q,(eqGuard op t p q (.map z) (.map none)).run P w=.ok () w)/\binOp .eql t (.map z) (.map none)=(do pure (.bool (<-Op.equal t (.map z) (.map none))))/\binOp .neq t (.map z) (.map none)=(do pure (.bool (!(<-Op.equal t (.map z) (.map none))))):=by
  intro e S z hu L;refine⟨?_,λop p q=>by unfold eqGuard;cases op <;> simp,rfl,rfl⟩
  rw[L];exact HV 9999 z hu
 unfold tZ at h;split at h <;> (try (simp only[ζa]at h;subst h))
 .have:=jd C;subst this;rw[B.lN,D.lN];exact hsl _ none 0 0 h1 rfl
 .have:=jd C;subst this;rw[D.lN];have W:=B.lS
  cases W with
  | fsl0 _ z cap=>exact hsl _ _ _ _ h1 rfl
  | fsl=>exact hsl _ _ _ _ h1 rfl
 .have:=jd C;subst this;rw[D.lN];rcases B.lR with⟨p,cap,_,_,_,_,Q⟩|⟨_,z,Q⟩
  .rw[Q];exact hsl _ _ _ _ h1 rfl
  rw[Q];exact hsl _ _ _ _ h1 rfl
 .obtain⟨e,rfl⟩:∃e,desc=.pointer e:=by cases desc <;> simp_all [lY]
  cases B with|c _ _ B=>cases B;cases D with|c _ _ D=>cases D;exact G _ none h1 rfl
 .obtain⟨e,rfl⟩:∃e,desc=.pointer e:=by cases desc <;> simp_all [lY]
  cases D with|c _ _ D=>cases D;cases B with|c _ _ B=>cases B;exact G _ _ h1 rfl
 .obtain⟨e,rfl⟩:∃e,desc=.pointer e:=by cases desc <;> simp_all [lY]
  cases D with
  | c _ _ D=>
   cases D
   cases B with
   | c _ _ B=>cases B
   | hptr=>exact G _ _ h1 rfl
 .have:=zC C;subst this;cases B with|c _ _ B=>cases B;cases D with|c _ _ D=>cases D;exact J _ _ none h1 rfl
 .have:=zC C;subst this;cases D with|c _ _ D=>cases D;cases B with|c _ _ B=>cases B;exact J _ _ _ h1 rfl
 .have:=zC C;subst this
  cases D with
  | c _ _ D=>
   cases D
   cases B with
   | c _ _ B=>cases B
   | hmap=>exact J _ _ _ h1 rfl
 cases h
theorem QX (J:eG P E) {op:BinOp} {t:TypeId} {x y z:V} {u v:Value} (p q:Operand) (h:He E op t x y=some z) (O:bJ I μ x u) (U:bJ I μ y v) :
 ∃r,(do eqGuard op t p q u v;binOp op t u v).run P w=.ok r w/\bJ I μ z r:=by
 unfold He at h;split at h
 .
  rename_i k m k' m';rw[O.fC,U.fC];simp only[Sem.run_bind,Lp,Result.andThen_ok];split at h
  .
   split at h
   .simp at h
   rename_i B;simp only[ζa]at h;subst h;exact⟨_,by simp[binOp,Op.shift,B],.c _ _ (.int _ _)⟩
  .split at h
   .simp at h
   rename_i B;simp only[ζa]at h;subst h;exact⟨_,by simp[binOp,Op.shift,B],.c _ _ (.int _ _)⟩
  split at h
  .rename_i T W hk;subst hk
   cases op with
   | shl=>exact absurd rfl T
   | shr=>exact absurd rfl W
   | add=>simp only[ζa]at h;subst h;exact⟨_,by simp[binOp,Op.intArith],.c _ _ (.int _ _)⟩
   | sub=>simp only[ζa]at h;subst h;exact⟨_,by simp[binOp,Op.intArith],.c _ _ (.int _ _)⟩
   | mul=>simp only[ζa]at h;subst h;exact⟨_,by simp[binOp,Op.intArith],.c _ _ (.int _ _)⟩
   | quo=>
    simp only at h;split at h
    .simp at h
    rename_i B;simp only[ζa]at h;subst h;exact⟨_,by simp[binOp,Op.intDiv,B],.c _ _ (.int _ _)⟩
   | rem=>
    simp only at h;split at h
    .simp at h
    rename_i B;simp only[ζa]at h;subst h;exact⟨_,by simp[binOp,Op.intDiv,B],.c _ _ (.int _ _)⟩
   | and=>simp only[ζa]at h;subst h;exact⟨_,by simp[binOp,Op.intBits],.c _ _ (.int _ _)⟩
   | or=>simp only[ζa]at h;subst h;exact⟨_,by simp[binOp,Op.intBits],.c _ _ (.int _ _)⟩
   | xor=>simp only[ζa]at h;subst h;exact⟨_,by simp[binOp,Op.intBits],.c _ _ (.int _ _)⟩
   | andNot=>simp only[ζa]at h;subst h;exact⟨_,by simp[binOp,Op.intBits],.c _ _ (.int _ _)⟩
   | eql=>simp only[nJ,Option.map_some,ζa]at h;subst h;exact⟨_,by simp[binOp,Op.intCmp],.c _ _ (.bool _)⟩
   | neq=>simp only[nJ,Option.map_some,ζa]at h;subst h;exact⟨_,by simp[binOp,Op.intCmp],.c _ _ (.bool _)⟩
   | lss=>simp only[nJ,Option.map_some,ζa]at h;subst h;exact⟨_,by simp[binOp,Op.intCmp],.c _ _ (.bool _)⟩
   | leq=>simp only[nJ,Option.map_some,ζa]at h;subst h;exact⟨_,by simp[binOp,Op.intCmp],.c _ _ (.bool _)⟩
   | gtr=>simp only[nJ,Option.map_some,ζa]at h;subst h;exact⟨_,by simp[binOp,Op.intCmp],.c _ _ (.bool _)⟩
   | geq=>simp only[nJ,Option.map_some,ζa]at h;subst h;exact⟨_,by simp[binOp,Op.intCmp],.c _ _ (.bool _)⟩
  simp at h
 .
  rename_i s s';rw[O.sH,U.sH];simp only[Sem.run_bind,LY,Result.andThen_ok];split at h
  .split at h
   .simp at h
   rename_i B;simp only[ζa]at h;subst h;exact⟨_,by simp only[binOp,Op.stringOp];rw[if_neg B];rfl,.c _ _ (.str _)⟩
  all_goals first
   | (simp only[ζa]at h;subst h;exact⟨_,by simp[binOp,Op.stringOp],.c _ _ (.bool _)⟩)
   | simp at h
 .
  rename_i b b';rw[O.qR,U.qR];simp only[Sem.run_bind,Ky,Result.andThen_ok];split at h
  next hk=>obtain⟨d,X,D⟩:=fB hk;obtain⟨desc,h1,C,_⟩:=(J.ty X).dB;rw[D]at C;have:=IM C;subst this;simp only[ζa]at h;subst h;exact⟨_,by simp only[binOp,Sem.run_bind,Cl _ _ h1,Result.andThen_ok,Sem.run_pure],.c _ _ (.bool _)⟩
  next hk=>obtain⟨d,X,D⟩:=fB hk;obtain⟨desc,h1,C,_⟩:=(J.ty X).dB;rw[D]at C;have:=IM C;subst this;simp only[ζa]at h;subst h;exact⟨_,by simp only[binOp,Sem.run_bind,Cl _ _ h1,Result.andThen_ok,Sem.run_pure],.c _ _ (.bool _)⟩
  simp at h
 .
  rename_i az bs;obtain⟨va,rfl,L⟩:=O.iF;obtain⟨vb,rfl,Q⟩:=U.iF;split at h
  .rename_i m G;split at h
   next hl=>simp only[ζf]at h;obtain⟨r,hr,rfl⟩:=h;obtain⟨Y,Z,h1,C,S,rfl⟩:=wo hr;obtain⟨rfl,e1⟩:=qa h1 L;obtain⟨rfl,e2⟩:=qa C Q;exact⟨_,(J.eqN _ _ G).eq w p q Y Z Za Za,.c _ _ (.bool _)⟩
   simp at h
  .rename_i m G;split at h
   next hl=>simp only[ζf]at h;obtain⟨r,hr,rfl⟩:=h;obtain⟨Y,Z,h1,C,S,rfl⟩:=wo hr;obtain⟨rfl,e1⟩:=qa h1 L;obtain⟨rfl,e2⟩:=qa C Q;exact⟨_,(J.eqN _ _ G).ne w p q Y Z Za Za,.c _ _ (.bool _)⟩
   simp at h
  simp at h
 
 split at h
 next k hk=>simp only[ζf]at h;obtain⟨b,B,rfl⟩:=h;obtain⟨h1,C,S,_⟩:=Es (w:=w) J hk B O U;exact⟨.bool b,by rw[Sem.run_bind,C,S];simp[Result.andThen,h1],.c _ _ (.bool _)⟩
 next k hk=>simp only[ζf]at h;obtain⟨b,B,rfl⟩:=h;obtain⟨h1,C,_,S⟩:=Es (w:=w) J hk B O U;exact⟨.bool !b,by rw[Sem.run_bind,C,S];simp[Result.andThen,h1],.c _ _ (.bool _)⟩
 simp at h
end
section
variable {P:Program} {E:Env} {I:cw} {μ:Mu} {n:Nat} {F:Frame} {a:Act} {w:World}
theorem HX (off:Nat):∀(l:List Value) (k:Nat) (cells:Array Value),off+k+l.length<=cells.size ->
 ((l.zipIdx k).foldl (λcs (p:Value×Nat)=>cs.setIfInBounds (off+p.2) p.1) cells).toList=cells.toList.take (off+k)++l++cells.toList.drop (off+k+l.length):=by
 intro l
 induction l with
 | nil=>simp_all
 | cons v l u=>
  intro k cells h;simp  at h;simp;rw[u (k+1) _ (by simp;omega)]
  simp;rw[show off+(k+1)=off+k+1 from by omega,List.take_succ_eq_append_getElem Zd]
  rw[List.take_set_of_le Za,List.getElem_set_self]
  rw[List.drop_set_of_lt Za]
  grind
theorem Kr {cs xs:List V} {cells:Array Value} {v:Value} {off:Nat} (h:cM I μ cs cells.toList) (B:cM I μ xs v.cells.toList) (D:off+xs.length<=cs.length) :
 cM I μ (cs.take off++xs++cs.drop (off+xs.length)) (v.cells.zipIdx.foldl (λcs (p:Value×Nat)=>cs.setIfInBounds (off+p.2) p.1) cells).toList:=by
 have e:v.cells.zipIdx.foldl (λcs p=>cs.setIfInBounds (off+p.2) p.1) cells=(v.cells.toList.zipIdx 0).foldl (λcs p=>cs.setIfInBounds (off+p.2) p.1) cells:=by
  rw[<-Array.foldl_toList];simp
 have h1:=h.1;have u:=B.1;rw[e,HX off _ 0 _ Zd]
 rw[<-u];exact((h.take off).append B).append (h.drop _)
theorem BK {place place':Nat->Option (Nat×Nat)} (U:∀i p,place i=some p->place' i=some p):∀(vs:List (Nat×V)) (B:List (Nat×Value)) (cs r:List V) (cells:Array Value),
 vs.length=B.length->(∀(j:Nat) x y,vs[j]? = some x->B[j]? = some y->x.1=y.1/\bJ I μ x.2 y.2)->cM I μ cs cells.toList->tv place cs vs=some r ->
 ∃D,Instr.fill place' cells B=some D/\cM I μ r D.toList:=by
 intro vs
 induction vs with
 | nil=>
  intro B cs r cells L _ hc w
  cases B with
  | nil=>simp[tv]at w;subst w;exact⟨cells,rfl,hc⟩
  | cons _ _=>simp_all
 | cons x vs Q=>
  intro B cs r cells L hr hc w
  cases B with
  | nil=>simp_all
  | cons y B=>
   obtain⟨i,x⟩:=x;obtain⟨S,y⟩:=y;obtain⟨C,z⟩:=hr 0 (i,x) (S,y) rfl rfl;subst C;simp only at z;simp only[tv]at w;split at w
   .simp at w
   rename_i off size G;split at w
   .simp at w
   rename_i T;have u:=z.cells;have O:x.cells.length=y.cells.size:=by simpa using u.1
   have W:cs.length=cells.size:=by simpa using hc.1
   have J:¬(decide (y.cells.size≠size)||decide (off+y.cells.size>cells.size))=true:=by
    grind
   simp  at T;obtain⟨D,h1,X⟩:=Q B _ r _ (by simpa using L) (λj a b p q=>hr (j+1) a b (by simpa using p) (by simpa using q)) (Kr hc u Za) w
   refine⟨D,?_,X⟩;simp only[Instr.fill,U _ _ G];rw[if_neg J];omega
theorem MJ (ps:Array (Nat×Operand)) (f:Operand->Value):(ps.map λ(i,x)=>(i,f x)).toList=ps.toList.map λp=>(p.1,f p.2):=by simp
theorem EB {ps:Array (Nat×Operand)} {vs:List (Nat×V)} (r:eE I μ n F a.tmps) (h:lZ F ps.toList=some vs) :
 vs.length=(ps.map λ(i,x)=>(i,a.eval x)).toList.length/\∀(j:Nat) x y,vs[j]? = some x->(ps.map λ(i,x)=>(i,a.eval x)).toList[j]? = some y->x.1=y.1/\bJ I μ x.2 y.2:=by
 obtain⟨u,hr⟩:=JS r h;rw[MJ]
 grind
theorem M_ (D:eG P E):∀(B:List Field) (pl:List (Nat×Nat)),mN E (B.map λf=>(f.offset,f.type))=some pl ->
 ((B.mapM λf=>do pure (f.offset,<-sizeOf f.type)):Sem (List (Nat×Nat))).run P w=.ok pl w:=by
 intro B
 induction B with
 | nil=>intro pl h;simp[mN]at h;simp_all
 | cons f B z=>
  intro pl h;simp[mN]at h;split at h
  next d ps C u=>simp  at h;subst h;have:=z _ u;simp only[List.mapM_cons,Sem.run_bind,(D.ty C).ij,Result.andThen_ok,Sem.run_pure,this]
  grind
theorem Jp (D:eG P E) (B:Array Field) (pl:List (Nat×Nat)) (h:mN E (B.toList.map λf=>(f.offset,f.type))=some pl) :
 ((B.mapM λf=>do pure (f.offset,<-sizeOf f.type)):Sem (Array (Nat×Nat))).run P w=.ok pl.toArray w:=by
 rw[Array.mapM_eq_mapM_toList];simp only[Sem.run_map,M_ D _ _ h,Result.andThen_ok]
theorem N7 (B:eG P E) (r:eE I μ n F a.tmps) {t:TypeId} {ps:Array (Nat×Operand)} {x:V} (h:bO E F (.build t ps)=some x) :
 ∃v,(Instr.build t (ps.map λ(i,x)=>(i,a.eval x))).run P w=.ok v w/\bJ I μ x v:=by
 simp[bO]at h;split at h
 .rename_i d S T D;obtain⟨U,hr⟩:=EB r D;obtain⟨z,X,u,_⟩:=(B.ty T).zj;obtain⟨desc,h1,C,Y⟩:=(B.ty T).dB;unfold Instr.build;simp[Sem.run_bind,X,Y,Result.andThen_ok];split at h
  .rename_i fs hk;rw[hk]at C;obtain⟨Z,rfl,rfl⟩:=yW C;split at h
   .rename_i pl G;simp  at h;obtain⟨J,L,rfl⟩:=h;obtain⟨O,g1,g2⟩:=BK (place':=λi=>pl.toArray[i]?) Zd S _ d.zero J z.cells U hr (u I μ) L
    refine⟨.agg O,?_,.FA g2⟩;have:=Jp (w:=w) B Z pl G;simp_all
   grind
  .rename_i e hk;rw[hk]at C;have:=Bp C;subst this;split at h
   .rename_i W Q;simp  at h;obtain⟨J,L,rfl⟩:=h;obtain⟨O,g1,g2⟩:=BK (place':=λi=>some (i*W.size,W.size)) Zd S _ d.zero J z.cells U hr (u I μ) L
    refine⟨.agg O,?_,.FA g2⟩;simp[Sem.run_bind,(B.ty Q).ij,Result.andThen_ok];simp_all
   grind
  grind
 grind
theorem o5 (b o k:Nat):(⟨b,o,none⟩:Addr).add k=⟨b,o+k,none⟩:=by
 unfold Addr.add;grind
theorem EK {cs:List V} {b o:Nat} {c:Array Value} (k:Nat) (B:I b=some (.cells c)) (D:o+cs.length<=c.size)
 (hr:∀(j:Nat) y u,cs[j]? = some y->c[o+j]? = some u->eH I y u) (hk:k<=cs.length):bJ I μ (.fptr (cs.drop k)) (.pointer (some ⟨b,o+k,none⟩)):=
 .c _ _ (.fptr _ b (o+k) c B (by simp;omega) λj y u h1 w=>hr (k+j) y u Zd Zd)
theorem K6 (O:eG P E) (r:eE I μ n F a.tmps) {s:TypeId} {o:Operand} {f:Nat} {x:V} (h:bO E F (.fieldAddr s o f)=some x) :
 ∃v,(Instr.fieldAt s (a.eval o) f).run P w=.ok v w/\bJ I μ x v:=by
 simp[bO]at h;split at h
 .rename_i fs p hk S;obtain⟨d,T,C⟩:=fB hk;obtain⟨desc,h1,L,U⟩:=(O.ty T).dB;rw[C]at L;obtain⟨W,rfl,rfl⟩:=yW L;have hv:=dy r S;split at h
  .rename_i off t Q;simp  at Q;obtain⟨fd,X,rfl,rfl⟩:=Q;have z:W[f]? = some fd:=by grind
   split at h
   .rename_i dt D;split at h
    .simp_all
    rename_i G;have B:∀(b u:Nat),(Instr.fieldAt s (.pointer (some ⟨b,u,none⟩)) f).run P w=.ok (.pointer (some ⟨b,u+fd.offset,none⟩)) w:=by
     intro b u;unfold Instr.fieldAt;simp[Sem.run_bind,U,Result.andThen_ok,z,Instr.sureAddr,Sem.run_pure,fieldPlace,(O.ty D).ij,if_neg G,o5]
    split at h
    .split at h
     next J=>simp  at h;subst h;obtain⟨b,u,c,e,Y,Z,hr⟩:=hv.lW;rw[e];exact⟨_,B b u,EK _ Y Z hr J⟩
     grind
    .rename_i id el u;simp  at h;obtain⟨p,hm,e⟩:=hv.sM;rw[e];have:=bJ.hptr (I:=I)  id el (u+fd.offset) p hm
     grind
    grind
   grind
  grind
 grind
theorem N3 (G:eG P E) (r:eE I μ n F a.tmps) {s:TypeId} {o:Operand} {f:Nat} {x:V} (h:bO E F (.field s o f)=some x) :
 ∃v,(Instr.field s (a.eval o) f).run P w=.ok v w/\bJ I μ x v:=by
 simp[bO]at h;split at h
 .rename_i fs Z hk O;obtain⟨d,Q,B⟩:=fB hk;obtain⟨desc,h1,J,S⟩:=(G.ty Q).dB;rw[B]at J;obtain⟨T,rfl,rfl⟩:=yW J;obtain⟨vs,e,C⟩:=(dy r O).iF;rw[e];split at h
  .rename_i off t L;simp  at L;obtain⟨fd,U,rfl,rfl⟩:=L;have z:T[f]? = some fd:=by grind
   split at h
   next dt D=>simp[ζg]at h;obtain⟨q,W,X⟩:=h;obtain⟨u,hu,Y⟩:=FN (w:=w) (G.ty D) C W X;refine⟨u,?_,Y⟩;unfold Instr.field;simp[Sem.run_bind,S,Result.andThen_ok,z,asAgg,Sem.run_pure,hu]
   grind
  grind
 grind
theorem lG (k:IntKind) (m:Int):(asIntOf (.int k m)).run P w=.ok (k,m) w:=rfl
theorem KI (U:eG P E) (r:eE I μ n F a.tmps) {t:TypeId} {o i:Operand} {x:V} (h:bO E F (.indexAddr t o i)=some x) :
 ∃v,(Instr.indexAt t (a.eval o) (a.eval i)).run P w=.ok v w/\bJ I μ x v:=by
 simp[bO]at h;split at h
 .
  rename_i e s k m hk X Y;obtain⟨d,Z,G⟩:=fB hk;obtain⟨desc,h1,Q,h3⟩:=(U.ty Z).dB;rw[G]at Q;have:=jd Q;subst this;have hv:=dy r X;have J:=(dy r Y).fC;rw[J];split at h
  .rename_i T L;split at h
   .simp_all
   have B:∀(b z len cap:Nat),m.toNat<len->(Instr.indexAt t (.slice (some ⟨b,z,none⟩) len cap) (.int k m)).run P w=.ok (.pointer (some ⟨b,z+m.toNat*T.size,none⟩)) w:=by
    intro b z len cap C;unfold Instr.indexAt;have hc:0<=m/\m<(len):=by omega
    simp[Sem.run_bind,lG,h3,Result.andThen_ok,Sem.run_pure,(U.ty L).ij,Sem.run_ite,if_pos hc,o5]
   split at h
   .rename_i es xs;split at h
    .rename_i D;simp only[ζf]at h;obtain⟨W,O,rfl⟩:=h;have C:m.toNat<xs.length:=(ζe.1 O).1;have hf:=hv.lS;generalize hg:a.eval o=g at hf
     cases hf with
     | fsl0=>simp_all
     | fsl _ _ b z cap c hI hc hu ho hb hr=>
      refine⟨_,B b z _ _ C,?_⟩;have S:W∈xs:=List.mem_of_getElem? O;have ad:=hu W S;have aa:(m.toNat+1)*es<=xs.length*es:=Nat.mul_le_mul_right _ C;rw[Nat.add_mul]at aa;rw[<-D];exact .c _ _ (.fptr W b _ c hI Za λj y u p q=>hr m.toNat j W y u O p q)
    grind
   .rename_i id es off len;split at h
    .rename_i D;simp only[ζa]at h;obtain⟨D,C⟩:=D;rcases hv.lR with⟨p,cap,hm,he,hc,hb,e⟩|⟨h0,_⟩
     .rw[e];have:=bJ.hptr (I:=I) (μ:=μ) id (off+m.toNat) 0 p hm
      grind
     omega
    grind
   grind
  grind
 .
  rename_i len e p k m hk X Y;obtain⟨d,Z,G⟩:=fB hk;obtain⟨desc,h1,Q,h3⟩:=(U.ty Z).dB;rw[G]at Q;have:=Bp Q;subst this;have hv:=dy r X;have J:=(dy r Y).fC;rw[J];split at h
  .rename_i T L;split at h
   .rename_i hc;have B:∀(b z:Nat),(Instr.indexAt t (.pointer (some ⟨b,z,none⟩)) (.int k m)).run P w=.ok (.pointer (some ⟨b,z+m.toNat*T.size,none⟩)) w:=by
     intro b z;unfold Instr.indexAt;simp only[Sem.run_bind,lG,h3,Result.andThen_ok,Sem.run_pure,Instr.sureAddr,(U.ty L).ij,Sem.run_ite,if_pos hc,o5]
    split at h
    .split at h
     next ab=>simp only[ζa]at h;subst h;obtain⟨b,z,c,e,hI,hb,hr⟩:=hv.lW;rw[e];exact⟨_,B b z,EK _ hI hb hr ab⟩
     grind
    .rename_i id el z;simp only[ζa]at h;obtain⟨p,hm,e⟩:=hv.sM;rw[e];have:=bJ.hptr (I:=I) (μ:=μ) id el (z+m.toNat*T.size) p hm
     grind
    grind
   grind
  grind
 grind
end
section
variable {P:Program} {E:Env} {I:cw} {μ:Mu} {n:Nat} {F:Frame} {a:Act} {w:World}
theorem N_ (D:eG P E) (r:eE I μ n F a.tmps) {t:TypeId} {o i:Operand} {x:V} (h:bO E F (.index t o i)=some x) :
 ∃v,(Instr.index t (a.eval o) (a.eval i)).run P w=.ok v w/\bJ I μ x v:=by
 simp[bO]at h;split at h
 .rename_i s k m hk G J;obtain⟨d,L,z⟩:=fB hk;obtain⟨desc,h1,B,O⟩:=(D.ty L).dB;rw[z]at B;have:=zU B;subst this;rw[(dy r J).fC,(dy r G).sH];split at h
  next hc=>simp  at h;obtain⟨b,S,rfl⟩:=h;refine⟨.int .u8 b.toNat,?_,.c _ _ (.int _ _)⟩;unfold Instr.index;simp[Sem.run_bind,lG,O,Result.andThen_ok,if_pos hc,S,Sem.run_pure]
  grind
 .rename_i len e X k m hk G J;obtain⟨d,L,z⟩:=fB hk;obtain⟨desc,h1,B,O⟩:=(D.ty L).dB;rw[z]at B;have:=Bp B;subst this;obtain⟨Y,ev,Q⟩:=(dy r G).iF;rw[(dy r J).fC,ev];split at h
  .rename_i Z C;split at h
   next hc=>simp[ζg]at h;obtain⟨q,T,U⟩:=h;obtain⟨u,hu,W⟩:=FN (w:=w) (D.ty C) Q T U;refine⟨u,?_,W⟩;unfold Instr.index;simp[Sem.run_bind,lG,O,Result.andThen_ok,Sem.run_ite,if_pos hc,(D.ty C).ij,hu]
   grind
  grind
 grind
theorem JZ (B:eG P E) (r:eE I μ n F a.tmps) {s d:TypeId} {o:Operand} {x:V} (h:bO E F (.convert s d o)=some x) :
 ∃v,(convert s d (a.eval o)).run P w=.ok v w/\bJ I μ x v:=by
 simp[bO]at h;split at h
 .rename_i J L k m z C D;split at h
  next O hk=>simp  at h;subst h;obtain⟨d1,g1,_,g3⟩:=(B.ty z).dB;obtain⟨d2,h1,u,G⟩:=(B.ty C).dB;rw[hk]at u;have:=CL u;subst this;rw[(dy r D).fC];refine⟨_,?_,.c _ _ (.int _ _)⟩;unfold convert;simp[Sem.run_bind,g3,G,Result.andThen_ok,Conv.intToInt,Sem.run_pure]
  grind
 grind
theorem o9 (r:eE I μ n F a.tmps) {o:Option Operand} {m:Option Int} (h:jH F o=some m) :
 (m=none/\o.map a.eval=none)\/∃k z,m=some z/\o.map a.eval=some (.int k z):=by
 cases o with
 | none=>simp[jH]at h;grind
 | some x=>
  simp[jH]at h;split at h
  next k z u=>simp  at h;subst h;exact .inr ⟨k,z,rfl,by simp[(dy r u).fC]⟩
  grind
theorem mq (k:IntKind) (z:Int) (y:Nat) (code:BoundsCode) (h0:0<=z) (h1:z<=y):(Instr.sliceBound (.int k z) y code).run P w=.ok z.toNat w:=by
 unfold Instr.sliceBound;simp[Sem.run_bind,lG,Result.andThen_ok,if_pos (And.intro h0 h1),Sem.run_pure]
theorem lQ (r:eE I μ n F a.tmps) {O U:Option Operand} {l h:Option Int} (e1:jH F O=some l) (e2:jH F U=some h) (D:Bool) (len cap L H:Nat) (hc:len<=cap)
 (B:dU len l h=some (L,H)):(Instr.sliceBounds D len cap (O.map a.eval) (U.map a.eval) none).run P w=.ok (L,H,cap) w/\L<=H/\H<=len:=by
 unfold dU at B;simp only at B;split at B
 .rename_i u;obtain⟨rfl,rfl⟩:=B;obtain⟨G,T,J,W⟩:=u;refine⟨?_,by omega,by omega⟩
  unfold Instr.sliceBounds;rcases o9 r e1 with⟨rfl,Q⟩|⟨k1,C,rfl,Q⟩ <;> rcases o9 r e2 with⟨rfl,S⟩|⟨k2,z,rfl,S⟩ <;>
   simp only[Q,S,Option.getD_some]at G T J W ⊢
  .simp_all
  .simp only[Sem.run_pure,Result.andThen_ok,Sem.run_bind,mq k2 z _ _ G (show z<=cap by omega)]
   simp
  .simp only[Sem.run_pure,Result.andThen_ok,Sem.run_bind,mq k1 C _ _ J (show C<=len by omega)]
   simp
  simp[Sem.run_pure,Result.andThen_ok,Sem.run_bind,mq k2 z _ _ G (show z<=cap by omega),mq k1 C _ _ J (show C<=z.toNat by omega)]
 grind
theorem Dt {es:Nat} {xs:List (List V)} {v:Value} {L H:Nat} (h:eH I (.fsl es xs) v) (h1:L<=H) (D:H<=xs.length) :
 ∃B len cap,v=.slice B len cap/\len=xs.length/\len<=cap/\eH I (.fsl es ((xs.take H).drop L)) (.slice (if cap=L then B else B.map (·.add (L*es))) (H-L) (cap-L)):=by
 cases h with
 | fsl0 _ B cap=>
  simp at D;have z:L=0:=by omega
  subst D;subst z;refine⟨some B,0,cap,rfl,rfl,Nat.zero_le _,?_⟩;have:=eH.fsl0 (I:=I) es B cap;split
  .grind
  simpa [Addr.add]using eH.fsl0  es (B.add (0*es)) cap
 | fsl _ _ b o cap c C hc hu G O hr=>
  refine⟨_,_,cap,rfl,rfl,hc,?_⟩;have u:((xs.take H).drop L).length=H-L:=by simp_all
  by_cases J:H-L=0
  .have:(xs.take H).drop L=[]:=List.eq_nil_of_length_eq_zero Zd
   rw[this,J];split
   .exact .fsl0 es _ _
   exact .fsl0 es _ _
  simp[o5];have e:eH I (.fsl es ((xs.take H).drop L)) (.slice (some ⟨b,o+L*es,none⟩) ((xs.take H).drop L).length (cap-L)):=by
   refine .fsl es _ b (o+L*es) (cap-L) c C Zd (λx w=>hu x (List.mem_of_mem_take (List.mem_of_mem_drop w))) (λx w=>G x (List.mem_of_mem_take (List.mem_of_mem_drop w))) ?_ ?_
   .rw[u];have:L*es+(H-L)*es<=xs.length*es:=by rw[<-Nat.add_mul];exact Nat.mul_le_mul_right _ Za
    omega
   grind
  grind
theorem Ph (hE:eG P E) (r:eE I μ n F a.tmps) {t:TypeId} {o:Operand} {lo hi mx:Option Operand} {x:V} (h:bO E F (.slice t o lo hi mx)=some x) :
 ∃v,(Instr.sliceAt t (a.eval o) (lo.map a.eval) (hi.map a.eval) (mx.map a.eval)).run P w=.ok v w/\bJ I μ x v:=by
 simp[bO]at h;split at h
 .
  rename_i s l hh hk ho U C S;obtain⟨d,hd,T⟩:=fB hk;obtain⟨desc,h1,Y,h3⟩:=(hE.ty hd).dB;rw[T]at Y;have:=zU Y;rw[(dy r ho).sH];simp only[ζf]at h;obtain⟨⟨L,H⟩,G,rfl⟩:=h;obtain⟨g,_,_⟩:=lQ (P:=P) (w:=w) r U C false s.size s.size L H (Nat.le_refl _) G;have hm:mx.map a.eval=none:=by rcases o9 r S with⟨_,q⟩|⟨k,z,e,_⟩;exact q;cases e
  refine⟨.string (s.extract L H),?_,.c _ _ (.str _)⟩;unfold Instr.sliceAt Instr.slice;simp_all
 .rename_i e v l hh hk ho U C S;obtain⟨d,hd,T⟩:=fB hk;obtain⟨desc,h1,Y,h3⟩:=(hE.ty hd).dB;rw[T]at Y;have:=jd Y;subst this;have hv:=dy r ho;have hm:mx.map a.eval=none:=by rcases o9 r S with⟨_,q⟩|⟨k,z,e,_⟩;exact q;cases e
  have B:∀(D:Option Addr) (len cap L H:Nat) (J:TD),E.tt e=some J->len<=cap->dU len l hh=some (L,H) ->
   (Instr.sliceAt t (.slice D len cap) (lo.map a.eval) (hi.map a.eval) (mx.map a.eval)).run P w=.ok (.slice (if cap=L then D else D.map (·.add (L*J.size))) (H-L) (cap-L)) w:=by
   intro D len cap L H J u hc G;obtain⟨g,_,_⟩:=lQ (P:=P) (w:=w) r U C true len cap L H hc G;unfold Instr.sliceAt Instr.slice;simp[Sem.run_bind,h3,Result.andThen_ok,hm,g,(hE.ty u).ij,Sem.run_pure]
  split at h
  .rename_i J u;split at h
   .rename_i es xs;split at h
    next Z=>simp only[ζf]at h;obtain⟨⟨L,H⟩,G,rfl⟩:=h;obtain⟨_,W,X⟩:=lQ (P:=P) (w:=w) r U C true xs.length xs.length L H (Nat.le_refl _) G;obtain⟨D,len,cap,e1,e2,e3,e4⟩:=Dt hv.lS W X;rw[e1];subst e2;refine⟨_,B D _ cap L H J u e3 G,?_⟩;rw[<-Z];exact .c _ _ e4
    grind
   .rename_i id es off len;split at h
    .rename_i Z;simp only[ζf]at h;obtain⟨⟨L,H⟩,G,rfl⟩:=h;obtain⟨_,W,X⟩:=lQ (P:=P) (w:=w) r U C true len len L H (Nat.le_refl _) G;rcases hv.lR with⟨p,cap,aa,he,hc,ab,O⟩|⟨h0,D,O⟩
     .rw[O];refine⟨_,B _ _ cap L H J u hc G,?_⟩
      by_cases hz:cap=L
      .have:H-L=0:=by omega
       rw[if_pos hz,this,show cap-L=0 by omega]
       exact .hsl0 id es (off+L) _
      rw[if_neg hz];simp only[Option.map_some,o5];rw[<-Z];subst he;have:=bJ.hsl (I:=I) (μ:=μ) id (off+L) (H-L) (cap-L) p aa Za (by
       have:off+L+(cap-L)=off+cap:=by omega
       rw[this];exact ab)
      rwa [Nat.add_mul,<-Nat.add_assoc]at this
     rw[O];subst h0;refine⟨_,B _ _ 0 L H J u (Nat.le_refl _) G,?_⟩;have hL:L=0:=by omega
     have hH:H=0:=by omega
     subst hL;subst hH;simpa using bJ.hsl0   id es (off+0) D
    grind
   .simp only[ζf]at h;obtain⟨⟨L,H⟩,G,rfl⟩:=h;obtain⟨_,W,X⟩:=lQ (P:=P) (w:=w) r U C true 0 0 L H (Nat.le_refl _) G;obtain⟨D,O⟩:=hv.rL;rw[O];refine⟨_,B D 0 0 L H J u (Nat.le_refl _) G,?_⟩;have hL:L=0:=by omega
    have hH:H=0:=by omega
    subst hL;subst hH;exact .c _ _ (.dD _)
   .simp only[ζf]at h;obtain⟨⟨L,H⟩,G,rfl⟩:=h;obtain⟨_,W,X⟩:=lQ (P:=P) (w:=w) r U C true 0 0 L H (Nat.le_refl _) G;have O:=hv.lN;rw[O];refine⟨_,B none 0 0 L H J u (Nat.le_refl _) G,?_⟩;have hL:L=0:=by omega
    have hH:H=0:=by omega
    subst hL;subst hH;exact .c _ _ .bK
   grind
  grind
 .rename_i e v hk ho U C S;obtain⟨d,hd,T⟩:=fB hk;obtain⟨desc,h1,Y,h3⟩:=(hE.ty hd).dB;rw[T]at Y;have:=jd Y;subst this;have hv:=dy r ho;have q1:lo.map a.eval=none:=by rcases o9 r U with⟨_,q⟩|⟨k,z,e,_⟩;exact q;cases e
  obtain⟨k2,q2⟩:∃k,hi.map a.eval=some (.int k 0):=by
   rcases o9 r C with⟨q,_⟩|⟨k,z,e,q⟩
   .cases q
   cases e;exact⟨k,q⟩
  obtain⟨k3,q3⟩:∃k,mx.map a.eval=some (.int k 0):=by
   rcases o9 r S with⟨q,_⟩|⟨k,z,e,q⟩
   .cases q
   cases e;exact⟨k,q⟩
  have B:∀(D:Option Addr) (len cap:Nat) (J:TD),E.tt e=some J->∃Q,(Instr.sliceAt t (.slice D len cap) (lo.map a.eval) (hi.map a.eval) (mx.map a.eval)).run P w=.ok (.slice Q 0 0) w:=by
   intro D len cap J u;refine⟨D,?_⟩;unfold Instr.sliceAt Instr.slice Instr.sliceBounds;simp only[Sem.run_bind,h3,Result.andThen_ok,q1,q2,q3,mq k3 0 cap _ (Int.le_refl _) Za,mq k2 0 _ _ (Int.le_refl _) Zc,(hE.ty u).ij]
   simp
  split at h
  next J es xs u=>simp  at h;subst h;obtain⟨D,len,cap,e1,_⟩:=Dt   hv.lS (Nat.le_refl _) (Nat.zero_le _);rw[e1];obtain⟨Q,g⟩:=B D len cap _ u;exact⟨_,g,.c _ _ (.dD _)⟩
  .rename_i J id es off len u;simp  at h;subst h;rcases hv.lR with⟨p,cap,_,_,_,_,O⟩|⟨_,D,O⟩
   .rw[O];obtain⟨Q,g⟩:=B _ _ _ _ u;exact⟨_,g,.c _ _ (.dD _)⟩
   rw[O];obtain⟨Q,g⟩:=B _ _ _ _ u;exact⟨_,g,.c _ _ (.dD _)⟩
  next J u=>simp  at h;subst h;obtain⟨D,O⟩:=hv.rL;rw[O];obtain⟨Q,g⟩:=B _ _ _ _ u;exact⟨_,g,.c _ _ (.dD _)⟩
  next J u=>simp only[ζa]at h;subst h;have O:=hv.lN;rw[O];obtain⟨Q,g⟩:=B _ _ _ _ u;exact⟨_,g,.c _ _ (.dD _)⟩
  simp at h
 grind
end
section
variable {P:Program} {E:Env} {I:cw} {μ:Mu} {n:Nat} {F:Frame} {a:Act} {w:World}
theorem cM.one {x:V} {vs:List Value} (h:cM I μ [x] vs):∃v,vs=[v]/\bJ I μ x v:=by
 obtain⟨v,r,rfl,hv,hr⟩:=h.cons_inv;exact⟨v,by rw[hr.uT],hv⟩
theorem cM.two {x y:V} {vs:List Value} (h:cM I μ [x,y] vs):∃u v,vs=[u,v]/\bJ I μ x u/\bJ I μ y v:=by
 obtain⟨u,r,rfl,hu,hr⟩:=h.cons_inv;obtain⟨v,rfl,hv⟩:=hr.one;exact⟨u,v,rfl,hu,hv⟩
theorem cM.four {x y z t:V} {vs:List Value} (h:cM I μ [x,y,z,t] vs):∃u v p q,vs=[u,v,p,q]/\bJ I μ x u/\bJ I μ y v/\bJ I μ z p/\bJ I μ t q:=by
 obtain⟨u,r,rfl,hu,hr⟩:=h.cons_inv;obtain⟨v,r2,rfl,hv,hr⟩:=hr.cons_inv;obtain⟨p,q,rfl,w,B⟩:=hr.two;exact⟨u,v,p,q,rfl,hu,hv,w,B⟩
theorem rF {args:Array Operand} {l:List Value} (h:args.toList.map a.eval=l):args.map a.eval=l.toArray:=by
 subst h;apply Array.ext';simp
def wz:Option TK->V->Option V
 | some .str,.str s=>some (.int .i64 s.size)
 | some (.slice _),.fsl _ xs=>some (.int .i64 xs.length)
 | some (.slice _),.hsl _ _ _ len=>some (.int .i64 len)
 | some (.slice _),.dD=>some (.int .i64 0)
 | some (.slice _),.bK=>some (.int .i64 0)
 | _,_=>none
theorem S9 (U:eG P E) {t:TypeId} {x z:V} {v:Value} {ty:TypeId} {D:Array TypeId} (G:D[0]? = some t) (J:bJ I μ x v)
 (h:wz (E.c8 t) x=some z):∃u,(Builtin.len_ D ty #[v]).run P w=.ok u w/\bJ I μ z u:=by
 cases hk:E.c8 t with
 | none=>rw[hk]at h;simp[wz]at h
 | some k=>
  rw[hk]at h;obtain⟨d,W,Q⟩:=fB hk;obtain⟨desc,h1,S,T⟩:=(U.ty W).dB;rw[Q]at S
  cases k with
  | str=>
   have:=zU S;subst this
   cases x with
   | str s=>
    simp only[wz,ζa]at h;subst h;rw[J.sH];refine⟨_,?_,.c _ _ (.int _ _)⟩;unfold Builtin.len_;simp[G,T,goInt]
   | _=>simp[wz]at h
  | slice e=>
   have:=jd S;subst this;have B:∀C (len cap:Nat),(Builtin.len_ D ty #[.slice C len cap]).run P w=.ok (.int .i64 len) w:=by
    intro C len cap;unfold Builtin.len_;simp[G,T,goInt]
   cases x with
   | fsl es X=>
    simp only[wz,ζa]at h;subst h;obtain⟨C,len,cap,e1,e2,_⟩:=Dt (L:=0) (H:=0) J.lS (Nat.le_refl _) (Nat.zero_le _);rw[e1,<-e2];exact⟨_,B _ _ _,.c _ _ (.int _ _)⟩
   | hsl id es off len=>
    simp only[wz,ζa]at h;subst h;rcases J.lR with⟨p,cap,_,_,_,_,O⟩|⟨h0,C,O⟩
    .rw[O];exact⟨_,B _ _ _,.c _ _ (.int _ _)⟩
    rw[O,h0];exact⟨_,B _ _ _,.c _ _ (.int _ _)⟩
   | dD=>
    simp only[wz,ζa]at h;subst h;obtain⟨C,O⟩:=J.rL;rw[O];exact⟨_,B _ _ _,.c _ _ (.int _ _)⟩
   | bK=>
    simp only[wz,ζa]at h;subst h;rw[J.lN];exact⟨_,B _ _ _,.c _ _ (.int _ _)⟩
   | _=>simp[wz]at h
  | _=>simp[wz]at h
def TO:Option TK->V->Option V
 | some (.slice _),.bK=>some (.int .i64 0)
 | some (.slice _),.dD=>some (.int .i64 0)
 | _,_=>none
theorem Tt (O:eG P E) {t:TypeId} {x z:V} {v:Value} {ty:TypeId} {B:Array TypeId} (D:B[0]? = some t) (J:bJ I μ x v)
 (h:TO (E.c8 t) x=some z):∃u,(Builtin.cap_ B ty #[v]).run P w=.ok u w/\bJ I μ z u:=by
 have key:∀e C,E.c8 t=some (.slice e)->v=.slice C 0 0->(Builtin.cap_ B ty #[v]).run P w=.ok (.int .i64 0) w:=λe C hk hv=>by
  obtain⟨d,Q,G⟩:=fB hk;obtain⟨desc,h1,L,S⟩:=(O.ty Q).dB;rw[G]at L;have:=jd L;subst this;unfold Builtin.cap_;simp[D,S,goInt,hv]
 unfold TO at h;split at h
 next _ _ e hk=>cases h;exact⟨_,key _ _ hk J.lN,.c _ _ (.int _ _)⟩
 next _ _ e hk=>cases h;obtain⟨C,q⟩:=J.rL;exact⟨_,key _ _ hk q,.c _ _ (.int _ _)⟩
 cases h
theorem dK {s:Sem Value} {v:Value} {w':World} (h:s.run P w=.ok v w'):(do pure (Next.value (<-s)):Sem Next).run P w=.ok (.value v) w':=by
 rw[Sem.run_bind,h];rfl
theorem RM (G:eG P E) (r:eE I μ n F a.tmps) (o:Oper) {x:V} (h:bO E F o.op=some x) :
 ∃v,(execOp a.eval o).run P w=.ok (.value v) w/\bJ I μ x v:=by
 obtain⟨dst,op,ty,pos,after,guard⟩:=o;simp only at h
 cases op with
 | move y=>exact⟨_,rfl,dy r (by simpa [bO]using h)⟩
 | assign y=>exact⟨_,rfl,dy r (by simpa [bO]using h)⟩
 | pick c y z=>
  simp only[bO]at h;simp only[execOp];split at h
  .rename_i t hc;have e:=(dy r hc).qR;simp only[e,asBool,Sem.run_bind,Sem.run_pure,Result.andThen_ok]
   cases t with
   | true=>simp only[if_true]at h ⊢;exact⟨_,rfl,dy r h⟩
   | false=>simp only[Bool.false_eq_true,if_false]at h ⊢;exact⟨_,rfl,dy r h⟩
  simp at h
 | nilCheck y=>
  simp only[bO]at h;simp only[execOp];split at h
  next id el off D=>simp only[ζa]at h;subst h;have hv:=dy r D;obtain⟨p,_,e⟩:=hv.sM;rw[e]at hv ⊢;exact⟨_,rfl,hv⟩
  next Z D=>simp only[ζa]at h;subst h;have hv:=dy r D;obtain⟨b,o,c,e,_⟩:=hv.lW;rw[e]at hv ⊢;exact⟨_,rfl,hv⟩
  next f u v D=>simp only[ζa]at h;subst h;have hv:=dy r D;obtain⟨b,c,e,_⟩:=hv.jT;rw[e]at hv ⊢;exact⟨_,rfl,hv⟩
  simp at h
 | binOp op t y z yt=>
  simp only[bO]at h;split at h
  next u v hu hv=>obtain⟨q,O,hr⟩:=QX (w:=w) G y z h (dy r hu) (dy r hv);exact⟨q,dK O,hr⟩
  simp at h
 | unOp op t y=>
  simp only[bO]at h;simp only[execOp];split at h
  next b D=>simp only[ζa]at h;subst h;rw[(dy r D).qR];exact⟨_,dK (by simp only[Op.unary];rfl),.c _ _ (.bool _)⟩
  next k m D=>simp only[ζa]at h;subst h;rw[(dy r D).fC];exact⟨_,dK (by simp only[Op.unary,Op.intArith];rfl),by simpa using bJ.c _ _ (.int k _)⟩
  simp at h
 | convert s d y=>
  obtain⟨v,h1,C⟩:=JZ (w:=w) G r h;exact⟨v,dK h1,C⟩
 | fieldAddr s y f=>
  obtain⟨v,h1,C⟩:=K6 (w:=w) G r h;exact⟨v,dK h1,C⟩
 | field s y f=>
  obtain⟨v,h1,C⟩:=N3 (w:=w) G r h;exact⟨v,dK h1,C⟩
 | indexAddr t y i=>
  obtain⟨v,h1,C⟩:=KI (w:=w) G r h;exact⟨v,dK h1,C⟩
 | index t y i=>
  obtain⟨v,h1,C⟩:=N_ (w:=w) G r h;exact⟨v,dK h1,C⟩
 | slice t y lo hi mx=>
  obtain⟨v,h1,C⟩:=Ph (w:=w) G r h;exact⟨v,dK h1,C⟩
 | build t ps=>
  obtain⟨v,h1,C⟩:=N7 (w:=w) G r h;exact⟨v,dK h1,C⟩
 | makeFunc f u v=>
  cases f with
  | func f=>
   simp only[bO]at h;split at h
   next Q x2 h1 C=>simp only[ζa]at h;subst h;have r1:=nj r h1;have r2:=nj r C;refine⟨.func (.func f) (u.map a.eval) (v.map a.eval),rfl,?_⟩;refine .clo f _ _ _ _ (by simpa using r1.1) (by simpa using r2.1) (λj p q s t=>r1.2 j p q s (by simpa using t)) (λj p q s t=>r2.2 j p q s (by simpa using t))
   simp at h
  | _=>simp[bO]at h
 | extract y i=>
  simp only[bO]at h;simp only[execOp];split at h
  .rename_i vs D;obtain⟨S,e,T⟩:=(dy r D).pU;rw[e];have U:=(ζe.1 h).1;have J:i<S.size:=by have:=T.1;simp at this;omega
   refine⟨S[i],dK (by simp[Instr.extract,J]),T.2 i x _ h (by simp[J])⟩
  simp at h
 | call c=>
  obtain⟨callee,args,W⟩:=c
  cases callee with
  | builtin b=>
   simp only[bO]at h;simp only[execOp,resolve,Sem.run_bind,Sem.run_pure,Result.andThen_ok,invoke];split at h
   .rename_i v t B L;obtain⟨u,hu,hr⟩:=(nj r B).one;rw[rF hu];obtain⟨q,h1,C⟩:=S9 (w:=w) (ty:=ty) G L hr (by rw[<-h];rfl)
    exact⟨q,by simp only[builtin];exact dK h1,C⟩
   .rename_i v t B L;obtain⟨u,hu,hr⟩:=(nj r B).one;rw[rF hu];obtain⟨q,h1,C⟩:=Tt (w:=w) (ty:=ty) G L hr (by rw[<-h];rfl)
    exact⟨q,by simp only[builtin];exact dK h1,C⟩
   .rename_i k Q X x2 B;split at h
    next hk=>simp only[ζa]at h;subst h;subst hk;obtain⟨u,v,e,hu,hv⟩:=(nj r B).two;rw[rF e,hu.fC,hv.fC];exact⟨_,by simp only[builtin];exact dK (by simp[Builtin.max_,Builtin.max2]),.c _ _ (.int _ _)⟩
    simp at h
   .rename_i k Q k1 x2 k2 x3 k3 x4 B;split at h
    next hk=>simp only[ζa]at h;subst h;obtain⟨rfl,rfl,rfl⟩:=hk;obtain⟨u,v,p,q,e,hu,hv,Y,O⟩:=(nj r B).four;rw[rF e,hu.fC,hv.fC,Y.fC,O.fC];exact⟨_,by simp only[builtin];exact dK (by simp[Builtin.max_,Builtin.max2,BB]),.c _ _ (.int _ _)⟩
    simp at h
   .rename_i k Q X x2 B;split at h
    next hk=>simp only[ζa]at h;subst h;subst hk;obtain⟨u,v,e,hu,hv⟩:=(nj r B).two;rw[rF e,hu.fC,hv.fC];exact⟨_,by simp only[builtin];exact dK (by simp[Builtin.min_,Builtin.min2]),.c _ _ (.int _ _)⟩
    simp at h
   simp at h
  | _=>simp[bO]at h
 | _=>simp[bO]at h
end
structure fW (I:cw) (μ:Mu) (p:Pl) (c:Array Value) (es:Nat) (xs:List (List V)):Prop where
 es_eq:p.es=es
 sz:c.size=p.sz
 oW:∀x∈xs,x.length=es
 one:∀x∈xs,∀y∈x,V.one y=true
 room:p.o+xs.length*es<=c.size
 rel:cM I μ xs.flatten ((c.toList.drop p.o).take (xs.length*es))
def uH (I:cw) (μ:Mu) (B:List (V×V)) (es:Array MapEntry):Prop:=
 B.length=es.size/\∀(j:Nat) q e,B[j]? = some q->es[j]? = some e->bJ I μ q.1 e.key/\bJ I μ q.2 e.val
def AR.is:AR->LoopState->Prop
 | .ready,.ready|.busy,.busy|.done,.done=>True
 | _,_=>False
structure uR (I:cw) (μ:Mu) (r:uU) (l:Loop):Prop where
 st:r.st.is l.state
 pend:l.pending=r.pend.bind kL
 pendOk:r.pend≠some .norm
 frame:eE I μ r.nt r.frame l.tmps
 params:l.params.toList=r.params
 assign:l.assign=r.assign
 body:l.body=r.body
def Ob.live:Ob->Bool
 | .row ..|.map _|.loop _=>true
 | _=>false
def rS (I:cw) (μ:Mu) (w:World) (id:Nat):Ob->Prop
 | .free=>μ id=none
 | .dead=>True
 | .row es xs=>∃p c el,μ id=some p/\I p.b=none/\w.heap[p.b]? = some (.cells c el)/\fW I μ p c es xs
 | .frz es xs=>∃p c,μ id=some p/\I p.b=some (.cells c)/\fW I μ p c es xs
 | .map B=>∃p es clock,μ id=some p/\I p.b=none/\w.heap[p.b]? = some (.map es clock)/\uH I μ B es
 | .loop r=>∃p l,μ id=some p/\I p.b=none/\w.heap[p.b]? = some (.loop l)/\uR I μ r l
structure cU (I:cw) (μ:Mu) (H:bl) (w:World):Prop where
 dom:∀id,H.length<=id->μ id=none
 imm:∀b x,I b=some x->x.at w b
 obs:∀id ob,H[id]? = some ob->rS I μ w id ob
 inj:∀id id' ob ob' p p',H[id]? = some ob->H[id']? = some ob'->ob.live=true->ob'.live=true->μ id=some p->μ id'=some p'->p.b=p'.b->id=id'
 gl:tn I
def g_ (μ:Mu) (H:bl) (b:Nat):Prop:=∃id p ob,H[id]? = some ob/\ob.live=true/\μ id=some p/\p.b=b
def Obj.nf (o:Obj):Prop:=∀c t fr,o=.cells c t fr->fr=(0,0)
theorem tc (c:Array Value) (t:TypeId):Obj.nf (.cells c t):=λ_ _ _ h=>by grind
theorem qT {o:Obj} (h:(match o with|.cells ..=>false|_=>true)=true):Obj.nf o:=λc t fr e=>by grind
theorem BW {w w':World} {o:Obj} {b:Nat} (B:Obj.nf o) (h1:w'.heap[b]? = some o) (D:∀k,k≠b->w'.heap[k]? = w.heap[k]?) (a:Addr) (h:w.frozen? a=false):w'.frozen? a=false:=by
 by_cases e:a.block=b
 .unfold World.frozen?;rw[e,h1];split
  .rename_i c t z C u;cases u;have:=B _ _ _ rfl
   grind
  rfl
 unfold World.frozen? at h ⊢
 grind
structure uF (w w':World):Prop where
 out:w'.output=w.output
 tape:w'.tape=w.tape
 dr:w.drawn<=w'.drawn
theorem uF.refl (w:World):uF w w:=⟨rfl,rfl,Nat.le_refl _⟩
theorem uF.trans {w w' w'':World} (h:uF w w') (B:uF w' w''):uF w w'':=⟨B.out.trans h.out,B.tape.trans h.tape,Nat.le_trans h.dr B.dr⟩
structure Step (I:cw) (μ:Mu) (H:bl) (w:World) (I':cw) (μ':Mu) (H':bl) (w':World):Prop where
 le:cw.le I I'
 mu:Mu.le μ μ'
 len:H.length<=H'.length
 size:w.heap.size<=w'.heap.size
 frame:∀b,b<w.heap.size->¬g_ μ H b->w'.heap[b]? = w.heap[b]?
 terr:∀b,((I' b).isSome=true\/g_ μ' H' b)->(I b).isSome=true\/g_ μ H b\/w.heap.size<=b
 os:w'.os=w.os
 out:uF w w'
 fz:∀a:Addr,a.block<w.heap.size->w.frozen? a=false->w'.frozen? a=false
section
variable {I I' I'':cw} {μ μ' μ'':Mu} {H H' H'':bl} {w w' w'':World} {P:Program} {E:Env} {n:Nat} {F:Frame} {a:Act}
theorem IC.tD {x:IC} {b:Nat} (h:x.at w b):b<w.heap.size:=by
 cases x with
 | cells c=>obtain⟨_,_,h⟩:=h;grind
 | map es=>obtain⟨_,h⟩:=h;grind
theorem IC.qZ {x:IC} {b:Nat} (h:x.at w b) (e:w'.heap[b]? = w.heap[b]?):x.at w' b:=by
 cases x with
 | cells c=>obtain⟨el,fr,h⟩:=h;exact⟨el,fr,by grind⟩
 | map es=>obtain⟨cl,h⟩:=h;exact⟨cl,by grind⟩
theorem Step.refl (I:cw) (μ:Mu) (H:bl) (w:World):Step I μ H w I μ H w:=
 ⟨cw.le_refl _,Mu.le_refl _,Nat.le_refl _,Nat.le_refl _,λ_ _ _=>rfl,λ_ h=>h.elim .inl λh=>.inr (.inl h),rfl,.refl _,λ_ _ h=>h⟩
theorem fU (s:cU I μ H w) {b:Nat} (h:g_ μ H b):I b=none:=by
 obtain⟨id,p,ob,h1,B,D,rfl⟩:=h;have:=s.obs id ob h1
 cases ob with
 | row es G=>obtain⟨q,c,el,u,z,_⟩:=this;grind
 | map C=>obtain⟨q,c,el,u,z,_⟩:=this;grind
 | loop r=>obtain⟨q,c,u,z,_⟩:=this;grind
 | _=>simp[Ob.live]at B
theorem mT (s:cU I μ H w) {b:Nat} (h:g_ μ H b):b<w.heap.size:=by
 obtain⟨id,p,ob,h1,C,G,rfl⟩:=h;have:=s.obs id ob h1
 cases ob with
 | row es J=>obtain⟨q,c,el,u,z,B,_⟩:=this;grind
 | map D=>obtain⟨q,c,el,u,z,B,_⟩:=this;grind
 | loop r=>obtain⟨q,c,u,z,B,_⟩:=this;grind
 | _=>simp[Ob.live]at C
theorem Step.trans (D:cU I' μ' H' w') (h1:Step I μ H w I' μ' H' w') (B:Step I' μ' H' w' I'' μ'' H'' w''):Step I μ H w I'' μ'' H'' w'' where
 fz:=λa u h=>B.fz a (Nat.lt_of_lt_of_le u h1.size) (h1.fz a u h)
 le:=cw.le_trans h1.le B.le
 mu:=λid p h=>B.mu id p (h1.mu id p h)
 len:=Nat.le_trans h1.len B.len
 size:=Nat.le_trans h1.size B.size
 frame:=by
  intro b u C;rw[B.frame b (Nat.lt_of_lt_of_le u h1.size) ?_,h1.frame b u C];intro z;rcases h1.terr b (.inr z)with h|h|h
  .have:=fU D z;obtain⟨x,G⟩:=Option.isSome_iff_exists.1 h;rw[h1.le _ _ G]at this;simp_all
  .simp_all
  omega
 terr:=by
  intro b h;rcases B.terr b h with h|h|h
  .exact h1.terr b (.inl h)
  .exact h1.terr b (.inr h)
  exact .inr (.inr (Nat.le_trans h1.size h))
 os:=B.os.trans h1.os
 out:=h1.out.trans B.out
theorem fW.mono (h:cw.le I I') (B:Mu.le μ μ') {p:Pl} {c:Array Value} {es:Nat} {xs:List (List V)} (r:fW I μ p c es xs):fW I' μ' p c es xs:=
 ⟨r.es_eq,r.sz,r.oW,r.one,r.room,r.rel.mono h B⟩
theorem uH.mono (h:cw.le I I') (D:Mu.le μ μ') {B:List (V×V)} {es:Array MapEntry} (r:uH I μ B es):uH I' μ' B es:=
 ⟨r.1,λj q e a b=>⟨(r.2 j q e a b).1.mono h D,(r.2 j q e a b).2.mono h D⟩⟩
theorem uR.mono (h:cw.le I I') (B:Mu.le μ μ') {r:uU} {l:Loop} (x:uR I μ r l):uR I' μ' r l:=
 ⟨x.st,x.pend,x.pendOk,x.frame.mono h B,x.params,x.assign,x.body⟩
theorem rS.mono (h:cw.le I I') (B:Mu.le μ μ') {id:Nat} {ob:Ob} (r:rS I μ w id ob)
 (D:∀p,μ id=some p->ob.live=true->w'.heap[p.b]? = w.heap[p.b]? /\ I' p.b=none) (G:ob=.free->μ' id=none):rS I' μ' w' id ob:=by
 cases ob with
 | free=>exact G rfl
 | dead=>trivial
 | row es J=>
  obtain⟨p,c,el,h1,z,C,u⟩:=r;obtain⟨g1,g2⟩:=D p h1 rfl;exact⟨p,c,el,B _ _ h1,g2,by grind,u.mono h B⟩
 | frz es J=>
  obtain⟨p,c,h1,z,u⟩:=r;exact⟨p,c,B _ _ h1,h _ _ z,u.mono h B⟩
 | map L=>
  obtain⟨p,es,cl,h1,z,C,u⟩:=r;obtain⟨g1,g2⟩:=D p h1 rfl;exact⟨p,es,cl,B _ _ h1,g2,by grind,u.mono h B⟩
 | loop x=>
  obtain⟨p,l,h1,z,C,u⟩:=r;obtain⟨g1,g2⟩:=D p h1 rfl;exact⟨p,l,B _ _ h1,g2,by grind,u.mono h B⟩
theorem cU.oF (s:cU I μ H w) (e:w'.heap=w.heap):cU I μ H w' where
 dom:=s.dom
 imm:=λb x h=>IC.qZ (s.imm b x h) (by rw[e])
 obs:=λid ob h=>(s.obs id ob h).mono (cw.le_refl _) (Mu.le_refl _) (λp u z=>⟨by rw[e],fU s ⟨id,p,ob,h,z,u,rfl⟩⟩) (λB=>by subst B;exact s.obs id _ h)
 inj:=s.inj
 gl:=s.gl
theorem Step.oF (e:w'.heap=w.heap) (h1:w'.os=w.os) (B:uF w w'):Step I μ H w I μ H w':=
 ⟨cw.le_refl _,Mu.le_refl _,Nat.le_refl _,by grind,λ_ _ _=>by rw[e],λb h=>h.elim .inl λh=>.inr (.inl h),h1,B,λa _ h=>by unfold World.frozen? at h ⊢;grind⟩
def Mu.gD (μ:Mu) (k:Nat) (p:Pl):Mu:=λid=>if id=k then some p else μ id
theorem Mu.gf (μ:Mu) (k:Nat) (p:Pl):μ.gD k p k=some p:=by simp[Mu.gD]
theorem Mu.iG (μ:Mu) {k id:Nat} (p:Pl) (h:id≠k):μ.gD k p id=μ id:=by simp[Mu.gD,h]
theorem Mu.qv {k:Nat} {p:Pl} (h:μ k=none):Mu.le μ (μ.gD k p):=by
 intro id q u
 by_cases e:id=k
 .grind
 rw[Mu.iG _ _ e];omega
theorem jw (o:Obj) (b:Nat) (h:b<w.heap.size):(w.alloc o).heap[b]? = w.heap[b]? := by
 show (w.heap.push o)[b]? = _
 grind
theorem kI (o:Obj):(w.alloc o).heap[w.heap.size]? = some o:=by
 show (w.heap.push o)[w.heap.size]? = _;simp
theorem Mm {o:Obj} (B:Obj.nf o) (a:Addr) (h:w.frozen? a=false):(w.alloc o).frozen? a=false:=
 BW  B (kI o) (λk hk=>by
  by_cases u:k<w.heap.size
  .exact jw o k u
  show (w.heap.push o)[k]? = _
  grind) a h
theorem cU.place (s:cU I μ H w) {k:Nat} {ob:Ob} {o:Obj} {p:Pl} (hk:μ k=none) (J:H.length<=H'.length) (aa:k<H'.length)
 (ab:∀id,id≠k->H'[id]? = some .free\/H'[id]? = H[id]?) (U:∀id,id≠k->H'[id]? = some .free->μ id=none) (ad:H'[k]? = some ob) (hp:p.b=w.heap.size)
 (ae:rS I (μ.gD k p) (w.alloc o) k ob) (hz:Obj.nf o):cU I (μ.gD k p) H' (w.alloc o)/\Step I μ H w I (μ.gD k p) H' (w.alloc o):=by
 have hI:∀b x,I b=some x->b<w.heap.size:=λb x h=>IC.tD (s.imm b x h)
 have z:∀id u,id≠k->H'[id]? = some u->u≠.free->H[id]? = some u:=by
  grind
 have C:∀b,g_ (μ.gD k p) H' b->g_ μ H b\/b=w.heap.size:=by
  rintro b ⟨id,q,u,h1,O,T,rfl⟩
  by_cases e:id=k
  .subst e;rw[Mu.gf]at T;grind
  rw[Mu.iG _ _ e]at T;exact .inl ⟨id,q,u,z id u e h1 Zd,O,T,rfl⟩
 refine⟨⟨?_,?_,?_,?_,s.gl⟩,⟨cw.le_refl _,Mu.qv hk,J,by simp,?_,?_,rfl,⟨rfl,rfl,Nat.le_refl _⟩,λa _=>BW (b:=w.heap.size) hz (kI o) (λk hk=>?_) a⟩⟩
 .intro id h;rw[Mu.iG _ _ Za]
  exact s.dom id Za
 .intro b x h;exact IC.qZ (s.imm b x h) (jw o b (hI b x h))
 .intro id u h
  by_cases e:id=k
  .grind
  by_cases W:u=.free
  .subst W;show (μ.gD k p) id=none;rw[Mu.iG _ _ e];grind
  have Z:=z id u e h W;refine(s.obs id u Z).mono (cw.le_refl _) (Mu.qv hk) (λq hq X=>?_) (λhe=>absurd he W)
  have ho:g_ μ H q.b:=⟨id,q,u,Z,X,hq,rfl⟩;exact⟨jw o _ (mT s ho),fU s ho⟩
 .intro id B o1 o2 q q' h1 O Q S D G Y
  by_cases e:id=k <;> by_cases L:B=k
  .simp_all
  .subst e;rw[Mu.gf]at D;cases D;rw[Mu.iG _ _ L]at G;have:=mT s ⟨B,q',o2,z B o2 L O (by rintro rfl;simp[Ob.live]at S),S,G,rfl⟩
   omega
  .subst L;rw[Mu.gf]at G;cases G;rw[Mu.iG _ _ e]at D;have:=mT s ⟨id,q,o1,z id o1 e h1 (by rintro rfl;simp[Ob.live]at Q),Q,D,rfl⟩
   omega
  rw[Mu.iG _ _ e]at D;rw[Mu.iG _ _ L]at G;exact s.inj id B o1 o2 q q' (z id o1 e h1 (by rintro rfl;simp[Ob.live]at Q)) (z B o2 L O (by rintro rfl;simp[Ob.live]at S)) Q S D G Y
 .intro b Y _;exact jw o b Y
 .intro b h;rcases h with h|h
  .exact .inl h
  rcases C b h with h|h
  .exact .inr (.inl h)
  omega
 by_cases X:k<w.heap.size
 .exact jw o k X
 show (w.heap.push o)[k]? = _;rw[Array.getElem?_eq_none (by simp;omega),Array.getElem?_eq_none Za]
theorem cU.push (s:cU I μ H w) {ob:Ob} {o:Obj} {p:Pl} (D:p.b=w.heap.size) (B:rS I (μ.gD H.length p) (w.alloc o) H.length ob) (G:Obj.nf o:=by first|exact tc _ _|exact qT rfl) :
 cU I (μ.gD H.length p) (H++[ob]) (w.alloc o)/\Step I μ H w I (μ.gD H.length p) (H++[ob]) (w.alloc o):=by
 refine s.place (s.dom _ (Nat.le_refl _)) Zc Zc (λid h=>.inr ?_) (λid h z=>?_) Zc D B G
 .grind
 by_cases u:id<H.length
 .rw[List.getElem?_append_left u]at z;exact s.obs id _ z
 grind
theorem cU.fill (s:cU I μ H w) {k:Nat} {ob:Ob} {o:Obj} {p:Pl} (hk:H[k]? = some .free) (D:p.b=w.heap.size) (B:rS I (μ.gD k p) (w.alloc o) k ob) (G:Obj.nf o:=by first|exact tc _ _|exact qT rfl) :
 cU I (μ.gD k p) (H.set k ob) (w.alloc o)/\Step I μ H w I (μ.gD k p) (H.set k ob) (w.alloc o):=by
 have z:=(ζe.1 hk).1;refine s.place (s.obs k _ hk) Zc Zd (λid h=>.inr ?_) (λid h u=>?_) (by simp_all) D B G
 .grind
 rw[List.getElem?_set_ne (Ne.symm h)]at u;exact s.obs id _ u
def fF (w:World) (b:Nat) (o:Obj):World:={ w with heap:=w.heap.setIfInBounds b o }
theorem eU (o:Obj) {b B:Nat} (h:B≠b):(fF w b o).heap[B]? = w.heap[B]? := by simp[fF,Array.getElem?_setIfInBounds_ne (Ne.symm h)]
theorem gu (o:Obj) {b:Nat} (h:b<w.heap.size):(fF w b o).heap[b]? = some o:=by simp[fF,h]
theorem qV (b:Nat) (o:Obj):(fF w b o).heap.size=w.heap.size:=by simp[fF]
theorem M3 (b:Nat) (o B:Obj):fF (fF w b o) b B=fF w b B:=by simp[fF]
theorem T6 {o:Obj} {b:Nat} (B:Obj.nf o) (a:Addr) (h:w.frozen? a=false):(fF w b o).frozen? a=false:=by
 by_cases u:b<w.heap.size
 .exact BW  B (gu o u) (λk hk=>eU o hk) a h
 have:(fF w b o).heap=w.heap:=by simp[fF,Array.setIfInBounds,u]
 unfold World.frozen? at h ⊢
 grind
theorem cU.write (s:cU I μ H w) {id:Nat} {ob ob':Ob} {o:Obj} {p:Pl} (D:H[id]? = some ob) (U:ob.live=true) (W:μ id=some p)
 (Y:rS I μ (fF w p.b o) id ob') (hz:Obj.nf o:=by first|exact tc _ _|exact qT rfl):cU I μ (H.set id ob') (fF w p.b o)/\Step I μ H w I μ (H.set id ob') (fF w p.b o):=by
 have z:g_ μ H p.b:=⟨id,p,ob,D,U,W,rfl⟩;have u:∀k x,(H.set id ob')[k]? = some x->∃y,H[k]? = some y/\(x.live=true->y.live=true)/\(k≠id->y=x):=by
  grind
 have L:∀b,g_ μ (H.set id ob') b->g_ μ H b:=by
  rintro b ⟨k,q,x,h1,O,Z,rfl⟩;obtain⟨y,Q,B,_⟩:=u k x h1;exact⟨k,q,y,Q,B O,Z,rfl⟩
 refine⟨⟨?_,?_,?_,?_,s.gl⟩,⟨cw.le_refl _,Mu.le_refl _,by simp,by rw[qV];grind,?_,?_,rfl,⟨rfl,rfl,Nat.le_refl _⟩,λa _=>BW  hz (gu o (mT s z)) (λk hk=>eU o hk) a⟩⟩
 .intro k h;exact s.dom k Zd
 .intro b x h;refine IC.qZ (s.imm b x h) (eU o ?_);intro C;rw[C,fU s z]at h;cases h
 .intro k x h
  by_cases e:k=id
  .grind
  rw[List.getElem?_set_ne (Ne.symm e)]at h;refine(s.obs k x h).mono (cw.le_refl _) (Mu.le_refl _) (λq T G=>⟨eU o ?_,fU s ⟨k,q,x,h,G,T,rfl⟩⟩) (λhe=>by subst he;exact s.obs k _ h)
  intro C;exact e (s.inj k id x ob q p h D G U T W C)
 .intro k X x x' q q' h1 O l1 l2 m1 m2 C;obtain⟨y,Q,B,_⟩:=u k x h1;obtain⟨y',S,J,_⟩:=u X x' O;exact s.inj k X y y' q q' Q S (B l1) (J l2) m1 m2 C
 .intro b _ hn;refine eU o ?_
  grind
 grind
theorem cU.kill (s:cU I μ H w) {id:Nat} {ob:Ob} (D:H[id]? = some ob):cU I μ (H.set id .dead) w/\Step I μ H w I μ (H.set id .dead) w:=by
 have z:=(ζe.1 D).1;have u:∀k x,(H.set id .dead)[k]? = some x->x.live=true->H[k]? = some x/\k≠id:=by
  intro k x h O
  by_cases e:k=id
  .subst e;rw[List.getElem?_set_self z]at h;cases h;simp[Ob.live]at O
  grind
 refine⟨⟨?_,s.imm,?_,?_,s.gl⟩,⟨cw.le_refl _,Mu.le_refl _,by simp,Nat.le_refl _,λ_ _ _=>rfl,?_,rfl,.refl _,λ_ _ h=>h⟩⟩
 .intro k h;exact s.dom k Zd
 .intro k x h
  by_cases e:k=id
  .subst e;rw[List.getElem?_set_self z]at h;cases h;trivial
  rw[List.getElem?_set_ne (Ne.symm e)]at h;exact s.obs k x h
 .intro k C x G q Q h1 B J L S T U;exact s.inj k C x G q Q (u k x h1 J).1 (u C G B L).1 J L S T U
 rintro b (h|⟨k,q,x,h1,B,W,rfl⟩)
 .grind
 exact .inr (.inl ⟨k,q,x,(u k x h1 B).1,B,W,rfl⟩)
end
section
variable {P:Program} {E:Env} {I:cw} {μ:Mu} {H:bl} {n:Nat} {F:Frame} {a:Act} {w:World}
theorem p9 {b:Nat} {c:Array Value} {el:TypeId} {fr:Nat×Nat} (h:w.heap[b]? = some (.cells c el fr)) (k:Nat):w.cell? ⟨b,k,none⟩=c[k]? := by
 simp[World.cell?,h]
theorem HS {b o:Nat} {c:Array Value} (hc:∀k,w.cell? ⟨b,k,none⟩=c[k]?):∀(m i:Nat) (acc:Array Value),o+i+m<=c.size ->
 (loadCellsFrom ⟨b,o,none⟩ i m acc).run P w=.ok (acc++((c.toList.drop (o+i)).take m).toArray) w:=by
 intro m
 induction m with
 | zero=>intro i acc _;simp[loadCellsFrom]
 | succ m z=>
  intro i acc h;have u:o+i<c.size:=by omega
  have e:w.cell? ⟨b,o+i,none⟩=some c[o+i]:=by rw[hc];simp[u]
  simp only[loadCellsFrom,Sem.run_bind,o5,run_load,e,Result.andThen_ok];rw[z (i+1) _ Za]
  congr 1
  rw[List.drop_eq_getElem_cons (show o+i<c.toList.length by simpa using u),List.take_succ_cons]
  apply Array.ext';simp[Nat.add_assoc]
theorem uQ {b o m:Nat} {c:Array Value} (hc:∀k,w.cell? ⟨b,k,none⟩=c[k]?) (h:o+m<=c.size\/m=0) :
 (loadCells ⟨b,o,none⟩ m).run P w=.ok ((c.toList.drop o).take m).toArray w:=by
 rcases h with h|h
 .have:=HS (P:=P) hc m 0 #[] (o:=o) Za
  simpa [loadCells]using this
 subst h;simp[loadCells,loadCellsFrom]
theorem fM {es:Nat} {xs:List (List V)} (hu:∀x∈xs,x.length=es):xs.flatten.length=xs.length*es:=by
 induction xs with
 | nil=>simp
 | cons x xs u=>
  simp only[List.flatten_cons,ζi,List.length_cons];rw[u (λy w=>hu y (List.mem_cons_of_mem _ w)),hu x Zc,Nat.add_mul];omega
theorem Dp {es:Nat}:∀{xs:List (List V)} (_:∀x∈xs,x.length=es) {el:Nat} {cs:List V},xs[el]? = some cs->(xs.flatten.drop (el*es)).take es=cs:=by
 intro xs
 induction xs with
 | nil=>intro _ el cs h;simp at h
 | cons x xs w=>
  intro hu el cs h;have u:x.length=es:=hu x Zc
  cases el with
  | zero=>simp at h;subst h;simp[u]
  | succ el=>
   have:=w (λy z=>hu y (List.mem_cons_of_mem _ z)) (el:=el) (cs:=cs) (by simpa using h)
   rw[List.flatten_cons,show (el+1)*es=x.length+el*es by rw[u,Nat.add_mul];omega,<-List.drop_drop]
   simpa using this
theorem Gg {es:Nat}:∀{xs:List (List V)} (_:∀x∈xs,x.length=es) {el:Nat} (cs:List V),el<xs.length->cs.length=es ->
 (xs.set el cs).flatten=xs.flatten.take (el*es)++cs++xs.flatten.drop (el*es+es):=by
 intro xs
 induction xs with
 | nil=>intro _ el cs h;simp at h
 | cons x xs w=>
  intro hu el cs h hc;have u:x.length=es:=hu x Zc
  cases el with
  | zero=>simp[u]
  | succ el=>
   have:=w (λy z=>hu y (List.mem_cons_of_mem _ z)) (el:=el) cs (by simpa using h) hc
   simp only[List.set_cons_succ,List.flatten_cons,this];rw[show (el+1)*es=x.length+el*es by rw[u,Nat.add_mul];omega]
   rw[show x.length+el*es+es=x.length+(el*es+es)by omega]
   rw[List.take_append,List.drop_append];simp[List.take_of_length_le,List.drop_eq_nil_of_le,Nat.add_sub_cancel_left]
theorem uX {es:Nat} {xs:List (List V)} (hu:∀x∈xs,x.length=es) {i j:Nat} {x:List V} {y:V} (h1:xs[i]? = some x) (B:x[j]? = some y):xs.flatten[i*es+j]? = some y:=by
 have:=Dp hu h1;have u:j<es:=by rw[<-hu x (List.mem_of_getElem? h1)];exact(ζe.1 B).1
 have e:=congrArg (·[j]?) this;simp only[List.getElem?_take,u,if_true,List.getElem?_drop]at e;rw[e];exact B
theorem fW.elem {p:Pl} {c:Array Value} {es:Nat} {xs:List (List V)} (r:fW I μ p c es xs) {el:Nat} {cs:List V} (h:xs[el]? = some cs) :
 cM I μ cs ((c.toList.drop (p.o+el*es)).take es)/\cs.length=es/\p.o+el*es+es<=c.size:=by
 have u:=(ζe.1 h).1;have z:=r.oW cs (List.mem_of_getElem? h);have h1:=(r.rel.drop (el*es)).take es;rw[Dp r.oW h]at h1;have B:el*es+es<=xs.length*es:=by
  have:=Nat.mul_le_mul_right es (show el+1<=xs.length from u)
  rwa [Nat.add_mul,Nat.one_mul]at this
 have w:=r.room;refine⟨?_,z,by omega⟩
 have e:(((c.toList.drop p.o).take (xs.length*es)).drop (el*es)).take es=(c.toList.drop (p.o+el*es)).take es:=by
  rw[List.drop_take,List.take_take,List.drop_drop,Nat.min_eq_left Za]
 rw[e]at h1;exact h1
theorem fW.span {p:Pl} {c:Array Value} {es:Nat} {xs:List (List V)} (r:fW I μ p c es xs) {off len:Nat} (h:off+len<=xs.length) :
 cM I μ ((xs.drop off).take len).flatten ((c.toList.drop (p.o+off*es)).take (len*es))/\p.o+off*es+len*es<=c.size:=by
 have w:=r.room;have B:off*es+len*es<=xs.length*es:=by
  rw[<-Nat.add_mul];exact Nat.mul_le_mul_right _ h
 have e1:((xs.drop off).take len).flatten=(xs.flatten.drop (off*es)).take (len*es):=by
  have u:xs=xs.take off++((xs.drop off).take len++(xs.drop off).drop len):=by rw[List.take_append_drop,List.take_append_drop]
  have g1:(xs.take off).flatten.length=off*es:=by
   rw[fM (λx u=>r.oW x (List.mem_of_mem_take u))];rw[List.length_take,Nat.min_eq_left Za]
  have g2:((xs.drop off).take len).flatten.length=len*es:=by
   rw[fM (λx u=>r.oW x (List.mem_of_mem_drop (List.mem_of_mem_take u))),List.length_take,List.length_drop,Nat.min_eq_left Za]
  have z:=congrArg List.flatten u;simp only[List.flatten_append]at z;rw[z,<-g1,List.drop_left,<-g2,List.take_left]
 have h1:=(r.rel.drop (off*es)).take (len*es);rw[e1];refine⟨?_,by omega⟩
 have e:(((c.toList.drop p.o).take (xs.length*es)).drop (off*es)).take (len*es)=(c.toList.drop (p.o+off*es)).take (len*es):=by
  rw[List.drop_take,List.take_take,List.drop_drop,Nat.min_eq_left Za]
 rw[e]at h1;exact h1
theorem GP {ob:Ob} {es:Nat} {xs:List (List V)} (h:ob.rows=some (es,xs)):ob=.row es xs\/ob=.frz es xs:=by
 cases ob <;> simp_all [Ob.rows]
theorem cU.rows (s:cU I μ H w) {id es:Nat} {xs:List (List V)} (h:(H[id]?).bind Ob.rows=some (es,xs)) :
 ∃p c,μ id=some p/\(∀k,w.cell? ⟨p.b,k,none⟩=c[k]?)/\fW I μ p c es xs:=by
 obtain⟨ob,h1,u⟩:=ζg.1 h;have:=s.obs id ob h1;rcases GP u with rfl|rfl
 .obtain⟨p,c,el,g1,_,g3,g4⟩:=this;exact⟨p,c,g1,p9 g3,g4⟩
 obtain⟨p,c,g1,g2,g4⟩:=this;obtain⟨el,fr,g3⟩:=s.imm _ _ g2;exact⟨p,c,g1,p9 g3,g4⟩
theorem Oa (s:cU I μ H w) {p:V} {v:Value} (hv:bJ I μ p v) {m:Nat} {cs:List V} (h:ey H p m=some cs) :
 ∃(b o:Nat) (c:Array Value),v=.pointer (some ⟨b,o,none⟩)/\(∀k,w.cell? ⟨b,k,none⟩=c[k]?)/\(o+m<=c.size\/m=0)/\cM I μ cs ((c.toList.drop o).take m):=by
 unfold ey at h;split at h
 .rename_i z;obtain⟨b,o,c,e,G,Q,hr⟩:=hv.lW;obtain⟨el,fr,g⟩:=s.imm _ _ G;refine⟨b,o,c,e,p9 g,?_⟩;have J:cM I μ z ((c.toList.drop o).take z.length):=by
   refine⟨by simp;omega,λj x y h1 C=>?_⟩
   have L:=(ζe.1 h1).1;rw[List.getElem?_take,if_pos L,List.getElem?_drop]at C;exact .c _ _ (hr j x y h1 (by simpa using C))
  rcases z_ J h with⟨g1,g2,g3⟩|⟨g1,g2⟩
  .refine⟨.inl Za,?_⟩
   rw[List.drop_zero,List.take_take,Nat.min_eq_left Za]at g1
   exact g1
  refine⟨.inr g1,?_⟩;rw[g2,g1];exact .nil
 .rename_i id el off;split at h
  .rename_i es z u;split at h
   .rename_i O B;obtain⟨p,c,g1,g2,g3⟩:=s.rows u;obtain⟨q,D,e⟩:=hv.sM;rw[g1]at D;cases D;refine⟨_,_,c,e,g2,?_⟩;obtain⟨k1,k2,k3⟩:=g3.elem B;rw[g3.es_eq];rcases z_ k1 h with⟨f1,f2,f3⟩|⟨f1,f2⟩
    .refine⟨.inl Za,?_⟩
     rw[List.drop_take,List.take_take,Nat.min_eq_left Za,List.drop_drop]at f1
     exact f1
    refine⟨.inr f1,?_⟩;rw[f2,f1];exact .nil
   simp at h
  simp at h
 simp at h
theorem B4 (D:eG P E) (s:cU I μ H w) {t:TypeId} {d:TD} (G:E.tt t=some d) {p x:V} {v:Value} (hv:bJ I μ p v) (h:(ey H p d.size).bind (mk d.agg)=some x) :
 ∃u,(Instr.loadAt t v).run P w=.ok u w/\bJ I μ x u/\∃J,v=.pointer (some J)/\(loadVar t J).run P w=.ok u w:=by
 obtain⟨S,hc,C⟩:=ζg.1 h;obtain⟨b,o,c,e,g1,g2,g3⟩:=Oa s hv hc;have key:∃u,(loadVar t ⟨b,o,none⟩).run P w=.ok u w/\bJ I μ x u:=by
  unfold loadVar;simp only[Sem.run_bind,(D.ty G).Ct,Result.andThen_ok]
  cases z:d.agg with
  | true=>
   rw[z]at C;refine⟨.agg ((c.toList.drop o).take d.size).toArray,?_,Mw C (by simpa using g3)⟩
   simp only[if_true,Sem.run_bind,(D.ty G).ij,Result.andThen_ok,uQ g1 g2,Sem.run_pure]
  | false=>
   rw[z]at C;obtain⟨u,hu,L⟩:=mk_one C g3;refine⟨u,?_,L⟩;have O:d.size≠0:=by
    intro h0;rw[h0]at hu;simp at hu
   have B:c[o]? = some u:=by
    have:=congrArg (·[0]?) hu;simp only[List.getElem?_take,List.getElem?_drop,List.getElem?_cons_zero]at this;rw[if_pos Za]at this
    simpa using this
   simp only[Bool.false_eq_true,if_false,run_load,g1,B]
 obtain⟨u,h1,Q⟩:=key;refine⟨u,?_,Q,_,e,h1⟩;rw[e];unfold Instr.loadAt;simp only[Sem.run_bind,Instr.sureAddr,Sem.run_pure,Result.andThen_ok,h1]
end
section
variable {P:Program} {E:Env} {I:cw} {μ:Mu} {H:bl} {n:Nat} {F:Frame} {a:Act} {w:World}
theorem cU.Hx (s:cU I μ H w) {b:Nat} {x:IC} (h:I b=some x):b<w.heap.size:=IC.tD (s.imm b x h)
theorem Si {b es:Nat} {c:Array Value} {xs:List (List V)} (h:cM I μ xs.flatten c.toList) (hu:∀x∈xs,x.length=es) (B:∀x∈xs,∀y∈x,V.one y=true) :
 fW I μ ⟨b,0,es,c.size⟩ c es xs:=by
 have u:xs.length*es=c.size:=by rw[<-fM hu,h.1];simp
 exact⟨rfl,rfl,hu,B,by simp[u],by simpa [u,List.take_of_length_le]using h⟩
structure P7 (I:cw) (μ:Mu) (w:World) (ob:Ob) (m:Mk) (o:Obj) (p:Pl) (u:Value):Prop where
 b:p.b=w.heap.size
 live:ob.live=true
 nf:Obj.nf o
 len:∀es xs,ob=.row es xs->p.sz=xs.length*es
 rel:∀k,μ k=none->rS I (μ.gD k p) (w.alloc o) k ob/\bJ I (μ.gD k p) (m.val k) u
theorem cU.x_ (s:cU I μ H w):I w.heap.size=none:=by
 cases h:I w.heap.size with
 | none=>rfl
 | some x=>have:=s.Hx h;omega
theorem vJ (s:cU I μ H w) {es:Nat} {xs:List (List V)} {c:Array Value} {el:TypeId} {m:Mk} {u:Value} (h:cM I μ xs.flatten c.toList) (hu:∀x∈xs,x.length=es)
 (B:∀x∈xs,∀y∈x,V.one y=true) (hv:∀k,bJ I (μ.gD k ⟨w.heap.size,0,es,c.size⟩) (m.val k) u):P7 I μ w (.row es xs) m (.cells c el) ⟨w.heap.size,0,es,c.size⟩ u where
 nf:=tc _ _
 b:=rfl
 live:=rfl
 len:=λz C e=>by cases e;rw[<-fM hu,h.1];simp
 rel:=λk hk=>⟨⟨_,c,el,Mu.gf _ _ _,s.x_,kI _,(Si h hu B).mono (cw.le_refl _) (Mu.qv hk)⟩,hv k⟩
theorem DM (t:TypeId) (v:Value):(newVar t v).run P w=.ok ⟨w.heap.size,0,none⟩ (w.alloc (.cells v.cells t)):=by
 simp[newVar,newRow]
theorem vO {z:List V} {B:Array Value} (h:cM I μ z B.toList) (m:Nat) :
 cM I μ (List.replicate m z).flatten (((Array.range (m*B.size)).map (λi=>B[i % B.size]!)).toList):=by
 have G:z.length=B.size:=by simpa using h.1
 have hu:∀x∈List.replicate m z,x.length=z.length:=λx L=>by rw[List.eq_of_mem_replicate L]
 have w:=fM hu;simp only[List.length_replicate]at w;refine⟨by rw[w,G];simp,λj x y h1 J=>?_⟩
 have C:=(ζe.1 h1).1;rw[w]at C;have u:0<z.length:=by
  rcases Nat.eq_zero_or_pos z.length with h0|h0
  .rw[h0]at C;simp at C
  exact h0
 have O:j / z.length<m:=(Nat.div_lt_iff_lt_mul u).2 C;have hr:j % z.length<z.length:=Nat.mod_lt _ u;have e1:=uX hu (i:=j / z.length) (j:=j % z.length) (x:=z) (y:=z[j % z.length]) (by simp[O]) (by simp[hr])
 rw[Nat.mul_comm,Nat.div_add_mod]at e1;rw[e1]at h1;cases h1;have D:j % B.size<B.size:=by rw[<-G];exact hr
 have e2:y=B[j % B.size]:=by
  have Q:j<(Array.range (m*B.size)).size:=by simp;rw[<-G];exact C
  simp only[Array.toList_map,List.getElem?_map,ζf]at J;obtain⟨q,S,rfl⟩:=J;have:q=j:=by
   have:=(ζe.1 S).2;simpa using this.symm
  subst this;simp[D]
 rw[e2];exact h.2 (j % z.length) _ _ (by simp[hr]) (by rw[G];simp[D])
theorem E8 {es:Nat}:∀(vs:List (Nat×V)) (xs ys:List (List V)),(∀x∈xs,x.length=es)->(∀x∈xs,∀y∈x,V.one y=true)->gA es xs vs=some ys ->
 tv (λi=>some (i*es,es)) xs.flatten vs=some ys.flatten/\(∀x∈ys,x.length=es)/\(∀x∈ys,∀y∈x,V.one y=true)/\ys.length=xs.length:=by
 intro vs
 induction vs with
 | nil=>intro xs ys hu u h;simp only[gA,ζa]at h;subst h;exact⟨rfl,hu,u,rfl⟩
 | cons v vs G=>
  intro xs ys hu u h;obtain⟨i,v⟩:=v;simp only[gA]at h;split at h
  .rename_i hc;obtain⟨h1,D,I⟩:=hc;have w:∀x∈xs.set i v.cells,x.length=es:=λx z=>by
    rcases List.mem_or_eq_of_mem_set z with h|h
    .exact hu x h
    rw[h];exact h1
   have B:∀x∈xs.set i v.cells,∀y∈x,V.one y=true:=λx z=>by
    rcases List.mem_or_eq_of_mem_set z with h|h
    .exact u x h
    rw[h];simpa using I
   obtain⟨g1,g2,g3,g4⟩:=G _ ys w B h;refine⟨?_,g2,g3,by simpa using g4⟩
   rw[Gg hu _ D h1]at g1;have J:i*es+es<=xs.length*es:=by
    have:=Nat.mul_le_mul_right es (show i+1<=xs.length from D)
    rwa [Nat.add_mul,Nat.one_mul]at this
   have C:=fM hu;simp only[tv];rw[if_neg (by simp[h1,C];omega),h1]
   exact g1
  simp at h
theorem BP (J:eG P E) (r:eE I μ n F a.tmps) (s:cU I μ H w) (o:Oper) {ob:Ob} {m:Mk} (h:eS E F o.op=some (ob,m)) :
 ∃x p u,(execOp a.eval o).run P w=.ok (.value u) (w.alloc x)/\P7 I μ w ob m x p u:=by
 obtain⟨dst,op,ty,pos,after,guard⟩:=o;simp only at h
 cases op with
 | alloc t=>
  simp only[eS,ζf,ζc]at h;obtain⟨d,U,rfl,rfl⟩:=h;obtain⟨z,W,hr,X,L⟩:=(J.ty U).zj;refine⟨.cells z.cells t,_,.pointer (some ⟨w.heap.size,0,none⟩),?_,vJ s (by simpa using hr I μ) (by simp[X]) (by simpa using L) (λk=>?_)⟩
  .simp only[execOp];refine dK ?_;unfold Instr.alloc;simp only[Sem.run_bind,W,Result.andThen_ok,DM,Sem.run_pure]
  have:=bJ.hptr (I:=I) k 0 0 _ (Mu.gf μ k ⟨w.heap.size,0,d.size,z.cells.size⟩);simp only[Nat.zero_mul,Nat.add_zero]at this;exact this
 | box t x=>
  simp only[eS]at h;split at h
  .rename_i v hv;split at h
   .rename_i L;simp only[ζa,ζc]at h;obtain⟨rfl,rfl⟩:=h;have hr:=dy r hv;refine⟨.cells (a.eval x).cells t,_,.pointer (some ⟨w.heap.size,0,none⟩),?_,vJ s (by simpa using hr.cells) Zc (by simpa using L) (λk=>?_)⟩
    .simp only[execOp];refine dK ?_;unfold Instr.box;simp only[Sem.run_bind,DM,Result.andThen_ok,Sem.run_pure]
    have:=bJ.hptr (I:=I) k 0 0 _ (Mu.gf μ k ⟨w.heap.size,0,v.cells.length,(a.eval x).cells.size⟩);simp only[Nat.zero_mul,Nat.add_zero]at this;exact this
   simp at h
  simp at h
 | makeSlice t l c=>
  simp only[eS]at h;split at h
  .rename_i e k1 ln k2 B hk X hc;obtain⟨d,U,O⟩:=fB hk;obtain⟨desc,h1,Y,h3⟩:=(J.ty U).dB;rw[O]at Y;have:=jd Y;subst this;split at h
   .rename_i G D;split at h
    .rename_i Q;obtain⟨rfl,rfl,an,ao,hm,ap⟩:=Q;simp only[ζa,ζc]at h;obtain⟨rfl,rfl⟩:=h;obtain⟨z,W,hr,S,L⟩:=(J.ty D).zj;obtain⟨i,_,hi,am,aq,_⟩:=(J.ty D).info;have C:z.cells.size=G.size:=by have:=(hr I μ).1;simp at this;omega
     have Z:(0:Int)<=B:=by omega
     have w1:IntKind.i64.wrap ln=ln:=by simp[IntKind.wrap,IntKind.signed,IntKind.bits];omega
     have w2:IntKind.i64.wrap B=B:=by simp[IntKind.wrap,IntKind.signed,IntKind.bits];omega
     have aa:∀y:Int,0<=y->y<=2147483648->((i.bytes:Int)*y>2 ^ 48)=False:=by
      intro y ae hy;simp only[eq_iff_iff,iff_false,Int.not_lt,gt_iff_lt];have af:(i.bytes:Int)<=4096:=by omega
      calc (i.bytes:Int)*y<=4096*2147483648:=Int.mul_le_mul af hy ae Za
       _<=2 ^ 48:=by decide
     have ab:(Instr.makeSlice t (.int .i64 ln) (.int .i64 B)).run P w =
      .ok (.slice (some ⟨w.heap.size,0,none⟩) ln.toNat B.toNat) (w.alloc (.cells ((Array.range (B.toNat*z.cells.size)).map (λi=>z.cells[i % z.cells.size]!)) e)):=by
      unfold Instr.makeSlice;have t1:(decide (B<0)||decide ((i.bytes:Int)*B>2 ^ 48))=false:=by
       rw[Bool.or_eq_false_iff];exact⟨by simp;omega,by simp only[aa B Z hm,decide_false]⟩
      have q1:(((decide (B<0)||decide ((i.bytes:Int)*B>2 ^ 48))||decide (ln<0))||decide (ln>B))=false:=by rw[t1];simp;omega
      simp only[Sem.run_bind,h3,Result.andThen_ok,asInt,lG,Sem.run_pure,oe hi,w1,w2,q1,Bool.false_eq_true,if_false,run_askRoom,(J.ty D).ij];rw[C]
      by_cases h0:B.toNat*G.size=0
      .have er:Array.range 0=(#[]:Array Nat):=rfl;simp[h0,newRow,er]
      simp[h0,W,C,newRow]
     refine⟨.cells ((Array.range (B.toNat*z.cells.size)).map (λi=>z.cells[i % z.cells.size]!)) e,_,.slice (some ⟨w.heap.size,0,none⟩) ln.toNat B.toNat,?_,vJ s (vO (hr I μ) B.toNat) (λx T=>by rw[List.eq_of_mem_replicate T,S]) (λx T=>by rw[List.eq_of_mem_replicate T];simpa using L) (λk=>?_)⟩
     .simp only[execOp];refine dK ?_;rw[(dy r X).fC,(dy r hc).fC];exact ab
     have:=bJ.hsl (I:=I) (μ:=μ.gD k ⟨w.heap.size,0,G.size,((Array.range (B.toNat*z.cells.size)).map (λi=>z.cells[i % z.cells.size]!)).size⟩) k 0 ln.toNat B.toNat _ (Mu.gf _ _ _) Za (by simp[C])
     simpa [Mk.val]using this
    simp at h
   simp at h
  simp at h
 | buildSlice t len ps=>
  simp only[eS]at h;split at h
  .rename_i e vs hk ah;obtain⟨d,U,O⟩:=fB hk;obtain⟨desc,h1,Y,h3⟩:=(J.ty U).dB;rw[O]at Y;have:=jd Y;subst this;split at h
   .rename_i G D;split at h
    .rename_i ai;simp only[ζf,ζc]at h;obtain⟨ys,aj,rfl,rfl⟩:=h;obtain⟨z,W,hr,S,L⟩:=(J.ty D).zj;have C:z.cells.size=G.size:=by have:=(hr I μ).1;simp at this;omega
     obtain⟨X,ak⟩:=EB r ah;obtain⟨g1,g2,g3,g4⟩:=E8 vs _ ys (λx T=>by rw[List.eq_of_mem_replicate T,S]) (λx T=>by rw[List.eq_of_mem_replicate T];simpa using L) aj
     obtain⟨r',f1,f2⟩:=BK (place':=λi=>some (i*G.size,G.size)) (λi p hp=>hp) vs _ _ _ ((Array.range (len*z.cells.size)).map (λi=>z.cells[i % z.cells.size]!)) X ak (vO (hr I μ) len) g1
     have ad:r'.size=len*G.size:=by
      have e1:=f2.1;rw[fM g2,g4]at e1;simpa using e1.symm
     refine⟨.cells r' e,_,.slice (some ⟨w.heap.size,0,none⟩) len len,?_,vJ s f2 g2 g3 (λk=>?_)⟩
     .simp only[execOp];refine dK ?_;unfold Instr.buildSlice;have al:¬(len*G.size>2 ^ 24):=by omega
      simp only[Sem.run_bind,h3,Result.andThen_ok,(J.ty D).ij,if_neg al]
      by_cases h0:len*G.size=0
      .have e0:(Array.range (len*z.cells.size)).map (λi=>z.cells[i % z.cells.size]!)=#[]:=by rw[C,h0];simp
       rw[e0]at f1;have er:Array.range 0=(#[]:Array Nat):=rfl;simp only[h0,if_true,Sem.run_pure,Result.andThen_ok,er,Array.map_empty];rw[f1];simp[newRow]
      simp only[if_neg h0,Sem.run_bind,W,Result.andThen_ok,Sem.run_pure];rw[C]at f1;rw[C,f1];simp[newRow]
     have:=bJ.hsl (I:=I) (μ:=μ.gD k ⟨w.heap.size,0,G.size,r'.size⟩) k 0 len len _ (Mu.gf _ _ _) (Nat.le_refl _) (by simp[ad])
     simpa [Mk.val]using this
    simp at h
   simp at h
  simp at h
 | makeMap t r=>
  cases r with
  | none=>
   simp only[eS,ζa,ζc]at h;obtain⟨rfl,rfl⟩:=h;refine⟨.map #[] 0,⟨w.heap.size,0,0,0⟩,.map (some w.heap.size),?_,⟨rfl,rfl,qT rfl,λ_ _ e=>(nomatch e),λk hk=>⟨⟨_,#[],0,Mu.gf _ _ _,s.x_,kI _,rfl,by simp⟩,?_⟩⟩⟩
   .simp only[execOp];refine dK ?_;unfold Instr.makeMap;simp[run_newObj]
   exact bJ.hmap (I:=I) k ⟨w.heap.size,0,0,0⟩ (Mu.gf _ _ _)
  | some x=>simp[eS]at h
 | _=>simp[eS]at h
end
section
variable {P:Program} {E:Env} {I:cw} {μ:Mu} {H H':bl} {n:Nat} {F:Frame} {a:Act} {w:World}
theorem bJ.one {x:V} {v:Value} (h:bJ I μ x v) (B:x.one=true):v.oneCell'=true:=by
 cases h with
 | c _ _ h=>cases h <;> first|rfl|simp[V.one]at B
 | agg=>simp[V.one]at B
 | tup=>simp[V.one]at B
 | _=>rfl
theorem cM.PJ {xs:List V} {vs:List Value} (h:cM I μ xs vs) (B:∀x∈xs,V.one x=true):∀v∈vs,v.oneCell'=true:=by
 intro v hv;obtain⟨j,w,rfl⟩:=List.mem_iff_getElem.1 hv;have u:j<xs.length:=by rw[h.1];exact w
 exact(h.2 j xs[j] vs[j] (by simp[u]) (by simp[w])).one (B _ (List.getElem_mem u))
theorem Nf {b:Nat} {o:Obj} (h:w.heap[b]? = some o):fF w b o=w:=by
 unfold fF;have:w.heap.setIfInBounds b o=w.heap:=by
  apply Array.ext
  .simp
  intro i h1 u;obtain⟨z,e⟩:=Array.getElem?_eq_some_iff.1 h;rw[Array.getElem_setIfInBounds];split
  .subst_vars;rfl
  rfl
 rw[this]
theorem GJ {b o:Nat} {c:Array Value} {el:TypeId} {v:Value} (h:w.heap[b]? = some (.cells c el)) :
 w.setCell ⟨b,o,none⟩ v=fF w b (.cells (c.setIfInBounds o v) el):=by
 unfold World.setCell fF
 congr 1
 obtain⟨C,e⟩:=Array.getElem?_eq_some_iff.1 h;apply Array.ext
 .simp
 intro i h1 B
 by_cases z:i=b
 .subst z;simp[Array.getElem_modify,e]
 have u:i<w.heap.size:=by simpa using B
 rw[Array.getElem_modify_of_ne (Ne.symm z) _ (by simpa using u),Array.getElem_setIfInBounds]
 .simp[Ne.symm z]
 exact u
theorem og {b o:Nat} {el:TypeId}:∀(vs:List Value) (i:Nat) (w:World) (c:Array Value),w.heap[b]? = some (.cells c el)->(∀v∈vs,v.oneCell'=true)->o+i+vs.length<=c.size ->
 ∃c',(storeCells ⟨b,o,none⟩ vs i).run P w=.ok () (fF w b (.cells c' el))/\c'.toList=c.toList.take (o+i)++vs++c.toList.drop (o+i+vs.length):=by
 intro vs
 induction vs with
 | nil=>
  intro i w c h _ _;exact⟨c,by simp[storeCells,Nf h],by simp⟩
 | cons v vs G=>
  intro i w c h D I;simp only[List.length_cons]at I;have z:o+i<c.size:=by omega
  have u:w.cell? ⟨b,o+i,none⟩=some c[o+i]:=by rw[p9 h];simp[z]
  have C:w.frozen? ⟨b,o+i,none⟩=false:=by simp[World.frozen?,h]
  have J:=(Array.getElem?_eq_some_iff.1 h).1;obtain⟨c',g1,g2⟩:=G (i+1) (fF w b (.cells (c.setIfInBounds (o+i) v) el)) (c.setIfInBounds (o+i) v) (gu _ J) (λx L=>D x (List.mem_cons_of_mem _ L)) (by simp;omega)
  refine⟨c',?_,?_⟩
  .simp only[storeCells,Sem.run_bind,o5,run_store P w _ v _ (D v Zc),u,C,Bool.false_eq_true,if_false,Result.andThen_ok,GJ h]
   rw[g1,M3]
  rw[g2];have B:o+i<c.toList.length:=by simpa using z
  simp only[Array.toList_setIfInBounds,List.length_cons];rw[show o+(i+1)=o+i+1 from by omega,List.take_succ_eq_append_getElem (by simpa using B),List.take_set_of_le Za,List.getElem_set_self,List.drop_set_of_lt Za]
  simp[List.append_assoc];omega
structure BA (P:Program) (I:cw) (μ:Mu) (H:bl) (w:World) (s:Sem Next) (x:V) (H':bl):Prop where
 run:∃nx u w' μ',s.run P w=.ok nx w'/\(nx=.value u\/(nx=.skip/\u=undef))/\bJ I μ' x u/\cU I μ' H' w'/\Step I μ H w I μ' H' w'
theorem AI {α:Type} (L vs:List α) (o m k:Nat) (D:o+m<=L.length) (hk:k+vs.length<=m) :
 ((L.take (o+k)++vs++L.drop (o+k+vs.length)).drop o).take m=((L.drop o).take m).take k++vs++((L.drop o).take m).drop (k+vs.length):=by
 obtain⟨A,B,C,rfl,u,w⟩:∃A B C:List α,L=A++(B++C)/\A.length=o/\B.length=m:=
  ⟨L.take o,(L.drop o).take m,(L.drop o).drop m,by rw[List.take_append_drop,List.take_append_drop],by simp;omega,by simp;omega⟩
 subst u;subst w;have e1:(A++(B++C)).take (A.length+k)=A++B.take k:=by
  rw[List.take_append,List.take_of_length_le Za,Nat.add_sub_cancel_left,List.take_append_of_le_length Za]
 have e2:(A++(B++C)).drop (A.length+k+vs.length)=B.drop (k+vs.length)++C:=by
  rw[List.drop_append,List.drop_eq_nil_of_le Za,List.nil_append,List.drop_append_of_le_length Za]
  congr 2;omega
 have e3:((A++(B++C)).drop A.length).take B.length=B:=by simp
 rw[e1,e2,e3];simp only[List.append_assoc,List.drop_left];have z:(B.take k++(vs++B.drop (k+vs.length))).length=B.length:=by simp;omega
 have:B.take k++(vs++(B.drop (k+vs.length)++C))=(B.take k++(vs++B.drop (k+vs.length)))++C:=by simp[List.append_assoc]
 rw[this,<-z,List.take_left]
theorem fW.splice {p:Pl} {c c':Array Value} {es el off:Nat} {xs:List (List V)} {cs ys:List V} {vs:List Value} (r:fW I μ p c es xs) (B:xs[el]? = some cs) (U:cM I μ ys vs)
 (W:∀y∈ys,V.one y=true) (Y:off+ys.length<=cs.length) (hc:c'.toList=c.toList.take (p.o+el*es+off)++vs++c.toList.drop (p.o+el*es+off+vs.length)) :
 fW I μ p c' es (xs.set el (cs.take off++ys++cs.drop (off+ys.length))):=by
 obtain⟨k1,k2,k3⟩:=r.elem B;have D:=(ζe.1 B).1;have S:=U.1;have u:=r.room;have X:el*es+es<=xs.length*es:=by
  have:=Nat.mul_le_mul_right es (show el+1<=xs.length from D)
  rwa [Nat.add_mul,Nat.one_mul]at this
 have G:c'.size=c.size:=by
  have:=congrArg List.length hc;simp at this;omega
 have J:(cs.take off++ys++cs.drop (off+ys.length)).length=es:=by simp;omega
 have z:∀x∈xs.set el (cs.take off++ys++cs.drop (off+ys.length)),x∈xs\/x=cs.take off++ys++cs.drop (off+ys.length):=λx L=>List.mem_or_eq_of_mem_set L
 refine⟨r.es_eq,by rw[G];exact r.sz,?_,?_,by rw[G];simpa using u,?_⟩
 .intro x L;rcases z x L with h|h
  .exact r.oW x h
  rw[h];exact J
 .intro x L y w;rcases z x L with h|h
  .exact r.one x h y w
  rw[h]at w;have O:=r.one cs (List.mem_of_getElem? B);simp only[List.mem_append]at w;rcases w with (h|h)|h
  .exact O y (List.mem_of_mem_take h)
  .exact W y h
  exact O y (List.mem_of_mem_drop h)
 rw[Gg r.oW _ D J,hc,List.length_set];have C:=r.rel;have Q:=Dp r.oW B;have e:List.take (xs.length*es) (List.drop p.o (List.take (p.o+el*es+off) c.toList++vs++List.drop (p.o+el*es+off+vs.length) c.toList)) =
  (((c.toList.drop p.o).take (xs.length*es)).take (el*es+off))++vs++(((c.toList.drop p.o).take (xs.length*es)).drop (el*es+off+vs.length)):=by
  have:=AI c.toList vs p.o (xs.length*es) (el*es+off) (by simpa using u) Za
  simpa only[Nat.add_assoc]using this
 rw[e];have e2:xs.flatten.take (el*es)++(cs.take off++ys++cs.drop (off+ys.length))++xs.flatten.drop (el*es+es) =
  xs.flatten.take (el*es+off)++ys++xs.flatten.drop (el*es+off+ys.length):=by
  have T:=fM r.oW;have f1:xs.flatten.take (el*es+off)=xs.flatten.take (el*es)++cs.take off:=by
   rw[<-Q,List.take_add,List.take_take,Nat.min_eq_left Za]
  have f2:xs.flatten.drop (el*es+off+ys.length)=cs.drop (off+ys.length)++xs.flatten.drop (el*es+es):=by
   rw[<-Q,List.drop_take];have:xs.flatten.drop (el*es+es)=(xs.flatten.drop (el*es+(off+ys.length))).drop (es-(off+ys.length)):=by rw[List.drop_drop];congr 1;omega
   rw[this,List.drop_drop,List.take_append_drop,Nat.add_assoc]
  rw[f1,f2];simp[List.append_assoc]
 rw[e2,<-S];exact((C.take _).append U).append (C.drop _)
theorem NU (U:eG P E) (r:eE I μ n F a.tmps) (s:cU I μ H w) {t:TypeId} {p q:Operand} {x:V} (h:c9 E F H (.store t p q)=some (x,H')) :
 BA P I μ H w (do Instr.storeAt t (a.eval p) (a.eval q);pure .skip) x H':=by
 simp only[c9]at h;split at h
 .rename_i d id el off v W X Y;split at h
  .rename_i es Q z;split at h
   .rename_i D B;split at h
    .rename_i hc;obtain⟨Z,aa,G⟩:=hc;simp only[ζa,ζc]at h;obtain⟨rfl,rfl⟩:=h;obtain⟨pl,c,ty,g1,g2,g3,g4⟩:=s.obs id _ z;obtain⟨ab,S,e⟩:=(dy r X).sM;rw[g1]at S;cases S;have u:=(dy r Y).cells;have T:∀y∈v.cells,V.one y=true:=by simpa using G
     obtain⟨k1,k2,k3⟩:=g4.elem B;have J:=u.1;have hb:pl.o+el*es+off+0+(a.eval q).cells.toList.length<=c.size:=by omega
     obtain⟨c',f1,f2⟩:=og (P:=P) (o:=pl.o+el*es+off) (a.eval q).cells.toList 0 w c g3 (u.PJ T) hb;have C:fW I μ pl c' es (Q.set el (D.take off++v.cells++D.drop (off+v.cells.length))):=g4.splice B u T Za (by simpa using f2)
     have L:=(Array.getElem?_eq_some_iff.1 g3).1;obtain⟨s1,s2⟩:=s.write (ob':=.row es (Q.set el (D.take off++v.cells++D.drop (off+v.cells.length)))) (o:=.cells c' ty) z rfl g1
      ⟨pl,c',ty,g1,g2,gu _ L,C⟩
     refine⟨.skip,undef,_,μ,?_,.inr ⟨rfl,rfl⟩,.undef I μ,s1,s2⟩;rw[e];have O:¬((a.eval q).cells.size≠d.size):=by simp at J;omega
     rw[g4.es_eq];unfold Instr.storeAt storeVar;simp only[Sem.run_bind,Instr.sureAddr,Sem.run_pure,Result.andThen_ok,(U.ty W).ij,if_neg O,f1]
    simp at h
   simp at h
  simp at h
 simp at h
end
section
variable {P:Program} {E:Env} {I:cw} {μ:Mu} {H H':bl} {n:Nat} {F:Frame} {a:Act} {w:World}
theorem zq (s:cU I μ H w) {x:V} {v:Value} (Y:bJ I μ x v) {es:Nat} {ys:List (List V)} (h:dG H es x=some ys) :
 ∃D cap arr,v=.slice D ys.length cap/\ys.length<=cap/\(∀G:World,G.heap=w.heap->(Builtin.firstCells es ys.length v).run P G=.ok arr G)/\cM I μ ys.flatten arr.toList/\(∀y∈ys,y.length=es) /\
  (∀y∈ys,∀z∈y,V.one z=true):=by
 have B:∀(D:Option Addr) (cap:Nat) (G:World),G.heap=w.heap->(Builtin.firstCells es 0 (.slice D 0 cap)).run P G=.ok #[] G:=by
  intro D cap G _
  cases D with
  | none=>rfl
  | some D=>simp[Builtin.firstCells,loadCells,loadCellsFrom]
 cases x with
 | dD=>
  simp only[dG,ζa]at h;subst h;obtain⟨D,rfl⟩:=Y.rL;exact⟨D,0,#[],rfl,Nat.le_refl _,B D 0,.nil,by simp,by simp⟩
 | bK=>
  simp only[dG,ζa]at h;subst h;rw[Y.lN];exact⟨none,0,#[],rfl,Nat.le_refl _,B none 0,.nil,by simp,by simp⟩
 | fsl u L=>
  simp only[dG]at h;split at h
  .rename_i Z;simp only[ζa]at h;subst h;subst Z;have hf:=Y.lS
   cases hf with
   | fsl0 _ D cap=>exact⟨some D,cap,#[],rfl,Nat.zero_le _,B (some D) cap,.nil,by simp,by simp⟩
   | fsl _ _ b o cap c hI hc hu ho hb hr=>
    obtain⟨el,fr,aa⟩:=s.imm _ _ hI;refine⟨_,cap,((c.toList.drop o).take (L.length*u)).toArray,rfl,hc,?_,?_,hu,ho⟩
    .intro G O;simp only[Builtin.firstCells];exact uQ (p9 (w:=G) (by rw[O];exact aa)) (.inl hb)
    have S:=fM hu;refine⟨by simp[S];omega,λj p q h1 h2=>?_⟩
    have T:=(ζe.1 h1).1;rw[S]at T;have J:0<u:=by
     rcases Nat.eq_zero_or_pos u with h0|h0
     .rw[h0]at T;simp at T
     exact h0
    have hi:j / u<L.length:=(Nat.div_lt_iff_lt_mul J).2 T;have U:j % u<u:=Nat.mod_lt _ J;have W:=hu _ (List.getElem_mem hi);have e1:=uX hu (i:=j / u) (j:=j % u) (x:=L[j / u]) (y:=(L[j / u])[j % u]) (by simp[hi]) (by simp[W,U])
    have ej:j / u*u+j % u=j:=by rw[Nat.mul_comm,Nat.div_add_mod]
    rw[ej,h1]at e1;cases e1;simp only[List.getElem?_take,if_pos T,List.getElem?_drop]at h2;refine .c _ _ (hr (j / u) (j % u) L[j / u] _ q (by simp[hi]) (by simp[W,U]) ?_)
    rw[Nat.add_assoc,ej];simpa using h2
  simp at h
 | hsl id u off len=>
  simp only[dG]at h;split at h
  .rename_i Z;subst Z;split at h
   .rename_i Q L X;split at h
    .rename_i ab;simp only[ζa]at h;subst h;obtain⟨p,c,g1,g2,g3⟩:=s.rows X;have C:((L.drop off).take len).length=len:=by simp;omega
     rcases Y.lR with⟨q,cap,U,hq,hc,hb,e⟩|⟨h0,D,e⟩
     .rw[g1]at U;cases U;have J:Q=u:=by rw[<-g3.es_eq,hq]
      subst J;obtain⟨k1,k2⟩:=g3.span ab;refine⟨_,cap,((c.toList.drop (p.o+off*Q)).take (len*Q)).toArray,by rw[e,C],by omega,?_,by simpa using k1,?_,?_⟩
      .intro G O;rw[e,C];simp only[Builtin.firstCells];exact uQ (λk=>by rw[<-g2 k];simp[World.cell?,O]) (.inl k2)
      .exact λy hy=>g3.oW y (List.mem_of_mem_drop (List.mem_of_mem_take hy))
      exact λy hy=>g3.one y (List.mem_of_mem_drop (List.mem_of_mem_take hy))
     subst h0;simp only[List.take_zero]at C ⊢;exact⟨_,0,#[],by rw[e];rfl,Nat.le_refl _,by rw[e];exact B _ 0,.nil,by simp,by simp⟩
    simp at h
   simp at h
  simp at h
 | _=>simp[dG]at h
theorem pS (z:Array Value) (k:Nat):(Builtin.zeroCells z k).size=k*z.size:=by simp[Builtin.zeroCells]
theorem cU.drew (s:cU I μ H w):cU I μ H w.drew:=s.oF rfl
theorem Ax (s:cU I μ H w) {es B:Nat} {xs ys:List (List V)} {old new rest:Array Value} {el:TypeId} (Y:cM I μ xs.flatten old.toList) (hn:cM I μ ys.flatten new.toList)
 (G:∀x∈xs,x.length=es) (J:∀x∈ys,x.length=es) (U:∀x∈xs,∀y∈x,V.one y=true) (W:∀x∈ys,∀y∈x,V.one y=true)
 (D:xs.length+ys.length<=B) (hr:rest.size=(B-(xs.length+ys.length))*es) :
 ∃μ',bJ I μ' (.hsl H.length es 0 (xs.length+ys.length)) (.slice (some ⟨w.heap.size,0,none⟩) (xs.length+ys.length) B)/\cU I μ' (H++[.row es (xs++ys)]) (w.alloc (.cells (old++new++rest) el)) /\
  Step I μ H w I μ' (H++[.row es (xs++ys)]) (w.alloc (.cells (old++new++rest) el)):=by
 have L:=fM G;have O:=fM J;have z:=Y.1;have C:=hn.1;simp only[Array.length_toList]at z C;have Q:(old++new++rest).size=B*es:=by
  simp only[Array.size_append];rw[<-z,<-C,L,O,hr,<-Nat.add_mul,<-Nat.add_mul];congr 1;omega
 have u:(xs.length+ys.length)*es<=B*es:=Nat.mul_le_mul_right _ D;rw[Nat.add_mul]at u;have S:fW I μ ⟨w.heap.size,0,es,(old++new++rest).size⟩ (old++new++rest) es (xs++ys):=by
  refine⟨rfl,rfl,?_,?_,?_,?_⟩
  .intro x T;rcases List.mem_append.1 T with h|h;exact G x h;exact J x h
  .intro x T;rcases List.mem_append.1 T with h|h;exact U x h;exact W x h
  .rw[Q];simp only[ζi,Nat.zero_add,Nat.add_mul];exact u
  have e:((old++new++rest).toList.drop 0).take ((xs++ys).length*es)=old.toList++new.toList:=by
   simp only[List.drop_zero,Array.toList_append];rw[List.take_left' (by simp[<-z,<-C,L,O,Nat.add_mul])]
  rw[e,List.flatten_append];exact Y.append hn
 obtain⟨X,Z⟩:=s.push (ob:=.row es (xs++ys)) (o:=.cells (old++new++rest) el) (p:=⟨w.heap.size,0,es,(old++new++rest).size⟩) rfl
  ⟨_,_,el,Mu.gf _ _ _,s.x_,kI _,S.mono (cw.le_refl _) (Mu.qv (s.dom _ (Nat.le_refl _)))⟩
 refine⟨_,?_,X,Z⟩;have:=bJ.hsl (I:=I) H.length 0 (xs.length+ys.length) B _ (Mu.gf μ H.length ⟨w.heap.size,0,es,(old++new++rest).size⟩) D (by simp only[Nat.zero_add];rw[Q];exact Nat.le_refl _)
 simpa using this
theorem JV (s:cU I μ H w) {id:Nat} {ob ob':Ob} {p p':Pl} {o:Obj} (B:H[id]? = some ob) (U:ob.live=true) (W:μ id=some p) (hb:p'.b=p.b)
 (aa:rS I (μ.gD H.length p') (fF w p.b o) H.length ob') (hz:Obj.nf o:=by first|exact tc _ _|exact qT rfl):cU I (μ.gD H.length p') (H.set id .dead++[ob']) (fF w p.b o)/\Step I μ H w I (μ.gD H.length p') (H.set id .dead++[ob']) (fF w p.b o):=by
 have ab:=(ζe.1 B).1;have z:g_ μ H p.b:=⟨id,p,ob,B,U,W,rfl⟩;have hk:=s.dom H.length (Nat.le_refl _);have u:∀k x,(H.set id .dead++[ob'])[k]? = some x->(k=H.length/\x=ob')\/(k≠H.length/\k=id/\x=.dead)\/(k≠H.length/\k≠id/\H[k]? = some x):=by
  intro k x h
  by_cases e:k<H.length
  .rw[List.getElem?_append_left (by simpa using e)]at h
   by_cases D:k=id
   .subst D;rw[List.getElem?_set_self ab]at h;cases h;exact .inr (.inl ⟨by omega,rfl,rfl⟩)
   rw[List.getElem?_set_ne (Ne.symm D)]at h;exact .inr (.inr ⟨by omega,D,h⟩)
  have:=(ζe.1 h).1;simp at this;have e2:k=H.length:=by omega
  subst e2;simp at h;exact .inl ⟨rfl,h.symm⟩
 have C:∀b,g_ (μ.gD H.length p') (H.set id .dead++[ob']) b->g_ μ H b:=by
  rintro b ⟨k,q,x,h1,Q,T,rfl⟩;rcases u k x h1 with⟨rfl,rfl⟩|⟨_,_,rfl⟩|⟨e,D,h⟩
  .rw[Mu.gf]at T;cases T;rw[hb];exact z
  .simp[Ob.live]at Q
  rw[Mu.iG _ _ e]at T;exact⟨k,q,x,h,Q,T,rfl⟩
 refine⟨⟨?_,?_,?_,?_,s.gl⟩,⟨cw.le_refl _,Mu.qv hk,by simp,by rw[qV];exact Nat.le_refl _,?_,?_,rfl,⟨rfl,rfl,Nat.le_refl _⟩,λa _=>BW (b:=p.b) hz (gu o (mT s z)) (λk hk=>eU o hk) a⟩⟩
 .intro k h;simp at h;rw[Mu.iG _ _ Za]
  exact s.dom k Za
 .intro b x h;refine IC.qZ (s.imm b x h) (eU o ?_);intro G;rw[G,fU s z]at h;cases h
 .intro k x h;rcases u k x h with⟨rfl,rfl⟩|⟨_,_,rfl⟩|⟨e,D,h⟩
  .exact aa
  .trivial
  refine(s.obs k x h).mono (cw.le_refl _) (Mu.qv hk) (λq hq S=>⟨eU o ?_,fU s ⟨k,q,x,h,S,hq,rfl⟩⟩) (λhe=>?_)
  .intro G;exact D (s.inj k id x ob q p h B S U hq W G)
  subst he;rw[Mu.iG _ _ e];exact s.obs k _ h
 .intro k X x Y q q' h1 Q l1 Z L O J;rcases u k x h1 with⟨rfl,rfl⟩|⟨_,_,rfl⟩|⟨e,D,h⟩
  .rcases u X Y Q with⟨rfl,rfl⟩|⟨_,_,rfl⟩|⟨f,f',g⟩
   .rfl
   .simp[Ob.live]at Z
   rw[Mu.gf]at L;cases L;rw[Mu.iG _ _ f]at O;exact absurd (s.inj X id Y ob q' p g B Z U O W (by rw[<-J,hb])) f'
  .simp[Ob.live]at l1
  rcases u X Y Q with⟨rfl,rfl⟩|⟨_,_,rfl⟩|⟨f,f',g⟩
  .rw[Mu.gf]at O;cases O;rw[Mu.iG _ _ e]at L;exact absurd (s.inj k id x ob q p h B l1 U L W (by rw[J,hb])) D
  .simp[Ob.live]at Z
  rw[Mu.iG _ _ e]at L;rw[Mu.iG _ _ f]at O;exact s.inj k X x Y q q' h g l1 Z L O J
 .intro b _ hn;refine eU o ?_;rintro rfl;exact hn z
 intro b h;rcases h with h|h
 .exact .inl h
 exact .inr (.inl (C b h))
end
section
variable {P:Program} {E:Env} {I:cw} {μ:Mu} {H H':bl} {n:Nat} {F:Frame} {a:Act} {w:World}
theorem CZ (hE:eG P E) {t t' e:TypeId} {d:TD} {D:TypeDesc} (ht:P.underlying t=some (.slice e)) (W:P.underlying t'=some D) (Y:∃e',D=.slice e') (hd:E.tt e=some d)
 (U J:Option Addr) (sl sc B xc:Nat) (new:Array Value) (aa:(Builtin.firstCells d.size B (.slice J B xc)).run P w=.ok new w) (ty:TypeId) :
 (sl+B<=sc->∀w',(match U with|some b=>(storeCells (b.add (sl*d.size)) new.toList).run P w=.ok () w'|none=>w'=w) ->
  (Builtin.append_ #[t,t'] ty #[.slice U sl sc,.slice J B xc]).run P w=.ok (.slice U (sl+B) sc) w') /\
 (sc<sl+B->sl+B<=2147483648->d.bytes<=4096->0<d.bytes->∀old,(∀O,O.heap=w.heap->(Builtin.firstCells d.size sl (.slice U sl sc)).run P O=.ok old O) ->
  (∀O,O.heap=w.heap->(Builtin.firstCells d.size B (.slice J B xc)).run P O=.ok new O) ->
  ∃G rest,sl+B<=G/\rest.size=(G-(sl+B))*d.size /\
   (Builtin.append_ #[t,t'] ty #[.slice U sl sc,.slice J B xc]).run P w=.ok (.slice (some ⟨w.heap.size,0,none⟩) (sl+B) G) (w.drew.alloc (.cells (old++new++rest) e))):=by
 obtain⟨i,z,L,ab,ah,hz,Q,ai,_⟩:=(hE.ty hd).info;have u:∀w,(zeroValue e).run P w=.ok z w:=λw=>by simp[zeroValue,oe L,hz]
 have S:z.cells.size=d.size:=by have:=(Q (λ_=>none) (λ_=>none)).1;grind
 obtain⟨e',rfl⟩:=Y;constructor
 .intro T w' aj;unfold Builtin.append_;simp only[Sem.run_bind,List.getElem?_toArray,List.getElem?_cons_zero,List.getElem?_cons_succ,dB ht,dB W,Result.andThen_ok,(hE.ty hd).ij,Sem.run_pure,Builtin.lenOf,Bool.false_eq_true,if_false,Bool.not_false,if_true,if_pos T,aa]
  cases U with
  | none=>simp_all
  | some b=>simp_all
 intro X ae ak af old hold C;have Z  := nextslicecap_le X;have c1:¬(Builtin.nextslicecap (sl+B) sc*i.bytes>2 ^ 48):=by
  have:Builtin.nextslicecap (sl+B) sc*i.bytes<=(2*2147483648)*4096:=Nat.mul_le_mul Za Za
  omega
 have I:¬(sl+B<=sc):=by omega
 refine⟨(Question.appendCap (sl+B) sc e).cut (w.tape w.drawn (Question.appendCap (sl+B) sc e)),Builtin.zeroCells z.cells (((Question.appendCap (sl+B) sc e).cut (w.tape w.drawn (Question.appendCap (sl+B) sc e)))-(sl+B)),?_,?_,?_⟩
 .simp[Question.cut]
 .rw[pS,S]
 unfold Builtin.append_;simp only[Sem.run_bind,List.getElem?_toArray,List.getElem?_cons_zero,List.getElem?_cons_succ,dB ht,dB W,Result.andThen_ok,(hE.ty hd).ij,Sem.run_pure,Builtin.lenOf,Bool.false_eq_true,if_false,Bool.not_false,if_true,if_neg I,oe L];rw[if_neg Zd]
 simp only[Sem.run_bind,oe L,if_neg c1,run_choose,Question.forced,Bool.false_eq_true,if_false,Result.andThen_ok,run_askRoom,u,newRow,run_newObj,Sem.run_pure];rw[hold { w with drawn:=w.drawn+1 } rfl];simp only[Result.andThen_ok];rw[C { w with drawn:=w.drawn+1 } rfl];rfl
theorem wrap_small {m:Nat} (h:m<=2147483648):IntKind.i64.wrap (m:Int)=m:=by simp[IntKind.wrap,IntKind.bits];omega
theorem Ei (U:eG P E) {t W e:TypeId} {d:TD} {kk k:IntKind} (ht:P.underlying t=some (.slice e)) (G:P.underlying W=some (.int kk)) (Y:E.tt e=some d) (ty:TypeId) (m:Nat) (D:m<=2147483648) :
 (m=0->(Builtin.append_ #[t,W] ty #[.slice none 0 0,.int k m]).run P w=.ok (.slice none 0 0) w) /\
 (0<m->d.bytes<=4096->0<d.bytes->∃B z rest,m<=B/\rest.size=(B-m)*d.size/\cM I μ d.zero z.toList /\
  (Builtin.append_ #[t,W] ty #[.slice none 0 0,.int k m]).run P w=.ok (.slice (some ⟨w.heap.size,0,none⟩) m B) (w.drew.alloc (.cells (#[]++Builtin.zeroCells z m++rest) e))):=by
 obtain⟨i,z,Q,Z,ad,hz,C,ae,_⟩:=(U.ty Y).info;have u:∀w,(zeroValue e).run P w=.ok z w:=λw=>by simp[zeroValue,oe Q,hz]
 have J:z.cells.size=d.size:=by have:=(C (λ_=>none) (λ_=>none)).1;grind
 have hw:=wrap_small D;constructor
 .rintro rfl;unfold Builtin.append_;have S:IntKind.i64.wrap 0=0:=by omega
  simp[dB ht,dB G,(U.ty Y).ij,asInt,oe Q,lG,S]
 intro aa af ab;have T:Builtin.nextslicecap (0+m) 0<=2*(0+m):=nextslicecap_le Za
 have c1:¬(Builtin.nextslicecap (0+m) 0*i.bytes>2 ^ 48):=by
  have:Builtin.nextslicecap (0+m) 0*i.bytes<=(2*2147483648)*4096:=Nat.mul_le_mul Za Za
  omega
 have c0:¬(m*(i.bytes:Int)>2 ^ 48):=by
  have h1:m*i.bytes<=2147483648*4096:=Nat.mul_le_mul D Za
  grind
 have c2:¬((0+m:Nat)>IntKind.i64.max):=by
  have:IntKind.i64.max=9223372036854775807:=by rfl
  omega
 have L:¬(0+m<=0):=by omega
 have O:¬((m:Int)<0):=by omega
 refine⟨(Question.appendCap (0+m) 0 e).cut (w.tape w.drawn (Question.appendCap (0+m) 0 e)),z.cells,Builtin.zeroCells z.cells (((Question.appendCap (0+m) 0 e).cut (w.tape w.drawn (Question.appendCap (0+m) 0 e)))-(0+m)),?_,?_,C _ _,?_⟩
 .simp[Question.cut]
 .rw[pS,J,Nat.zero_add]
 unfold Builtin.append_;have X:(if m*d.size=0 then pure #[]else do pure (Builtin.zeroCells (<-zeroValue e).cells m))=(do pure (Builtin.zeroCells (<-zeroValue e).cells m))\/(m*d.size=0/\Builtin.zeroCells z.cells m=#[]):=by
  by_cases h:m*d.size=0
  .right;exact⟨h,Array.eq_empty_of_size_eq_zero (by rw[pS,J,h])⟩
  left;rw[if_neg h]
 simp only[Sem.run_bind,List.getElem?_toArray,List.getElem?_cons_zero,List.getElem?_cons_succ,dB ht,dB G,Result.andThen_ok,(U.ty Y).ij,Sem.run_pure,if_true,asInt,lG,hw,if_neg O,oe Q,if_neg c0,Int.toNat_natCast,if_neg L,if_false];rw[if_neg (λh=>c2 h.1)]
 simp only[Sem.run_bind,oe Q,if_neg c1,run_choose,Question.forced,Result.andThen_ok,u,newRow,Builtin.firstCells];rcases X with h|⟨h,h'⟩
 .rw[h];simp[u,run_newObj]
 rw[if_pos h,h'];simp[run_newObj]
theorem Nc (hE:eG P E) (r:eE I μ n F a.tmps) (s:cU I μ H w) {args:Array Operand} {U:Array TypeId} {x:V} {ty:TypeId}
 (h:c9 E F H (.call { callee:=.builtin .append,args,argTypes:=U })=some (x,H')) :
 BA P I μ H w (do let d <-resolve a.eval { callee:=.builtin .append,args,argTypes:=U } ty;invoke d.target d.args) x H':=by
 simp[c9]at h;split at h
 .rename_i t t' vs vx ay aj;obtain⟨us,ux,W,hs,T⟩:=(nj r aj).two;split at h
  .rename_i e e' hk ak;obtain⟨d0,al,am⟩:=fB hk;obtain⟨desc,h1,h2,h3⟩:=(hE.ty al).dB;rw[am]at h2;have:=jd h2;subst this;obtain⟨d1,iN,X⟩:=fB ak;obtain⟨an,g1,g2,g3⟩:=(hE.ty iN).dB;rw[X]at g2;have:=jd g2;subst this;have C:∀v w',(Builtin.append_ #[t,t'] ty #[us,ux]).run P w=.ok v w' ->
    (do let d <-resolve a.eval { callee:=.builtin .append,args,argTypes:=U } ty;invoke d.target d.args).run P w=.ok (.value v) w':=by
    simp[resolve,Sem.run_bind,Sem.run_pure,Result.andThen_ok,invoke,builtin];rw[rF W];have ea:U=#[t,t']:=by grind
    simp_all
   split at h
   .rename_i d hd;split at h
    .
     rename_i xs B ao;obtain⟨ad,cap,arr,e1,e2,e3,e4,_⟩:=zq (P:=P) s hs B;obtain⟨ap,Y,D,f1,f2,f3,f4,_⟩:=zq  s T ao;simp  at f1 f3;have aA:D=#[]:=by
      have:=f4.1;grind
     have f3:=f3 w rfl;rw[f1]at f3;have key:=(CZ hE h1 g1 ⟨_,rfl⟩ hd ad ap xs.length cap 0 Y D f3 ty).1 Za w
      (by
       cases ad with
       | none=>rfl
       | some b=>simp[aA,storeCells])
     rw[<-f1,<-e1,Nat.add_zero,<-e1]at key;have aq:x=vs/\H'=H:=by
      grind
     obtain⟨rfl,rfl⟩:=aq;exact⟨_,us,w,μ,C _ _ key,.inl rfl,hs,s,.refl _ _ _ _⟩
    .rename_i xs ys aH B ao;obtain⟨ad,cap,arr,e1,e2,e3,e4,e5,e6⟩:=zq  s hs B;obtain⟨ap,Y,D,f1,f2,f3,f4,f5,f6⟩:=zq  s T ao;split at h
     .rename_i hc;obtain⟨aB,ar,au⟩:=hc;have aI:0<ys.length:=by
       rcases Nat.eq_zero_or_pos ys.length with h0|h0
       .exact absurd (List.eq_nil_of_length_eq_zero h0) aH
       exact h0
      have key:=CZ hE h1 g1 ⟨_,rfl⟩ hd ad ap xs.length cap ys.length Y D (by rw[<-f1];exact f3 w rfl) ty
      rw[<-f1,<-e1]at key;have Q:cap<xs.length+ys.length->∃G rest,xs.length+ys.length<=G/\rest.size=(G-(xs.length+ys.length))*d.size /\
       (Builtin.append_ #[t,t'] ty #[us,ux]).run P w=.ok (.slice (some ⟨w.heap.size,0,none⟩) (xs.length+ys.length) G) (w.drew.alloc (.cells (arr++D++rest) e)):=by
       intro av;refine key.2 av aB ar au arr ?_ ?_
       .intro w2 aw;exact e3 w2 aw
       intro w2 aw;exact f3 w2 aw
      simp  at h;obtain⟨H1,L,rfl,rfl⟩:=h
      cases vs with
      | dD=>
       simp[gH]at L;subst L;simp[dG]at B;subst B;obtain⟨aJ,q⟩:=hs.rL;have ah:cap=0:=by rw[q]at e1;cases e1;rfl
       obtain⟨G,rest,k1,k2,k3⟩:=Q (by simp;omega)
       obtain⟨μ',m1,m2,m3⟩:=Ax  s.drew e4 f4 e5 f5 e6 f6 k1 k2;refine⟨_,_,_,μ',C _ _ k3,.inl rfl,m1,m2,?_⟩;exact Step.trans s.drew (Step.oF rfl rfl ⟨rfl,rfl,Nat.le_succ _⟩) m3
      | bK=>
       simp[gH]at L;subst L;simp[dG]at B;subst B;have q:=hs.lN;have ah:cap=0:=by rw[q]at e1;cases e1;rfl
       obtain⟨G,rest,k1,k2,k3⟩:=Q (by simp;omega)
       obtain⟨μ',m1,m2,m3⟩:=Ax  s.drew e4 f4 e5 f5 e6 f6 k1 k2;refine⟨_,_,_,μ',C _ _ k3,.inl rfl,m1,m2,?_⟩;exact Step.trans s.drew (Step.oF rfl rfl ⟨rfl,rfl,Nat.le_succ _⟩) m3
      | hsl id es off len=>
       simp[gH]at L;split at L
       .rename_i u aK ae;simp  at L;subst L;have aC:(H[id]?).bind Ob.rows=some (u,aK):=by rw[ae];rfl
        have aX:=B;simp only[dG]at B;split at B
        .rename_i aL;rw[aC]at B;simp only at B;split at B
         .rename_i aM;simp  at B;obtain⟨p,c,aD,q1,q2,q3,q4⟩:=s.obs id _ ae;have Z:xs.length=len:=by rw[<-B];simp;omega
          have J:cap<xs.length+ys.length->BA P I μ H w (do let d <-resolve a.eval { callee:=.builtin .append,args,argTypes:=U } ty;invoke d.target d.args)
           (.hsl H.length d.size 0 (xs.length+ys.length)) (H.set id .dead++[.row d.size (xs++ys)]):=by
           intro av;obtain⟨G,rest,k1,k2,k3⟩:=Q av;obtain⟨s1,s2⟩:=s.drew.kill ae;obtain⟨μ',m1,m2,m3⟩:=Ax  s1 e4 f4 e5 f5 e6 f6 k1 k2;rw[List.length_set]at m1;exact⟨_,_,_,μ',C _ _ k3,.inl rfl,m1,m2,Step.trans s.drew (Step.oF rfl rfl ⟨rfl,rfl,Nat.le_succ _⟩) (Step.trans s1 s2 m3)⟩
          rcases hs.lR with⟨p',S,hm,aN,aY,aO,ee⟩|⟨h0,aJ,ee⟩
          .rw[q1]at hm;cases hm;have ax:S=cap/\ad=some ⟨p.b,p.o+off*es,none⟩:=by rw[ee]at e1;cases e1;exact⟨rfl,rfl⟩
           obtain⟨rfl,rfl⟩:=ax
           by_cases ai:xs.length+ys.length<=S
           .have aE:u=es:=by rw[<-q4.es_eq,aN]
            subst aE;have O  := aL;obtain⟨r1,r2⟩:=q4.span aM;rw[B]at r1;have af:=f4.1;simp only[Array.length_toList]at af;rw[fM f5]at af;have aP:(len+ys.length)*u<=S*u:=Nat.mul_le_mul_right _ Za
            rw[Nat.add_mul]at aP;rw[Nat.add_mul]at aO;have aQ:=q4.sz;rw[<-O]at af;have aa:p.o+off*u+len*u+0+D.toList.length<=c.size:=by simp;omega
            obtain⟨c',u1,u2⟩:=og   D.toList 0 w c q3 (f4.PJ (λx T=>by
             obtain⟨l,hl,aR⟩:=List.mem_flatten.1 T;exact f6 l hl x aR)) aa
            have aF:c'.size=c.size:=by
             have:=congrArg List.length u2;simp at this aa;omega
            have aG:=key.1 ai (fF w p.b (.cells c' aD)) (by
             simp[o5,Z];rw[<-O];exact u1)
            have ab:fW I μ ⟨p.b,p.o+off*u,u,p.sz⟩ c' u (xs++ys):=by
             refine⟨rfl,by rw[aF];exact aQ,?_,?_,?_,?_⟩
             .intro x T;rcases List.mem_append.1 T with h|h;exact(e5 x h).trans O.symm;exact(f5 x h).trans O.symm
             .intro x T;rcases List.mem_append.1 T with h|h;exact e6 x h;exact f6 x h
             .rw[aF,ζi,Z,Nat.add_mul];simp only;omega
             have e:(c'.toList.drop (p.o+off*u)).take ((xs++ys).length*u)=(c.toList.drop (p.o+off*u)).take (len*u)++D.toList:=by
              rw[u2,ζi,Z,Nat.add_mul,af];simp only[Nat.add_zero];have aS:(List.take (p.o+off*u+len*u) c.toList).length=p.o+off*u+len*u:=by simp;omega
              rw[List.append_assoc,List.drop_append_of_le_length (by rw[aS];omega),List.drop_take,show p.o+off*u+len*u-(p.o+off*u)=len*u by omega]
              have aT:(List.take (len*u) (List.drop (p.o+off*u) c.toList)).length=len*u:=by simp;omega
              rw[<-List.append_assoc,List.take_left' (by rw[ζi,aT];simp)]
             rw[e,List.flatten_append];exact r1.append f4
            obtain⟨s1,s2⟩:=JV (ob':=.row u (xs++ys)) (p':=⟨p.b,p.o+off*u,u,p.sz⟩)  s ae rfl q1 rfl
             ⟨_,c',aD,Mu.gf _ _ _,q2,gu _ (Array.getElem?_eq_some_iff.1 q3).1,ab.mono (cw.le_refl _) (Mu.qv (s.dom _ (Nat.le_refl _)))⟩
            rw[<-O];refine⟨_,_,_,_,C _ _ aG,.inl rfl,?_,s1,s2⟩;have:=bJ.hsl (I:=I) H.length 0 (xs.length+ys.length) S _ (Mu.gf μ H.length ⟨p.b,p.o+off*u,u,p.sz⟩) ai (by simp ;omega)
            simpa using this
           exact J Za
          have ah  := by rw[ee]at e1;simp[Value.slice.injEq]at e1;exact e1.2.2.symm
          exact J Za
         simp at B
        simp at B
       simp at L
      | _=>simp[gH]at L
     grind
    grind
   grind
  .
   rename_i e kk hk ak;obtain⟨d0,al,am⟩:=fB hk;obtain⟨desc,h1,h2,h3⟩:=(hE.ty al).dB;rw[am]at h2;have:=jd h2;subst this;obtain⟨d1,iN,X⟩:=fB ak;obtain⟨an,g1,g2,g3⟩:=(hE.ty iN).dB;rw[X]at g2;have:=CL g2;subst this;have C:∀v w',(Builtin.append_ #[t,t'] ty #[us,ux]).run P w=.ok v w' ->
    (do let d <-resolve a.eval { callee:=.builtin .append,args,argTypes:=U } ty;invoke d.target d.args).run P w=.ok (.value v) w':=by
    intro v w' hv;simp[resolve,Sem.run_bind,Sem.run_pure,Result.andThen_ok,invoke,builtin];rw[rF W];have ea:U=#[t,t']:=by apply Array.ext';simpa using ay
    rw[ea,hv];rfl
   split at h
   .rename_i d hd;unfold mkApp at h;split at h
    .rename_i k m;have q:=hs.lN;subst q;have q:=T.fC;subst q;split at h
     .rename_i h0;subst h0;cases h;have key:=(Ei (μ:=μ) (I:=I) (w:=w) (k:=k) hE h1 g1 hd ty 0 Za).1 rfl
      exact⟨_,_,w,μ,C _ _ key,.inl rfl,hs,s,.refl _ _ _ _⟩
     split at h
     .rename_i hc;obtain⟨aU,aB,ar,au⟩:=hc;cases h;obtain⟨m,rfl⟩:=Int.eq_ofNat_of_zero_le (Int.le_of_lt aU);obtain⟨G,z,rest,k1,k2,k3,k4⟩:=(Ei     hE h1 g1 hd ty m Za).2 Za ar au
      have aV  := (hE.ty hd).info.choose_spec.choose_spec.2.2.2.2.2.1;have aW  := (hE.ty hd).info.choose_spec.choose_spec.2.2.2.2.2.2.1;have hu:∀x∈List.replicate m d.zero,x.length=d.size:=λx T=>by rw[List.eq_of_mem_replicate T];exact aV
      have ho:∀x∈List.replicate m d.zero,∀y∈x,V.one y=true:=λx T y hy=>by rw[List.eq_of_mem_replicate T]at hy;exact List.all_eq_true.1 aW y hy
      obtain⟨μ',m1,m2,m3⟩:=Ax  (xs:=[]) (ys:=List.replicate m d.zero) (old:=#[]) (new:=Builtin.zeroCells z m) (rest:=rest) s.drew .nil (vO k3 m) Zc hu Zc ho (by simpa using k1) (by simpa using k2)
      simp  at m1 m2 m3;refine⟨_,_,_,μ',C _ _ k4,.inl rfl,by simpa using m1,by simpa using m2,?_⟩
      exact Step.trans s.drew (Step.oF rfl rfl ⟨rfl,rfl,Nat.le_succ _⟩) (by simpa using m3)
     cases h
    cases h
   cases h
  grind
 grind
theorem zJ {es:Nat} {xs:List (List V)} (hu:∀x∈xs,x.length=es) (k:Nat) (hk:k<=xs.length):(xs.take k).flatten=xs.flatten.take (k*es)/\(xs.drop k).flatten=xs.flatten.drop (k*es):=by
 have u:xs.flatten=(xs.take k).flatten++(xs.drop k).flatten:=by rw[<-List.flatten_append,List.take_append_drop]
 have g1:(xs.take k).flatten.length=k*es:=by
  rw[fM (λx u=>hu x (List.mem_of_mem_take u)),List.length_take,Nat.min_eq_left hk]
 grind
theorem Pj (hE:eG P E) (r:eE I μ n F a.tmps) (s:cU I μ H w) {args:Array Operand} {D:Array TypeId} {x:V} {ty:TypeId}
 (h:c9 E F H (.call { callee:=.builtin .clear,args,argTypes:=D })=some (x,H')) :
 BA P I μ H w (do let d <-resolve a.eval { callee:=.builtin .clear,args,argTypes:=D } ty;invoke d.target d.args) x H':=by
 simp[c9]at h;split at h
 .rename_i t v af O;obtain⟨u,hu,hr⟩:=(nj r O).one;split at h
  .rename_i e hk;obtain⟨d0,ah,ai⟩:=fB hk;obtain⟨desc,h1,h2,h3⟩:=(hE.ty ah).dB;rw[ai]at h2;have:=jd h2;split at h
   .rename_i d hd;obtain⟨i,z,hi,au,aw,hz,T,aj,ak,_⟩:=(hE.ty hd).info;have al:∀w,(zeroValue e).run P w=.ok z w:=λw=>by simp[zeroValue,oe hi,hz]
    have am:z.cells.size=d.size:=by have:=(T (λ_=>none) (λ_=>none)).1;grind
    have L:∀v w',(Builtin.clear_ D ty #[u]).run P w=.ok v w' ->
     (do let d <-resolve a.eval { callee:=.builtin .clear,args,argTypes:=D } ty;invoke d.target d.args).run P w=.ok (.value v) w':=by
     intro v w' hv;simp[resolve,Sem.run_bind,Sem.run_pure,Result.andThen_ok,invoke,builtin];rw[rF hu,hv];rfl
    have U:∀W cap,u=.slice W 0 cap->BA P I μ H w (do let d <-resolve a.eval { callee:=.builtin .clear,args,argTypes:=D } ty;invoke d.target d.args) .undef H:=λW cap q=>by
     subst q;refine⟨_,.tuple #[],w,μ,L (.tuple #[]) w ?_,.inl rfl,bJ.undef _ _,s,.refl _ _ _ _⟩;unfold Builtin.clear_;cases W <;> simp[af,h3]
    unfold CW at h;split at h
    .cases h;exact U _ _ hr.lN
    .obtain⟨W,q⟩:=hr.rL;grind
    .rename_i id es off len;split at h
     .rename_i Q;subst Q;split at h
      .rcases hr.lR with⟨p,cap,_,_,_,_,q⟩|⟨_,W,q⟩
       .grind
       grind
      rename_i len;split at h
      .rename_i an S X;split at h
       .rename_i Y;cases h;obtain⟨p,c,el,hp,hI,C,B⟩:=s.obs id _ X;rcases hr.lR with⟨q,cap,hq,ao,av,ap,rfl⟩|⟨h0,_⟩
        .rw[hp]at hq;cases hq;have Q:an=d.size:=by rw[<-B.es_eq,ao]
         subst Q;have J:(Builtin.zeroCells z.cells (len+1)).size=(len+1)*d.size:=by rw[pS,am]
         have ax:=B.room;have Z:(off+(len+1))*d.size<=S.length*d.size:=Nat.mul_le_mul_right _ Y;rw[Nat.add_mul]at Z;have G:=vO   (T I μ) (len+1);have aq:∀x∈List.replicate (len+1) d.zero,x.length=d.size:=λx hx=>by rw[List.eq_of_mem_replicate hx];exact aj
         have aa:∀x∈List.replicate (len+1) d.zero,∀y∈x,V.one y=true:=λx hx y hy=>by rw[List.eq_of_mem_replicate hx]at hy;exact List.all_eq_true.1 ak y hy
         obtain⟨c',u1,u2⟩:=og (P:=P) (o:=p.o+off*d.size) (Builtin.zeroCells z.cells (len+1)).toList 0 w c C (cM.PJ G (λx hx=>by
          obtain⟨l,hl,ar⟩:=List.mem_flatten.1 hx;exact aa l hl x ar)) (by simp[J];omega)
         rw[Nat.add_zero]at u2;have ab:c'.size=c.size:=by
          have:=congrArg List.length u2;simp[J]at this;omega
         obtain⟨s2,st2⟩:=s.write  (ob':=.row d.size (S.take off++List.replicate (len+1) d.zero++S.drop (off+(len+1)))) X rfl hp
          ⟨p,c',el,hp,hI,gu _ (Array.getElem?_eq_some_iff.1 C).1,by
           have ae:(S.take off++List.replicate (len+1) d.zero++S.drop (off+(len+1))).length=S.length:=by simp;omega
           refine⟨B.es_eq,by rw[ab];exact B.sz,?_,?_,by rw[ae,ab];exact B.room,?_⟩
           .intro x hx;rcases List.mem_append.1 hx with hx|hx
            .rcases List.mem_append.1 hx with hx|hx
             .exact B.oW x (List.mem_of_mem_take hx)
             exact aq x hx
            exact B.oW x (List.mem_of_mem_drop hx)
           .intro x hx;rcases List.mem_append.1 hx with hx|hx
            .rcases List.mem_append.1 hx with hx|hx
             .exact B.one x (List.mem_of_mem_take hx)
             exact aa x hx
            exact B.one x (List.mem_of_mem_drop hx)
           rw[ae,u2];have hL:=AI c.toList (Builtin.zeroCells z.cells (len+1)).toList p.o (S.length*d.size) (off*d.size) (by simp;omega) (by simp[J];omega)
           rw[hL,List.flatten_append,List.flatten_append,(zJ B.oW off Za).1,(zJ B.oW _ Y).2]
           have e:off*d.size+(Builtin.zeroCells z.cells (len+1)).toList.length=(off+(len+1))*d.size:=by simp[J,Nat.add_mul]
           rw[e];exact((B.rel.take _).append G).append (B.rel.drop _)⟩
         refine⟨_,.tuple #[],_,μ,L (.tuple #[]) (fF w p.b (.cells c' el)) ?_,.inl rfl,bJ.undef _ _,s2,st2⟩;unfold Builtin.clear_;simp_all
        simp_all
       simp_all
      simp_all
     simp_all
    simp_all
   simp_all
  simp_all
 simp_all
end
section
variable {P:Program} {E:Env} {I:cw} {μ:Mu} {H H':bl} {n:Nat} {F:Frame} {a:Act} {w:World}
theorem Vv (s t:ByteArray) (h:(s==t)=true):s=t:=by
 cases s with|mk a=>cases t with|mk b=>
 have u:(a==b)=true:=h
 grind
inductive xD (P:Program) (E:Env) (t:TypeId):V->Value->Prop
 | int (k:IntKind) (m:Int) (h:P.underlying t=some (.int k)):xD P E t (.int k m) (.int k m)
 | str (s:ByteArray) (h:P.underlying t=some .string):xD P E t (.str s) (.string s)
 | agg (m:Nat) (cs:List V) (l:List Int) (h:sF P t m) (hl:l.length=m) (hi:iA cs=some l):xD P E t (.agg cs) (.agg (ic l))
theorem MA (B:eG P E) {t:TypeId} {k:V} {v:Value} (h:vH E t k=true) (hv:bJ I μ k v):xD P E t k v:=by
 unfold vH at h;split at h
 .rename_i k1 k2 m hk;obtain⟨d,z,u⟩:=fB hk;obtain⟨desc,h1,w,J⟩:=(B.ty z).dB;rw[u]at w;have:=CL w;subst this;have e:k1=k2:=by grind
  subst e;rw[hv.fC];exact .int _ _ h1
 next s hk=>obtain⟨d,z,u⟩:=fB hk;obtain⟨desc,h1,w,J⟩:=(B.ty z).dB;rw[u]at w;have:=zU w;subst this;rw[hv.sH];exact .str _ h1
 .rename_i L _;split at h
  next m C=>simp[Option.isSome_iff_exists]at h;obtain⟨O,l,G⟩:=h;obtain⟨Q,rfl,D⟩:=hv.iF;obtain⟨rfl,e⟩:=qa G D;exact .agg m L l (B.eqN _ _ C) Za G
  grind
 grind
theorem M8 (d:Nat) (e:Bool) {t:TypeId} {k:IntKind} {m:Int} (h:P.underlying t=some (.int k)):(Instr.checkKey e (d+1) t (.int k m)).run P w=.ok () w:=by
 simp[Instr.checkKey,Sem.run_bind,dB h,Result.andThen_ok,Sem.run_pure]
theorem Mg (d:Nat) (e:Bool) {t:TypeId} {m:ByteArray} (h:P.underlying t=some .string):(Instr.checkKey e (d+1) t (.string m)).run P w=.ok () w:=by
 simp[Instr.checkKey,Sem.run_bind,dB h,Result.andThen_ok,Sem.run_pure]
theorem xN {t:TypeId} {k:V} {v:Value} (h:xD P E t k v) (e:Bool):(Instr.checkKey e 10000 t v).run P w=.ok () w:=by
 cases h with
 | int k m h=>exact M8 9999 e h
 | str s h=>exact Mg 9999 e h
 | agg m z l h u B=>exact h.check w e l u
def lP (I:cw) (μ:Mu) (es:List MapEntry) (i:Nat):Option (Nat×V)->Option (Nat×Value)->Prop
 | none,none=>True
 | some (j,x),some (B,v)=>j=B/\bJ I μ x v/\i<=j/\∃e,es[j-i]? = some e/\e.val=v
 | _,_=>False
theorem Cc {d:TypeDesc} {k:V} {v:Value} (U:(∃kk m,d=.int kk/\k=.int kk m/\v=.int kk m)\/(∃s,d=.string/\k=.str s/\v=.string s)) :
 ∀(B:List (V×V)) (es:List MapEntry) (i:Nat) (r:Option (Nat×V)),B.length=es.length->(∀(j:Nat) q e,B[j]? = some q->es[j]? = some e->bJ I μ q.1 e.key/\bJ I μ q.2 e.val) ->
 gR k B i=some r->∃D,Instr.findNow d v es i=some D/\lP I μ es i r D/\∀j x,r=some (j,x)->∃e,es[j-i]? = some e/\e.key=v:=by
 intro B
 induction B with
 | nil=>
  intro es i r O _ h
  cases es with
  | nil=>simp only[gR,ζa]at h;subst h;exact⟨none,rfl,trivial,by simp⟩
  | cons _ _=>simp_all
 | cons q B Q=>
  intro es i r O hr h
  cases es with
  | nil=>simp_all
  | cons e es=>
   obtain⟨G,S⟩:=q;obtain⟨g1,g2⟩:=hr 0 (G,S) e rfl rfl;simp only[gR]at h;have u:∀b,vQ k G=some b->Instr.sameNow d v e.key=some b/\(b=true->e.key=v):=by
    intro b w;rcases U with⟨kk,m,rfl,rfl,rfl⟩|⟨s,rfl,rfl,rfl⟩
    .cases G <;> simp only[vQ]at w <;> (try grind)
     rename_i k2 m2;split at w
     next J=>simp only[ζa]at w;subst w;subst J;rw[g1.fC];exact⟨by simp[Instr.sameNow],by simp;grind⟩
     grind
    cases G <;> simp only[vQ]at w <;> (try (simp at w;done))
    simp only[ζa]at w;subst w;rw[g1.sH];exact⟨by simp[Instr.sameNow],λT=>by rw[Vv _ _ T]⟩
   split at h
   .rename_i hk;obtain⟨f1,f2⟩:=u true hk;simp only[ζa]at h;subst h;refine⟨some (i,e.val),by simp[Instr.findNow,f1],⟨rfl,g2,Nat.le_refl _,e,by simp,rfl⟩,?_⟩
    intro j x C;simp only[ζa,ζc]at C;obtain⟨rfl,_⟩:=C;exact⟨e,by simp,f2 rfl⟩
   .rename_i hk;obtain⟨f1,_⟩:=u false hk;obtain⟨D,p1,p2,p3⟩:=Q es (i+1) r (by simpa using O) (λj a b x y=>hr (j+1) a b (by simpa using x) (by simpa using y)) h
    refine⟨D,by simp[Instr.findNow,f1,p1],?_,?_⟩
    .cases r with
     | none=>cases D <;> simp_all [lP]
     | some z=>
      cases D with
      | none=>simp[lP]at p2
      | some W=>
       obtain⟨X,Y,c3,L,Z,c5⟩:=p2;exact⟨X,Y,by omega,L,by rw[show z.1-i=(z.1-(i+1))+1 by omega];simpa using Z,c5⟩
    intro j x C;obtain⟨L,u1,u2⟩:=p3 j x C;subst C;have:i+1<=j:=by
     cases D with
     | none=>simp[lP]at p2
     | some W=>exact p2.2.2.1
    exact⟨L,by rw[show j-i=(j-(i+1))+1 by omega];simpa using u1,u2⟩
   grind
theorem J7 {t:TypeId} {m:Nat} (U:sF P t m) {cs:List V} {l:List Int} (W:l.length=m) (Y:iA cs=some l) :
 ∀(B:List (V×V)) (es:List MapEntry) (i:Nat) (r:Option (Nat×V)),B.length=es.length->(∀(j:Nat) q e,B[j]? = some q->es[j]? = some e->bJ I μ q.1 e.key/\bJ I μ q.2 e.val) ->
 gR (.agg cs) B i=some r->∃D,(Instr.findAsking t (.agg (ic l)) es i).run P w=.ok D w/\lP I μ es i r D/\∀j x,r=some (j,x)->∃e,es[j-i]? = some e/\e.key=.agg (ic l):=by
 intro B
 induction B with
 | nil=>
  intro es i r C _ h
  cases es with
  | nil=>simp[gR]at h;subst h;exact⟨none,rfl,trivial,by simp⟩
  | cons _ _=>simp_all
 | cons q B T=>
  intro es i r C hr h
  cases es with
  | nil=>simp_all
  | cons e es=>
   obtain⟨G,X⟩:=q;obtain⟨g1,g2⟩:=hr 0 (G,X) e rfl rfl;simp[gR]at h;have u:∀b,vQ (.agg cs) G=some b->(Op.equal t (.agg (ic l)) e.key).run P w=.ok b w/\(b=true->e.key=.agg (ic l)):=by
    intro b J;cases G <;> simp[vQ]at J <;> (try (simp at J))
    obtain⟨ia,Z,Q,x2,x3,rfl⟩:=wo J;rw[Y]at Q;cases Q;obtain⟨vb,ev,L⟩:=g1.iF;obtain⟨rfl,e2⟩:=qa x2 L;rw[ev];refine⟨U.key w l Z W Za,?_⟩
    grind
   split at h
   .rename_i hk;obtain⟨f1,f2⟩:=u true hk;simp  at h;subst h;refine⟨some (i,e.val),by simp[Instr.findAsking,f1],⟨rfl,g2,Nat.le_refl _,e,by simp,rfl⟩,?_⟩
    grind
   .rename_i hk;obtain⟨f1,_⟩:=u false hk;obtain⟨D,p1,p2,p3⟩:=T es (i+1) r Zd (λj a b x y=>hr (j+1) a b Zd (by simpa using y)) h
    refine⟨D,by simp[Instr.findAsking,f1,p1],?_,?_⟩
    .cases r with
     | none=>cases D <;> simp_all [lP]
     | some z=>
      cases D with
      | none=>simp[lP]at p2
      | some z'=>
       obtain⟨c1,c2,c3,O,c4,c5⟩:=p2;exact⟨c1,c2,by omega,O,by rw[show z.1-i=(z.1-(i+1))+1 by omega];simpa using c4,c5⟩
    intro j x S;obtain⟨O,u1,u2⟩:=p3 j x S;subst S;have  := by
     cases D with
     | none=>simp[lP]at p2
     | some z'=>exact p2.2.2.1
    exact⟨O,by rw[show j-i=(j-(i+1))+1 by omega];simpa using u1,u2⟩
   grind
theorem uP {t:TypeId} {k:V} {v:Value} (h:xD P E t k v) {B:List (V×V)} {es:Array MapEntry} (hr:uH I μ B es) {r:Option (Nat×V)} (G:gR k B 0=some r) :
 ∃D,(Instr.findKey t v es.toList).run P w=.ok D w/\lP I μ es.toList 0 r D/\∀j x,r=some (j,x)->∃e,es[j]? = some e/\e.key=v:=by
 have u  := by simpa using hr.1
 have z:∀(j:Nat) q e,B[j]? = some q->es.toList[j]? = some e->bJ I μ q.1 e.key/\bJ I μ q.2 e.val:=λj q e x y=>hr.2 j q e x Zd
 have fin:∀(D:Option (Nat×Value)),(∀j x,r=some (j,x)->∃e,es.toList[j-0]? = some e/\e.key=v)->∀j x,r=some (j,x)->∃e,es[j]? = some e/\e.key=v:=by
  grind
 cases h with
 | int kk m h=>
  obtain⟨D,g1,g2,g3⟩:=Cc (.inl ⟨kk,m,rfl,rfl,rfl⟩) B es.toList 0 r u z G;exact⟨D,by simp[Instr.findKey,Sem.run_bind,dB h,Result.andThen_ok,g1,Sem.run_pure],g2,fin D g3⟩
 | str s h=>
  obtain⟨D,g1,g2,g3⟩:=Cc (.inr ⟨s,rfl,rfl,rfl⟩) B es.toList 0 r u z G;exact⟨D,by simp[Instr.findKey,Sem.run_bind,dB h,Result.andThen_ok,g1,Sem.run_pure],g2,fin D g3⟩
 | agg m S l h L O=>
  obtain⟨D,g1,g2,g3⟩:=J7 (w:=w) h L O B es.toList 0 r u z G;obtain⟨d,Q,C⟩:=h.kind;refine⟨D,?_,g2,fin D g3⟩;simp[Instr.findKey,Sem.run_bind,dB Q,Result.andThen_ok]
  cases J:es.toList with
  | nil=>
   rw[J]at g1;simp[Instr.findNow,Sem.run_pure];simpa [Instr.findAsking]using g1
  | cons e rest=>
   have:Instr.findNow d (.agg (ic l)) (e::rest) 0=none:=by
    rcases C with⟨_,_,rfl⟩|⟨_,rfl⟩ <;> simp[Instr.findNow,Instr.sameNow]
   grind
theorem y8 {b:Nat} {o:Obj} (h:w.heap[b]? = some o) (B:∀c e f,o≠.cells c e f):(getObj b).run P w=.ok o w:=by
 simp[getObj,Sem.run,h]
theorem Pq (s:cU I μ H w) {m:V} {v:Value} (hv:bJ I μ m v) {B:List (V×V)} (h:mc H m=some B) :
 (v=.map none/\B=[])\/∃b es clock,v=.map (some b)/\w.heap[b]? = some (.map es clock)/\uH I μ B es:=by
 cases m with
 | f_=>simp only[mc,ζa]at h;exact .inl ⟨hv.O7,h.symm⟩
 | fmap k=>
  simp[mc]at h;subst h
  cases hv with
  | c _ _ hv=>cases hv with
   | fmap _ b es C D hk u=>
    obtain⟨cl,g⟩:=s.imm _ _ C;exact .inr ⟨b,es,cl,rfl,g,D,λj q e x y=>⟨.c _ _ (hk j q e x y),.c _ _ (u j q e x y)⟩⟩
 | hmap id=>
  simp[mc]at h;split at h
  .rename_i G z;simp  at h;obtain⟨p,es,cl,g1,g2,g3,g4⟩:=s.obs id _ z;obtain⟨q,J,e⟩:=hv.Ba
   grind
  grind
 | _=>simp[mc]at h
theorem Lm (U:eG P E) (r:eE I μ n F a.tmps) (s:cU I μ H w) {t:TypeId} {m k:Operand} {ok:Bool} {x:V} (h:dX E F H (.lookup t m k ok)=some x) :
 ∃v,(Instr.lookup t (a.eval m) (a.eval k) ok).run P w=.ok v w/\bJ I μ x v:=by
 simp[dX]at h;split at h
 .rename_i kt et mv kv hk hm Q;obtain⟨d,hd,S⟩:=fB hk;obtain⟨desc,h1,h2,h3⟩:=(U.ty hd).dB;rw[S]at h2;have:=zC h2;subst this;split at h
  .rename_i de T W J;split at h
   .rename_i X;have D:=MA U X (dy r Q);obtain⟨z,hz,Y⟩:=(U.ty W).RQ;obtain⟨es,L,G⟩:∃es:Array MapEntry,uH I μ T es/\∀u,(Instr.findKey kt (a.eval k) es.toList).run P w=.ok u w->(Instr.lookup t (a.eval m) (a.eval k) ok).run P w =
     .ok (if ok then .tuple #[(u.map (·.2)).getD z,.bool u.isSome]else(u.map (·.2)).getD z) w:=by
     rcases Pq s (dy r hm) J with⟨e1,rfl⟩|⟨b,es,cl,e1,e2,e3⟩
     .refine⟨#[],⟨rfl,by simp⟩,λu C=>?_⟩
      unfold Instr.lookup;rw[e1];simp[Sem.run_bind,h3,Result.andThen_ok,Sem.run_pure,xN D,C];cases u <;> cases ok <;> simp[hz]
     refine⟨es,e3,λu C=>?_⟩
     unfold Instr.lookup;rw[e1];simp[Sem.run_bind,h3,Result.andThen_ok,Sem.run_pure,y8 e2 Zc,xN D,C]
     cases u <;> cases ok <;> simp[hz]
    split at h
    .rename_i j y _ B;simp  at h;obtain⟨u,Z,O,_⟩:=uP  D L B
     cases u with
     | none=>simp[lP]at O
     | some q=>
      obtain⟨_,hv,_⟩:=O;refine⟨_,G _ Z,?_⟩;subst h
      cases ok with
      | true=>exact .PZ (.cons hv (.cons (.c _ _ (.bool _)) .nil))
      | false=>exact hv
    .rename_i y B hy;simp  at h;obtain⟨u,Z,O,_⟩:=uP  D L B
     cases u with
     | some q=>simp[lP]at O
     | none=>
      refine⟨_,G _ Z,?_⟩;subst h
      cases ok with
      | true=>exact .PZ (.cons (Y _ _ _ hy) (.cons (.c _ _ (.bool _)) .nil))
      | false=>grind
    grind
   grind
  grind
 grind
end
section
variable {P:Program} {E:Env} {I:cw} {μ:Mu} {H H':bl} {n:Nat} {F:Frame} {a:Act} {w:World}
theorem Ic (l:List Int) (d:Nat):Instr.sameBits (d+2) (.agg (ic l)) (.agg (ic l))=true:=by
 simp only[Instr.sameBits,beq_self_eq_true,Bool.true_and,List.all_eq_true];intro p u;obtain⟨j,w,rfl⟩:=List.mem_iff_getElem.1 u;simp[ic,Instr.sameBits]
theorem Pp {t:TypeId} {k:V} {v:Value} (h:xD P E t k v):(Instr.keyThatStays v v).run P w=.ok v w:=by
 have:Instr.sameBits 10000 v v=true:=by
  cases h with
  | int k m h=>simp[Instr.sameBits]
  | str s h=>simp[Instr.sameBits];exact(by cases s;exact beq_self_eq_true (α:=Array UInt8) _)
  | agg m u l h z B=>exact Ic l 9998
 unfold Instr.keyThatStays;rw[this];rfl
theorem DY {b:Nat} {es:Array MapEntry} {clock:Nat} (o:Obj) (h:w.heap[b]? = some (.map es clock)):(setObj b o).run P w=.ok () (fF w b o):=by
 simp only[setObj,Sem.run,h];rfl
theorem zm (hE:eG P E) (r:eE I μ n F a.tmps) (s:cU I μ H w) {t:TypeId} {m k y:Operand} {x:V} (h:c9 E F H (.mapUpdate t m k y)=some (x,H')) :
 BA P I μ H w (do Instr.mapUpdate t (a.eval m) (a.eval k) (a.eval y);pure .skip) x H':=by
 simp only[c9]at h;split at h
 .rename_i kt et id Z yv hk hm W hy;obtain⟨d,hd,aa⟩:=fB hk;obtain⟨desc,h1,B,h3⟩:=(hE.ty hd).dB;rw[aa]at B;have:=zC B;subst this;split at h
  .rename_i D U;split at h
   .rename_i ab;simp only[ζf,ζc]at h;obtain⟨af,u,rfl,rfl⟩:=h;have G:=MA hE ab (dy r W);obtain⟨p,es,cl,g1,g2,g3,g4⟩:=s.obs id _ U;obtain⟨q,hq,em⟩:=(dy r hm).Ba;rw[g1]at hq;cases hq;have T:=(Array.getElem?_eq_some_iff.1 g3).1;have ah:∀(f:Unit->Sem Next) ,True:=λ_=>trivial
    unfold pK at u;have J:=dy r W;have L:=dy r hy;split at u
    .rename_i j z C;simp only[ζa]at u;subst u;obtain⟨O,q1,q2,q3⟩:=uP (w:=w) G g4 C
     cases O with
     | none=>simp[lP]at q2
     | some O=>
      obtain⟨j',zv⟩:=O;obtain⟨rfl,_,_,e',ai,_⟩:=q2;obtain⟨e2,X,ad⟩:=q3 j z rfl;have hj:=(Array.getElem?_eq_some_iff.1 X).1;have Q:uH I μ (D.set j (Z,yv)) (es.modify j λe=>{ e with key:=a.eval k,val:=a.eval y }):=by
       refine⟨by simpa using g4.1,λi q e h1 B=>?_⟩
       by_cases S:i=j
       .subst S;rw[List.getElem?_set_self (by rw[g4.1];exact hj)]at h1
        cases h1;rw[Array.getElem?_modify]at B;simp only[if_true,ζf]at B;obtain⟨_,_,rfl⟩:=B;exact⟨J,L⟩
       rw[List.getElem?_set_ne (Ne.symm S)]at h1;rw[Array.getElem?_modify]at B;rw[if_neg (Ne.symm S)]at B;exact g4.2 i q e h1 B
      obtain⟨s1,s2⟩:=s.write (ob':=.map (D.set j (Z,yv))) (o:=.map (es.modify j λe=>{ e with key:=a.eval k,val:=a.eval y }) cl) U rfl g1
       ⟨p,_,cl,g1,g2,gu _ T,Q⟩
      refine⟨.skip,undef,_,μ,?_,.inr ⟨rfl,rfl⟩,.undef I μ,s1,s2⟩;unfold Instr.mapUpdate;rw[em];have Y:((es[j]?).map (·.key)).getD (a.eval k)=a.eval k:=by rw[X];simpa using ad
      simp only[Sem.run_bind,h3,Result.andThen_ok,y8 g3 Zc,xN G,q1,Y,Pp G,DY _ g3,Sem.run_pure]
    .rename_i C;simp only[ζa]at u;subst u;obtain⟨O,q1,q2,q3⟩:=uP (w:=w) G g4 C
     cases O with
     | some q=>simp[lP]at q2
     | none=>
      have Q:uH I μ (D++[(Z,yv)]) (es.push { key:=a.eval k,val:=a.eval y,born:=cl }):=by
       refine⟨by simp[g4.1],λi q e h1 B=>?_⟩
       by_cases S:i<D.length
       .rw[List.getElem?_append_left S]at h1;rw[Array.getElem?_push]at B;rw[if_neg (by rw[<-g4.1];omega)]at B
        exact g4.2 i q e h1 B
       have ae:=(ζe.1 h1).1;simp at ae;have:i=D.length:=by omega
       subst this;simp at h1;subst h1;rw[Array.getElem?_push,if_pos g4.1]at B;cases B;exact⟨J,L⟩
      obtain⟨s1,s2⟩:=s.write (ob':=.map (D++[(Z,yv)])) (o:=.map (es.push { key:=a.eval k,val:=a.eval y,born:=cl }) (cl+1)) U rfl g1
       ⟨p,_,_,g1,g2,gu _ T,Q⟩
      refine⟨.skip,undef,_,μ,?_,.inr ⟨rfl,rfl⟩,.undef I μ,s1,s2⟩;unfold Instr.mapUpdate;rw[em];simp only[Sem.run_bind,h3,Result.andThen_ok,y8 g3 Zc,xN G,q1,DY _ g3,Sem.run_pure]
    simp at u
   simp at h
  simp at h
 simp at h
theorem Re (B:eG P E) (r:eE I μ n F a.tmps) (s:cU I μ H w) (o:Oper) {x:V} (h:dX E F H o.op=some x) :
 ∃v,(execOp a.eval o).run P w=.ok (.value v) w/\bJ I μ x v:=by
 obtain⟨dst,op,ty,pos,after,guard⟩:=o;simp only at h
 cases op with
 | load t p=>
  simp only[dX]at h;split at h
  next d G C D=>obtain⟨u,h1,z,_⟩:=B4 B s C (dy r D) h;exact⟨u,dK h1,z⟩
  simp at h
 | lookup t m k ok=>
  obtain⟨u,h1,z⟩:=Lm B r s h;exact⟨u,dK h1,z⟩
 | _=>simp[dX]at h
theorem Rh (B:eG P E) (r:eE I μ n F a.tmps) (s:cU I μ H w) (o:Oper) {x:V} (h:c9 E F H o.op=some (x,H')):BA P I μ H w (execOp a.eval o) x H':=by
 obtain⟨dst,op,ty,pos,after,guard⟩:=o;simp only at h
 cases op with
 | store t p q=>exact NU B r s h
 | mapUpdate t m k y=>exact zm B r s h
 | insert t m k y=>exact zm (t:=t) (m:=m) (k:=k) (y:=y) B r s h
 | call c=>
  obtain⟨callee,args,u⟩:=c
  cases callee with
  | builtin b=>
   cases b with
   | append=>exact Nc B r s h
   | clear=>exact Pj B r s h
   | _=>simp[c9]at h
  | _=>simp[c9]at h
 | _=>simp[c9]at h
end
theorem tF {xs:List V} (h:V.kM xs=true):∀x∈xs,V.closed x=true:=by
 induction xs with
 | nil=>simp
 | cons x r u=>
  simp[V.kM]at h
  grind
theorem tj {xs:List V} (h:V.cO xs=true):∀x∈xs,V.scalar x=true:=by
 induction xs with
 | nil=>simp
 | cons x r u=>
  simp[V.cO]at h
  grind
section
variable {I I':cw} {μ:Mu} {H H':bl} {w:World}
theorem bJ.closed {x:V} {v:Value} (h:bJ I μ x v) (hc:x.closed=true):eH I x v:=by
 induction h with
 | c x v h=>omega
 | hsl id off len cap p w h1 Q=>simp[V.closed]at hc
 | hsl0 id es off a=>simp[V.closed]at hc
 | hptr id el off p w=>simp[V.closed]at hc
 | yld id p w=>simp[V.closed]at hc
 | hmap id p w=>simp[V.closed]at hc
 | clo f x y u v L O _ _ z B=>
  simp[V.closed]at hc;exact .clo f x y u v L O (λj a b p q=>z j a b p q (tF hc.1 a (List.mem_of_getElem? p))) (λj a b p q=>B j a b p q (tF hc.2 a (List.mem_of_getElem? p)))
 | agg C D G _ J=>
  exact .agg C D G λj a b p q=>J j a b p q (tF hc a (List.mem_of_getElem? p))
 | tup C D G _ J=>
  exact .tup C D G λj a b p q=>J j a b p q (tF hc a (List.mem_of_getElem? p))
theorem eH.scalar {x:V} {v:Value} (h:eH I x v) (B:x.scalar=true):eH I' x v:=by
 induction h with
 | bool b=>exact .bool b
 | int k n=>exact .int k n
 | str s=>exact .str s
 | dD a=>exact .dD a
 | bK=>exact .bK
 | gY=>exact .gY
 | f_=>exact .f_
 | ru=>exact .ru
 | agg u w z _ C=>
  exact .agg u w z λj a b p q=>C j a b p q (tj B a (List.mem_of_getElem? p))
 | tup u w z _ C=>
  exact .tup u w z λj a b p q=>C j a b p q (tj B a (List.mem_of_getElem? p))
 | _=>simp[V.scalar]at B
theorem iO {f:V->Option V}:∀{xs ys:List V},hG f xs=some ys->ys.length=xs.length/\∀(j:Nat) y,ys[j]? = some y->∃x,xs[j]? = some x/\f x=some y:=by
 intro xs
 induction xs with
 | nil=>intro ys h;simp[hG]at h;grind
 | cons x xs u=>
  intro ys h;simp[hG]at h;split at h
  .grind
  grind
theorem KJ {f:V->Option V}:∀{xs ys:List (List V)},lp f xs=some ys->ys.length=xs.length/\∀(j:Nat) y,ys[j]? = some y->∃x,xs[j]? = some x/\hG f x=some y:=by
 intro xs
 induction xs with
 | nil=>intro ys h;simp[lp]at h;grind
 | cons x xs u=>
  intro ys h;simp[lp]at h
  grind
theorem J5 {f:V->Option V}:∀{xs ys:List (V×V)},lg f xs=some ys->ys.length=xs.length/\∀(j:Nat) y,ys[j]? = some y->∃x,xs[j]? = some x/\f x.1=some y.1/\f x.2=some y.2:=by
 intro xs
 induction xs with
 | nil=>intro ys h;simp only[lg]at h;grind
 | cons x xs u=>
  intro ys h;simp only[lg]at h
  grind
def Obj.ic:Obj->Option IC
 | .cells c _ _=>some (.cells c)
 | .map es _=>some (.map es)
 | _=>none
def Ao (μ:Mu) (H:bl) (T:List Nat) (b:Nat):Prop:=∃id p ob,id∈T/\H[id]? = some ob/\ob.live=true/\μ id=some p/\p.b=b
open Classical in
noncomputable def plus (I:cw) (μ:Mu) (H:bl) (w:World) (T:List Nat):cw:=λb=>
 match I b with
 | some x=>some x
 | none=>if Ao μ H T b then(w.heap[b]?).bind Obj.ic else none
theorem oB (I:cw) (μ:Mu) (H:bl) (w:World) (T:List Nat):cw.le I (plus I μ H w T):=by
 intro b x h;simp[plus,h]
theorem sV (s:cU I μ H w) (T:List Nat):∀b x,plus I μ H w T b=some x->x.at w b:=by
 intro b x h;unfold plus at h;split at h
 next y B=>cases h;exact s.imm b _ B
 split at h
 .obtain⟨o,z,u⟩:=ζg.1 h;cases o <;> simp[Obj.ic]at u
  .subst u;exact⟨_,_,z⟩
  subst u;exact⟨_,z⟩
 grind
theorem yq {T:List Nat} {b:Nat} (h:(plus I μ H w T b).isSome=true):(I b).isSome=true\/Ao μ H T b:=by
 unfold plus at h
 grind
theorem AN {T:List Nat} {b:Nat} (h:Ao μ H T b):g_ μ H b:=by
 obtain⟨id,p,ob,_,h1,u,w,z⟩:=h;exact⟨id,p,ob,h1,u,w,z⟩
theorem Bx (s:cU I μ H w) {T:List Nat} {id es:Nat} {xs:List (List V)} (B:id∈T) (h:(H[id]?).bind Ob.rows=some (es,xs)) :
 ∃p c,μ id=some p/\plus I μ H w T p.b=some (.cells c)/\fW I μ p c es xs:=by
 obtain⟨ob,h1,z⟩:=ζg.1 h;have u:=s.obs id ob h1;rcases GP z with rfl|rfl
 .obtain⟨p,c,el,g1,g2,g3,g4⟩:=u;refine⟨p,c,g1,?_,g4⟩;have C:Ao μ H T p.b:=⟨id,p,_,B,h1,rfl,g1,rfl⟩;unfold plus;rw[g2];simp[C,g3,Obj.ic]
 obtain⟨p,c,g1,g2,g4⟩:=u;exact⟨p,c,g1,oB _ _ _ _ _ _ _ g2,g4⟩
theorem fW.idx {p:Pl} {c:Array Value} {es:Nat} {xs:List (List V)} (r:fW I μ p c es xs) {i j:Nat} {x:List V} {y:V} {v:Value} (h1:xs[i]? = some x) (B:x[j]? = some y)
 (D:c[p.o+i*es+j]? = some v):bJ I μ y v:=by
 have w:=uX r.oW h1 B;refine r.rel.2 (i*es+j) y v w ?_;have u:=(ζe.1 w).1;rw[fM r.oW]at u
 grind
theorem jV {f:V->List Nat} {xs:List V} {x:V} {k:Nat} (B:x∈xs) (hk:k∈f x):k∈cT f xs:=by
 induction xs with
 | nil=>simp_all
 | cons y r u=>
  simp[cT]
  grind
theorem jW (n:Nat) (H:bl) {x:V} (h:x.closed=true):borrow n H x=some x:=by
 cases n <;> simp[borrow,h]
theorem tS (s:cU I μ H w) (T:List Nat):∀(n:Nat) (x y:V) (v:Value),borrow n H x=some y->(∀k∈cm n H x,k∈T)->bJ I μ x v ->
 eH (plus I μ H w T) y v/\(x.one=true->y.one=true):=by
 intro n
 induction n with
 | zero=>
  intro x y v h _ hv;simp only[borrow]at h;split at h
  next hc=>simp  at h;subst h;exact⟨(hv.closed hc).mono (oB _ _ _ _ _),id⟩
  grind
 | succ n ih=>
  intro x y v h O hv;simp[borrow]at h;split at h
  next hc=>simp  at h;subst h;exact⟨(hv.closed hc).mono (oB _ _ _ _ _),id⟩
  rename_i al;simp[cm,if_neg al]at O;split at h
  .
   rename_i id es off len;split at h
   .rename_i B xs J;split at h
    .rename_i hc;obtain⟨rfl,am⟩:=hc;simp only[J]at O;simp  at h;obtain⟨U,hz,rfl⟩:=h;obtain⟨ab,W⟩:=KJ hz;refine⟨?_,λ_=>rfl⟩
     have aj:U.length=len:=by grind
     rcases hv.lR with⟨p,cap,hm,hp,ar,hb,rfl⟩|⟨h0,a,rfl⟩
     .obtain⟨p',c,g1,g2,g3⟩:=Bx s  (O id Zc) J
      rw[hm]at g1;cases g1;have X:∀i z,U[i]? = some z->∃Q,xs[off+i]? = some Q/\hG (borrow n H) Q=some z:=by
       grind
      have ak:∀i Q,i<len->xs[off+i]? = some Q->∀q∈Q,∀k∈cm n H q,k∈T:=by
       intro i Q hi an q hq k hk;refine O k ?_;refine List.mem_cons_of_mem _ (jV (List.mem_flatten.2 ⟨Q,List.mem_of_getElem? (i:=i) ?_,hq⟩) hk);rw[List.getElem?_take,if_pos hi,List.getElem?_drop];exact an
      have au:eH (plus I μ H w T) (.fsl B U) (.slice (some ⟨p.b,p.o+off*B,none⟩) U.length cap):=by
       refine .fsl B U p.b (p.o+off*B) cap c g2 Za ?_ ?_ ?_ ?_
       .intro z af;obtain⟨i,hi⟩:=List.mem_iff_getElem?.1 af;obtain⟨Q,G,Y⟩:=X i z hi;rw[(iO Y).1];exact g3.oW Q (List.mem_of_getElem? G)
       .intro z af q hq;obtain⟨i,hi⟩:=List.mem_iff_getElem?.1 af;obtain⟨Q,G,Y⟩:=X i z hi;obtain⟨j,hj⟩:=List.mem_iff_getElem?.1 hq;obtain⟨L,D,Z⟩:=(iO Y).2 j q hj;have ad:=List.mem_of_getElem? G;have ae:=List.mem_of_getElem? D;have ao:=g3.room;have aw:=g3.oW Q ad;have ax:=(ζe.1 D).1;have ap:=(ζe.1 G).1;have av:(off+i)*B+B<=xs.length*B:=by
         have:=Nat.mul_le_mul_right B (ap)
         grind
        have aq  := by omega
        have aa:=g3.idx G D (v:=c[p.o+(off+i)*B+j]) (by simp[aq])
        exact(ih L q _ Z (ak i Q (by have:=(ζe.1 hi).1;omega) G L ae) aa).2 (g3.one Q ad L ae)
       .have h1:=(g3.span am).2
        grind
       intro i j z q u hi hj hu;obtain⟨Q,G,Y⟩:=X i z hi;obtain⟨L,D,Z⟩:=(iO Y).2 j q hj;have aa:=g3.idx G D (v:=u) Zd
       exact(ih L q u Z (ak i Q (by have:=(ζe.1 hi).1;omega) G L (List.mem_of_getElem? D)) aa).1
      grind
     subst h0;have  := List.eq_nil_of_length_eq_zero aj;subst this;exact .fsl0 B _ _
    grind
   grind
  .
   rename_i id el off;split at h
   .rename_i B xs J;split at h
    .rename_i cs ah;split at h
     .simp only[J]at O;simp  at h;obtain⟨U,hz,rfl⟩:=h;obtain⟨ab,W⟩:=iO hz;refine⟨?_,λ_=>rfl⟩
      obtain⟨p,hm,rfl⟩:=hv.sM;obtain⟨p',c,g1,g2,g3⟩:=Bx s  (O id Zc) J
      rw[hm]at g1;cases g1;obtain⟨k1,k2,k3⟩:=g3.elem ah;rw[g3.es_eq];refine .fptr U p.b _ c g2 ?_ ?_
      .rw[ab,List.length_drop];omega
      intro j q u hj hu;obtain⟨L,D,Z⟩:=W j q hj;rw[List.getElem?_drop]at D;have aa:=g3.idx ah D  (by rw[<-Nat.add_assoc];exact hu)
      refine(ih L q u Z (λk hk=>O k ?_) aa).1
      exact List.mem_cons_of_mem _ (jV (List.mem_of_getElem? (i:=j) (by rw[ah,Option.getD_some,List.getElem?_drop];exact D)) hk)
     simp at h
    simp at h
   simp at h
  .
   rename_i id;split at h
   .rename_i ay ai;simp  at h;obtain⟨U,hz,rfl⟩:=h;simp only[ai]at O;obtain⟨ab,W⟩:=J5 hz;refine⟨?_,λ_=>rfl⟩
    obtain⟨p,hm,rfl⟩:=hv.Ba;obtain⟨p',es,cl,g1,g2,g3,g4⟩:=s.obs id _ ai;rw[hm]at g1;cases g1;have ht:Ao μ H T p.b:=⟨id,p,_,O id Zc,ai,rfl,hm,rfl⟩
    have hI:plus I μ H w T p.b=some (.map es):=by
     unfold plus;rw[g2];simp[ht,g3,Obj.ic]
    refine .fmap U p.b es hI (by rw[ab];exact g4.1) ?_ ?_
    .intro j q e hj he;obtain⟨L,h1,h2,h3⟩:=W j q hj;refine(ih L.1 q.1 e.key h2 (λk hk=>O k ?_) (g4.2 j L e h1 he).1).1
     exact List.mem_cons_of_mem _ (List.mem_append.2 (.inl (jV (List.mem_map.2 ⟨L,List.mem_of_getElem? h1,rfl⟩) hk)))
    intro j q e hj he;obtain⟨L,h1,h2,h3⟩:=W j q hj;refine(ih L.2 q.2 e.val h3 (λk hk=>O k ?_) (g4.2 j L e h1 he).2).1
    exact List.mem_cons_of_mem _ (List.mem_append.2 (.inr (jV (List.mem_map.2 ⟨L,List.mem_of_getElem? h1,rfl⟩) hk)))
   simp at h
  .rename_i f p q;split at h
   .rename_i p' q' hp hq;simp  at h;subst h;obtain⟨u1,u2,rfl,r1,r2⟩:=hv.jT;obtain⟨l1,m1⟩:=iO hp;obtain⟨l2,m2⟩:=iO hq;refine⟨.clo f p' q' u1 u2 (by rw[l1];simpa using r1.1) (by rw[l2];simpa using r2.1) ?_ ?_,λ_=>rfl⟩
    .intro j a b ha hb;obtain⟨a0,C,S⟩:=m1 j a ha;exact(ih a0 a b S (λk hk=>O k (List.mem_append.2 (.inl (jV (List.mem_of_getElem? C) hk)))) (r1.2 j a0 b C (by simpa using hb))).1
    intro j a b ha hb;obtain⟨a0,C,S⟩:=m2 j a ha;exact(ih a0 a b S (λk hk=>O k (List.mem_append.2 (.inr (jV (List.mem_of_getElem? C) hk)))) (r2.2 j a0 b C (by simpa using hb))).1
   simp at h
  .rename_i cs;simp  at h;obtain⟨U,hz,rfl⟩:=h;obtain⟨l1,m1⟩:=iO hz;obtain⟨u1,rfl,r1⟩:=hv.iF;refine⟨.agg U u1 (by rw[l1];simpa using r1.1) ?_,λh=>by simp[V.one]at h⟩
   intro j a b ha hb;obtain⟨a0,C,S⟩:=m1 j a ha;exact(ih a0 a b S (λk hk=>O k (jV (List.mem_of_getElem? C) hk)) (r1.2 j a0 b C (by simpa using hb))).1
  .rename_i cs;simp  at h;obtain⟨U,hz,rfl⟩:=h;obtain⟨l1,m1⟩:=iO hz;obtain⟨u1,rfl,r1⟩:=hv.pU;refine⟨.tup U u1 (by rw[l1];simpa using r1.1) ?_,λh=>by simp[V.one]at h⟩
   intro j a b ha hb;obtain⟨a0,C,S⟩:=m1 j a ha;exact(ih a0 a b S (λk hk=>O k (jV (List.mem_of_getElem? C) hk)) (r1.2 j a0 b C (by simpa using hb))).1
  grind
end
def fr (ro:Option Nat):Fence:={ fn:=λ_=>True,depth:=none,alive:=false,round:=ro }
def xe (I:cw) (μ:Mu) (H:bl) (w:World) (r:V) (H':bl):Ending->World->Prop:=
 λe w'=>∃u I' μ',e=.returned u/\bJ I' μ' r u/\cU I' μ' H' w'/\Step I μ H w I' μ' H' w'
def yg (P:Program) (f:FuncId):Prop:=∃fn,P.funcs[f]? = some fn/\fn.body.isSome=true/\(fn.name == "runtime.NumGoroutine")=false
structure kD (P:Program) (call:dx):Prop where
 fn:∀f args H r H',call (.fn f) args H=some (r,H')->yg P f/\∀I μ w vs,cU I μ H w->cM I μ args vs->CallsIn (fr none) 0 P f vs.toArray w (xe I μ H w r H')
 yld:∀id args H r H',call (.yld id) args H=some (r,H')->∀I μ w vs p,cU I μ H w->cM I μ args vs->μ id=some p ->
  ∃l f tmps assign body,(Instr.yield p.b vs.toArray).run P w=.ok (.round l f tmps assign body) w/\RoundIn (fr none) 0 P l f tmps assign body w (xe I μ H w r H')
def sB:Ob->Ob
 | .row es xs=>.frz es xs
 | .map _=>.dead
 | o=>o
theorem E9 (H:bl) (k id:Nat):(tU H k)[id]? = (H[id]?).map λob=>if id=k then sB ob else ob:=by
 unfold tU
 by_cases e:id=k
 .subst e
  cases h:H[id]? with
  | none=>simp[h]
  | some ob=>
   have u:=(ζe.1 h).1;cases ob <;> simp[sB,u] <;> exact(ζe.1 h).2
 grind
theorem AZ (o:Ob):sB (sB o)=sB o:=by cases o <;> rfl
theorem iC:∀(T:List Nat) (H:bl) (id:Nat),(cI H T)[id]? = (H[id]?).map λob=>if id∈T then sB ob else ob:=by
 intro T
 induction T with
 | nil=>simp[cI]
 | cons k T u=>
  intro H id;have:=u (tU H k) id;simp[cI]at this ⊢;rw[this,E9]
  cases h:H[id]? with
  | none=>simp
  | some ob=>
   by_cases e:id=k <;> by_cases w:id∈T <;> simp[AZ] <;> (simp_all) <;> simp_all [AZ]
theorem jR (T:List Nat) (H:bl):(cI H T).length=H.length:=by
 induction T generalizing H with
 | nil=>rfl
 | cons k T u=>
  simp[cI]at u ⊢;rw[u];unfold tU
  grind
section
variable {P:Program} {I I':cw} {μ μ':Mu} {H H':bl} {w w':World}
theorem cU.kept (s:cU I μ H w) (hk:∀b,b<w.heap.size->w'.heap[b]? = w.heap[b]?):cU I μ H w' where
 dom:=s.dom
 imm:=λb x h=>IC.qZ (s.imm b x h) (hk b (s.Hx h))
 obs:=λid ob h=>(s.obs id ob h).mono (cw.le_refl _) (Mu.le_refl _) (λp z B=>by
  have u:g_ μ H p.b:=⟨id,p,ob,h,B,z,rfl⟩;exact⟨hk _ (mT s u),fU s u⟩) (λC=>by subst C;exact s.obs id _ h)
 inj:=s.inj
 gl:=s.gl
theorem qI (μ:Mu) (b:Nat):¬g_ μ [] b:=by
 rintro⟨id,p,ob,h,_⟩;simp_all
theorem CH {call:dx} (hc:kD P call) {f:FuncId} {args:List V} {y:V} (h:cg call f args H=some y) (s:cU I μ H w) {vs:List Value} (hv:cM I μ args vs) :
 yg P f/\CallsIn (fr none) 0 P f vs.toArray w (xe I μ H w y (if y.scalar then H else cI H (cT (cm call.lv H) args))):=by
 unfold cg at h;split at h
 .rename_i az has;split at h
  .rename_i r H1 X;split at h
   .rename_i y' hy;split at h
    .rename_i aa;simp  at h;subst h;generalize hT:cT (cm call.lv H) args=T;obtain⟨ab,D⟩:=iO has;have s0:cU (plus I μ H w T) (λ_=>none) [] w:=⟨λ_ _=>rfl,sV s T,by simp,by simp,s.gl.mono (oB I μ H w T)⟩
     have Y:cM (plus I μ H w T) (λ_=>none) az vs:=by
      refine⟨ab.trans hv.1,λj a b h1 z=>?_⟩
      obtain⟨x,O,af⟩:=D j a h1;refine .c _ _ (tS s T call.lv x a b af (λk hk=>?_) (hv.2 j x b O z)).1
      rw[<-hT];exact jV (List.mem_of_getElem? O) hk
     obtain⟨hf,Q⟩:=hc.fn f az [] r H1 X;refine⟨hf,(Q _ _ w vs s0 Y).mono ?_⟩;rintro e w' ⟨u,I1,μ1,rfl,hr,s1,st⟩;have B  := λb D=>st.frame b D (qI _ _)
     generalize ak:cm call.lv H1 r=T1;have ad:=(tS s1 T1 call.lv r y' u hy (λk hk=>by grind) hr).1
     cases ah:y'.scalar with
     | true=>
      exact⟨u,I,μ,rfl,.c _ _ (ad.scalar ah),s.kept B,⟨cw.le_refl _,Mu.le_refl _,Nat.le_refl _,st.size,λb D _=>B b D,λ_ h=>h.elim .inl λh=>.inr (.inl h),st.os,st.out,st.fz⟩⟩
     | false=>
      simp only[Bool.false_eq_true,if_false]
      let I2:=plus I1 μ1 H1 w' T1
      have G:cw.le I I2:=cw.le_trans (oB I μ H w T) (cw.le_trans st.le (oB _ _ _ _ _));have J:∀b,(I2 b).isSome=true->(I b).isSome=true\/Ao μ H T b\/w.heap.size<=b:=by
       intro b D;have h1:(I1 b).isSome=true\/g_ μ1 H1 b:=by
        rcases yq D with h|h
        .grind
        exact .inr (AN h)
       rcases st.terr b h1 with h|h|h
       .rcases yq h with h|h
        .grind
        grind
       .exact absurd h (qI _ _)
       grind
      have Z:∀id ob p,H[id]? = some ob->ob.live=true->id∉T->μ id=some p->I2 p.b=none:=by
       intro id ob p h1 z h3 h4
       cases hI:I2 p.b with
       | none=>rfl
       | some x=>
        have ho:g_ μ H p.b:=⟨id,p,ob,h1,z,h4,rfl⟩;rcases J p.b Zd with h|⟨S,p',ai,g0,g1,g2,g3,g4⟩|h
        .rw[fU s ho]at h;cases h
        .have:=s.inj S id ai ob p' p g1 h1 g2 z g3 h4 g4;simp_all
        have:=mT s ho;omega
      have U:∀id x,(cI H T)[id]? = some x->∃ob,H[id]? = some ob/\x=(if id∈T then sB ob else ob):=by
       intro id x O;rw[iC]at O;obtain⟨ob,h1,z⟩:=ζf.1 O;exact⟨ob,h1,z.symm⟩
      have C:∀id x,(cI H T)[id]? = some x->x.live=true->H[id]? = some x/\(id∉T\/∃r,x=.loop r):=by
       intro id x O hl;obtain⟨ob,h1,z⟩:=U id x O
       by_cases W:id∈T
       .rw[if_pos W]at z;cases ob <;> simp[sB]at z <;> subst z <;> simp[Ob.live]at hl;exact⟨h1,.inr ⟨_,rfl⟩⟩
       rw[if_neg W]at z;subst z;exact⟨h1,.inl W⟩
      refine⟨u,I2,μ,rfl,.c _ _ ad,⟨?_,?_,?_,?_,s.gl.mono G⟩,⟨G,Mu.le_refl _,by rw[jR];exact Nat.le_refl _,st.size,λb D _=>B b D,?_,st.os,st.out,st.fz⟩⟩
      .intro id h;rw[jR]at h;exact s.dom id h
      .exact sV s1 T1
      .intro id x O;obtain⟨ob,h1,z⟩:=U id x O;have L:=s.obs id ob h1
       by_cases W:id∈T
       .rw[if_pos W]at z
        cases ob with
        | row es xs=>
         subst z;obtain⟨p,c,g1,g2,g3⟩:=Bx s  W    (by rw[h1];rfl)
         exact⟨p,c,g1,oB _ _ _ _ _ _ _ (st.le _ _ g2),g3.mono G (Mu.le_refl _)⟩
        | frz es xs=>
         subst z;exact L.mono G (Mu.le_refl _) (λp _ hl=>by simp[Ob.live]at hl) (λhe=>by cases he)
        | map al=>subst z;trivial
        | free=>simp[sB]at z;subst z;exact L
        | dead=>subst z;trivial
        | loop r=>
         simp[sB]at z;subst z;obtain⟨p,l,g1,g2,g3,g4⟩:=L;refine⟨p,l,g1,?_,?_,g4.mono G (Mu.le_refl _)⟩
         .
          cases hI:I2 p.b with
          | none=>rfl
          | some x=>
           have ae:=sV s1 T1 p.b x hI;have aj  := (Array.getElem?_eq_some_iff.1 g3).1;have hh:=B p.b aj;rw[g3]at hh
           cases x with
           | cells c=>obtain⟨_,_,q⟩:=ae;rw[hh]at q;cases q
           | map es=>obtain⟨_,q⟩:=ae;rw[hh]at q;cases q
         rw[B p.b (Array.getElem?_eq_some_iff.1 g3).1];omega
       rw[if_neg W]at z;subst z;refine L.mono G (Mu.le_refl _) (λp hp hl=>⟨B _ (mT s ⟨id,p,x,h1,hl,hp,rfl⟩),Z id x p h1 hl W hp⟩) (λhe=>by subst he;exact L)
      .intro id S o1 o2 p p' h1 z l1 l2 m1 m2 D;exact s.inj id S o1 o2 p p' (C id o1 h1 l1).1 (C S o2 z l2).1 l1 l2 m1 m2 D
      intro b D;rcases D with h|⟨id,p,x,h1,z,h3,rfl⟩
      .rcases J b h with h|h|h
       .exact .inl h
       .exact .inr (.inl (AN h))
       exact .inr (.inr h)
      exact .inr (.inl ⟨id,p,x,(C id x h1 z).1,z,h3,rfl⟩)
    grind
   grind
  grind
 grind
theorem bJ.scalar {x:V} {v:Value} (h:bJ I μ x v) (B:x.scalar=true):bJ I' μ' x v:=by
 have key:∀(l:List V) (u:List Value),(∀x∈l,∀v,bJ I μ x v->x.scalar=true->bJ I' μ' x v)->V.cO l=true->(∀(j:Nat) a b,l[j]? = some a->u[j]? = some b->bJ I μ a b) ->
  ∀(j:Nat) a b,l[j]? = some a->u[j]? = some b->bJ I' μ' a b:=by
  intro l
  induction l with
  | nil=>grind
  | cons x l D=>
   intro u h1 L O j a b G w;simp only[V.cO,ζh]at L
   cases j with
   | zero=>
    grind
   | succ j=>
    cases u with
    | nil=>simp at w
    | cons v u=>exact D u (λy z=>h1 y (List.mem_cons_of_mem _ z)) L.2 (λj a b p q=>O (j+1) a b Zd Zd) j a b Zd (by simpa using w)
 have main:∀(k:Nat) (x:V) (v:Value),SizeOf.sizeOf x<k->bJ I μ x v->x.scalar=true->bJ I' μ' x v:=by
  intro k
  induction k with
  | zero=>grind
  | succ k D=>
   intro x v hk h B
   cases h with
   | c _ _ h=>exact .c _ _ (h.scalar B)
   | agg C u J h=>
    refine .agg C u J (λj a b G w=>key C u.toList (λy z v hv B=>D y v ?_ hv B) B (λj a b p q=>h j a b p (by simpa using q)) j a b G (by simpa using w))
    have:=List.sizeOf_lt_of_mem z;simp at hk;omega
   | tup C u J h=>
    refine .tup C u J (λj a b G w=>key C u.toList (λy z v hv B=>D y v ?_ hv B) B (λj a b p q=>h j a b p (by simpa using q)) j a b G (by simpa using w))
    have:=List.sizeOf_lt_of_mem z;simp at hk;omega
   | _=>simp[V.scalar]at B
 exact main (SizeOf.sizeOf x+1) x v Za h B
theorem cU.JV (s:cU I μ H w) {ob:Ob} {p:Pl} (U:ob≠.free) (hI:I p.b=none) (G:¬g_ μ H p.b) (W:rS I (μ.gD H.length p) w H.length ob) :
 cU I (μ.gD H.length p) (H++[ob]) w:=by
 have hk  := s.dom _ (Nat.le_refl _);have u:∀id x,(H++[ob])[id]? = some x->(id≠H.length/\H[id]? = some x)\/(id=H.length/\x=ob):=by
  grind
 refine⟨?_,s.imm,?_,?_,s.gl⟩
 .intro id h;simp at h;rw[Mu.iG _ _ Za];exact s.dom id Za
 .intro id x h;rcases u id x h with⟨e,h⟩|⟨rfl,rfl⟩
  .refine(s.obs id x h).mono (cw.le_refl _) (Mu.qv hk) (λq Q S=>?_) (λT=>by subst T;rw[Mu.iG _ _ e];exact s.obs id _ h)
   exact⟨rfl,fU s ⟨id,q,x,h,S,Q,rfl⟩⟩
  grind
 intro id z o1 o2 q J h1 X L O B C D;rcases u id o1 h1 with⟨e1,k1⟩|⟨a1,Z⟩ <;> rcases u z o2 X with⟨e2,k2⟩|⟨Y,b2⟩
 .rw[Mu.iG _ _ e1]at B;rw[Mu.iG _ _ e2]at C;exact s.inj id z o1 o2 q J k1 k2 L O B C D
 .subst Y;rw[Mu.iG _ _ e1]at B;rw[Mu.gf]at C;cases C;exact absurd ⟨id,q,o1,k1,L,B,D⟩ G
 .subst a1;rw[Mu.iG _ _ e2]at C;rw[Mu.gf]at B;cases B;exact absurd ⟨z,J,o2,k2,O,C,D.symm⟩ G
 grind
theorem Tm {call:dx} (hc:kD P call) {f:FuncId} {args:List V} {y:V} (h:j9 call f args H=some (y,H')) (s:cU I μ H w) {vs:List Value} (hv:cM I μ args vs) :
 yg P f/\CallsIn (fr none) 0 P f vs.toArray w (xe I μ H w y H'):=by
 unfold j9 at h;split at h
 .rename_i az has;split at h
  .rename_i r H1 O;generalize hT:cT (cm call.lv H) args=T;obtain⟨X,B⟩:=iO has;have s0:cU (plus I μ H w T) (λ_=>none) [] w:=⟨λ_ _=>rfl,sV s T,by simp,by simp,s.gl.mono (oB I μ H w T)⟩
   have Q:cM (plus I μ H w T) (λ_=>none) az vs:=by
    refine⟨X.trans hv.1,λj a b h1 Y=>?_⟩
    obtain⟨x,hx,ae⟩:=B j a h1;refine .c _ _ (tS s T call.lv x a b ae (λk hk=>?_) (hv.2 j x b hx Y)).1
    rw[<-hT];exact jV (List.mem_of_getElem? hx) hk
   obtain⟨hf,G⟩:=hc.fn f az [] r H1 O;refine⟨hf,(G _ _ w vs s0 Q).mono ?_⟩;rintro e w' ⟨u,I1,μ1,rfl,hr,s1,st⟩;have z:∀b,b<w.heap.size->w'.heap[b]? = w.heap[b]? := λb B=>st.frame b B (qI _ _)
   have sk:cU I μ H w':=s.kept z;have af:Step I μ H w I μ H w':=⟨cw.le_refl _,Mu.le_refl _,Nat.le_refl _,st.size,λb B _=>z b B,λ_ h=>h.elim .inl λh=>.inr (.inl h),st.os,st.out,st.fz⟩
   split at h
   next ah=>simp only[ζa,ζc]at h;obtain⟨rfl,rfl⟩:=h;exact⟨u,I,μ,rfl,hr.scalar ah,sk,af⟩
   
   have key:∀(id es off len:Nat) (v:V) (ob:Ob) (u:Value),qt H.length H1 id es off len=some (v,ob)->bJ I1 μ1 (.hsl id es off len) u ->
    ∃p,bJ I (μ.gD H.length p) v u/\cU I (μ.gD H.length p) (H++[ob]) w'/\Step I μ H w I (μ.gD H.length p) (H++[ob]) w':=by
    intro id es off len v ob u C hu;unfold qt at C;split at C
    .rename_i Z xs L;split at C
     .rename_i S;obtain⟨rfl,an⟩:=S;obtain⟨rfl,rfl⟩:=C;obtain⟨p,c,el,g1,g2,g3,g4⟩:=s1.obs id _ L;have aa:w.heap.size<=p.b:=by
       rcases st.terr p.b (.inr ⟨id,p,_,L,rfl,g1,rfl⟩)with h|h|h
       .obtain⟨x,hx⟩:=Option.isSome_iff_exists.1 h;have:=st.le _ _ hx
        grind
       .exact absurd h (qI _ _)
       simp_all
      have hI:I p.b=none:=by
       cases hx:I p.b with
       | none=>rfl
       | some x=>have:=s.Hx hx;omega
      have hn:¬g_ μ H p.b:=λho=>by have:=mT s ho;omega
      have ai:fW I (μ.gD H.length p) p c Z xs:=by
       refine⟨g4.es_eq,g4.sz,g4.oW,g4.one,g4.room,g4.rel.1,λj a b C B=>(g4.rel.2 j a b C B).scalar ?_⟩
       have hm:=List.mem_of_getElem? C;rw[List.mem_flatten]at hm
       grind
      have sa:=sk.JV (ob:=.row Z xs)  Zc hI hn ⟨p,c,el,Mu.gf _ _ _,hI,g3,ai⟩
      refine⟨p,?_,sa,⟨cw.le_refl _,Mu.qv (s.dom _ (Nat.le_refl _)),by simp,st.size,λb B _=>z b B,?_,st.os,st.out,st.fz⟩⟩
      .rcases hu.lR with⟨p',cap,hm,aj,ak,al,ee⟩|⟨h0,ad,ee⟩
       .rw[g1]at hm;cases hm;rw[ee];subst aj;exact .hsl _ off len cap p (Mu.gf _ _ _) ak al
       rw[ee,h0];exact .hsl0 _ _ _ _
      rintro b (h|⟨k,q,x,h1,Y,h3,rfl⟩)
      .exact .inl h
      by_cases e:k=H.length
      .subst e;rw[Mu.gf]at h3;cases h3;exact .inr (.inr aa)
      rw[Mu.iG _ _ e]at h3;have am:k<H.length:=by
       have:=(ζe.1 h1).1;simp at this;omega
      rw[List.getElem?_append_left am]at h1;exact .inr (.inl ⟨k,q,x,h1,Y,h3,rfl⟩)
     grind
    grind
   split at h
   next id es off len _=>simp only[ζf]at h;obtain⟨⟨v,ob⟩,C,rfl,rfl⟩:=h;obtain⟨p,k1,k2,k3⟩:=key id es off len v ob u C hr;exact⟨u,I,_,rfl,k1,k2,k3⟩
   .rename_i id es off len rest _;split at h
    .rename_i U;simp only[ζf,ζc]at h;obtain⟨⟨v,ob⟩,C,rfl,rfl⟩:=h;obtain⟨us,rfl,D⟩:=hr.pU;have ab:0<us.toList.length:=by have:=D.1;simp at this ⊢;omega
     obtain⟨u0,ur,W⟩:∃u0 ur,us.toList=u0::ur:=by
      cases hl:us.toList with
      | nil=>rw[hl]at ab;simp at ab
      | cons a b=>exact⟨a,b,rfl⟩
     rw[W]at D;obtain⟨p,k1,k2,k3⟩:=key id es off len v ob u0 C (D.2 0 _ _ rfl rfl);refine⟨_,I,_,rfl,.tup _ _ ?_ ?_,k2,k3⟩
     .have:=D.1;simp at this;have Y:us.toList.length=ur.length+1:=by rw[W];rfl
      simp at Y ⊢;omega
     intro j a b hj B;have J:(u0::ur)[j]? = some b:=by rw[<-W];simpa using B
     cases j with
     | zero=>simp at hj J;subst hj;subst J;exact k1
     | succ j=>
      simp at hj J;refine(D.2 (j+1) a b (by simpa using hj) (by simpa using J)).scalar ?_
      have:∀(l:List V),V.cO l=true->∀x∈l,x.scalar=true:=by
       intro l
       induction l with
       | nil=>intro _ x hx;simp at hx
       | cons y l ih=>
        intro hl x hx;simp[V.cO]at hl;rcases List.mem_cons.1 hx with rfl|hx
        .exact hl.1
        exact ih hl.2 x hx
      exact this rest U a (List.mem_of_getElem? hj)
    simp at h
   grind
  grind
 grind
theorem Ts {E:Env} {call:dx} (hc:kD P call) {f:FuncId} {args:List V} {y:V} (h:eT E call f args H=some (y,H')) (s:cU I μ H w) {vs:List Value} (hv:cM I μ args vs) :
 yg P f/\CallsIn (fr none) 0 P f vs.toArray w (xe I μ H w y H'):=by
 unfold eT at h;split at h
 .exact Tm hc h s hv
 obtain⟨k1,k2⟩:=hc.fn f args H y H' h
 grind
end
def Ob.mp:Ob->Option (List (V×V))
 | .map B=>some B
 | _=>none
def mI (H H2:bl):Prop:=∀id:Nat,(H[id]?).bind Ob.rows=(H2[id]?).bind Ob.rows/\(H[id]?).bind Ob.mp=(H2[id]?).bind Ob.mp
theorem mI.refl (H:bl):mI H H:=λ_=>⟨rfl,rfl⟩
theorem mI.symm {H H2:bl} (h:mI H H2):mI H2 H:=λid=>⟨(h id).1.symm,(h id).2.symm⟩
theorem mI.trans {H H2 B:bl} (h:mI H H2) (k:mI H2 B):mI H B:=λid=>⟨(h id).1.trans (k id).1,(h id).2.trans (k id).2⟩
theorem mI.of_eq {H H2:bl} (h:H=H2):mI H H2:=by subst h;exact .refl _
theorem HR {H H2:bl} (h:mI H H2):∀n,borrow n H=borrow n H2:=by
 intro n
 induction n with
 | zero=>funext x;rfl
 | succ n u=>
  funext x
  cases x with
  | hsl id es off len=>simp only[borrow,(h id).1,u]
  | hptr id el off=>simp only[borrow,(h id).1,u]
  | hmap id=>
   have:=(h id).2;simp only[borrow,u];split
   .rfl
   cases h1:H[id]? with
   | none=>
    cases w:H2[id]? with
    | none=>rfl
    | some o2=>rw[h1,w]at this;cases o2 <;> simp[Ob.mp]at this <;> rfl
   | some o=>
    cases w:H2[id]? with
    | none=>rw[h1,w]at this;cases o <;> simp[Ob.mp]at this <;> rfl
    | some o2=>rw[h1,w]at this;cases o <;> cases o2 <;> simp[Ob.mp]at this <;> first|rfl|(subst this;rfl)
  | _=>simp only[borrow,u]
theorem KE {H H2:bl} (h:mI H H2):∀n,cm n H=cm n H2:=by
 intro n
 induction n with
 | zero=>funext x;rfl
 | succ n u=>
  funext x
  cases x with
  | hsl id es off len=>simp only[cm,(h id).1,u]
  | hptr id el off=>simp only[cm,(h id).1,u]
  | hmap id=>
   have:=(h id).2;simp only[cm,u];split
   .rfl
   cases h1:H[id]? with
   | none=>
    cases w:H2[id]? with
    | none=>rfl
    | some o2=>rw[h1,w]at this;cases o2 <;> simp[Ob.mp]at this <;> rfl
   | some o=>
    cases w:H2[id]? with
    | none=>rw[h1,w]at this;cases o <;> simp[Ob.mp]at this <;> rfl
    | some o2=>rw[h1,w]at this;cases o <;> cases o2 <;> simp[Ob.mp]at this <;> first|rfl|(subst this;rfl)
  | _=>simp only[cm,u]
theorem yK {H H2:bl} (h:mI H H2) (call:dx) (f:FuncId) (args:List V):cg call f args H=cg call f args H2:=by
 unfold cg borrows;rw[HR h]
theorem Gr {H H2:bl} (h:mI H H2) (p:V) (n:Nat):ey H p n=ey H2 p n:=by
 cases p with
 | hptr id el off=>simp only[ey,(h id).1]
 | _=>rfl
theorem Kz {H H2:bl} (h:mI H H2) (p:V):mc H p=mc H2 p:=by
 cases p with
 | hmap id=>
  have:=(h id).2;simp only[mc]
  cases h1:H[id]? with
  | none=>
   cases u:H2[id]? with
   | none=>rfl
   | some o2=>rw[h1,u]at this;cases o2 <;> simp[Ob.mp]at this <;> rfl
  | some o=>
   cases u:H2[id]? with
   | none=>rw[h1,u]at this;cases o <;> simp[Ob.mp]at this <;> rfl
   | some o2=>rw[h1,u]at this;cases o <;> cases o2 <;> simp[Ob.mp]at this <;> first|rfl|(subst this;rfl)
 | _=>rfl
theorem yG {E:Env} {F:Frame} {H H2:bl} (h:mI H H2) (op:Op):dX E F H op=dX E F H2 op:=by
 cases op <;> simp only[dX,Gr h,Kz h]
theorem ue {H H2:bl} (h:mI H H2) (T:List Nat):iM H T=iM H2 T:=by
 unfold iM
 congr 1
 funext id
 rw[(h id).1]
theorem zo {H:bl} {T:List Nat} (h:iM H T=true) {id:Nat} (B:id∈T):∃es xs,H[id]? = some (.row es xs)\/H[id]? = some (.frz es xs):=by
 unfold iM at h;rw[List.all_eq_true]at h;have:=h id B
 cases h1:H[id]? with
 | none=>rw[h1]at this;simp at this
 | some o=>rw[h1]at this;cases o <;> simp[Ob.rows]at this <;> exact⟨_,_,by first|exact .inl rfl|exact .inr rfl⟩
theorem pq {H:bl} {b id:Nat}:(H.take b)[id]? = if id<b then H[id]? else none:=by
 rw[List.getElem?_take]
theorem qq {H:bl} {T:List Nat} {b:Nat} (h:iM (H.take b) T=true):mI (cI H T) H:=by
 intro id;rw[iC]
 by_cases u:id∈T
 .obtain⟨es,z,hx⟩:=zo h u;rw[pq]at hx
  by_cases w:id<b
  .rw[if_pos w]at hx;rcases hx with hx|hx <;> simp[hx,u,sB,Ob.rows,Ob.mp]
  rw[if_neg w]at hx;rcases hx with hx|hx <;> cases hx
 cases H[id]? <;> simp[u]
theorem mI.take {H H2:bl} (h:mI H H2) (b:Nat):mI (H.take b) (H2.take b):=by
 intro id;rw[pq,pq]
 by_cases u:id<b
 .rw[if_pos u,if_pos u];exact h id
 rw[if_neg u,if_neg u];exact⟨rfl,rfl⟩
theorem zL {H:bl} {T:List Nat} {b:Nat} (h:iM (H.take b) T=true) {id:Nat} (B:id∈T):id<b:=by
 obtain⟨es,w,hx⟩:=zo h B;rw[pq]at hx
 by_cases u:id<b
 .exact u
 rw[if_neg u]at hx;rcases hx with hx|hx <;> cases hx
theorem Cs {H:bl} {T:List Nat} {k:Nat} {ob:Ob} (h:k∉T):cI (H.set k ob) T=(cI H T).set k ob:=by
 apply List.ext_getElem?;intro i;rw[iC]
 by_cases e:i=k
 .subst e
  by_cases u:i<H.length
  .rw[List.getElem?_set_self u,List.getElem?_set_self (by rw[jR];exact u)];simp[h]
  rw[List.getElem?_eq_none (by simp;omega),List.getElem?_eq_none (by rw[List.length_set,jR];omega)];rfl
 rw[List.getElem?_set_ne (Ne.symm e),List.getElem?_set_ne (Ne.symm e),iC]
theorem H_ (H:bl) (T B:List Nat):cI (cI H T) B=cI (cI H B) T:=by
 apply List.ext_getElem?;intro i;simp only[iC]
 cases H[i]? with
 | none=>rfl
 | some o=>by_cases h1:i∈T <;> by_cases u:i∈B <;> simp[h1,u]
theorem Kj {H:bl} {b:Nat}:∀(n:Nat) (x:V),(∀id∈cm n (H.take b) x,id<b)->cm n H x=cm n (H.take b) x:=by
 intro n
 induction n with
 | zero=>intro x _;rfl
 | succ n C=>
  have u:∀l:List V,(∀id∈cT (cm n (H.take b)) l,id<b)->cT (cm n H) l=cT (cm n (H.take b)) l:=by
   intro l
   induction l with
   | nil=>intro _;rfl
   | cons x r B=>
    intro h;simp only[cT,List.mem_append]at h ⊢;rw[C x λid w=>h id (.inl w),B λid w=>h id (.inr w)]
  intro x h;simp only[cm]at h ⊢;split
  .rfl
  rename_i hc;rw[if_neg hc]at h
  cases x with
  | hsl id es off len=>
   simp only at h ⊢;have z:id<b:=h id (List.mem_cons_self ..);rw[pq,if_pos z]at h ⊢
   cases hr:(H[id]?).bind Ob.rows with
   | none=>rfl
   | some q=>
    rw[hr]at h;simp only at h ⊢;rw[u _ λi w=>h i (List.mem_cons_of_mem _ w)]
  | hptr id el off=>
   simp only at h ⊢;have z:id<b:=h id (List.mem_cons_self ..);rw[pq,if_pos z]at h ⊢
   cases hr:(H[id]?).bind Ob.rows with
   | none=>rfl
   | some q=>
    rw[hr]at h;simp only at h ⊢;rw[u _ λi w=>h i (List.mem_cons_of_mem _ w)]
  | hmap id=>
   simp only at h ⊢;have z:id<b:=h id (List.mem_cons_self ..);rw[pq,if_pos z]at h ⊢;split
   next D hk=>rw[hk]at h;simp only[List.mem_cons,List.mem_append]at h;rw[u _ λi w=>h i (.inr (.inl w)),u _ λi w=>h i (.inr (.inr w))]
   rfl
  | clo f a c=>
   simp only[List.mem_append]at h ⊢;rw[u _ λi w=>h i (.inl w),u _ λi w=>h i (.inr w)]
  | agg G=>simp only at h ⊢;exact u _ h
  | tup G=>simp only at h ⊢;exact u _ h
  | _=>rfl
theorem tC {H:bl} {b n:Nat}:∀(l:List V),(∀id∈cT (cm n (H.take b)) l,id<b)->cT (cm n H) l=cT (cm n (H.take b)) l
 | [],_=>rfl
 | x::r,h=>by
  simp only[cT,List.mem_append]at h ⊢;rw[Kj n x λid B=>h id (.inl B),tC r λid B=>h id (.inr B)]
theorem Ot {H:bl} {b id:Nat} {ob:Ob} (h:(H.take b)[id]? = some ob):H[id]? = some ob:=by
 grind
theorem Ep {H:bl} {b id es:Nat} {xs:List (List V)} (h:((H.take b)[id]?).bind Ob.rows=some (es,xs)):(H[id]?).bind Ob.rows=some (es,xs):=by
 grind
theorem HB {H:bl} {b:Nat} {p:V} {n:Nat} {cs:List V} (h:ey (H.take b) p n=some cs):ey H p n=some cs:=by
 unfold ey at h ⊢;split at h
 .omega
 .grind
 grind
theorem Jq {H:bl} {b:Nat} {m:V} {B:List (V×V)} (h:mc (H.take b) m=some B):mc H m=some B:=by
 unfold mc at h ⊢
 grind
theorem yE {E:Env} {F:Frame} {H:bl} {b:Nat} {op:Op} {x:V} (h:dX E F (H.take b) op=some x):dX E F H op=some x:=by
 cases op with
 | load t a=>
  simp[dX]at h ⊢;split at h
  .obtain⟨B,h1,w⟩:=ζg.1 h;rw[HB h1];exact w
  grind
 | lookup t m k ok=>
  simp[dX]at h ⊢;split at h
  .split at h
   next z u=>rw[z,Jq u];omega
   grind
  grind
 | _=>simp[dX]at h
theorem mD {f g:V->Option V} (B:∀x y,f x=some y->g x=some y):∀{xs ys:List V},hG f xs=some ys->hG g xs=some ys:=by
 intro xs
 induction xs with
 | nil=>intro ys h;exact h
 | cons x xs u=>
  intro ys h;simp[hG]at h ⊢
  grind
theorem Ig {f g:V->Option V} (B:∀x y,f x=some y->g x=some y):∀{xs ys:List (List V)},lp f xs=some ys->lp g xs=some ys:=by
 intro xs
 induction xs with
 | nil=>intro ys h;exact h
 | cons x xs u=>
  intro ys h;simp[lp]at h ⊢;split at h
  next y s w z=>rw[mD B w,u z];omega
  grind
theorem H7 {f g:V->Option V} (B:∀x y,f x=some y->g x=some y):∀{xs ys:List (V×V)},lg f xs=some ys->lg g xs=some ys:=by
 intro xs
 induction xs with
 | nil=>intro ys h;exact h
 | cons x xs u=>
  intro ys h;simp[lg]at h ⊢
  grind
theorem A6 {H:bl} {b:Nat}:∀(n:Nat) (x y:V),borrow n (H.take b) x=some y->borrow n H x=some y:=by
 intro n
 induction n with
 | zero=>intro x y h;exact h
 | succ n z=>
  intro x y h;simp[borrow]at h ⊢;split at h
  .grind
  rename_i hc;rw[if_neg hc];split at h
  .split at h
   .rename_i hr;simp only[Ep hr];split at h
    next B=>rw[if_pos B];obtain⟨C,w,u⟩:=ζf.1 h;rw[Ig z w,<-u];rfl
    grind
   grind
  .split at h
   .rename_i hr;simp[Ep hr];split at h
    .split at h
     next D=>rw[if_pos D];obtain⟨C,w,u⟩:=ζf.1 h;rw[mD z w,<-u];rfl
     grind
    grind
   grind
  .split at h
   next hr=>simp only[Ot hr];obtain⟨C,w,u⟩:=ζf.1 h;rw[H7 z w,<-u];rfl
   grind
  .split at h
   next h1 G=>rw[mD z h1,mD z G];omega
   grind
  .obtain⟨C,w,u⟩:=ζf.1 h;rw[mD z w,<-u];rfl
  .obtain⟨C,w,u⟩:=ζf.1 h;rw[mD z w,<-u];rfl
  grind
theorem pE {call:dx} {f:FuncId} {args:List V} {H:bl} {b:Nat} {y:V} (h:cg call f args (H.take b)=some y):cg call f args H=some y:=by
 unfold cg borrows at h ⊢;split at h
 next az has=>rw[mD (A6 call.lv) has];omega
 grind
theorem HK (n:Nat) (H:bl) {x:V} (h:x.closed=true):cm n H x=[]:=by
 cases n with
 | zero=>rfl
 | succ n=>simp[cm,h]
section
variable {P:Program} {E:Env} {I I':cw} {μ μ':Mu} {H H':bl} {n:Nat} {F:Frame} {a:Act} {w w':World}
theorem wh {f:FuncId} (h:yg P f) (args:Array Value):(callFunc f args).run P w=.ok (.enter f args) w:=by
 obtain⟨fn,h1,B,u⟩:=h;unfold callFunc;have z:fn.body.isNone=false:=by simp_all
 simp only[Sem.run_bind,run_program,Result.andThen_ok,h1,u,z,Bool.false_eq_true,if_false,Sem.run_pure]
theorem B5 {o:Oper} {ro:Option Nat} {K:Act->World->Prop} {Q:Exit->Act->World->Prop} {f:FuncId} {args:Array Value} {r:V}
 (B:CallsIn (fr none) 0 P f args w (xe I μ H w r H')) (D:∀u I' μ' w',bJ I' μ' r u->cU I' μ' H' w'->Step I μ H w I' μ' H' w'->K (a.put o.dst u) w') :
 o.uponIn (fr ro) 0 P a K Q (.ok (.enter f args) w):=by
 refine⟨λh=>by simp[fr]at h,?_⟩
 have z  := B;refine z.mono ?_;rintro e w' ⟨u,I',μ',rfl,h1,z,C⟩
 grind
theorem E_ {x:V} (h:x.scalar=true) {I:cw} {μ:Mu} {v:Value} (r:bJ I μ x v):eH I x v:=by
 induction r with
 | c x v C=>omega
 | agg u w z _ B=>
  exact .agg u w z λj a b p q=>B j a b p q (tj h a (List.mem_of_getElem? p))
 | tup u w z _ B=>
  exact .tup u w z λj a b p q=>B j a b p q (tj h a (List.mem_of_getElem? p))
 | _=>simp[V.scalar]at h
theorem Sm (hE:eG P E) (r:eE I μ n F a.tmps) (s:cU I μ H w) (o:Oper) {x:V} (h:qD E F o.op=some x) :
 ∃u I' w',(execOp a.eval o).run P w=.ok (.value u) w'/\bJ I' μ x u/\cU I' μ H w'/\Step I μ H w I' μ H w':=by
 unfold qD at h;split at h
 rotate_left
 .cases h
 rename_i es J B n Y;split at h
 rotate_left
 .cases h
 rename_i hc;obtain⟨rfl,rfl,Z⟩:=hc;obtain⟨obj,p,u,h1,X⟩:=BP hE r s o Y;have aa:=X.len _ _ rfl;obtain⟨⟨q,c,el,g1,g2,g3,g4⟩,gv⟩:=X.rel _ (s.dom _ (Nat.le_refl _));rw[Mu.gf]at g1;cases g1;have L:=X.b;have S:obj=.cells c el:=by
  rw[L,kI]at g3;cases g3;rfl
 subst S
 let I':cw:=λb=>if b=w.heap.size then some (.cells c)else I b
 have C:cw.le I I':=λb y D=>by
  show (if b=w.heap.size then some (IC.cells c)else I b)=some y;rw[if_neg (λe=>by have:=IC.tD (s.imm b y D);omega)];exact D
 have G:I' p.b=some (.cells c):=by show (if p.b=w.heap.size then some (IC.cells c)else I p.b)=_;rw[if_pos L]
 have ab:∀y∈J,∀z∈y,z.scalar=true:=λy D z hz=>List.all_eq_true.1 (List.all_eq_true.1 Z y D) z hz
 have hw:∀b,b<w.heap.size->(w.alloc (.cells c el)).heap[b]? = w.heap[b]? := λb hb=>jw _ b hb
 have ad:∀b,b<w.heap.size->I' b=I b:=λb hb=>by show (if b=w.heap.size then some (IC.cells c)else I b)=_;rw[if_neg Za]
 refine⟨u,I',_,h1,?_,⟨s.dom,?_,?_,s.inj,s.gl.mono C⟩,⟨C,Mu.le_refl _,Nat.le_refl _,by simp,λb hb _=>hw b hb,?_,rfl,⟨rfl,rfl,Nat.le_refl _⟩,λa hb=>Mm X.nf a⟩⟩
 .refine .c _ _ ?_;have ae:∀cap,J.length<=cap->p.o+(0+cap)*B<=p.sz->u=.slice (some ⟨p.b,p.o+0*B,none⟩) J.length cap->eH I' x u:=by
   rintro cap k1 k2 rfl;rw[Nat.zero_mul,Nat.add_zero];split at h
   .split at h
    .rename_i Q;simp only[ζa]at h;subst h;simp only[ζh,List.isEmpty_iff,bne_iff_ne,ne_eq]at Q;obtain⟨Q,af⟩:=Q;subst Q;have:cap=0:=by
      simp only[List.length_nil,Nat.zero_mul]at aa;rcases Nat.eq_zero_or_pos cap with k|k
      .exact k
      have:=Nat.mul_pos k (Nat.pos_of_ne_zero af);rw[Nat.zero_add]at k2;omega
     subst this;exact .dD _
    cases h
   simp only[ζa]at h;subst h;refine .fsl B J p.b p.o cap c G k1 g4.oW g4.one g4.room λi j y z v m1 m2 m3=>?_
   exact eH.mono C (E_ (ab y (List.mem_of_getElem? m1) z (List.mem_of_getElem? m2)) (g4.idx m1 m2 m3))
  have hp:p.es=B:=g4.es_eq;change bJ I _ (.hsl H.length B 0 J.length) u at gv;generalize T:J.length=ln at gv
  cases gv with
  | c _ _ ah=>cases ah
  | hsl id off len cap p' hm k1 k2=>
   rw[Mu.gf]at hm;cases hm;rw[hp]at *;subst T;exact ae cap k1 k2 rfl
  | hsl0 id es off a=>
   have Q:J=[]:=List.length_eq_zero_iff.1 T;subst Q;split at h
   .split at h
    .simp only[ζa]at h;subst h;exact .dD _
    cases h
   simp only[ζa]at h;subst h;exact .fsl0 _ _ _
 .intro b y D
  by_cases e:b=w.heap.size
  .subst e;have:y=.cells c:=by have:=G;rw[L]at this;rw[this]at D;cases D;rfl
   subst this;exact⟨el,_,kI _⟩
  have U:I b=some y:=by have:(if b=w.heap.size then some (IC.cells c)else I b)=some y:=D;rw[if_neg e]at this;exact this
  exact IC.qZ (s.imm b y U) (hw b (IC.tD (s.imm b y U)))
 .intro id ob O;refine(s.obs id ob O).mono C (Mu.le_refl _) (λq hq hl=>?_) (λe=>by subst e;exact s.obs id _ O)
  have ho:g_ μ H q.b:=⟨id,q,ob,O,hl,hq,rfl⟩;have W:=mT s ho;exact⟨hw _ W,by rw[ad _ W];exact fU s ho⟩
 intro b hb;rcases hb with hb|hb
 .by_cases e:b=w.heap.size
  .exact .inr (.inr Za)
  have:(if b=w.heap.size then some (IC.cells c)else I b).isSome=true:=hb;rw[if_neg e]at this;exact .inl this
 exact .inr (.inl hb)
theorem DP:∀{ys:List (List V)} {l:List Int},kU ys=some l->ys.flatten=l.map (V.int .u8)/\l.length=ys.length
 | [],l,h=>by cases h;exact⟨rfl,rfl⟩
 | x::r,l,h=>by
  unfold kU at h;split at h
  next e=>cases e
  next n B e=>cases e;obtain⟨k,h1,rfl⟩:=ζf.1 h;obtain⟨u,w⟩:=DP h1;exact⟨by simp[u],by simp[w]⟩
  cases h
theorem Ri (O:eG P E) (r:eE I μ n F a.tmps) (s:cU I μ H w) (o:Oper) {x:V} (h:evalConv E F H o.op=some x):∃u,(execOp a.eval o).run P w=.ok (.value u) w/\bJ I μ x u:=by
 unfold evalConv at h;split at h
 .rename_i st Q y B;split at h
  .rename_i e v S T hv;split at h
   .rename_i U;obtain⟨J,h1,W⟩:=ζg.1 h;obtain⟨l,X,rfl⟩:=ζf.1 W;obtain⟨Y,b2⟩:=DP X;have C:∀{t:TypeId} {k:TK},E.c8 t=some k->∃d desc,E.tt t=some d/\P.underlying t=some desc/\lY desc=k:=λ{t k} hk=>by
     unfold Env.c8 at hk;obtain⟨d,g1,g2⟩:=ζf.1 hk;obtain⟨desc,D,G,_⟩:=(O.ty g1).dB;exact⟨d,desc,g1,D,by rw[G,g2]⟩
    obtain⟨_,d1,_,p1,D⟩:=C S;obtain⟨_,d2,_,p2,G⟩:=C T;obtain⟨_,d3,_,p3,Z⟩:=C U;rw[jd D]at p1;rw[zU G]at p2;rw[CL Z]at p3;obtain⟨L,cap,arr,e1,_,e2,e3,_⟩:=zq s (dy r hv) h1;have z:arr=(l.map (Value.int .u8)).toArray:=by
     apply Array.ext';rw[Y]at e3;refine List.ext_getElem (by simpa using e3.1.symm) λj g1 g2=>?_
     have g3:j<l.length:=by simpa using g2
     have:=e3.2 j (V.int .u8 l[j]) arr.toList[j] (by simp[g3]) (ζd g1)
     rw[this.fC];simp
    refine⟨.string (lq l),?_,.c _ _ (.str _)⟩;rw[show execOp a.eval o=_ from by unfold execOp;rw[B]]
    refine dK ?_;rw[e1];rw[run_convert_bytes_string w st Q e L J.length cap p1 p3 p2]
    cases L with
    | none=>
     have:=e2 w rfl;rw[e1]at this;simp only[Builtin.firstCells,Sem.run_pure]at this;cases this;have hl:l=[]:=by
      have:=congrArg Array.size z;simp at this;exact List.eq_nil_of_length_eq_zero this.symm
     subst hl;rfl
    | some q=>
     have:=e2 w rfl;rw[e1]at this;simp only[Builtin.firstCells,Nat.mul_one]at this;rw[z]at this;exact run_bytesToString w q J.length cap l this
   cases h
  cases h
 cases h
theorem NT (W:eG P E) {call:dx} (hc:kD P call) {ops:List Oper} {place:Option (Nat×Nat)} {o:Oper} {x:V} (h:dn E call ops place F H o.op=some (x,H'))
 (r:eE I μ n F a.tmps) (s:cU I μ H w) (ro:Option Nat) {K:Act->World->Prop} {Q:Exit->Act->World->Prop}
 (hK:∀u I' μ' w',bJ I' μ' x u->cU I' μ' H' w'->Step I μ H w I' μ' H' w'->K (a.put o.dst u) w'):o.wpIn (fr ro) 0 P a w K Q:=by
 refine⟨λ_ _=>trivial,?_⟩
 have ad:∀c,o.op≠.defer c:=by
  intro c ae;rw[ae]at h;simp[dn,dh,rR,bO]at h;cases place <;> simp[evalConv]at h
 show o.uponIn (fr ro) 0 P a K Q ((o.semAt ro a.eval).run P w);rw[Oper.semAt_eq ro a.eval o ad];have aa:∀v,(execOp a.eval o).run P w=.ok (.value v) w->bJ I μ x v->H'=H->o.uponIn (fr ro) 0 P a K Q ((execOp a.eval o).run P w):=by
  intro v e hv hH;rw[e,Oper.uponIn_value];subst hH;exact hK v I μ w hv s (.refl _ _ _ _)
 unfold dn at h;split at h
 .
  simp  at h;obtain⟨v,hv,rfl,rfl⟩:=h;unfold rR at hv;split at hv
  .rename_i hp;cases hv;obtain⟨u,h1,B⟩:=RM (w:=w) W r o hp
   grind
  split at hv
  .obtain⟨u,h1,B⟩:=Ri W r s o hv;exact aa u h1 B rfl
  cases hv
 .
  have hr:dX E F H o.op=some x/\H'=H:=by
   split at h
   .simp  at h
    grind
   split at h
   .split at h
    next v hv=>obtain⟨rfl,rfl⟩:=h;exact⟨yE hv,rfl⟩
    split at h
    .simp  at h
     grind
    grind
   grind
  obtain⟨u,h1,B⟩:=Re W r s o hr.1
  grind
 .
  by_cases J:qK ops place=true
  .rw[if_pos J]at h;obtain⟨v,hv,e⟩:=ζf.1 h;obtain⟨u,I',w',k1,k2,k3,k4⟩:=Sm W r s o hv;rw[k1,Oper.uponIn_value]
   grind
  rw[if_neg J]at h;split at h
  .rename_i ob m X;obtain⟨obj,p,u,h1,B⟩:=BP W r s o X;rw[h1,Oper.uponIn_value];obtain⟨g1,g2⟩:=B.rel _ (s.dom _ (Nat.le_refl _));obtain⟨s1,s2⟩:=s.push B.b g1 B.nf
   grind
  .rename_i ob m b i X;split at h
   .rename_i L;obtain⟨obj,p,u,h1,B⟩:=BP W r s o X;rw[h1,Oper.uponIn_value];obtain⟨g1,g2⟩:=B.rel _ (s.obs _ _ L);obtain⟨s1,s2⟩:=s.fill L B.b g1 B.nf
    grind
   grind
  grind
 .
  have hl:c9 E F H o.op=some (x,H'):=by
   split at h
   .exact h
   split at h
   .exact h
   simp at h
  obtain⟨nx,u,w',μ',h1,B,h3,h4,h5⟩:=(Rh W r s o hl).run;rw[h1];rcases B with rfl|⟨rfl,rfl⟩
  .exact hK u I μ' w' h3 h4 h5
  exact hK _ I μ' w' h3 h4 h5
 
 have C:∀c args,jJ F o.op=some (c,args)->∃S:List Value,cM I μ args S /\
  (∀f,c=.fn f->yg P f->(execOp a.eval o).run P w=.ok (.enter f S.toArray) w) /\
  (∀id,c=.yld id->∃p,μ id=some p/\(execOp a.eval o).run P w=(Instr.yield p.b S.toArray).run P w):=by
  intro c args z;obtain⟨dst,op,ty,pos,after,guard⟩:=o
  cases op with
  | call cl=>
   obtain⟨callee,O,aj⟩:=cl
   cases callee with
   | value f=>
    simp only[jJ]at z;split at z
    .rename_i g p q S hf Y;obtain⟨rfl,rfl⟩:=z;obtain⟨u,v,ef,hu,hv⟩:=(dy r hf).jT;have D:=nj r Y;refine⟨u.toList++O.toList.map a.eval++v.toList,(hu.append D).append hv,?_,by simp⟩
     intro f' af ah;cases af;simp[execOp,resolve,Sem.run_bind];rw[ef];simp only[Deferred.ofValue,Sem.run_pure,Result.andThen_ok,invoke,wh ah]
     congr 2
     apply Array.ext';simp
    .rename_i id S hf Y;simp  at z;obtain⟨rfl,rfl⟩:=z;obtain⟨p,hm,ef⟩:=(dy r hf).RR;have D:=nj r Y;refine⟨O.toList.map a.eval,D,by simp,?_⟩
     intro ak ab;cases ab;refine⟨p,hm,?_⟩;simp[execOp,resolve,Sem.run_bind];rw[ef];simp[Deferred.ofValue,Sem.run_pure,Result.andThen_ok,invoke]
     congr 1
     congr 1
     apply Array.ext';simp
    simp at z
   | _=>simp[jJ]at z
  | _=>simp[jJ]at z
 have G:∀f args y,jJ F o.op=some (.fn f,args)->cg call f args H=some y->x=y->H'=(if y.scalar then H else cI H (cT (cm call.lv H) args)) ->
  o.uponIn (fr ro) 0 P a K Q ((execOp a.eval o).run P w):=by
  intro f args y h1 B h3 h4;obtain⟨S,g1,g2,_⟩:=C _ _ h1;obtain⟨k1,k2⟩:=CH hc B s g1;rw[g2 f rfl k1];subst h3;subst h4;exact B5 k2 hK
 have T:∀f args,jJ F o.op=some (.fn f,args)->eT E call f args H=some (x,H')->o.uponIn (fr ro) 0 P a K Q ((execOp a.eval o).run P w):=by
  intro f args h1 B;obtain⟨S,g1,g2,_⟩:=C _ _ h1;obtain⟨k1,k2⟩:=Ts hc B s g1;rw[g2 f rfl k1];exact B5 k2 hK
 have U:∀id args,jJ F o.op=some (.yld id,args)->call (.yld id) args H=some (x,H')->o.uponIn (fr ro) 0 P a K Q ((execOp a.eval o).run P w):=by
  intro id args h1 B;obtain⟨S,g1,_,g3⟩:=C _ _ h1;obtain⟨p,hm,e⟩:=g3 id rfl;obtain⟨l,f,tmps,assign,body,k1,k2⟩:=hc.yld id args H x H' B I μ w S p s g1 hm;rw[e,k1,Oper.uponIn_round];refine⟨λh=>by simp[fr]at h,?_⟩
  have B  := k2;refine B.mono ?_;rintro e w' ⟨u,I',μ',rfl,h1,B,h3⟩;exact hK u I' μ' w' h1 B h3
 split at h
 .rename_i f args z;split at h
  .split at h
   .exact T f args z h
   split at h
   .exact T f args z h
   simp at h
  split at h
  .split at h
   next y hy=>simp  at h;exact G f args y z hy h.1.symm h.2.symm
   simp at h
  split at h
  .rename_i y hy;split at h
   next Z=>simp  at h;refine G f args y z (pE hy) h.1.symm ?_;rw[<-h.2,if_pos Z]
   rename_i Z;split at h
   next ai=>simp  at h;refine G f args y z (pE hy) h.1.symm ?_;rw[<-h.2,if_neg Z,tC _ λid hi=>zL ai hi]
   simp at h
  split at h
  .split at h
   next y hy=>simp  at h;exact G f args y z hy h.1.symm h.2.symm
   simp at h
  simp at h
 .rename_i id args z;split at h
  .exact U id args z h
  split at h
  .exact U id args z h
  simp at h
 simp at h
end
structure jS (B:Nat) (ds:List Deferred) (w:World):Prop where
 all:∀d∈ds,∃r,d.target=.collected r/\B<=r/\w.heap[r]? = some (.deferred (some []))
 apart:ds.Pairwise λd d'=>∀r,d.target=.collected r->d'.target≠.collected r
section
variable {P:Program} {E:Env} {I I' I'':cw} {μ μ' μ'':Mu} {H H' H'':bl} {n B:Nat} {F F':Frame} {a:Act} {w w' w'':World}
theorem t_ (s:cU I μ H w) {r:Nat} {c:Option (List Deferred)} (h:w.heap[r]? = some (.deferred c)):¬g_ μ H r:=by
 rintro⟨id,p,ob,h1,C,B,rfl⟩;have:=s.obs id ob h1
 cases ob with
 | row es G=>obtain⟨q,c,el,u,_,z,_⟩:=this;rw[B]at u;cases u;rw[h]at z;cases z
 | map D=>obtain⟨q,c,el,u,_,z,_⟩:=this;rw[B]at u;cases u;rw[h]at z;cases z
 | loop x=>obtain⟨q,c,u,_,z,_⟩:=this;rw[B]at u;cases u;rw[h]at z;cases z
 | _=>simp[Ob.live]at C
theorem jS.step {ds:List Deferred} (h:jS B ds w) (s:cU I μ H w) (st:Step I μ H w I' μ' H' w'):jS B ds w' where
 all:=by
  intro d z;obtain⟨r,h1,C,u⟩:=h.all d z;refine⟨r,h1,C,?_⟩;rw[st.frame r (Array.getElem?_eq_some_iff.1 u).1 (t_ s u)];exact u
 apart:=h.apart
theorem Lw (r:eE I μ n F a.tmps) (ops:Array Oper) (o:Oper):fN ops.toList F o=Region.wanted o (yielded ops a.tmps):=by
 unfold fN Region.wanted
 cases hg:o.guard with
 | none=>rfl
 | some g=>
  obtain⟨j,b⟩:=g;simp only;unfold yielded;have e:ops.toList[j]? = ops[j]? := by simp
  rw[e]
  cases C:(ops[j]?).bind (·.dst)with
  | none=>simp
  | some d=>
   simp only[ζb];have hr:=r.2 d
   by_cases w:d<a.tmps.size
   .have u:a.tmps[d]? = some a.tmps[d]:=by simp[w]
    have z:a.tmps.getD d undef=a.tmps[d]:=by simp[w]
    rw[z]at hr;rw[u]
    cases B:get F d with
    | bool c=>rw[B]at hr;rw[hr.qR];cases c <;> cases b <;> rfl
    | _=>
     cases hv:a.tmps[d]with
     | bool c=>rw[hv]at hr;have:=hr.of_bool;rw[B]at this;cases this
     | _=>rfl
   have u:a.tmps[d]? = none:=Array.getElem?_eq_none (Nat.le_of_not_lt w);have z:a.tmps.getD d undef=undef:=by simp[w]
   rw[z]at hr;rw[u]
   cases B:get F d with
   | bool c=>rw[B]at hr;have:=hr.qR;simp[undef]at this
   | _=>rfl
theorem CK (O:eG P E) {call:dx} (hc:kD P call) {ops:Array Oper} {place:Option (Nat×Nat)} {o:Oper} (h:gp E call n ops.toList place o F H=some (F',H'))
 (r:eE I μ n F a.tmps) (s:cU I μ H w) (ro:Option Nat) {K:Act->World->Prop} {Q:Exit->Act->World->Prop}
 (J:∀a' I' μ' w',eE I' μ' n F' a'.tmps->a'.defers=a.defers->cU I' μ' H' w'->Step I μ H w I' μ' H' w'->K a' w') :
 if Region.wanted o (yielded ops a.tmps)then o.wpIn (fr ro) 0 P a w K Q else(∀f,o.about P w a.eval=some f->(fr ro).fn f)/\K (a.put o.dst undef) w:=by
 unfold gp at h;rw[<-Lw r];have z:∀v,(a.put o.dst v).defers=a.defers:=λv=>by cases o.dst <;> rfl
 split at h
 .rename_i C;rw[if_pos C];split at h
  .rename_i x H2 D;simp only[ζf,ζc]at h;obtain⟨L,G,rfl,rfl⟩:=h;refine NT O hc D r s ro (λu I' μ' w' S T B=>?_)
   exact J _ I' μ' w' ((r.mono B.le B.mu).put S G) (z u) T B
  simp at h
 rename_i C;rw[if_neg C];simp only[ζf,ζc]at h;obtain⟨L,G,rfl,rfl⟩:=h;exact⟨λ_ _=>trivial,J _ I μ w (r.put (.undef I μ) G) (z _) s (.refl _ _ _ _)⟩
theorem Me (U:eG P E) {call:dx} (hc:kD P call) {ops:Array Oper} (ro:Option Nat) {Q:Exit->Act->World->Prop}:∀(rest:List Oper) (k:Nat) (I:cw) (μ:Mu) (F:Frame) (H:bl) (a:Act) (w:World),
 (∀j,rest[j]? = ops[k+j]?)->lU E call n ops.toList rest F H=some (F',H')->eE I μ n F a.tmps->cU I μ H w ->
 (∀a' I' μ' w',eE I' μ' n F' a'.tmps->a'.defers=a.defers->cU I' μ' H' w'->Step I μ H w I' μ' H' w'->Q .normal a' w') ->
 wpOpsIn (fr ro) 0 P ops Q (List.range' k rest.length) a w:=by
 intro rest
 induction rest with
 | nil=>
  intro k I μ F H a w _ h r s C;simp only[lU,ζa,ζc]at h;obtain⟨rfl,rfl⟩:=h;exact C a I μ w r rfl s (.refl _ _ _ _)
 | cons o rest S=>
  intro k I μ F H a w u h r s C;simp only[lU]at h;split at h
  .rename_i F1 H1 z;have h0:ops[k]? = some o:=by simpa using (u 0).symm
   simp only[List.length_cons,List.range'_succ,wpOpsIn,h0];refine CK U hc z r s ro (λa' I' μ' w' hr T O D=>?_)
   refine S (k+1) I' μ' F1 H1 a' w' (λj=>by have:=u (j+1);simpa [Nat.add_assoc,Nat.add_comm 1 j]using this) h hr O ?_
   intro W I2 X Y G J L B;exact C W I2 X Y G (J.trans T) L (Step.trans O D B)
  simp at h
end
def nu (F F':Frame) (op:Op):Prop:=∀x∈op.operands,ev F x=ev F' x
theorem rB {F F':Frame}:∀{l:List Operand},(∀x∈l,ev F x=ev F' x)->fL F l=fL F' l:=by
 intro l
 induction l with
 | nil=>intro _;rfl
 | cons x l u=>
  simp[fL]
  grind
theorem zQ {F F':Frame}:∀{l:List (Nat×Operand)},(∀x∈l,ev F x.2=ev F' x.2)->lZ F l=lZ F' l:=by
 intro l
 induction l with
 | nil=>intro _;rfl
 | cons x l u=>
  intro h;simp[lZ];simp_all
theorem v_ {F F':Frame} {o:Option Operand} (h:∀x∈o.toArray,ev F x=ev F' x):jH F o=jH F' o:=by
 cases o with
 | none=>rfl
 | some x=>simp[jH];grind
theorem Di {E:Env} {F F':Frame} {op:Op} (h:nu F F' op):bO E F op=bO E F' op:=by
 cases op with
 | move x=>exact h x (by simp[Op.operands])
 | assign x=>exact h x (by simp[Op.operands])
 | pick c a b=>
  simp[bO];rw[h c (by simp[Op.operands]),h a (by simp[Op.operands]),h b (by simp[Op.operands])]
 | nilCheck x=>simp[bO];rw[h x (by simp[Op.operands])]
 | binOp op t x y B=>simp[bO];rw[h x (by simp[Op.operands]),h y (by simp[Op.operands])]
 | unOp op t x=>simp[bO];rw[h x (by simp[Op.operands])]
 | convert s d x=>simp[bO];rw[h x (by simp[Op.operands])]
 | fieldAddr s x f=>simp[bO];rw[h x (by simp[Op.operands])]
 | field s x f=>simp[bO];rw[h x (by simp[Op.operands])]
 | indexAddr t x i=>simp[bO];rw[h x (by simp[Op.operands]),h i (by simp[Op.operands])]
 | index t x i=>simp[bO];rw[h x (by simp[Op.operands]),h i (by simp[Op.operands])]
 | slice t x C D G=>
  simp[bO];rw[h x (by simp[Op.operands]),v_  (λy u=>h y (by simp[Op.operands]at u ⊢;simp_all)),v_  (λy u=>h y (by simp[Op.operands]at u ⊢;simp_all)),
   v_  (λy u=>h y (by simp[Op.operands]at u ⊢;simp_all))]
 | build t ps=>
  simp[bO];rw[zQ  (λx w=>h x.2 (by simp[Op.operands];grind))]
 | makeFunc f a b=>
  cases f with
  | func f=>
   simp[bO];rw[rB  (λx w=>h x (by simp[Op.operands];grind)),rB  (λx w=>h x (by simp[Op.operands];grind))]
  | _=>rfl
 | extract x i=>simp[bO];rw[h x (by simp[Op.operands])]
 | call c=>
  obtain⟨callee,args,z⟩:=c
  cases callee with
  | builtin b=>
   simp[bO];rw[rB  (λx w=>h x (by simp[Op.operands,Call.operands];grind))]
  | _=>rfl
 | _=>rfl
theorem xk {E:Env} {F F':Frame} {H:bl} {op:Op} (h:nu F F' op):dX E F H op=dX E F' H op:=by
 cases op with
 | load t x=>simp[dX];rw[h x (by simp[Op.operands])]
 | lookup t m k ok=>simp[dX];rw[h m (by simp[Op.operands]),h k (by simp[Op.operands])]
 | _=>rfl
theorem vV {E:Env} {F F':Frame} {op:Op} (h:nu F F' op):eS E F op=eS E F' op:=by
 cases op with
 | alloc t=>rfl
 | box t x=>simp[eS];rw[h x (by simp[Op.operands])]
 | makeSlice t l c=>simp[eS];rw[h l (by simp[Op.operands]),h c (by simp[Op.operands])]
 | buildSlice t len ps=>
  simp[eS];rw[zQ  (λx u=>h x.2 (by simp[Op.operands];grind))]
 | makeMap t r=>cases r <;> rfl
 | _=>rfl
theorem Dr {E:Env} {F F':Frame} {H:bl} {op:Op} (h:nu F F' op):c9 E F H op=c9 E F' H op:=by
 cases op with
 | store t p x=>simp[c9];rw[h p (by simp[Op.operands]),h x (by simp[Op.operands])]
 | mapUpdate t m k x=>simp[c9];rw[h m (by simp[Op.operands]),h k (by simp[Op.operands]),h x (by simp[Op.operands])]
 | insert t m k x=>simp[c9];rw[h m (by simp[Op.operands]),h k (by simp[Op.operands]),h x (by simp[Op.operands])]
 | call c=>
  obtain⟨callee,args,u⟩:=c
  cases callee with
  | builtin b=>
   cases b with
   | append=>
    simp[c9];rw[rB  (λx w=>h x (by simp[Op.operands,Call.operands];grind))]
   | clear=>
    simp[c9];rw[rB  (λx w=>h x (by simp[Op.operands,Call.operands];grind))]
   | _=>rfl
  | _=>rfl
 | _=>rfl
theorem Dn {F F':Frame} {op:Op} (h:nu F F' op):jJ F op=jJ F' op:=by
 cases op with
 | call c=>
  obtain⟨callee,args,u⟩:=c
  cases callee with
  | value f=>
   simp[jJ];rw[h f (by simp[Op.operands,Call.operands]),rB  (λx w=>h x (by simp[Op.operands,Call.operands];grind))]
  | _=>rfl
 | _=>rfl
theorem Il {E:Env} {F F':Frame} {op:Op} (h:nu F F' op):qD E F op=qD E F' op:=by unfold qD;rw[vV h]
theorem Jn {F F':Frame} {ops:List Oper} {i b:Nat} {H:bl} {op:Op} (h:nu F F' op):xI ops i b F H op=xI ops i b F' H op:=by
 have:pM F op=pM F' op:=by
  unfold pM;split
  .rename_i args _;split
   .rename_i x r u;rw[h x (by
     have:x∈args.toList:=by rw[u];simp
     simp only[Op.operands,Call.operands,Array.mem_append];right;simpa using this)]
   rfl
  rfl
 unfold xI;rw[this]
theorem HY {E:Env} {place:Option (Nat×Nat)} {F F':Frame} {H:bl} {op:Op} (h:nu F F' op):rR E F H place op=rR E F' H place op:=by
 unfold rR;rw[Di h];have:evalConv E F H op=evalConv E F' H op:=by
  unfold evalConv;split
  .rw[h _ (by simp[Op.operands])]
  rfl
 rw[this]
theorem uL {E:Env} {b:Nat×Nat} {F:Frame} {H:bl} {op:Op}:rR E F H (some b) op=bO E F op:=by
 unfold rR;split <;> simp_all
theorem BY {E:Env} {call:dx} {ops:List Oper} {place:Option (Nat×Nat)} {F F':Frame} {H:bl} {op:Op} (h:nu F F' op) (B:∀b i,place=some (b,i)->qN ops i F=qN ops i F'/\mZ ops i F op=mZ ops i F' op):dn E call ops place F H op=dn E call ops place F' H op:=by
 unfold dn;rw[HY h,vV h,Dr h,Dn h,xk (H:=H) h,Il h];split <;> (try rfl)
 .split <;> (try rfl)
  rename_i i;rw[xk h,(B _ i rfl).2]
 split <;> (try rfl)
 rename_i b i;rw[(B _ i rfl).1,Jn h]
section
variable {E:Env} {call:dx} {n:Nat} {ops:List Oper} {base:Nat}
theorem Jw {o:Oper} {t:Nat} (h:.tmp t∈o.op.operands):t∈tmpsOf o ops:=by
 refine List.mem_append.2 (.inl (List.mem_filterMap.2 ⟨.tmp t,by grind,rfl⟩))
theorem Ey {F F':Frame} {o:Oper} {dst:Option Nat} {v:V} (B:jM n F dst v=some F') (h:∀d,dst=some d->d∉tmpsOf o ops):nu F' F o.op:=by
 intro x w
 cases x with
 | tmp t=>
  cases dst with
  | none=>simp[jM]at B;grind
  | some d=>
   simp only[jM]at B;split at B
   .simp  at B;subst B;have u:d≠t:=λe=>h d rfl (by rw[e];exact Jw w)
    simp[ev];rw[gU _ _ u]
   grind
 | const v=>rfl
 | func f=>rfl
 | global g=>rfl
theorem AK {F F':Frame} {o:Oper} {dst:Option Nat} {v:V} (B:jM n F dst v=some F') (h:∀d,dst=some d->d∉tmpsOf o ops):fN ops F' o=fN ops F o:=by
 unfold fN
 cases hg:o.guard with
 | none=>rfl
 | some g=>
  obtain⟨j,b⟩:=g;simp only
  cases w:(ops[j]?).bind (·.dst)with
  | none=>rfl
  | some t=>
   simp only
   cases dst with
   | none=>simp[jM]at B;grind
   | some d=>
    simp only[jM]at B;split at B
    .simp  at B;subst B;have u:d≠t:=λe=>h d rfl (by
      unfold tmpsOf
      grind)
     rw[gU _ _ u]
    grind
theorem L7 {F F1 J:Frame} {d G:Option Nat} {u v:V} (h1:jM n F d u=some F1) (B:jM n F1 G v=some J) (O:∀x,d=some x->G≠some x) :
 ∃D,jM n F G v=some D/\jM n D d u=some J:=by
 cases d with
 | none=>
  simp[jM]at h1;subst h1;exact⟨J,B,rfl⟩
 | some x=>
  cases G with
  | none=>
   simp[jM]at B;subst B;exact⟨F,rfl,h1⟩
  | some y=>
   simp only[jM]at h1 B ⊢;split at h1
   .rename_i w;split at B
    .simp  at h1 B;subst h1;subst B;have:x≠y:=λe=>O x rfl (by rw[e])
     exact⟨set F y v,by grind,by rw[if_pos w,Gp _ _ _ (Ne.symm this)]⟩
    grind
   grind
theorem v8 {i k:Nat} {B ok:Oper} (h:dF ops i=true) (G:ops[i]? = some B) (hk:ops[k]? = some ok) (D:k≠i):dh ok.op=.pure\/(if k<i then before ops i k else before ops k i)=true\/(isApp B.op=true/\dh ok.op=.alloc/\i<k):=by
 unfold dF at h
 grind
theorem vT {H:bl} {j es:Nat} {ob:Ob} {x:V} {xs:List (List V)} (B:H[j]? = some .free) (h:dG H es x=some xs):dG (H.set j ob) es x=some xs:=by
 unfold dG at h ⊢;split at h <;> first|omega|skip
 rename_i id u off len
 by_cases e:j=id
 .subst e;rw[B]at h;simp only[ζb,Ob.rows]at h
  grind
 grind
theorem On {H H1:bl} {j:Nat} {ob:Ob} {x:V} (h:gH H x=some H1):H1.length=H.length/\(H1[j]? = some .free->H[j]? = some .free)/\(H[j]? = some .free->gH (H.set j ob) x=some (H1.set j ob)):=by
 unfold gH at h ⊢;split at h
 .grind
 .grind
 .rename_i id a b c;split at h
  .rename_i hr;cases h;refine⟨by simp,λh=>?_,λh=>?_⟩
   .grind
   have e:id≠j:=λe=>by grind
   rw[List.getElem?_set_ne (Ne.symm e),hr];rw[List.set_comm _ _ e]
  simp_all
 simp_all
theorem FC {H:bl} {o:Ob} {j:Nat} (B:o≠.free) (h:(H++[o])[j]? = some .free):j<H.length/\H[j]? = some .free:=by
 grind
theorem Sf {F:Frame} {H H1:bl} {op:Op} {v:V} {j:Nat} {ob:Ob} (O:isApp op=true) (h:c9 E F H op=some (v,H1)) (B:H1[j]? = some .free):H[j]? = some .free/\c9 E F (H.set j ob) op=some (v,H1.set j ob):=by
 unfold isApp at O;split at O
 .simp only[c9]at h ⊢;split at h
  .split at h
   .rename_i e _ w u;split at h
    .rename_i d D;split at h
     next G I=>obtain⟨rfl,rfl⟩:=h;refine⟨B,?_⟩;simp[w,u,D,vT  B G,vT  B I]
     .rename_i S T L G I;split at h
      .obtain⟨H0,hg,Q⟩:=ζf.1 h;obtain⟨rfl,rfl⟩:=Q;obtain⟨J,z⟩:=FC Zc B
       obtain⟨g1,g2,g3⟩:=On  (ob:=ob) hg;have C:=g2 z;simp[w,u,D,vT  C G,vT  C I]
       grind
      simp_all
     simp_all
    simp_all
   .rename_i e _ w u;split at h
    .rename_i d D;unfold mkApp at h;split at h
     .split at h
      .obtain⟨rfl,rfl⟩:=h;simp only[w,u,D,mkApp]
       grind
      split at h
      .obtain⟨rfl,rfl⟩:=h;obtain⟨J,z⟩:=FC Zc B
       simp only[u,mkApp]
       grind
      simp_all
     simp_all
    simp_all
   simp_all
  simp_all
 simp_all
theorem th {i:Nat} {F:Frame} {H H':bl} {op:Op} {v:V} (h:dn E call ops (some (base,i)) F H op=some (v,H')) (U:dF ops i=false) (B:dh op≠.loud) :
 (H'=H/\∀H2:bl,mI (H2.take base) (H.take base)->dn E call ops (some (base,i)) F H2 op=some (v,H2)) \/
 (∃ob,H[base+i]? = some .free/\H'=H.set (base+i) ob/\∀H2:bl,H2[base+i]? = some .free->dn E call ops (some (base,i)) F H2 op=some (v,H2.set (base+i) ob)) \/
 (∃T,iM (H.take base) T=true/\H'=cI H T/\∀H2:bl,mI (H2.take base) (H.take base)->dn E call ops (some (base,i)) F H2 op=some (v,cI H2 T)):=by
 unfold dn at h;split at h
 .rename_i J;simp  at h;obtain⟨x,D,rfl,rfl⟩:=h;refine .inl ⟨rfl,λH2 _=>?_⟩
  rw[uL]at D;unfold dn;rw[J];simp only[uL,D,Option.map_some]
 .rename_i B;simp only at h;split at h
  .rename_i L;split at h
   .rename_i x D;obtain⟨rfl,rfl⟩:=h;refine .inl ⟨rfl,λH2 u=>?_⟩
    unfold dn;rw[B];simp[yG u,D,L]
   grind
  grind
 .split at h
  .obtain⟨x,D,e⟩:=ζf.1 h;obtain⟨rfl,rfl⟩:=e;refine .inl ⟨rfl,λH2 _=>?_⟩
   unfold dn;grind
  split at h
  .grind
  .rename_i ob m W X S O;obtain⟨rfl,rfl⟩:=O;split at h
   .rename_i w;obtain⟨rfl,rfl⟩:=h;refine .inr (.inl ⟨ob,w,rfl,λH2 u=>?_⟩)
    unfold dn;grind
   grind
  grind
 .grind
 rename_i B;split at h
 .rename_i f args G;split at h
  .grind
  rename_i z;simp only at h;split at h
  .rename_i y Q;split at h
   .rename_i C;obtain⟨rfl,rfl⟩:=h;refine .inl ⟨rfl,λH2 u=>?_⟩
    unfold dn;rw[B];simp[G];rw[if_neg z];simp[yK u,Q,C]
   split at h
   .rename_i I;obtain⟨rfl,rfl⟩:=h;refine .inr (.inr ⟨_,I,rfl,λH2 u=>?_⟩)
    unfold dn;simp[G];simp[yK u,Q,KE u,ue u,I]
    grind
   grind
  grind
 .grind
 grind
theorem Ej {i:Nat}:∀{r l:List Nat},BH ops i r=some l->∀k∈r,∃a,Fy ops i k=some a/\∀s∈a,s∈l
 | [],l,h,k,hk=>by simp_all
 | q::r,l,h,k,hk=>by
  simp[BH]at h;split at h
  .rename_i a b h1 B;simp  at h;rcases List.mem_cons.1 hk with rfl|hk
   .grind
   obtain⟨a',g1,g2⟩:=Ej B k hk
   grind
  grind
theorem GW {i:Nat}:∀{r l:List Nat},BH ops i r=some l->∀s∈l,s∉dstsOf ops
 | [],l,h,s,hs=>by simp[BH]at h;grind
 | q::r,l,h,s,hs=>by
  simp[BH]at h;split at h
  .rename_i a b h1 B;simp  at h;subst h;rcases List.mem_append.1 hs with hs|hs
   .unfold Fy at h1
    grind
   exact GW B s hs
  grind
theorem Ea {i a:Nat} {l:List Nat} {B:Oper} (D:ops[i]? = some B) (h:zP ops i=some (a,l)):(∃t x,B.op=.store t (.tmp a) x)/\a∉dstsOf ops/\(∀s∈l,s∉dstsOf ops) /\
 ∀k ok,ops[k]? = some ok->k≠i->dh ok.op=.pure\/(if k<i then before ops i k else before ops k i)=true\/∃G a',ok.op=.load G (.tmp a')/\(a'∈l\/a'∈dstsOf ops):=by
 unfold zP at h;rw[D]at h;simp  at h;split at h
 .rename_i t a0 x w;simp  at w;split at h
  .simp_all
  obtain⟨I,z,e⟩:=ζf.1 h;obtain⟨rfl,rfl⟩:=e;refine⟨⟨t,x,w⟩,by grind,GW z,λk ok hk C=>?_⟩
  obtain⟨b,h1,J⟩:=Ej z k (List.mem_range.2 (ζe.1 hk).1);unfold Fy at h1;rw[hk]at h1;simp only at h1;split at h1
  .rename_i u;simp  at u;rcases u with (u|u)|u
   .grind
   .grind
   exact .inr (.inl u)
  split at h1
  .grind
  grind
 grind
theorem Ge {F F':Frame} {dst:Option Nat} {v:V} {s:Nat} (B:jM n F dst v=some F') (h:∀d,dst=some d->s≠d):get F' s=get F s:=by
 unfold jM at B;split at B
 .grind
 rename_i d;split at B
 .simp  at B;subst B;exact gU _ _ (Ne.symm (h d rfl))
 grind
theorem FU {k d:Nat} {ok:Oper} (hk:ops[k]? = some ok) (B:ok.dst=some d):d∈dstsOf ops:=
 List.mem_filterMap.2 ⟨ok,List.mem_of_getElem? hk,B⟩
theorem Ec {F F':Frame} {k i:Nat} {ok B:Oper} {v:V} (hk:ops[k]? = some ok) (D:ops[i]? = some B) (G:jM n F ok.dst v=some F'):qN ops i F'=qN ops i F:=by
 unfold qN
 cases u:zP ops i with
 | none=>rfl
 | some w=>
  obtain⟨a,l⟩:=w;obtain⟨_,I,J,_⟩:=Ea D u;have hg:∀s,s∉dstsOf ops->get F' s=get F s:=λs z=>Ge G λd C e=>z (e▸FU hk C)
  grind
theorem Ms {i k a a':Nat} {t:TypeId} {x:Operand} {B:Oper} (D:ops[i]? = some B) (e1:B.op=.store t (.tmp a) x) (h1:a'∈dstsOf ops) (G:a∉dstsOf ops) (J:vc ops i k=false):a∈oM ops k a':=by
 unfold oM
 grind
theorem yx {k a' s:Nat} (h:s∈oM ops k a'):s∉dstsOf ops/\∃i B t x,ops[i]? = some B/\B.op=.store t (.tmp s) x/\vc ops i k=false:=by
 unfold oM at h
 grind
theorem DS {F F':Frame} {k i:Nat} {ok:Oper} {op:Op} {v:V} (hk:ops[k]? = some ok) (D:jM n F ok.dst v=some F') (B:nu F' F op):mZ ops i F' op=mZ ops i F op:=by
 have hg:∀s,s∉dstsOf ops->get F' s=get F s:=λs h=>Ge D λd u e=>h (e▸FU hk u)
 unfold mZ;split
 .rename_i t w;have z  := by
   have:=B (.tmp w) (by simp[Op.operands])
   simpa [ev]using this
  rw[z,Bool.eq_iff_iff];simp;exact⟨λh s B=>by rw[<-hg s (yx B).1];grind,λh s B=>by rw[hg s (yx B).1];grind⟩
 rfl
theorem Cd {k a':Nat} {ok:Oper} {t:TypeId} (hk:ops[k]? = some ok) (e:ok.op=.load t (.tmp a')) (h:dF ops k=true):oM ops k a'=[]:=by
 refine List.eq_nil_iff_forall_not_mem.2 λs w=>?_
 obtain⟨_,i,C,D,x,h1,z,B⟩:=yx w;have u:i≠k:=λe2=>by grind
 rcases v8 h hk h1 u with g|g|g
 .rw[z]at g;cases g
 .unfold vc at B
  grind
 rw[e]at g;exact absurd g.1 (by simp[isApp])
theorem Ib {F:Frame} {H H':bl} {t:TypeId} {a:Nat} {x:Operand} {id el off:Nat} {u:V} (B:get F a=.hptr id el off) (h:c9 E F H (.store t (.tmp a) x)=some (u,H')):∃r,H'=H.set id r:=by
 simp only[c9,ev]at h;split at h
 .grind
 grind
theorem JP {F:Frame} {H:bl} {t:TypeId} {a id b:Nat} {r:Ob} (B:qi id (get F a)=true):dX E F ((H.set id r).take b) (.load t (.tmp a))=dX E F (H.take b) (.load t (.tmp a)):=by
 have:∀m,ey ((H.set id r).take b) (get F a) m=ey (H.take b) (get F a) m:=λm=>by
  unfold qi at B;split at B
  .rename_i u el off hg;rw[hg];simp[ey]
   grind
  next w hg=>rw[hg];rfl
  grind
 unfold dX;simp[ev]
 grind
theorem FV {k i:Nat} {ok G:Oper} (hk:ops[k]? = some ok) (Y:ops[i]? = some G) (U:k≠i) (J:(if k<i then before ops i k else before ops k i)=false) (lk:dF ops k=false) (pk:dh ok.op≠.pure) (hl:dh G.op=.loud) (li:dF ops i=false) (W:isApp G.op=false)
 {F:Frame} {H0 H1 H2 Hs O:bl} {u v:V} (D:dn E call ops (some (base,i)) F Hs G.op=some (u,O)) (B:dn E call ops (some (base,k)) F H0 ok.op=some (v,H1)) :
 H1=H0/\∃id,(∀(H:bl) (r:Ob),dX E F ((H.set id r).take base) ok.op=dX E F (H.take base) ok.op)/\(∃r,O=Hs.set id r)/\dh ok.op=.read/\dX E F (H0.take base) ok.op=some v/\mZ ops k F ok.op=true:=by
 unfold dn at D;rw[hl]at D;simp only[li,Bool.false_or,show ∀F b H,xI ops i b F H G.op=false from λF b H=>by unfold xI;rw[W];simp,Bool.or_false]at D
 split at D
 .rename_i C;unfold qN at C;split at C
  .rename_i a l L;split at C
   .rename_i id el off hg;obtain⟨⟨t,x,I⟩,X,h3,Z⟩:=Ea Y L;rcases Z k ok hk U with h|h|⟨t',T,w,hmem⟩
    .exact absurd h pk
    .rw[J]at h;cases h
    unfold dn at B;rw[w]at B;simp only[dh]at B;split at B
    rotate_left
    .simp at B
    rename_i z;have Q:qi id (get F T)=true:=by
     rcases hmem with hmem|hmem
     .exact List.all_eq_true.1 C T hmem
     have S:vc ops i k=false:=by
      unfold vc
      by_cases e:k<i
      .rw[if_pos e]at J ⊢;exact J
      rw[if_neg e]at J ⊢;exact J
     have hm:=Ms Y I hmem X S;unfold mZ at z;simp only[List.all_eq_true]at z;have:=z a hm;rw[hg]at this;exact this
    rw[I]at D;obtain⟨r,hr⟩:=Ib hg D;split at B
    next v' hv=>simp only[ζa,ζc]at B;obtain⟨rfl,rfl⟩:=B;refine⟨rfl,id,λH r=>by rw[w];exact JP Q,⟨r,hr⟩,by rw[w];rfl,by rw[w];exact hv,by rw[w];exact z⟩
    rw[lk]at B;simp at B
   simp at C
  simp at C
 simp at D
theorem CS {place:Nat×Nat} {F:Frame} {H H':bl} {op:Op} {v:V} (B:dh op=.pure\/dh op=.alloc/\qK ops (some place)=true) (h:dn E call ops (some place) F H op=some (v,H')) :
 H'=H/\∀H2:bl,dn E call ops (some place) F H2 op=some (v,H2):=by
 rcases B with B|⟨B,u⟩
 rotate_left
 .unfold dn at h;rw[B]at h;simp only[u]at h;obtain⟨x,w,e⟩:=ζf.1 h;obtain⟨rfl,rfl⟩:=e;refine⟨rfl,λH2=>?_⟩
  unfold dn;grind
 unfold dn at h;rw[B]at h;simp  at h;obtain⟨x,w,rfl,rfl⟩:=h;refine⟨rfl,λH2=>?_⟩
 rw[uL]at w;unfold dn;rw[B];simp only[uL,w,Option.map_some]
theorem take_set_of_le {H:bl} {b k:Nat} {x:Ob} (h:b<=k):(H.set k x).take b=H.take b:=List.take_set_of_le h
theorem apart_spec {a b:Oper} (h:wY ops a b=true):(∀d,a.dst=some d->d∉tmpsOf b ops/\b.dst≠some d)/\(∀d,b.dst=some d->d∉tmpsOf a ops):=by
 unfold wY at h
 grind
theorem Dd {i k:Nat} {ok:Oper} (h:vE ops i=true) (hk:ops[k]? = some ok) (B:k≠i) (D:vc ops i k=false):dh ok.op=.pure\/dh ok.op=.read\/dh ok.op=.alloc/\(wV ops k=true\/i<k):=by
 unfold vE at h;split at h
 .simp only[ζh,List.all_eq_true,List.mem_range]at h;have:=h.2 k (ζe.1 hk).1;rw[hk]at this;simp only[Bool.or_eq_true,beq_iff_eq,ζh,decide_eq_true_eq,D,Bool.false_eq_true,or_false]at this;rcases this with ((h|h)|h)|h
  .exact absurd h B
  .exact .inl h
  .exact .inr (.inl h)
  exact .inr (.inr h)
 cases h
theorem zI {op:Op} (h:isApp op=true):dh op=.loud:=by
 unfold isApp at h;split at h
 .rfl
 cases h
theorem Gx {F:Frame} {H H1:bl} {op:Op} {v:V} {b:Nat} (D:isApp op=true) (B:pM F op=true) (G:b<=H.length) (h:c9 E F H op=some (v,H1)):H1.take b=H.take b:=by
 unfold isApp at D;split at D
 rotate_left
 .cases D
 rename_i args z;simp only[c9]at h;split at h
 rotate_left
 .cases h
 rename_i t L s x C u;have I:s=.dD\/s=.bK:=by
  simp only[pM]at B;split at B
  .rename_i y r J;rw[J]at u;have h1:ev F y=some s:=by
    simp only[fL]at u;split at u
    next a b h1 w=>simp only[ζa,List.cons.injEq]at u;rw[h1,u.1]
    cases u
   rw[h1]at B;cases s <;> simp at B <;> simp
  cases B
 have hg:∀H2,gH H s=some H2->H2=H:=λH2 h=>by rcases I with rfl|rfl <;> (simp only[gH,ζa]at h;exact h.symm)
 split at h
 .split at h
  .split at h
   .simp only[ζa,ζc]at h;rw[h.2]
   .split at h
    .obtain⟨H0,h1,w⟩:=ζf.1 h;simp only[ζc]at w;rw[<-w.2,hg H0 h1,List.take_append_of_le_length G]
    cases h
   cases h
  cases h
 .split at h
  .unfold mkApp at h;split at h
   .split at h
    .simp only[ζa,ζc]at h;rw[h.2]
    split at h
    .simp only[ζa,ζc]at h;rw[<-h.2,List.take_append_of_le_length G]
    cases h
   cases h
  cases h
 cases h
theorem DE {i:Nat} {F:Frame} {H H':bl} {op:Op} {u:V} (B:isApp op=true) (D:dF ops i=false) (G:(ops[i]?).map Oper.op=some op) (h:dn E call ops (some (base,i)) F H op=some (u,H')) :
 vE ops i=true/\pM F op=true/\base<=H.length/\c9 E F H op=some (u,H'):=by
 unfold dn at h;rw[zI B]at h;have w:qN ops i F=false:=by
  unfold qN zP;rw[G];unfold isApp at B;split at B
  .rfl
  cases B
 simp only[D,w,Bool.false_or]at h;split at h
 next hc=>unfold xI at hc;simp only[ζh,decide_eq_true_eq]at hc;exact⟨hc.1,hc.2.1.2,hc.2.2,h⟩
 cases h
theorem LZ {i:Nat} {F:Frame} {H H':bl} {op:Op} {u:V} (B:isApp op=true) (h:c9 E F H op=some (u,H')) (hc:dF ops i=true\/vE ops i=true/\pM F op=true/\base<=H.length):dn E call ops (some (base,i)) F H op=some (u,H'):=by
 unfold dn;rw[zI B];rcases hc with hc|⟨h1,w,z⟩
 .simp only[hc,Bool.true_or,if_true,h]
 have:xI ops i base F H op=true:=by unfold xI;simp[h1,B,w,z]
 simp only[this,Bool.or_true,if_true,h]
theorem B0 {i:Nat} {F:Frame} {H H':bl} {op:Op} {v:V} (B:dh op=.read) (D:dF ops i=false) (h:dn E call ops (some (base,i)) F H op=some (v,H')) :
 H'=H/\∀H2:bl,mI (H2.take base) (H.take base)->dn E call ops (some (base,i)) F H2 op=some (v,H2):=by
 unfold dn at h;rw[B]at h;simp only at h;split at h
 .rename_i u;split at h
  .rename_i x w;simp only[ζa,ζc]at h;obtain⟨rfl,rfl⟩:=h;refine⟨rfl,λH2 z=>?_⟩
   unfold dn;rw[B];simp only[yG z,w,u,if_true]
  rw[D]at h;simp at h
 simp at h
theorem swap {k i:Nat} {ok D:Oper} (hk:ops[k]? = some ok) (hi:ops[i]? = some D) (ad:k<i) (O:before ops i k=false) (J:wY ops ok D=true) {F F1 F2:Frame} {H H1 H2:bl}
 (h1:gp E call n ops (some (base,k)) ok F H=some (F1,H1)) (h2:gp E call n ops (some (base,i)) D F1 H1=some (F2,H2)) :
 ∃G B,gp E call n ops (some (base,i)) D F H=some (G,B)/\gp E call n ops (some (base,k)) ok G B=some (F2,H2):=by
 obtain⟨a1,a2⟩:=apart_spec J;have ae:∃v,jM n F ok.dst v=some F1/\((fN ops F ok=true/\dn E call ops (some (base,k)) F H ok.op=some (v,H1))\/(fN ops F ok=false/\v=.undef/\H1=H)):=by
  unfold gp at h1;split at h1
  .rename_i hw;split at h1
   next v H' S=>simp only[ζf,ζc]at h1;obtain⟨Fx,hp,rfl,rfl⟩:=h1;exact⟨v,hp,.inl ⟨hw,S⟩⟩
   simp at h1
  rename_i hw;simp only[ζf,ζc]at h1;obtain⟨Fx,hp,rfl,rfl⟩:=h1;exact⟨_,hp,.inr ⟨by simpa using hw,rfl,rfl⟩⟩
 have af:∃v,jM n F1 D.dst v=some F2/\((fN ops F1 D=true/\dn E call ops (some (base,i)) F1 H1 D.op=some (v,H2))\/(fN ops F1 D=false/\v=.undef/\H2=H1)):=by
  unfold gp at h2;split at h2
  .rename_i hw;split at h2
   next v H' S=>simp only[ζf,ζc]at h2;obtain⟨Fx,hp,rfl,rfl⟩:=h2;exact⟨v,hp,.inl ⟨hw,S⟩⟩
   simp at h2
  rename_i hw;simp only[ζf,ζc]at h2;obtain⟨Fx,hp,rfl,rfl⟩:=h2;exact⟨_,hp,.inr ⟨by simpa using hw,rfl,rfl⟩⟩
 obtain⟨v,U,iN⟩:=ae;obtain⟨u,aw,ah⟩:=af;have ax:fN ops F1 D=fN ops F D:=AK U λd S=>(a1 d S).1
 have ao:nu F1 F D.op:=Ey U λd S=>(a1 d S).1
 have ay:∀(b j:Nat),(some (base,i):Option (Nat×Nat))=some (b,j)->qN ops j F1=qN ops j F/\mZ ops j F1 D.op=mZ ops j F D.op:=λb j e=>by cases e;exact⟨Ec hk hi U,DS hk U ao⟩
 rw[ax,BY ao ay]at ah;obtain⟨G,Q,ap⟩:=L7 U aw λx hx=>(a1 x hx).2
 have aA:fN ops G ok=fN ops F ok:=AK Q λd S=>a2 d S
 have aq:nu G F ok.op:=Ey Q λd S=>a2 d S
 have aB:∀(b j:Nat),(some (base,k):Option (Nat×Nat))=some (b,j)->qN ops j G=qN ops j F/\mZ ops j G ok.op=mZ ops j F ok.op:=λb j e=>by cases e;exact⟨Ec hi hk Q,DS hi Q aq⟩
 have fin:∀B,((fN ops F D=true/\dn E call ops (some (base,i)) F H D.op=some (u,B))\/(fN ops F D=false/\u=.undef/\B=H)) ->
  ((fN ops F ok=true/\dn E call ops (some (base,k)) F B ok.op=some (v,H2))\/(fN ops F ok=false/\v=.undef/\H2=B)) ->
  ∃G B,gp E call n ops (some (base,i)) D F H=some (G,B)/\gp E call n ops (some (base,k)) ok G B=some (F2,H2):=by
  intro B e1 e2;refine⟨G,B,?_,?_⟩
  .unfold gp;rcases e1 with⟨x1,x2⟩|⟨x1,x2,x3⟩
   .rw[if_pos x1,x2];simp[Q]
   rw[if_neg (by simp[x1])];subst x2;subst x3;simp[Q]
  unfold gp;rw[aA];rcases e2 with⟨x1,x2⟩|⟨x1,x2,x3⟩
  .rw[if_pos x1,BY aq aB,x2];simp[ap]
  rw[if_neg (by simp[x1])];subst x2;subst x3;simp[ap]
 rcases iN with⟨z,d1⟩|⟨z,rfl,rfl⟩
 .rcases ah with⟨w,d2⟩|⟨w,rfl,rfl⟩
  .by_cases pk:dh ok.op=.pure\/dh ok.op=.alloc/\qK ops (some (base,k))=true
   .obtain⟨rfl,q⟩:=CS pk d1;exact fin H2 (.inl ⟨w,d2⟩) (.inl ⟨z,q H2⟩)
   by_cases pi:dh D.op=.pure\/dh D.op=.alloc/\qK ops (some (base,i))=true
   .obtain⟨rfl,q⟩:=CS pi d2;exact fin H (.inl ⟨w,q H⟩) (.inl ⟨z,d1⟩)
   by_cases J:isApp ok.op=true/\dh D.op=.alloc
   .
    obtain⟨J,ai⟩:=J;have aC:=zI J;have aj:(dF ops k=true\/vE ops k=true/\pM F ok.op=true/\base<=H.length)/\c9 E F H ok.op=some (v,H1):=by
     cases hl:dF ops k with
     | true=>
      refine⟨.inl rfl,?_⟩;unfold dn at d1;rw[aC]at d1;simpa only[hl,Bool.true_or,if_true]using d1
     | false=>
      obtain⟨a,b,c,d⟩:=DE J hl (by rw[hk];rfl) d1
      exact⟨.inr ⟨a,b,c⟩,d⟩
    obtain⟨aj,e1⟩:=aj;have ar:qK ops (some (base,i))=false:=by
     cases hc:qK ops (some (base,i))with
     | false=>rfl
     | true=>exact absurd (.inr ⟨ai,hc⟩) pi
    have e2:∃ob m,eS E F D.op=some (ob,m)/\H1[base+i]? = some .free/\u=m.val (base+i)/\H2=H1.set (base+i) ob:=by
     unfold dn at d2;rw[ai]at d2;simp only[ar,Bool.false_eq_true,if_false]at d2;split at d2
     next ak=>cases ak
     .rename_i ob m b' i' al ak;cases ak;split at d2
      next C=>simp only[ζa,ζc]at d2;exact⟨ob,m,al,C,d2.1.symm,d2.2.symm⟩
      cases d2
     cases d2
    obtain⟨ob,m,al,C,rfl,rfl⟩:=e2;obtain⟨f0,f1⟩:=Sf (ob:=ob) J e1 C;refine fin (H.set (base+i) ob) (.inl ⟨w,?_⟩) (.inl ⟨z,?_⟩)
    .unfold dn;rw[ai];simp only[ar,Bool.false_eq_true,if_false,al,f0]
    exact LZ J f1 (aj.imp id λ⟨a,b,c⟩=>⟨a,b,by rw[List.length_set];exact c⟩)
   have lk:dF ops k=false:=by
    cases hl:dF ops k with
    | false=>rfl
    | true=>
     rcases v8 hl hk hi Za with h|h|h
     .exact absurd (.inl h) pi
     .rw[if_neg Za]at h;rw[O]at h;cases h
     exact absurd ⟨h.1,h.2.1⟩ J
   have li:dF ops i=false:=by
    cases hl:dF ops i with
    | false=>rfl
    | true=>
     rcases v8 hl hi hk Za with h|h|h
     .exact absurd (.inl h) pk
     .rw[if_pos ad]at h;rw[O]at h;cases h
     exact absurd h.2.2 Za
   by_cases am:isApp D.op=true
   .obtain⟨g1,g2,g3,g4⟩:=DE am li (by rw[hi];rfl) d2
    rcases Dd g1 hk Za (by unfold vc;rw[if_pos ad];exact O)with h|h|⟨h,h2⟩
    .exact absurd (.inl h) pk
    .obtain⟨rfl,q⟩:=B0 h lk d1;exact fin H2 (.inl ⟨w,d2⟩) (.inl ⟨z,q H2 (mI.of_eq (Gx am g2 g3 g4))⟩)
    rcases h2 with h2|h2
    .exact absurd (.inr ⟨h,h2⟩) pk
    omega
   by_cases Z:isApp ok.op=true
   .obtain⟨g1,g2,g3,g4⟩:=DE Z lk (by rw[hk];rfl) d1
    rcases Dd g1 hi Za (by unfold vc;rw[if_neg Za];exact O)with h|h|⟨h,h2⟩
    .exact absurd (.inl h) pi
    .obtain⟨rfl,q⟩:=B0 h li d2;exact fin H (.inl ⟨w,q H (mI.of_eq (Gx Z g2 g3 g4).symm)⟩) (.inl ⟨z,d1⟩)
    exact absurd ⟨Z,h⟩ J
   by_cases I:dh D.op=.loud
   .obtain⟨rfl,id,q1,⟨r,hr⟩,q3,q4,q5⟩:=FV (H2:=H2) hk hi Za (by rw[if_pos ad];exact O) lk (λh=>pk (.inl h)) I li (by simpa using am) d2 d1
    refine fin H2 (.inl ⟨w,d2⟩) (.inl ⟨z,?_⟩);unfold dn;rw[q3];subst hr;simp only[q1,q4,q5,if_true]
   by_cases ab:dh ok.op=.loud
   .obtain⟨rfl,id,q1,⟨r,hr⟩,q3,q4,q5⟩:=FV (H2:=H2) hi hk Za (by rw[if_neg Za];exact O) li (λh=>pi (.inl h)) ab lk (by simpa using Z) d1 d2
    refine fin H (.inl ⟨w,?_⟩) (.inl ⟨z,d1⟩);unfold dn;rw[q3];subst hr;rw[q1]at q4;simp only[q4,q5,if_true]
   have tk:∀(X:bl) (k:Nat) (o:Ob),mI ((X.set (base+k) o).take base) (X.take base):=λX k o=>mI.of_eq (take_set_of_le Za)
   rcases th d1 lk ab with⟨rfl,qk⟩|⟨ob,fk,rfl,qk⟩|⟨T,tr,rfl,qk⟩
   .rcases th d2 li I with⟨rfl,L⟩|⟨aa,fi,rfl,L⟩|⟨T2,W,rfl,L⟩
    .exact fin H2 (.inl ⟨w,d2⟩) (.inl ⟨z,d1⟩)
    .exact fin _ (.inl ⟨w,d2⟩) (.inl ⟨z,qk _ (tk _ _ _)⟩)
    exact fin _ (.inl ⟨w,d2⟩) (.inl ⟨z,qk _ ((qq W).take base)⟩)
   .rcases th d2 li I with⟨rfl,L⟩|⟨aa,fi,rfl,L⟩|⟨T2,W,rfl,L⟩
    .refine fin H (.inl ⟨w,L H (tk _ _ _).symm⟩) (.inl ⟨z,d1⟩)
    .have an:H[base+i]? = some .free:=by rw[List.getElem?_set_ne Za]at fi;exact fi
     refine fin (H.set (base+i) aa) (.inl ⟨w,L H an⟩) (.inl ⟨z,?_⟩);rw[qk _ (by rw[List.getElem?_set_ne Za];exact fk)]
     rw[List.set_comm _ _ Za]
    have Y:iM (H.take base) T2=true:=by rw[<-ue (tk H k ob)];exact W
    have au:base+k∉T2:=λhm=>absurd (zL Y hm) Za
    refine fin (cI H T2) (.inl ⟨w,L H (tk _ _ _).symm⟩) (.inl ⟨z,?_⟩);rw[qk _ (by rw[iC,fk];simp[au]),Cs au]
   rcases th d2 li I with⟨rfl,L⟩|⟨aa,fi,rfl,L⟩|⟨T2,W,rfl,L⟩
   .refine fin H (.inl ⟨w,L H ((qq tr).take base).symm⟩) (.inl ⟨z,d1⟩)
   .have av:base+i∉T:=λhm=>absurd (zL tr hm) Za
    have an:H[base+i]? = some .free:=by
     rw[iC]at fi;obtain⟨o,ho,hf⟩:=ζf.1 fi;rw[if_neg av]at hf;rw[ho,hf]
    refine fin (H.set (base+i) aa) (.inl ⟨w,L H an⟩) (.inl ⟨z,?_⟩);rw[qk _ (tk _ _ _),Cs av]
   have Y:iM (H.take base) T2=true:=by rw[<-ue ((qq tr).take base)];exact W
   refine fin (cI H T2) (.inl ⟨w,L H ((qq tr).take base).symm⟩) (.inl ⟨z,?_⟩);rw[qk _ ((qq Y).take base),H_]
  exact fin H (.inr ⟨w,rfl,rfl⟩) (.inl ⟨z,d1⟩)
 rcases ah with⟨w,d2⟩|⟨w,rfl,rfl⟩
 .exact fin H2 (.inl ⟨w,d2⟩) (.inr ⟨z,rfl,rfl⟩)
 exact fin _ (.inr ⟨w,rfl,rfl⟩) (.inr ⟨z,rfl,rfl⟩)
theorem HW (h:vo ops=true) {k i:Nat} {ok B:Oper} (hk:ops[k]? = some ok) (G:ops[i]? = some B) (D:k<i):Ds B k=true\/wY ops ok B=true:=by
 unfold vo at h;simp  at h
 grind
theorem Og (G:vo ops=true) {i:Nat} {D:Oper} (B:ops[i]? = some D):∀(l r:List Nat),(∀k∈l,k<i/\Ds D k=false/\before ops i k=false)->∀{F F':Frame} {H H':bl},
 jD E call n ops base (l++i::r) F H=some (F',H')->jD E call n ops base (i::(l++r)) F H=some (F',H'):=by
 intro l
 induction l with
 | nil=>grind
 | cons k l I=>
  intro r C F F' H H' h;obtain⟨u,J,w⟩:=C k Zc
  simp[jD]at h;split at h
  .rename_i ok hk;split at h
   .rename_i F1 H1 h1;have:=I r (λx L=>C x (List.mem_cons_of_mem _ L)) h
    simp[jD,B]at this;split at this
    .rename_i T H2 O;have z:wY ops ok D=true:=by
      rcases HW G hk B u with h|h
      .grind
      omega
     obtain⟨Q,S,g1,g2⟩:=swap hk B u w z h1 O;simp[jD,B,g1,hk,g2];simp_all
    grind
   grind
  grind
inductive Reach (ops:List Oper):Nat->Nat->Prop
 | one (i k:Nat) (o:Oper) (e:Edge) (hi:ops[i]? = some o) (he:e∈o.after) (hb:kT e=true) (hk:e.on=k):Reach ops i k
 | more (i j k:Nat) (o:Oper) (e:Edge) (hi:ops[i]? = some o) (he:e∈o.after) (hb:kT e=true) (hk:e.on=j) (h:Reach ops j k):Reach ops i k
theorem CD:∀(B l:List Nat) (k:Nat),k∈B.foldl (λl k=>if l.contains k then l else k::l) l->k∈B\/k∈l
 | [],_,_,h=>.inr h
 | x::B,l,k,h=>by
  rcases CD B _ k h with h|h
  .grind
  grind
theorem JJ {acc:List (List Nat)} {o:Oper} {k:Nat} (h:k∈HC acc o):∃e∈o.after,kT e=true/\(k=e.on\/∃S,acc[e.on]? = some S/\k∈S):=by
 have key:∀(es:List Edge) (l:List Nat),k∈es.foldl (λl e=>(e.on::(acc[e.on]?).getD []).foldl (λl k=>if l.contains k then l else k::l) l) l->k∈l\/∃e∈es,k=e.on\/∃S,acc[e.on]? = some S/\k∈S:=by
  intro es
  induction es with
  | nil=>grind
  | cons e es w=>
   intro l h;rcases w _ h with h|⟨z,h1,u⟩
   .rcases CD _ _ _ h with h|h
    .refine .inr ⟨e,by simp,?_⟩
     rcases List.mem_cons.1 h with h|h
     .grind
     cases B:acc[e.on]? with
     | none=>rw[B]at h;simp at h
     | some S=>grind
    grind
   exact .inr ⟨z,List.mem_cons_of_mem _ h1,u⟩
 rcases key _ _ h with h|⟨e,h1,u⟩
 .simp at h
 grind
theorem w_ (ops:List Oper):∀(l:List Oper) (acc:List (List Nat)) (pre:List Oper),ops=pre++l->acc.length=pre.length->(∀(i:Nat) S,acc[i]? = some S->∀k∈S,Reach ops i k) ->
 ∀(i:Nat) S,(l.foldl (λacc o=>acc++[HC acc o]) acc)[i]? = some S->∀k∈S,Reach ops i k
 | [],_,_,_,_,h=>h
 | o::l,acc,pre,G,J,h=>by
  refine w_ ops l _ (pre++[o]) (by simp_all) (by simp_all) ?_
  intro i S B k hk
  by_cases O:i<acc.length
  .grind
  rw[List.getElem?_append_right Za]at B
  have D:i=acc.length:=by
   grind
  subst D;simp at B;subst B;have u:ops[acc.length]? = some o:=by grind
  obtain⟨e,w,z,hk⟩:=JJ hk;rcases hk with hk|⟨S,B,hk⟩
  .exact .one _ _ o e u w z hk.symm
  exact .more _ e.on _ o e u w z rfl (h _ S B k hk)
theorem HE {i k:Nat} (h:before ops i k=true):Reach ops i k:=by
 unfold before at h
 cases u:(HH ops)[i]? with
 | none=>grind
 | some S=>
  exact w_ ops ops [] [] rfl rfl Zc i S u k Zd
end
section
variable {P:Program} {E:Env} {I I':cw} {μ μ':Mu} {H H':bl} {n B:Nat} {F F':Frame} {a:Act} {w w':World}
theorem D2 (e:Edge):Region.binds .any e=kT e:=by
 unfold Region.binds kT
 grind
def todo (ops:Array Oper) (listed:Array Bool):List Nat:=(List.range ops.size).filter λi => !listed.getD i true
theorem wA (ops:Array Oper) (listed:Array Bool):(todo ops listed).Pairwise (·<·):=List.pairwise_lt_range.filter _
theorem Pb {ops:Array Oper} {listed:Array Bool} {i:Nat} (G:listed.size=ops.size) (J:i<ops.size) {B D:List Nat} (h:todo ops listed=B++i::D) :
 todo ops (listed.setIfInBounds i true)=B++D:=by
 have I:∀j∈List.range ops.size,(!(listed.setIfInBounds i true).getD j true)=((!listed.getD j true)&&(j != i)):=by
  intro j _
  by_cases e:j=i
  .simp_all
  have:(listed.setIfInBounds i true).getD j true=listed.getD j true:=by simp[Array.getElem?_setIfInBounds_ne (Ne.symm e)]
  grind
 have:todo ops (listed.setIfInBounds i true)=(todo ops listed).filter (· != i):=by
  unfold todo;rw[List.filter_filter]
  grind
 rw[this,h];have u:=wA ops listed;rw[h]at u;rw[List.pairwise_append]at u;obtain⟨_,z,C⟩:=u;rw[List.pairwise_cons]at z;rw[List.filter_append,List.filter_cons];simp;rw[List.filter_eq_self.2 (λx w=>by have:=C x w i Zc;simp;omega),List.filter_eq_self.2 (λx w=>by grind)]
def Down (ops:Array Oper) (listed:Array Bool):Prop:=∀j o,listed.getD j false=true->ops[j]? = some o->∀e∈o.after,kT e=true->listed.getD e.on false=true
theorem Ks {ops:Array Oper} {listed:Array Bool} (B:Down ops listed) {i k:Nat} (h:Reach ops.toList i k) (D:∀o,ops[i]? = some o->∀e∈o.after,kT e=true->listed.getD e.on false=true):listed.getD k false=true:=by
 induction h with
 | one i k o e C w z hk=>grind
 | more i j k o e C w z hk _ G=>
  subst hk;exact G λI u=>B _ _ (D o Zd e w z) u
theorem Et (hE:eG P E) {call:dx} (hc:kD P call) {ops:Array Oper} (hd:vo ops.toList=true) (hb:yQ ops.toList=true) (ro:Option Nat) {Q:Exit->Act->World->Prop} (base:Nat) :
 ∀(D:Nat) (listed:Array Bool) (I:cw) (μ:Mu) (F:Frame) (H:bl) (a:Act) (w:World),listed.size=ops.size->Down ops listed->(todo ops listed).length=D ->
 jD E call n ops.toList base (todo ops listed) F H=some (F',H')->eE I μ n F a.tmps->cU I μ H w ->
 (∀a' I' μ' w',eE I' μ' n F' a'.tmps->a'.defers=a.defers->cU I' μ' H' w'->Step I μ H w I' μ' H' w'->Q .normal a' w') ->
 wpAnyIn (fr ro) 0 P .any ops Q D listed a w:=by
 intro D
 induction D with
 | zero=>
  intro listed I μ F H a w O L hl h r s hQ;have S:todo ops listed=[]:=List.eq_nil_of_length_eq_zero hl;rw[S]at h;obtain⟨rfl,rfl⟩:=h;refine⟨?_,hQ a I μ w r rfl s (.refl _ _ _ _)⟩;unfold Region.ready;rw[List.filter_eq_nil_iff];intro i hi;have:i∉todo ops listed:=by grind
  unfold todo at this
  grind
 | succ D ih=>
  intro listed I μ F H a w O L hl h r s hQ;have W:∀i,i∈Region.ready .any ops listed->i<ops.size/\i∈todo ops listed/\∃o,ops[i]? = some o/\∀e∈o.after,kT e=true->listed.getD e.on false=true:=by
   intro i hi;unfold Region.ready at hi;rw[List.mem_filter]at hi;obtain⟨h1,h2⟩:=hi;simp only[ζh]at h2;have G:i<ops.size:=by grind
   refine⟨G,by unfold todo;grind,ops[i],by simp_all,?_⟩
   have h5:(ops[i].after.all λe => !Region.binds .any e||listed.getD e.on false)=true:=by
    grind
   rw[Array.all_eq_true_iff_forall_mem]at h5;intro e U X;have:=h5 e U;rw[D2,X]at this
   grind
  refine⟨?_,?_⟩
  .
   intro S
   cases Y:todo ops listed with
   | nil=>rw[Y]at hl;simp at hl
   | cons Z rest=>
    have z:Z∈todo ops listed:=by rw[Y];simp
    have hs:=wA ops listed;rw[Y,List.pairwise_cons]at hs;unfold todo at z;rw[List.mem_filter]at z;have G:Z<ops.size:=by simpa using z.1
    have:Z∈Region.ready .any ops listed:=by
     unfold Region.ready;rw[List.mem_filter];refine⟨z.1,?_⟩;simp only[ζh];refine⟨z.2,?_⟩;have e0:ops[Z]? = some ops[Z]:=by simp[G]
     rw[e0];simp only[Option.map_some,Option.getD_some];rw[Array.all_eq_true_iff_forall_mem];intro e U;rw[D2]
     cases am:kT e with
     | false=>simp
     | true=>
      simp only[Bool.not_true];have an:e.on<Z:=by
       unfold yQ at hb;simp only[List.all_eq_true]at hb;have:=hb Z (by simpa using G)
       have e1:ops.toList[Z]? = some ops[Z]:=by simp[G]
       rw[e1]at this;simp only[Array.all_eq_true_iff_forall_mem]at this;have:=this e U;rw[am]at this;simpa using this
      cases ao:listed.getD e.on false with
      | true=>rfl
      | false=>
       exfalso;have ai:e.on∈todo ops listed:=by
        unfold todo;rw[List.mem_filter];refine⟨by simp;omega,?_⟩
        have aj:e.on<listed.size:=by omega
        have:listed.getD e.on true=listed.getD e.on false:=by simp[aj]
        rw[this,ao];rfl
       rw[Y]at ai;rcases List.mem_cons.1 ai with h|h
       .omega
       have:=hs.1 _ h;omega
    rw[S]at this;simp at this
  intro i hi;obtain⟨G,z,o,ho,C⟩:=W i hi;obtain⟨l1,l2,u⟩:=List.append_of_mem z;have J:=wA ops listed;rw[u,List.pairwise_append]at J;have aa:∀k∈l1,k<i/\Ds o k=false/\before ops.toList i k=false:=by
   intro k hk;have ap:listed.getD k false=false:=by
    have B:k∈todo ops listed:=by rw[u];simp[hk]
    unfold todo at B;rw[List.mem_filter]at B;have ae:k<listed.size:=by rw[O];simpa using B.1
    have:listed.getD k true=listed.getD k false:=by simp[ae]
    rw[this]at B;simpa using B.2
   refine⟨J.2.2 k hk i Zc,?_,?_⟩
   rotate_left
   .cases aq:before ops.toList i k with
    | false=>rfl
    | true=>
     have:=Ks L (HE aq) (λo' ab=>by rw[ho]at ab;cases ab;exact C)
     rw[ap]at this;cases this
   cases U:Ds o k with
   | false=>rfl
   | true=>
    exfalso;unfold Ds at U;rw[Array.any_eq_true]at U;obtain⟨ix,ar,ad⟩:=U;have ak:o.after[ix]∈o.after:=Array.getElem_mem ar;generalize o.after[ix]=e at ak ad;simp only[ζh,beq_iff_eq]at ad;have h1:=C e ak ad.2;rw[ad.1]at h1;have B:k∈todo ops listed:=by rw[u];simp[hk]
    unfold todo at B;rw[List.mem_filter]at B;have ae:k<listed.size:=by rw[O];simpa using B.1
    have:listed.getD k true=listed.getD k false:=by simp[ae]
    rw[this,h1]at B;simp at B
  rw[u]at h;have h':=Og hd (by simpa using ho) l1 l2 aa h
  simp only[jD]at h';have ab:ops.toList[i]? = some o:=by simpa using ho
  rw[ab]at h';simp only at h';split at h'
  .rename_i F1 H1 af;unfold wpOpIn;rw[ho];simp only;refine CK hE hc af r s ro (λa' I' μ' w' hr au hs av=>?_)
   have ht:=Pb O G u;refine ih (listed.setIfInBounds i true) I' μ' F1 H1 a' w' (by simpa using O) ?_ ?_ (by rw[ht];exact h') hr hs ?_
   .have T:∀j,listed.getD j false=true->(listed.setIfInBounds i true).getD j false=true:=by
     intro j hj
     by_cases e:i=j
     .subst e;simp[O,G]
     simpa [Array.getD_eq_getD_getElem?,Array.getElem?_setIfInBounds_ne e]using hj
    intro j oj hj ah e U X
    by_cases e':i=j
    .subst e';rw[ho]at ah;cases ah;exact T _ (C e U X)
    refine T _ (L j oj ?_ ah e U X);simpa [Array.getD_eq_getD_getElem?,Array.getElem?_setIfInBounds_ne e']using hj
   .rw[ht];rw[u]at hl;simp at hl ⊢;omega
   intro a2 I2 μ2 w2 aw ax ay al;exact hQ a2 I2 μ2 w2 aw (ax.trans au) ay (Step.trans hs av al)
  simp at h'
theorem cU.Fk (s:cU I μ H w) (k:Nat):cU I μ (H++List.replicate k .free) w:=by
 have u:∀id ob,(H++List.replicate k Ob.free)[id]? = some ob->H[id]? = some ob\/(ob=.free/\H.length<=id):=by
  grind
 refine⟨λid h=>s.dom id Zd,s.imm,?_,?_,s.gl⟩
 .intro id ob h;rcases u id ob h with h|⟨rfl,z⟩
  .exact s.obs id ob h
  exact s.dom id z
 intro id B ob C p J h1 z D G;rcases u id ob h1 with h1|⟨rfl,_⟩
 .rcases u B C z with z|⟨rfl,_⟩
  .exact s.inj id B ob C p J h1 z D G
  simp[Ob.live]at G
 simp[Ob.live]at D
theorem Ik (k:Nat) (b:Nat):g_ μ (H++List.replicate k .free) b↔g_ μ H b:=by
 constructor
 .rintro⟨id,p,ob,h1,u,w,z⟩
  by_cases B:id<H.length
  .rw[List.getElem?_append_left B]at h1;exact⟨id,p,ob,h1,u,w,z⟩
  rw[List.getElem?_append_right Za,List.getElem?_replicate]at h1
  split at h1
  .simp at h1;subst h1;simp[Ob.live]at u
  grind
 rintro⟨id,p,ob,h1,u,w,z⟩;exact⟨id,p,ob,by grind,u,w,z⟩
theorem Step.Fk (k:Nat):Step I μ H w I μ (H++List.replicate k .free) w:=
 ⟨cw.le_refl _,Mu.le_refl _,by simp,Nat.le_refl _,λ_ _ _=>rfl,λb h=>h.elim .inl λh=>.inr (.inl ((Ik k b).1 h)),rfl,.refl _,λ_ _ h=>h⟩
theorem Gc (G:eG P E) (U:P.follows .mixedOrders=true) {call:dx} (hc:kD P call) {id:Nat} {ops:Array Oper} {B:Bool} (ro:Option Nat) {Q:Exit->Act->World->Prop}
 (h:jk E call n ops.toList B F H=some (F',H')) (r:eE I μ n F a.tmps) (s:cU I μ H w)
 (J:∀a' I' μ' w',eE I' μ' n F' a'.tmps->a'.defers=a.defers->cU I' μ' H' w'->Step I μ H w I' μ' H' w'->Q .normal a' w') :
 (Code.region id ops B).wpIn (fr ro) 0 P Q a w:=by
 unfold jk at h
 cases B with
 | false=>
  refine wpIn_region ?_;rw[List.range_eq_range',<-Array.length_toList];exact Me G hc ro ops.toList 0 I μ F H a w Zc h r s J
 | true=>
  simp only[if_true]at h;split at h
  .rename_i u;simp  at u;refine wpIn_region_draw λt=>?_
   simp[Region.schedule,U];have D:cU I μ H { w with drawn:=w.drawn+1 }:=s.oF rfl;have st0:Step I μ H w I μ H { w with drawn:=w.drawn+1 }:=Step.oF rfl rfl ⟨rfl,rfl,Nat.le_succ _⟩;have z:todo ops (Array.replicate ops.size false)=List.range ops.toList.length:=by
    unfold todo;simp_all
   have C:Down ops (Array.replicate ops.size false):=by
    intro j o T;simp[Array.getElem?_replicate]at T
    grind
   refine wpAnyIn_sound ops.size t _ a _ ?_;split at h
   .refine Et G hc u.1 u.2 ro H.length ops.size _ I μ F (H++List.replicate ops.toList.length .free) a _ Zc C Zd (by rw[z];omega) r (D.Fk _) ?_
    intro a' I' μ' w' h1 L O S;exact J a' I' μ' w' h1 L O (Step.trans D st0 (Step.trans (D.Fk _) (Step.Fk _) S))
   refine Et G hc u.1 u.2 ro H.length ops.size _ I μ F H a _ Zc C Zd (by rw[z];omega) r D ?_
   intro a' I' μ' w' h1 L O S;exact J a' I' μ' w' h1 L O (Step.trans D st0 S)
  grind
end
end Go.VE
