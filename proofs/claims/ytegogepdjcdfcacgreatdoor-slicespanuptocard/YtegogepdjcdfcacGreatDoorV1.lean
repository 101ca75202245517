/-
 The engine: operations of the loaded code on values without a heap; a run of it is a run of the program.
-/
import Derived.RangeFuncLeaves
import Derived.Sort.Defs
import Derived.Lib.BitFns
import Derived.Laws.Sem
import Derived.Laws.World
import Derived.Laws.Append
import Derived.Laws.BytesString
import Derived.OrdersIn
import Derived.RangeFuncRecord
set_option linter.all false
namespace Go.VE
theorem Za{p:Prop}(h:p:=by omega):p:=h
theorem Zc{p:Prop}(h:p:=by simp):p:=h
theorem Zd{p:Prop}(h:p:=by grind):p:=h
theorem ζa{α:Type _}(a b:α):(some a=some b)=(a=b):=Option.some.injEq a b
theorem ζb{α β:Type _}(a:α)(f:α->Option β):(some a).bind f=f a:=rfl
theorem ζc{α β:Type _}(a:α)(b:β)(c:α)(d:β):((a,b)=(c,d))=(a=c/\b=d):=Prod.mk.injEq a b c d
theorem ζd{α:Type _}{l:List α}{i:Nat}(h:i<l.length):l[i]?=some l[i]:=List.getElem?_eq_getElem h
theorem ζe{α:Type _}{l:List α}{i:Nat}{a:α}:l[i]?=some a↔∃h:i<l.length,l[i]=a:=List.getElem?_eq_some_iff
theorem ζf{α β:Type _}{b:β}{x:Option α}{f:α->β}:x.map f=some b↔∃a,x=some a/\f a=b:=Option.map_eq_some_iff
theorem ζg{α β:Type _}{b:β}{x:Option α}{f:α->Option β}:x.bind f=some b↔∃a,x=some a/\f a=some b:=Option.bind_eq_some_iff
theorem ζh(a b:Bool):((a&&b)=true)=(a=true/\b=true):=Bool.and_eq_true a b
theorem ζi{α:Type _}{a b:List α}:(a++b).length=a.length+b.length:=List.length_append
abbrev a_:=@List
abbrev bf:=@Option
inductive V where
 | bool (b:Bool)
 | int (k:IntKind) (n:Int)
 | str (s:ByteArray)
 | c_
 | bN
 | fsl (es:Nat) (xs:List (List V))
 | hsl (id es off len:Nat)
 | gN
 | fptr (cs:List V)
 | hptr (id el off:Nat)
 | clo (f:FuncId) (first cap:List V)
 | yld (id:Nat)
 | gi
 | rK
 | fmap (kvs:List (V×V))
 | hmap (id:Nat)
 | agg (cs:List V)
 | tup (vs:List V)
 deriving Inhabited
def V.undef:V:=.tup []
def V.one:V->Bool
 | .agg _|.tup _=>false
 | _=>true
def V.cells:V->a_ V
 | .agg cs=>cs
 | v=>[v]
mutual
def V.scalar:V->Bool
 | .bool _|.int ..|.str _|.gN|.gi|.rK|.c_|.bN=>true
 | .agg cs=>V.cF cs
 | .tup cs=>V.cF cs
 | _=>false
def V.cF:a_ V->Bool
 | []=>true
 | v::r=>V.scalar v&&V.cF r
end
mutual
def V.closed:V->Bool
 | .hsl ..|.hptr ..|.yld ..|.hmap ..=>false
 | .clo _ a b=>V.gQ a&&V.gQ b
 | .agg cs=>V.gQ cs
 | .tup cs=>V.gQ cs
 | _=>true
def V.gQ:a_ V->Bool
 | []=>true
 | v::r=>V.closed v&&V.gQ r
end
inductive TK where
 | bool|int (k:IntKind)|str|ptr (e:TypeId)|slice (e:TypeId)
 | struct (fs:List (Nat×TypeId))|array (n:Nat) (e:TypeId)|map (k e:TypeId)|other
 deriving Inhabited
structure TD where
 size:Nat
 bytes:Nat
 zero:List V
 kind:TK
 deriving Inhabited
def TD.agg (d:TD):Bool:=match d.kind with|.struct _|.array _ _=>true|_=>false
abbrev Frame:=a_ V
def get:Frame->Nat->V
 | [],_=>.undef
 | x::_,0=>x
 | _::r,i+1=>get r i
def set:Frame->Nat->V->Frame
 | [],0,v=>[v]
 | [],i+1,v=>.undef::set [] i v
 | _::r,0,v=>v::r
 | x::r,i+1,v=>x::set r i v
inductive Bk where
 | ready|busy|done
inductive Out where
 | norm
 | exit (id:Nat)
 | ret
 deriving DecidableEq,Inhabited
structure vC where
 st:Bk
 pend:Option Out
 frame:Frame
 nt:Nat
 params:List Nat
 assign:Code
 body:Code
inductive Ob where
 | free
 | dead
 | row (es:Nat) (xs:List (List V))
 | frz (es:Nat) (xs:List (List V))
 | map (kvs:List (V×V))
 | loop (r:vC)
def Ob.rows:Ob->bf (Nat×a_ (a_ V))
 | .row es xs|.frz es xs=>some (es,xs)
 | _=>none
abbrev bn:=a_ Ob
structure FI where
 ntmps:Nat
 results:List ResultVar
 body:Code
structure Env where
 tt:TypeId->Option TD
 ft:FuncId->Option FI
 keep:FuncId->Bool
 own:FuncId->Bool
 eqN:TypeId->Option Nat
 sort:FuncId->Bool
 known:FuncId->List V->Option V:=λ_ _=>none
 soft:FuncId->Bool:=λ_=>false
def Env.kindOf (E:Env) (t:TypeId):bf TK:=(E.tt t).map TD.kind
def ofValue:Nat->Value->bf V
 | 0,_=>none
 | n+1,v=>
  match v with
  | .bool b=>some (.bool b)
  | .int k n=>some (.int k n)
  | .string s=>some (.str s)
  | .pointer none=>some .gN
  | .slice none 0 0=>some .bN
  | .map none=>some .gi
  | .nilFunc=>some .rK
  | .agg cs=>(cs.toList.mapM (ofValue n)).map .agg
  | _=>none
class bO where
 gl:Nat->Option (List V)
 sc:∀g cs,gl g=some cs->∃(k:IntKind) (l:List Int),cs=l.map (V.int k)
variable [bO]
def ev (F:Frame):Operand->bf V
 | .tmp t=>some (get F t)
 | .const v=>ofValue 4 v
 | .func f=>some (.clo f [] [])
 | .global g=>(bO.gl g).map .fptr
def fq (F:Frame):a_ Operand->bf (a_ V)
 | []=>some []
 | x::r=>match ev F x,fq F r with
  | some v,some vs=>some (v::vs)
  | _,_=>none
def mk (agg:Bool) (cs:a_ V):bf V:=
 if agg then some (.agg cs)else match cs with|[v]=>some v|_=>none
def cut (cs:a_ V) (off n:Nat):bf (a_ V):=
 let r:=(cs.drop off).take n
 if r.length=n then some r else none
def gZ:a_ V->bf (a_ Int)
 | []=>some []
 | .int .i64 a::r=>(gZ r).map (a::·)
 | _=>none
def kg (az u:a_ V):bf Bool:=
 match gZ az,gZ u with
 | some a,some b=>if a.length=b.length then some (a==b)else none
 | _,_=>none
def su (op:BinOp) (x y:Int):bf Bool:=
 match op with
 | .eql=>some (x==y)|.neq=>some (x != y)|.lss=>some (decide (x<y))|.leq=>some (decide (x<=y))
 | .gtr=>some (decide (x>y))|.geq=>some (decide (x>=y))|_=>none
def uE (k:TK) (x y:V):bf Bool:=
 match k,x,y with
 | .slice _,.bN,.bN=>some true
 | .slice _,.fsl ..,.bN=>some false
 | .slice _,.hsl ..,.bN=>some false
 | .ptr _,.gN,.gN=>some true
 | .ptr _,.fptr _,.gN=>some false
 | .ptr _,.hptr ..,.gN=>some false
 | .map ..,.gi,.gi=>some true
 | .map ..,.fmap _,.gi=>some false
 | .map ..,.hmap _,.gi=>some false
 | _,_,_=>none
def Ic (E:Env) (op:BinOp) (t:TypeId) (x y:V):bf V:=
 match x,y with
 | .int k a,.int u b=>
  match op with
  | .shl=>if b<0 then none else some (.int k (k.wrap (a*2 ^ (min b.toNat k.bits))))
  | .shr=>if b<0 then none else some (.int k (a.fdiv (2 ^ (min b.toNat k.bits))))
  | _=>if k=u then
   match op with
   | .add=>some (.int k (k.wrap (a+b)))
   | .sub=>some (.int k (k.wrap (a-b)))
   | .mul=>some (.int k (k.wrap (a*b)))
   | .quo=>if b=0 then none else some (.int k (k.wrap (a.tdiv b)))
   | .rem=>if b=0 then none else some (.int k (a.tmod b))
   | .and=>some (.int k (k.wrap (BitVec.ofInt k.bits a &&& BitVec.ofInt k.bits b).toNat))
   | .or=>some (.int k (k.wrap (BitVec.ofInt k.bits a ||| BitVec.ofInt k.bits b).toNat))
   | .xor=>some (.int k (k.wrap (BitVec.ofInt k.bits a ^^^ BitVec.ofInt k.bits b).toNat))
   | .andNot=>some (.int k (k.wrap (BitVec.ofInt k.bits a &&& ~~~ BitVec.ofInt k.bits b).toNat))
   | op=>(su op a b).map .bool
   else none
 | .str a,.str b=>
  match op with
  | .add=>if((a.size+b.size:Nat):Int)>IntKind.i64.max then none else some (.str (a++b))
  | .eql=>some (.bool (a.toList==b.toList))
  | .neq=>some (.bool !(a.toList==b.toList))
  | .lss=>some (.bool (Op.bytesLess a.toList b.toList))
  | .leq=>some (.bool (Op.bytesLess a.toList b.toList||a.toList==b.toList))
  | .gtr=>some (.bool !(Op.bytesLess a.toList b.toList||a.toList==b.toList))
  | .geq=>some (.bool !(Op.bytesLess a.toList b.toList))
  | _=>none
 | .bool a,.bool b=>
  match E.kindOf t,op with
  | some .bool,.eql=>some (.bool (a==b))
  | some .bool,.neq=>some (.bool !(a==b))
  | _,_=>none
 | .agg a,.agg b=>
  match E.eqN t,op with
  | some n,.eql=>if a.length=n then(kg a b).map .bool else none
  | some n,.neq=>if a.length=n then(kg a b).map (λt=>.bool !t)else none
  | _,_=>none
 | x,y=>
  match E.kindOf t,op with
  | some k,.eql=>(uE k x y).map .bool
  | some k,.neq=>(uE k x y).map λt=>.bool !t
  | _,_=>none
def ua (place:Nat->bf (Nat×Nat)) (cells:a_ V):a_ (Nat×V)->bf (a_ V)
 | []=>some cells
 | (i,v)::rest=>
  match place i with
  | none=>none
  | some (off,size)=>
   if v.cells.length≠size||off+v.cells.length>cells.length then none
   else ua place (cells.take off++v.cells++cells.drop (off+v.cells.length)) rest
def lN (F:Frame):a_ (Nat×Operand)->bf (a_ (Nat×V))
 | []=>some []
 | (i,x)::r=>match ev F x,lN F r with
  | some v,some vs=>some ((i,v)::vs)
  | _,_=>none
def mK (E:Env):a_ (Nat×TypeId)->bf (a_ (Nat×Nat))
 | []=>some []
 | (off,t)::r=>match E.tt t,mK E r with
  | some d,some ps=>some ((off,d.size)::ps)
  | _,_=>none
def jB (F:Frame):bf Operand->bf (bf Int)
 | none=>some none
 | some x=>match ev F x with
  | some (.int _ n)=>some (some n)
  | _=>none
def dH (len:Nat) (u B:bf Int):bf (Nat×Nat):=
 let h:=B.getD len
 let l:=u.getD 0
 if 0<=h/\h<=len/\0<=l/\l<=h then some (l.toNat,h.toNat)else none
def BI (a b:Int):Int:=if b>a then b else a
def bH (E:Env) (F:Frame) (op:Op):bf V:=
 match op with
 | .move x|.assign x=>ev F x
 | .pick c a b=>match ev F c with
  | some (.bool t)=>if t then ev F a else ev F b
  | _=>none
 | .nilCheck x=>match ev F x with
  | some (.hptr id el off)=>some (.hptr id el off)
  | some (.fptr cs)=>some (.fptr cs)
  | some (.clo f a b)=>some (.clo f a b)
  | _=>none
 | .binOp op t x y _=>match ev F x,ev F y with
  | some a,some b=>Ic E op t a b
  | _,_=>none
 | .unOp op _ x=>match op,ev F x with
  | .not,some (.bool b)=>some (.bool !b)
  | .neg,some (.int k n)=>some (.int k (k.wrap (0-n)))
  | _,_=>none
 | .convert s d x=>match E.tt s,E.tt d,ev F x with
  | some _,some C,some (.int _ n)=>match C.kind with
   | .int k=>some (.int k (k.wrap n))
   | _=>none
  | _,_,_=>none
 | .fieldAddr s x f=>match E.kindOf s,ev F x with
  | some (.struct fs),some p=>match fs[f]? with
   | some (off,t)=>match E.tt t with
    | some d=>if d.size=0 then none else match p with
     | .fptr cs=>if off<=cs.length then some (.fptr (cs.drop off))else none
     | .hptr id el o=>some (.hptr id el (o+off))
     | _=>none
    | none=>none
   | none=>none
  | _,_=>none
 | .field s x f=>match E.kindOf s,ev F x with
  | some (.struct fs),some (.agg cs)=>match fs[f]? with
   | some (off,t)=>match E.tt t with
    | some d=>(cut cs off d.size).bind (mk d.agg)
    | none=>none
   | none=>none
  | _,_=>none
 | .indexAddr t x i=>match E.kindOf t,ev F x,ev F i with
  | some (.slice e),some s,some (.int _ n)=>match E.tt e with
   | some d=>if n<0 then none else match s with
    | .fsl es u=>if es=d.size then(u[n.toNat]?).map .fptr else none
    | .hsl id es off len=>if es=d.size/\n.toNat<len then some (.hptr id (off+n.toNat) 0)else none
    | _=>none
   | none=>none
  | some (.array len e),some p,some (.int _ n)=>match E.tt e with
   | some d=>if 0<=n/\n<len then match p with
    | .fptr cs=>if n.toNat*d.size<=cs.length then some (.fptr (cs.drop (n.toNat*d.size)))else none
    | .hptr id el o=>some (.hptr id el (o+n.toNat*d.size))
    | _=>none
    else none
   | none=>none
  | _,_,_=>none
 | .index t x i=>match E.kindOf t,ev F x,ev F i with
  | some .str,some (.str s),some (.int _ n)=>if 0<=n then(s[n.toNat]?).map (λb=>.int .u8 b.toNat)else none
  | some (.array len e),some (.agg cs),some (.int _ n)=>match E.tt e with
   | some d=>if 0<=n/\n<len then(cut cs (n.toNat*d.size) d.size).bind (mk d.agg)else none
   | none=>none
  | _,_,_=>none
 | .slice t x D G I=>match E.kindOf t,ev F x,jB F D,jB F G,jB F I with
  | some .str,some (.str s),some l,some h,some none=>(dH s.size l h).map λ(l,h)=>.str (s.extract l h)
  | some (.slice e),some v,some l,some h,some none=>match E.tt e with
   | some d=>match v with
    | .fsl es u=>if es=d.size then(dH u.length l h).map λ(l,h)=>.fsl es ((u.take h).drop l)else none
    | .hsl id es off len=>if es=d.size then(dH len l h).map λ(l,h)=>.hsl id es (off+l) (h-l)else none
    | .c_=>(dH 0 l h).map λ_=>.c_
    | .bN=>(dH 0 l h).map λ_=>.bN
    | _=>none
   | none=>none
  | some (.slice e),some v,some none,some (some 0),some (some 0)=>match E.tt e,v with
   | some _,.fsl ..|some _,.hsl ..|some _,.c_|some _,.bN=>some .c_
   | _,_=>none
  | _,_,_,_,_=>none
 | .build t J=>match E.tt t,lN F J.toList with
  | some d,some w=>match d.kind with
   | .struct fs=>match mK E fs with
    | some pl=>(ua (λi=>pl[i]?) d.zero w).map .agg
    | none=>none
   | .array _ e=>match E.tt e with
    | some B=>(ua (λi=>some (i*B.size,B.size)) d.zero w).map .agg
    | none=>none
   | _=>none
  | _,_=>none
 | .makeFunc (.func f) a b=>match fq F a.toList,fq F b.toList with
  | some a,some b=>some (.clo f a b)
  | _,_=>none
 | .extract x i=>match ev F x with
  | some (.tup w)=>w[i]?
  | _=>none
 | .call { callee:=.builtin b,args,argTypes }=>match b,fq F args.toList,argTypes[0]? with
  | .len,some [v],some t=>match E.kindOf t,v with
   | some .str,.str s=>some (.int .i64 s.size)
   | some (.slice _),.fsl _ u=>some (.int .i64 u.length)
   | some (.slice _),.hsl _ _ _ len=>some (.int .i64 len)
   | some (.slice _),.c_=>some (.int .i64 0)
   | some (.slice _),.bN=>some (.int .i64 0)
   | _,_=>none
  | .cap,some [v],some t=>match E.kindOf t,v with
   | some (.slice _),.bN=>some (.int .i64 0)
   | some (.slice _),.c_=>some (.int .i64 0)
   | _,_=>none
  | .max,some [.int k a,.int z b],_=>if k=z then some (.int k (if b>a then b else a))else none
  | .max,some [.int k a,.int k1 b,.int k2 c,.int k3 d],_=>if k=k1/\k=k2/\k=k3 then some (.int k (BI (BI (BI a b) c) d))else none
  | .min,some [.int k a,.int z b],_=>if k=z then some (.int k (if b<a then b else a))else none
  | _,_,_=>none
 | _=>none
def dX (H:bn) (p:V) (n:Nat):bf (a_ V):=
 match p with
 | .fptr cs=>cut cs 0 n
 | .hptr id el off=>match (H[id]?).bind Ob.rows with
  | some (_,t)=>match t[el]? with
   | some cs=>cut cs off n
   | none=>none
  | none=>none
 | _=>none
def wH:V->V->bf Bool
 | .int k a,.int u b=>if k=u then some (a==b)else none
 | .str a,.str b=>some (a==b)
 | .agg a,.agg b=>kg a b
 | _,_=>none
def ij (k:V):a_ (V×V)->Nat->bf (bf (Nat×V))
 | [],_=>some none
 | (u,v)::r,i=>match wH k u with
  | some true=>some (some (i,v))
  | some false=>ij k r (i+1)
  | none=>none
def wB (E:Env) (t:TypeId) (k:V):Bool:=
 match E.kindOf t,k with
 | some (.int k),.int u _=>k==u
 | some .str,.str _=>true
 | some _,.agg cs=>match E.eqN t with|some n=>cs.length==n&&(gZ cs).isSome|none=>false
 | _,_=>false
def mj (H:bn):V->bf (a_ (V×V))
 | .gi=>some []
 | .fmap u=>some u
 | .hmap id=>match H[id]? with
  | some (.map u)=>some u
  | _=>none
 | _=>none
def dI (E:Env) (F:Frame) (H:bn) (op:Op):bf V:=
 match op with
 | .load t a=>match E.tt t,ev F a with
  | some d,some p=>(dX H p d.size).bind (mk d.agg)
  | _,_=>none
 | .lookup t m k ok=>match E.kindOf t,ev F m,ev F k with
  | some (.map w B),some m,some k=>match E.tt B,mj H m with
   | some d,some u=>if wB E w k then match ij k u 0,mk d.agg d.zero with
    | some (some (_,v)),_=>some (if ok then .tup [v,.bool true]else v)
    | some none,some z=>some (if ok then .tup [z,.bool false]else z)
    | _,_=>none
    else none
   | _,_=>none
  | _,_,_=>none
 | _=>none
inductive Mk where
 | ptr|sl (es len:Nat)|map
def Mk.val (id:Nat):Mk->V
 | .ptr=>.hptr id 0 0
 | .sl es len=>.hsl id es 0 len
 | .map=>.hmap id
def eV (es:Nat) (xs:a_ (a_ V)):a_ (Nat×V)->bf (a_ (a_ V))
 | []=>some xs
 | (i,v)::r=>if v.cells.length=es/\i<xs.length/\v.cells.all V.one=true then eV es (xs.set i v.cells) r else none
def eC (E:Env) (F:Frame) (op:Op):bf (Ob×Mk):=
 match op with
 | .alloc t=>(E.tt t).map λd=>(.row d.size [d.zero],.ptr)
 | .box _ x=>match ev F x with
  | some v=>if v.cells.all V.one then some (.row v.cells.length [v.cells],.ptr)else none
  | none=>none
 | .makeSlice t l c=>match E.kindOf t,ev F l,ev F c with
  | some (.slice e),some (.int k n),some (.int u m)=>match E.tt e with
   | some d=>if k=.i64/\u=.i64/\0<=n/\n<=m/\m<=2147483648/\d.bytes<=4096 then some (.row d.size (List.replicate m.toNat d.zero),.sl d.size n.toNat)else none
   | none=>none
  | _,_,_=>none
 | .buildSlice t len w=>match E.kindOf t,lN F w.toList with
  | some (.slice e),some z=>match E.tt e with
   | some d=>if len*d.size<=16777216 then(eV d.size (List.replicate len d.zero) z).map λB=>(.row d.size B,.sl d.size len)else none
   | none=>none
  | _,_=>none
 | .makeMap _ none=>some (.map [],.map)
 | _=>none
def oR (E:Env) (F:Frame) (op:Op):bf V:=
 match eC E F op with
 | some (.row es t,.sl u n)=>if u=es/\n=t.length/\(t.all λx=>x.all V.scalar)=true then match op with
  | .buildSlice ..=>if t.isEmpty then(if es != 0 then some .c_ else none)else some (.fsl es t)
  | _=>some (.fsl es t)
  else none
 | _=>none
def dG (H:bn) (es:Nat):V->bf (a_ (a_ V))
 | .c_=>some []
 | .bN=>some []
 | .fsl u xs=>if u=es then some xs else none
 | .hsl id u off len=>if u=es then match (H[id]?).bind Ob.rows with
  | some (_,xs)=>if off+len<=xs.length then some ((xs.drop off).take len)else none
  | none=>none
  else none
 | _=>none
def oT (k v:V) (u:a_ (V×V)):bf (a_ (V×V)):=
 match ij k u 0 with
 | some (some (j,_))=>some (u.set j (k,v))
 | some none=>some (u++[(k,v)])
 | none=>none
def gq (H:bn):V->bf bn
 | .c_=>some H
 | .bN=>some H
 | .hsl id _ _ _=>match H[id]? with
  | some (.row _ _)=>some (H.set id .dead)
  | _=>none
 | _=>none
def mkApp (H:bn) (size bytes:Nat) (zero:a_ V) (s x:V):bf (V×bn):=
 match s,x with
 | .bN,.int _ n=>if n=0 then some (.bN,H)else if 0<n/\n<=2147483648/\bytes<=4096/\0<bytes then some (.hsl H.length size 0 n.toNat,H++[.row size (List.replicate n.toNat zero)])else none
 | _,_=>none
def Dv (H:bn) (size:Nat) (zero:a_ V):V->bf (V×bn)
 | .bN|.c_=>some (.undef,H)
 | .hsl id es off len=>if es=size then match len with
  | 0=>some (.undef,H)
  | len+1=>match H[id]? with
   | some (.row u xs)=>if off+(len+1)<=xs.length then some (.undef,H.set id (.row u (xs.take off++List.replicate (len+1) zero++xs.drop (off+(len+1)))))else none
   | _=>none
  else none
 | _=>none
def cr (E:Env) (F:Frame) (H:bn) (op:Op):bf (V×bn):=
 match op with
 | .store t a x=>match E.tt t,ev F a,ev F x with
  | some d,some (.hptr id el off),some v=>match H[id]? with
   | some (.row es w)=>match w[el]? with
    | some cs=>if v.cells.length=d.size/\off+d.size<=cs.length/\v.cells.all V.one=true then
     some (.undef,H.set id (.row es (w.set el (cs.take off++v.cells++cs.drop (off+v.cells.length)))))else none
    | none=>none
   | _=>none
  | _,_,_=>none
 | .mapUpdate t m k x|.insert t m k x=>match E.kindOf t,ev F m,ev F k,ev F x with
  | some (.map B _),some (.hmap id),some k,some v=>match H[id]? with
   | some (.map u)=>if wB E B k then(oT k v u).map λu=>(.undef,H.set id (.map u))else none
   | _=>none
  | _,_,_,_=>none
 | .call { callee:=.builtin .append,args,argTypes }=>match argTypes.toList,fq F args.toList with
  | [t,C],some [s,x]=>match E.kindOf t,E.kindOf C with
   | some (.slice e),some (.slice _)=>match E.tt e with
    | some d=>match dG H d.size s,dG H d.size x with
     | some _,some []=>some (s,H)
     | some w,some z=>
      if w.length+z.length<=2147483648/\d.bytes<=4096/\0<d.bytes then
       (gq H s).map λH1=>(.hsl H.length d.size 0 (w.length+z.length),H1++[.row d.size (w++z)])
      else none
     | _,_=>none
    | none=>none
   | some (.slice e),some (.int _)=>match E.tt e with
    | some d=>mkApp H d.size d.bytes d.zero s x
    | none=>none
   | _,_=>none
  | _,_=>none
 | .call { callee:=.builtin .clear,args,argTypes }=>match argTypes[0]?,fq F args.toList with
  | some t,some [v]=>match E.kindOf t with
   | some (.slice e)=>match E.tt e with
    | some d=>Dv H d.size d.zero v
    | none=>none
   | _=>none
  | _,_=>none
 | _=>none
def pK:a_ (a_ V)->bf (a_ Int)
 | []=>some []
 | [.int .u8 n]::r=>(pK r).map (n::·)
 | _=>none
def K7 (l:a_ Int):ByteArray:=l.foldl (λr n=>r.push (UInt8.ofNat n.toNat)) ByteArray.empty
def evalConv (E:Env) (F:Frame) (H:bn) (op:Op):bf V:=
 match op with
 | .convert s d x=>match E.kindOf s,E.kindOf d,ev F x with
  | some (.slice e),some .str,some v=>match E.kindOf e with
   | some (.int .u8)=>(dG H 1 v).bind λt=>(pK t).map λl=>.str (K7 l)
   | _=>none
  | _,_,_=>none
 | _=>none
def rW (E:Env) (F:Frame) (H:bn) (place:bf (Nat×Nat)) (op:Op):bf V:=
 match bH E F op with
 | some v=>some v
 | none=>match place with
  | none=>evalConv E F H op
  | some _=>none
inductive Callee where
 | fn (f:FuncId)
 | yld (id:Nat)
def jL (F:Frame) (op:Op):bf (Callee×a_ V):=
 match op with
 | .call { callee:=.value f,args,.. }=>match ev F f,fq F args.toList with
  | some (.clo g a b),some t=>some (.fn g,a++t++b)
  | some (.yld id),some t=>some (.yld id,t)
  | _,_=>none
 | _=>none
inductive S4 where
 | pure|read|alloc|loud|call
 deriving DecidableEq
def cB:Op->S4
 | .load ..|.lookup ..=>.read
 | .alloc ..|.box ..|.makeSlice ..|.buildSlice ..|.makeMap ..=>.alloc
 | .store ..|.mapUpdate ..|.insert ..=>.loud
 | .call { callee:=.builtin .append,.. }=>.loud
 | .call { callee:=.builtin .clear,.. }=>.loud
 | .call { callee:=.value _,.. }=>.call
 | _=>.pure
def iy (f:V->bf V):a_ V->bf (a_ V)
 | []=>some []
 | x::r=>match f x,iy f r with
  | some y,some s=>some (y::s)
  | _,_=>none
def kY (f:V->bf V):a_ (a_ V)->bf (a_ (a_ V))
 | []=>some []
 | x::r=>match iy f x,kY f r with
  | some y,some s=>some (y::s)
  | _,_=>none
def kU (f:V->bf V):a_ (V×V)->bf (a_ (V×V))
 | []=>some []
 | (k,x)::r=>match f k,f x,kU f r with
  | some k,some y,some s=>some ((k,y)::s)
  | _,_,_=>none
def borrow:Nat->bn->V->bf V
 | 0,_,x=>if x.closed then some x else none
 | n+1,H,x=>
  if x.closed then some x else
  match x with
  | .hsl id es off len=>match (H[id]?).bind Ob.rows with
   | some (u,xs)=>if u=es/\off+len<=xs.length then(kY (borrow n H) ((xs.drop off).take len)).map (.fsl es)else none
   | none=>none
  | .hptr id el off=>match (H[id]?).bind Ob.rows with
   | some (_,xs)=>match xs[el]? with
    | some cs=>if off<=cs.length then(iy (borrow n H) (cs.drop off)).map .fptr else none
    | none=>none
   | none=>none
  | .hmap id=>match H[id]? with
   | some (.map B)=>(kU (borrow n H) B).map .fmap
   | _=>none
  | .clo f a b=>match iy (borrow n H) a,iy (borrow n H) b with
   | some a,some b=>some (.clo f a b)
   | _,_=>none
  | .agg cs=>(iy (borrow n H) cs).map .agg
  | .tup cs=>(iy (borrow n H) cs).map .tup
  | _=>none
def borrows (n:Nat) (H:bn) (l:a_ V):bf (a_ V):=iy (borrow n H) l
def cN (f:V->a_ Nat):a_ V->a_ Nat
 | []=>[]
 | x::r=>f x++cN f r
def b7:Nat->bn->V->a_ Nat
 | 0,_,_=>[]
 | n+1,H,x=>
  if x.closed then []else
  match x with
  | .hsl id _ off len=>id::(match (H[id]?).bind Ob.rows with|some (_,xs)=>cN (b7 n H) ((xs.drop off).take len).flatten|none=>[])
  | .hptr id el off=>id::(match (H[id]?).bind Ob.rows with|some (_,xs)=>cN (b7 n H) (((xs[el]?).getD []).drop off)|none=>[])
  | .hmap id=>id::(match H[id]? with|some (.map u)=>cN (b7 n H) (u.map (·.1))++cN (b7 n H) (u.map (·.2))|_=>[])
  | .clo _ a b=>cN (b7 n H) a++cN (b7 n H) b
  | .agg cs=>cN (b7 n H) cs
  | .tup cs=>cN (b7 n H) cs
  | _=>[]
def uK (H:bn) (id:Nat):bn:=
 match H[id]? with
 | some (.row es t)=>H.set id (.frz es t)
 | some (.map _)=>H.set id .dead
 | _=>H
def cG (H:bn) (l:a_ Nat):bn:=l.foldl uK H
structure dz where
 lv:Nat
 go:Callee->List V->bn->Option (V×bn)
instance:CoeFun dz λ_=>Callee->a_ V->bn->bf (V×bn):=⟨dz.go⟩
def iw (H:bn) (T:a_ Nat):Bool:=T.all λid=>((H[id]?).bind Ob.rows).isSome
def b8 (call:dz) (f:FuncId) (args:a_ V) (H:bn):bf V:=
 match borrows call.lv H args with
 | some az=>match call (.fn f) az []with
  | some (r,H1)=>match borrow call.lv H1 r with
   | some y=>if y.closed then some y else none
   | none=>none
  | none=>none
 | none=>none
def uJ (k:Nat) (H1:bn) (id es off len:Nat):bf (V×Ob):=
 match H1[id]? with
 | some (.row t u)=>if t=es/\(u.all λx=>x.all V.scalar)=true then some (.hsl k es off len,.row es u)else none
 | _=>none
def nH (call:dz) (f:FuncId) (args:a_ V) (H:bn):bf (V×bn):=
 match borrows call.lv H args with
 | some az=>match call (.fn f) az []with
  | some (r,H1)=>
   if r.scalar then some (r,H)else
   match r with
   | .hsl id es off len=>(uJ H.length H1 id es off len).map λ(v,ob)=>(v,H++[ob])
   | .tup (.hsl id es off len::rest)=>if V.cF rest then(uJ H.length H1 id es off len).map λ(v,ob)=>(.tup (v::rest),H++[ob])else none
   | _=>none
  | none=>none
 | none=>none
def gP (E:Env) (call:dz) (f:FuncId) (args:a_ V) (H:bn):bf (V×bn):=
 if E.own f then nH call f args H else call (.fn f) args H
def kK (e:Edge):Bool:=match e.ground with|.textOnly _|.gcOnly _=>false|_=>true
def DM (o:Oper) (i:Nat):Bool:=o.after.any λe=>e.on==i&&kK e
def HM (acc:a_ (a_ Nat)) (o:Oper):a_ Nat:=
 (o.after.toList.filter kK).foldl (λl e=>(e.on::(acc[e.on]?).getD []).foldl (λl k=>if l.contains k then l else k::l) l) []
def HD (ops:a_ Oper):a_ (a_ Nat):=ops.foldl (λacc o=>acc++[HM acc o]) []
def before (ops:a_ Oper) (i k:Nat):Bool:=(((HD ops)[i]?).getD []).contains k
def isApp:Op->Bool
 | .call { callee:=.builtin .append,.. }=>true
 | _=>false
def dA (ops:a_ Oper) (i:Nat):Bool:=
 match ops[i]? with
 | some o=>(List.range ops.length).all λk=>match ops[k]? with
  | some p=>k==i||cB p.op==.pure||(if k<i then before ops i k else before ops k i)||(isApp o.op&&cB p.op==.alloc&&decide (i<k))
  | none=>true
 | none=>false
def dstsOf (ops:a_ Oper):a_ Nat:=ops.filterMap (·.dst)
def ri (ops:a_ Oper) (i k:Nat):Bool:=if k<i then before ops i k else before ops k i
def F0 (g:Bool) (ops:a_ Oper) (i k:Nat):bf (a_ Nat):=
 match ops[k]? with
 | some p=>
  if k==i||cB p.op==.pure||ri ops i k then some []else
  match p.op with
  | .load _ (.tmp a)=>if(dstsOf ops).contains a then some []else some [a]
  | o=>if g&&(cB o==.alloc||cB o==.call)then some []else none
 | none=>some []
def B7 (g:Bool) (ops:a_ Oper) (i:Nat):a_ Nat->bf (a_ Nat)
 | []=>some []
 | k::r=>match F0 g ops i k,B7 g ops i r with
  | some a,some b=>some (a++b)
  | _,_=>none
def qZ (g:Bool) (ops:a_ Oper) (i:Nat):bf (Nat×a_ Nat):=
 match (ops[i]?).map Oper.op with
 | some (.store _ (.tmp a) _)=>if(dstsOf ops).contains a then none else(B7 g ops i (List.range ops.length)).map λl=>(a,l)
 | _=>none
def nF (id:Nat):V->Bool
 | .hptr u _ _=>u != id
 | .fptr _=>true
 | _=>false
def pM (ops:a_ Oper) (i:Nat) (F:Frame):Bool:=
 match qZ false ops i with
 | some (a,l)=>match get F a with
  | .hptr id _ _=>l.all λs=>nF id (get F s)
  | _=>false
 | none=>false
def qV (ops:a_ Oper) (b i:Nat) (F:Frame):Bool:=
 match qZ true ops i with
 | some (a,l)=>match get F a with
  | .hptr id _ _=>decide (id<b)&&l.all λs=>nF id (get F s)
  | _=>false
 | none=>false
def Gj (ops:a_ Oper) (k:Nat):Bool:=(List.range ops.length).any λi => !ri ops i k&&(qZ true ops i).isSome
def vZ (ops:a_ Oper) (place:bf (Nat×Nat)) (args:a_ V):Bool:=match place with|some (_,i) => !Gj ops i||V.gQ args|none=>true
def oQ (ops:a_ Oper) (k a':Nat):a_ Nat:=
 if(dstsOf ops).contains a' then(List.range ops.length).filterMap λi=>match (ops[i]?).map Oper.op with
  | some (.store _ (.tmp a) _)=>if ri ops i k||(dstsOf ops).contains a then none else some a
  | _=>none
 else []
def nJ (ops:a_ Oper) (k:Nat) (F:Frame) (op:Op):Bool:=
 match op with
 | .load _ (.tmp t)=>(oQ ops k t).all λa=>match get F a with
  | .hptr id _ _=>nF id (get F t)
  | _=>true
 | _=>true
def AG (d:Nat) (op:Op):Bool:=op.operands.any λx=>match x with|.tmp t=>t==d|_=>false
def Qq (d:Nat):Op->Bool
 | .call { callee:=.builtin .append,args,.. }=>match args.toList with
  | .tmp t::r=>t==d&&r.all λx=>match x with|.tmp t=>t != d|_=>true
  | _=>false
 | _=>false
def Uh:Op->Bool
 | .buildSlice _ len _=>decide (2<=len)
 | _=>false
def AR (ops:a_ Oper) (i:Nat):Bool:=
 match ops[i]? with
 | some o=>match o.op,o.dst with
  | .makeSlice ..,some d=>(ops.any λp=>AG d p.op)&&ops.all λp => !AG d p.op||cB p.op==.call||Uh p.op
  | .buildSlice _ len t,some d=>len==0&&t.size==0&&((List.range ops.length).any λk=>match ops[k]? with|some p=>AG d p.op && !dA ops k|none=>false)&&ops.all λp => !AG d p.op||Qq d p.op
  | _,_=>false
 | none=>false
def QT (E:Env) (ops:a_ Oper) (i:Nat):Bool:=
 match ops[i]? with
 | some o=>match o.op,o.dst with
  | .buildSlice t len _,some d=>decide (0<len)&&(match E.kindOf t with
   | some (.slice e)=>(match E.kindOf e with|some .bool|some (.int _)|some .str=>true|_=>false)
   | _=>false)&&(ops.any λp=>AG d p.op)&&ops.all λp => !AG d p.op||cB p.op==.call
  | _,_=>false
 | none=>false
def Dy (E:Env) (ops:a_ Oper) (i:Nat):Bool:=AR ops i||QT E ops i
def mX (E:Env) (ops:a_ Oper):bf (Nat×Nat)->Bool
 | some (_,i)=>Dy E ops i
 | none=>false
def jA (E:Env) (ops:a_ Oper) (place:bf (Nat×Nat)) (f:FuncId):Bool:=E.keep f&&(match place with|none=>true|some (_,i)=>(E.own f || !E.soft f)&&(dA ops i || !E.own f))
def wL (ops:a_ Oper) (i:Nat):Bool:=
 match ops[i]? with
 | some o=>isApp o.op&&(List.range ops.length).all λk=>match ops[k]? with
  | some p=>k==i||cB p.op==.pure||ri ops i k||cB p.op==.read||(cB p.op==.alloc&&(AR ops k||decide (i<k)))
  | none=>true
 | none=>false
def pq (F:Frame):Op->Bool
 | .call { callee:=.builtin .append,args,.. }=>match args.toList with
  | x::_=>match ev F x with|some .c_|some .bN=>true|_=>false
  | _=>false
 | _=>false
def An (ops:a_ Oper) (i b:Nat) (F:Frame) (H:bn) (op:Op):Bool:=wL ops i&&(isApp op&&pq F op&&decide (b<=H.length))
def dJ (E:Env) (call:dz) (ops:a_ Oper) (place:bf (Nat×Nat)) (f:FuncId) (args:a_ V) (H:bn):bf (V×bn):=
 if jA E ops place f then
  match place with
  | none=>gP E call f args H
  | some (_,i)=>if dA ops i then gP E call f args H else none
 else match place with
  | none=>match b8 call f args H with
   | some y=>some (y,if y.scalar then H else cG H (cN (b7 call.lv H) args))
   | none=>none
  | some (b,i)=>match b8 call f args (H.take b)with
   | some y=>if y.scalar then some (y,H)else if iw (H.take b) (cN (b7 call.lv (H.take b)) args)then some (y,cG H (cN (b7 call.lv (H.take b)) args))else none
   | none=>if dA ops i then match b8 call f args H with
    | some y=>some (y,if y.scalar then H else cG H (cN (b7 call.lv H) args))
    | none=>none
    else none
def cK (E:Env) (call:dz) (ops:a_ Oper) (place:bf (Nat×Nat)) (F:Frame) (H:bn) (op:Op):bf (V×bn):=
 match cB op with
 | .pure=>(rW E F H place op).map λv=>(v,H)
 | .read=>match place with
  | none=>(dI E F H op).map λv=>(v,H)
  | some (b,i)=>if nJ ops i F op then match dI E F (H.take b) op with
   | some v=>some (v,H)
   | none=>if dA ops i then(dI E F H op).map λv=>(v,H)else none
   else none
 | .alloc=>if mX E ops place then(oR E F op).map λv=>(v,H)else match eC E F op,place with
  | some (ob,m),none=>some (m.val H.length,H++[ob])
  | some (ob,m),some (b,i)=>match H[b+i]? with
   | some .free=>some (m.val (b+i),H.set (b+i) ob)
   | _=>none
  | none,_=>none
 | .loud=>match place with
  | none=>cr E F H op
  | some (b,i)=>if dA ops i||pM ops i F||qV ops b i F||An ops i b F H op then cr E F H op else none
 | .call=>match jL F op with
  | some (.fn f,args)=>if vZ ops place args then dJ E call ops place f args H else none
  | some (.yld id,args)=>match place with
   | none=>call (.yld id) args H
   | some (_,i)=>if dA ops i then call (.yld id) args H else none
  | none=>none
def jt (n:Nat) (F:Frame) (dst:bf Nat) (v:V):bf Frame:=
 match dst with
 | none=>some F
 | some d=>if d<n then some (set F d v)else none
def fG (ops:a_ Oper) (F:Frame) (o:Oper):Bool:=
 match o.guard with
 | none=>true
 | some (j,b)=>match (ops[j]?).bind (·.dst)with
  | some d=>match get F d with
   | .bool c=>c==b
   | _=>false
  | none=>false
def fZ (E:Env) (call:dz) (n:Nat) (ops:a_ Oper) (place:bf (Nat×Nat)) (o:Oper) (F:Frame) (H:bn):bf (Frame×bn):=
 if fG ops F o then
  match cK E call ops place F H o.op with
  | some (v,H')=>(jt n F o.dst v).map λF'=>(F',H')
  | none=>none
 else(jt n F o.dst .undef).map λF'=>(F',H)
def lQ (E:Env) (call:dz) (n:Nat) (ops:a_ Oper):a_ Oper->Frame->bn->bf (Frame×bn)
 | [],F,H=>some (F,H)
 | o::r,F,H=>match fZ E call n ops none o F H with
  | some (F',H')=>lQ E call n ops r F' H'
  | none=>none
def jE (E:Env) (call:dz) (n:Nat) (ops:a_ Oper) (base:Nat):a_ Nat->Frame->bn->bf (Frame×bn)
 | [],F,H=>some (F,H)
 | i::r,F,H=>match ops[i]? with
  | some o=>match fZ E call n ops (some (base,i)) o F H with
   | some (F',H')=>jE E call n ops base r F' H'
   | none=>none
  | none=>none
def tmpsOf (o:Oper) (ops:a_ Oper):a_ Nat:=
 (o.op.operands.toList.filterMap λ|.tmp t=>some t|_=>none) ++
 (match o.guard with|some (g,_)=>((ops[g]?).bind (·.dst)).toList|none=>[])
def xZ (ops:a_ Oper) (a b:Oper):Bool:=
 (match a.dst with|some d => !(tmpsOf b ops).contains d&&b.dst != some d|none=>true) &&
 (match b.dst with|some d => !(tmpsOf a ops).contains d|none=>true)
def vM (ops:a_ Oper):Bool:=
 (List.range ops.length).all λj=>(List.range j).all λi=>
  match ops[i]?,ops[j]? with
  | some a,some b=>DM b i||xZ ops a b
  | _,_=>false
def Al (ops:a_ Oper):Bool:=
 (List.range ops.length).all λj=>match ops[j]? with
  | some o=>o.after.all λe => !kK e||decide (e.on<j)
  | none=>true
def qY (ops:a_ Oper):Bool:=ops.any λo=>cB o.op==.alloc
def jf (E:Env) (call:dz) (n:Nat) (ops:a_ Oper) (u:Bool) (F:Frame) (H:bn):bf (Frame×bn):=
 if u then
  if vM ops&&Al ops then
   jE E call n ops H.length (List.range ops.length) F (if qY ops then H++List.replicate ops.length .free else H)
  else none
 else lQ E call n ops ops F H
def j_ (step:Frame->bn->bf (Out×Frame×bn)):Nat->Frame->bn->bf (Out×Frame×bn)
 | 0,_,_=>none
 | k+1,F,H=>match step F H with
  | some (.norm,F',H')=>j_ step k F' H'
  | r=>r
def mc:Out->bf Code
 | .norm=>none
 | .ret=>some .ret
 | .exit id=>some (.exit id)
def exec (E:Env) (call:dz) (lf:Nat) (ro:Bool) (n:Nat):Code->Frame->bn->bf (Out×Frame×bn)
 | .skip,F,H=>some (.norm,F,H)
 | .label _,F,H=>some (.norm,F,H)
 | .region _ ops u,F,H=>(jf E call n ops.toList u F H).map λ(F',H')=>(.norm,F',H')
 | .seq a b,F,H=>match exec E call lf ro n a F H with
  | some (.norm,F',H')=>exec E call lf ro n b F' H'
  | r=>r
 | .cond c x y,F,H=>match ev F c with
  | some (.bool t)=>if t then exec E call lf ro n x F H else exec E call lf ro n y F H
  | _=>none
 | .block id c,F,H=>match exec E call lf ro n c F H with
  | some (.exit B,F',H')=>if B=id then some (.norm,F',H')else some (.exit B,F',H')
  | r=>r
 | .loop c,F,H=>j_ (exec E call lf ro n c) lf F H
 | .rangeFunc g ps assign body,F,H=>match ro,ev F g with
  | false,some (.clo f a b)=>
   match call (.fn f) (a++.yld H.length::b) (H++[.loop ⟨.ready,none,F,n,ps.toList,assign,body⟩])with
   | some (_,H')=>match H'[H.length]? with
    | some (.loop r)=>match r.st with
     | .busy=>none
     | _=>some (r.pend.getD .norm,F,H'.set H.length .dead)
    | _=>none
   | none=>none
  | _,_=>none
 | .exit id,F,H=>some (.exit id,F,H)
 | .ret,F,H=>some (.ret,F,H)
 | _,_,_=>none
def iY (E:Env) (F:Frame) (H:bn):a_ ResultVar->bf (a_ V)
 | []=>some []
 | .tmp t::r=>(iY E F H r).map (get F t::·)
 | .cell a t::r=>match E.tt t,iY E F H r with
  | some d,some vs=>((dX H (get F a) d.size).bind (mk d.agg)).map (·::vs)
  | _,_=>none
def result:a_ V->V
 | [v]=>v
 | vs=>.tup vs
def yd:a_ Nat->a_ V->Frame->Frame
 | t::u,v::vs,F=>yd u vs (set F t v)
 | _,_,F=>F
def Ie {α:Type} [Inhabited α] (lt:α->α->Bool):Nat->Nat->Array α->Array α
 | 0,_,d=>d
 | k+1,i,d=>Ie lt k (i+1) (Sort.insInner lt 0 i d)
def pT (n:Nat) (lt:Fin (n+1)->Fin (n+1)->Bool):Array (Fin (n+1)):=
 if n<12 then Ie lt n 1 (List.finRange (n+1)).toArray else Sort.pdq lt (List.finRange (n+1)).toArray 0 (n+1) (Lib.bitLen (n+1)) true true
def iG (call:dz) (g:FuncId) (B u:a_ V) (n:Nat) (i j:Fin (n+1)):bf Int:=
 match B[i.1]?,B[j.1]? with
 | some a,some b=>match b8 call g (a::b::u) []with
  | some (.int .i64 c)=>some c
  | _=>none
 | _,_=>none
def oL {n:Nat} (t:Fin (n+1)->Fin (n+1)->bf Int) (i j:Fin (n+1)):Bool:=decide ((t i j).getD 0<0)
def AQ {n:Nat} (t:Fin (n+1)->Fin (n+1)->bf Int):Bool:=
 let l:=List.finRange (n+1)
 l.all λi => !oL t i i&&l.all λj=>(t i j).isSome&&l.all λk=>(!(oL t i j&&oL t j k)||oL t i k)&&((oL t i j||oL t j k) || !oL t i k)
def qI (xs:a_ (a_ V)) (off n:Nat) (l:a_ (Fin (n+1))):a_ (a_ V):=xs.take off++l.map (λi=>(xs[off+i.1]?).getD [])++xs.drop (off+(n+1))
def qf (keep:FuncId->Bool) (call:dz) (args:a_ V) (H:bn):bf (V×bn):=
 match args with
 | [s,c]=>match s with
  | .bN|.c_=>some (.undef,H)
  | .hsl id es off len=>match len,c with
   | 0,_=>some (.undef,H)
   | n+1,.clo g [] cb=>match H[id]? with
    | some (.row u w)=>if es=1/\u=1/\off+(n+1)<=w.length/\n<2147483648/\keep g=false then
     match borrows call.lv (H.set id .dead) ((w.drop off).take (n+1)).flatten,borrows call.lv (H.set id .dead) cb with
     | some z,some t=>if AQ (iG call g z t n)then some (.undef,H.set id (.row 1 (qI w off n (pT n (oL (iG call g z t n))).toList)))else none
     | _,_=>none
     else none
    | _=>none
   | _,_=>none
  | _=>none
 | _=>none
def iR (E:Env) (c:dz) (n:Nat):Callee->a_ V->bn->bf (V×bn)
 | .fn f,args,H=>match E.ft f with
  | some fi=>if args.length<=fi.ntmps then
   match exec E c n false fi.ntmps fi.body args H with
   | some (.exit _,_,_)=>none
   | some (_,F',H')=>(iY E F' H' fi.results).map λvs=>(result vs,H')
   | none=>none
   else none
  | none=>if E.sort f then qf E.keep c args H else(E.known f args).map λy=>(y,H)
 | .yld id,args,H=>match H[id]? with
  | some (.loop r)=>match r.st with
   | .ready=>if args.length=r.params.length/\r.params.all (·<r.nt)then
    match exec E c n true r.nt r.assign (yd r.params args r.frame) H with
    | some (.norm,B,H2)=>match H2[id]? with
     | some (.loop r2)=>match r2.st with
      | .ready=>match exec E c n true r.nt r.body B (H2.set id (.loop { r2 with st:=.busy }))with
       | some (o,_,u)=>match u[id]? with
        | some (.loop r4)=>some (.bool (o==.norm),u.set id (.loop { r4 with st:=(if o==.norm then .ready else .done),pend:=(if o==.norm then none else some o) }))
        | _=>none
       | none=>none
      | _=>none
     | _=>none
    | _=>none
    else none
   | _=>none
  | _=>none
def run (E:Env):Nat->dz
 | 0=>⟨0,λ_ _ _=>none⟩
 | n+1=>⟨n+1,iR E (run E n) n⟩
theorem F8 {E:Env} {n:Nat} {x:Callee} {a:a_ V} {H:bn}:run E (n+1) x a H=iR E (run E n) n x a H:=rfl
end Go.VE
namespace Go.VE
variable [bO]
@[simp] theorem get_nil (i:Nat):get [] i=.undef:=by cases i <;> rfl
@[simp] theorem vc (F:Frame) (i:Nat) (v:V):get (set F i v) i=v:=by
 induction F generalizing i with
 | nil=>induction i with
  | zero=>rfl
  | succ i t=>grind[set,get]
 | cons x r t=>cases i with
  | zero=>rfl
  | succ i=>grind[set,get]
theorem iP (F:Frame) {i j:Nat} (v:V) (h:i≠j):get (set F i v) j=get F j:=by
 induction F generalizing i j with
 | nil=>
  induction i generalizing j with
  | zero=>cases j with
   | zero=>grind
   | succ j=>simp[set,get]
  | succ i t=>cases j with
   | zero=>simp[set,get]
   | succ j=>grind[set,get]
 | cons x r t=>cases i with
  | zero=>cases j with
   | zero=>grind
   | succ j=>simp[set,get]
  | succ i=>cases j with
   | zero=>simp[set,get]
   | succ j=>grind[set,get]
theorem IB (F:Frame) {i j:Nat} (u v:V) (h:i≠j):set (set F i u) j v=set (set F j v) i u:=by
 induction F generalizing i j with
 | nil=>
  induction i generalizing j with
  | zero=>cases j with
   | zero=>grind
   | succ j=>simp[set]
  | succ i t=>cases j with
   | zero=>simp[set]
   | succ j=>grind[set]
 | cons x r t=>cases i with
  | zero=>cases j with
   | zero=>grind
   | succ j=>simp[set]
  | succ i=>cases j with
   | zero=>simp[set]
   | succ j=>grind[set]
inductive IC where
 | cells (c:Array Value)
 | map (es:Array MapEntry)
abbrev ck:=Nat->bf IC
def IC.at (x:IC) (w:World) (b:Nat):Prop:=
 match x with
 | .cells c=>∃el fr,w.heap[b]? = some (.cells c el fr)
 | .map es=>∃clock,w.heap[b]? = some (.map es clock)
def ck.le (I I':ck):Prop:=∀b x,I b=some x->I' b=some x
theorem ck.le_refl (I:ck):ck.le I I:=λ_ _ h=>h
theorem ck.le_trans {I J K:ck} (h:ck.le I J) (u:ck.le J K):ck.le I K:=λb x e=>u b x (h b x e)
inductive dW (I:ck):V->Value->Prop
 | bool (b:Bool):dW I (.bool b) (.bool b)
 | int (k:IntKind) (n:Int):dW I (.int k n) (.int k n)
 | str (s:ByteArray):dW I (.str s) (.string s)
 | c_ (a:Option Addr):dW I .c_ (.slice a 0 0)
 | bN:dW I .bN (.slice none 0 0)
 | fsl0 (es:Nat) (a:Addr) (cap:Nat):dW I (.fsl es []) (.slice (some a) 0 cap)
 | fsl (es:Nat) (xs:List (List V)) (b o cap:Nat) (c:Array Value) (hI:I b=some (.cells c)) (hc:xs.length<=cap)
  (hu:∀x∈xs,x.length=es) (ho:∀x∈xs,∀y∈x,V.one y=true) (hb:o+xs.length*es<=c.size)
  (hr:∀(i j:Nat) x y v,xs[i]? = some x->x[j]? = some y->c[o+i*es+j]? = some v->dW I y v) :
  dW I (.fsl es xs) (.slice (some ⟨b,o,none⟩) xs.length cap)
 | gN:dW I .gN (.pointer none)
 | fptr (cs:List V) (b o:Nat) (c:Array Value) (hI:I b=some (.cells c)) (hb:o+cs.length<=c.size)
  (hr:∀(j:Nat) y v,cs[j]? = some y->c[o+j]? = some v->dW I y v):dW I (.fptr cs) (.pointer (some ⟨b,o,none⟩))
 | clo (f:FuncId) (x y:List V) (u v:Array Value) (hx:x.length=u.size) (hy:y.length=v.size)
  (h1:∀(j:Nat) a b,x[j]? = some a->u[j]? = some b->dW I a b) (h2:∀(j:Nat) a b,y[j]? = some a->v[j]? = some b->dW I a b) :
  dW I (.clo f x y) (.func (.func f) u v)
 | gi:dW I .gi (.map none)
 | rK:dW I .rK .nilFunc
 | fmap (kvs:List (V×V)) (b:Nat) (es:Array MapEntry) (hI:I b=some (.map es)) (hl:kvs.length=es.size)
  (hk:∀(j:Nat) p e,kvs[j]? = some p->es[j]? = some e->dW I p.1 e.key)
  (hv:∀(j:Nat) p e,kvs[j]? = some p->es[j]? = some e->dW I p.2 e.val):dW I (.fmap kvs) (.map (some b))
 | agg (cs:List V) (vs:Array Value) (hl:cs.length=vs.size) (h:∀(j:Nat) a b,cs[j]? = some a->vs[j]? = some b->dW I a b) :
  dW I (.agg cs) (.agg vs)
 | tup (cs:List V) (vs:Array Value) (hl:cs.length=vs.size) (h:∀(j:Nat) a b,cs[j]? = some a->vs[j]? = some b->dW I a b) :
  dW I (.tup cs) (.tuple vs)
structure Pl where
 b:Nat
 o:Nat
 es:Nat
 sz:Nat
abbrev Mu:=Nat->bf Pl
inductive bE (I:ck) (μ:Mu):V->Value->Prop
 | c (x:V) (v:Value) (h:dW I x v):bE I μ x v
 | hsl (id off len cap:Nat) (p:Pl) (hm:μ id=some p) (hc:len<=cap) (hb:p.o+(off+cap)*p.es<=p.sz) :
  bE I μ (.hsl id p.es off len) (.slice (some ⟨p.b,p.o+off*p.es,none⟩) len cap)
 | hsl0 (id es off:Nat) (a:Addr):bE I μ (.hsl id es off 0) (.slice (some a) 0 0)
 | hptr (id el off:Nat) (p:Pl) (hm:μ id=some p):bE I μ (.hptr id el off) (.pointer (some ⟨p.b,p.o+el*p.es+off,none⟩))
 | yld (id:Nat) (p:Pl) (hm:μ id=some p):bE I μ (.yld id) (.func (.yield p.b) #[] #[])
 | hmap (id:Nat) (p:Pl) (hm:μ id=some p):bE I μ (.hmap id) (.map (some p.b))
 | clo (f:FuncId) (x y:List V) (u v:Array Value) (hx:x.length=u.size) (hy:y.length=v.size)
  (h1:∀(j:Nat) a b,x[j]? = some a->u[j]? = some b->bE I μ a b) (h2:∀(j:Nat) a b,y[j]? = some a->v[j]? = some b->bE I μ a b) :
  bE I μ (.clo f x y) (.func (.func f) u v)
 | agg (cs:List V) (vs:Array Value) (hl:cs.length=vs.size) (h:∀(j:Nat) a b,cs[j]? = some a->vs[j]? = some b->bE I μ a b) :
  bE I μ (.agg cs) (.agg vs)
 | tup (cs:List V) (vs:Array Value) (hl:cs.length=vs.size) (h:∀(j:Nat) a b,cs[j]? = some a->vs[j]? = some b->bE I μ a b) :
  bE I μ (.tup cs) (.tuple vs)
def Mu.le (μ μ':Mu):Prop:=∀id p,μ id=some p->μ' id=some p
theorem Mu.le_refl (μ:Mu):Mu.le μ μ:=λ_ _ h=>h
theorem dW.mono {I I':ck} (h:ck.le I I') {x:V} {v:Value} (r:dW I x v):dW I' x v:=by
 induction r with
 | bool b=>exact .bool b
 | int k n=>exact .int k n
 | str s=>exact .str s
 | c_ a=>exact .c_ a
 | bN=>exact .bN
 | fsl0 es a cap=>exact .fsl0 es a cap
 | fsl es L b o cap c B hc hu O D _ t=>exact .fsl es L b o cap c (h _ _ B) hc hu O D t
 | gN=>exact .gN
 | fptr cs b o c B D _ t=>exact .fptr cs b o c (h _ _ B) D t
 | clo f x y u v Q S _ _ w z=>exact .clo f x y u v Q S w z
 | gi=>exact .gi
 | rK=>exact .rK
 | fmap G b es B C _ _ w z=>exact .fmap G b es (h _ _ B) C w z
 | agg cs J C _ t=>exact .agg cs J C t
 | tup cs J C _ t=>exact .tup cs J C t
theorem bE.mono {I I':ck} {μ μ':Mu} (h:ck.le I I') (B:Mu.le μ μ') {x:V} {v:Value} (r:bE I μ x v):bE I' μ' x v:=by
 induction r with
 | c x v r=>exact .c _ _ (r.mono h)
 | hsl id off len cap p t hc J=>exact .hsl id off len cap p (B _ _ t) hc J
 | hsl0 id es off a=>exact .hsl0 id es off a
 | hptr id el off p t=>exact .hptr id el off p (B _ _ t)
 | yld id p t=>exact .yld id p (B _ _ t)
 | hmap id p t=>exact .hmap id p (B _ _ t)
 | clo f x y u v L O _ _ w z=>exact .clo f x y u v L O w z
 | agg cs C D _ G=>exact .agg cs C D G
 | tup cs C D _ G=>exact .tup cs C D G
def cA (I:ck) (μ:Mu) (xs:a_ V) (vs:a_ Value):Prop:=
 xs.length=vs.length/\∀(j:Nat) a b,xs[j]? = some a->vs[j]? = some b->bE I μ a b
theorem cA.nil {I:ck} {μ:Mu}:cA I μ [] []:=⟨rfl,by simp⟩
theorem cA.cons {I:ck} {μ:Mu} {x:V} {v:Value} {xs:a_ V} {vs:a_ Value} (h:bE I μ x v) (r:cA I μ xs vs):cA I μ (x::xs) (v::vs):=by
 refine⟨by simp[r.1],?_⟩
 intro j a b h1 t
 cases j with
 | zero=>grind
 | succ j=>exact r.2 j a b Zd Zd
theorem cA.cons_inv {I:ck} {μ:Mu} {x:V} {xs:a_ V} {u:a_ Value} (r:cA I μ (x::xs) u):∃v vs,u=v::vs/\bE I μ x v/\cA I μ xs vs:=by
 obtain⟨t,h⟩:=r
 cases u with
 | nil=>simp_all
 | cons v vs=>
  refine⟨v,vs,rfl,h 0 x v Zc Zc,by grind,?_⟩
  intro j a b h1 w;exact h (j+1) a b Zd Zd
theorem cA.vw {I:ck} {μ:Mu} {u:a_ Value} (r:cA I μ [] u):u=[]:=by
 have:=r.1;grind
theorem cA.append {I:ck} {μ:Mu} {xs ys:a_ V} {u vs:a_ Value} (h:cA I μ xs u) (B:cA I μ ys vs):cA I μ (xs++ys) (u++vs):=by
 induction xs generalizing u with
 | nil=>rw[cA.vw h];exact B
 | cons x xs t=>
  obtain⟨v,u,rfl,hv,hr⟩:=h.cons_inv;exact .cons hv (t hr)
theorem cA.mono {I I':ck} {μ μ':Mu} (h:ck.le I I') (u:Mu.le μ μ') {xs:a_ V} {vs:a_ Value} (r:cA I μ xs vs):cA I' μ' xs vs:=
 ⟨r.1,λj a b h1 t=>(r.2 j a b h1 t).mono h u⟩
theorem cA.take {I:ck} {μ:Mu} {xs:a_ V} {vs:a_ Value} (r:cA I μ xs vs) (n:Nat):cA I μ (xs.take n) (vs.take n):=by
 refine⟨by simp[r.1],λj a b h1 t=>?_⟩
 rw[List.getElem?_take]at h1 t;split at h1 <;> simp_all;exact r.2 j a b h1 t
theorem cA.drop {I:ck} {μ:Mu} {xs:a_ V} {vs:a_ Value} (r:cA I μ xs vs) (n:Nat):cA I μ (xs.drop n) (vs.drop n):=by
 refine⟨by simp[r.1],λj a b h1 t=>?_⟩
 rw[List.getElem?_drop]at h1 t;exact r.2 _ a b h1 t
theorem bE.cells {I:ck} {μ:Mu} {x:V} {v:Value} (r:bE I μ x v):cA I μ x.cells v.cells.toList:=by
 cases r with
 | c x v h=>
  cases h with
  | agg cs z t h=>exact⟨by grind[V.cells,Value.cells],λj a b h1 B=>.c _ _ (h j a b h1 (by grind[Value.cells]))⟩
  | bool b=>exact .cons (.c _ _ (.bool b)) .nil
  | int k n=>exact .cons (.c _ _ (.int k n)) .nil
  | str s=>exact .cons (.c _ _ (.str s)) .nil
  | c_ a=>exact .cons (.c _ _ (.c_ a)) .nil
  | bN=>exact .cons (.c _ _ .bN) .nil
  | fsl0 es a cap=>exact .cons (.c _ _ (.fsl0 es a cap)) .nil
  | fsl es O b o cap c C hc hu Q D hr=>exact .cons (.c _ _ (.fsl es O b o cap c C hc hu Q D hr)) .nil
  | gN=>exact .cons (.c _ _ .gN) .nil
  | fptr cs b o c C D hr=>exact .cons (.c _ _ (.fptr cs b o c C D hr)) .nil
  | clo f x y u v G J h1 B=>exact .cons (.c _ _ (.clo f x y u v G J h1 B)) .nil
  | gi=>exact .cons (.c _ _ .gi) .nil
  | rK=>exact .cons (.c _ _ .rK) .nil
  | fmap L b es C t hk hv=>exact .cons (.c _ _ (.fmap L b es C t hk hv)) .nil
  | tup cs z t h=>exact .cons (.c _ _ (.tup cs z t h)) .nil
 | hsl id off len cap p w hc D=>exact .cons (.hsl id off len cap p w hc D) .nil
 | hsl0 id es off a=>exact .cons (.hsl0 id es off a) .nil
 | hptr id el off p w=>exact .cons (.hptr id el off p w) .nil
 | yld id p w=>exact .cons (.yld id p w) .nil
 | hmap id p w=>exact .cons (.hmap id p w) .nil
 | clo f x y u v G J h1 B=>exact .cons (.clo f x y u v G J h1 B) .nil
 | agg cs z t h=>exact⟨by grind[V.cells,Value.cells],λj a b h1 B=>h j a b h1 (by grind[Value.cells])⟩
 | tup cs z t h=>exact .cons (.tup cs z t h) .nil
theorem bE.Gc {I:ck} {μ:Mu} {cs:a_ V} {vs:Array Value} (h:cA I μ cs vs.toList):bE I μ (.agg cs) (.agg vs):=
 .agg cs vs (by simpa using h.1) λj a b h1 t=>h.2 j a b h1 Zd
theorem bE.QL {I:ck} {μ:Mu} {cs:a_ V} {vs:Array Value} (h:cA I μ cs vs.toList):bE I μ (.tup cs) (.tuple vs):=
 .tup cs vs (by simpa using h.1) λj a b h1 t=>h.2 j a b h1 Zd
section inv
variable {I:ck} {μ:Mu}
theorem bE.qP {b:Bool} {v:Value} (h:bE I μ (.bool b) v):v=.bool b:=by cases h with|c _ _ h=>cases h;rfl
theorem bE.eX {k:IntKind} {n:Int} {v:Value} (h:bE I μ (.int k n) v):v=.int k n:=by cases h with|c _ _ h=>cases h;rfl
theorem bE.tw {s:ByteArray} {v:Value} (h:bE I μ (.str s) v):v=.string s:=by cases h with|c _ _ h=>cases h;rfl
theorem bE.rB {v:Value} (h:bE I μ .c_ v):∃a,v=.slice a 0 0:=by cases h with|c _ _ h=>cases h;grind
theorem bE.lu {es:Nat} {xs:a_ (a_ V)} {v:Value} (h:bE I μ (.fsl es xs) v):dW I (.fsl es xs) v:=by cases h with|c _ _ h=>omega
theorem bE.lP {cs:a_ V} {v:Value} (h:bE I μ (.fptr cs) v):∃b o c,v=.pointer (some ⟨b,o,none⟩)/\I b=some (.cells c)/\o+cs.length<=c.size /\
 (∀(j:Nat) y u,cs[j]? = some y->c[o+j]? = some u->dW I y u):=by
 cases h with|c _ _ h=>cases h with|fptr cs b o c t w hr=>grind
theorem bE.lp {v:Value} (h:bE I μ .bN v):v=.slice none 0 0:=by cases h with|c _ _ h=>cases h;rfl
theorem bE.OV {v:Value} (h:bE I μ .gi v):v=.map none:=by cases h with|c _ _ h=>cases h;rfl
theorem bE.tj {id el off:Nat} {v:Value} (h:bE I μ (.hptr id el off) v):∃p,μ id=some p/\v=.pointer (some ⟨p.b,p.o+el*p.es+off,none⟩):=by
 cases h with
 | c _ _ h=>cases h
 | hptr _ _ _ p t=>grind
theorem bE.TL {id:Nat} {v:Value} (h:bE I μ (.yld id) v):∃p,μ id=some p/\v=.func (.yield p.b) #[] #[]:=by
 cases h with
 | c _ _ h=>cases h
 | yld _ p t=>grind
theorem bE.B_ {id:Nat} {v:Value} (h:bE I μ (.hmap id) v):∃p,μ id=some p/\v=.map (some p.b):=by
 cases h with
 | c _ _ h=>cases h
 | hmap _ p t=>grind
theorem bE.lB {id es off len:Nat} {v:Value} (h:bE I μ (.hsl id es off len) v) :
 (∃p cap,μ id=some p/\p.es=es/\len<=cap/\p.o+(off+cap)*es<=p.sz/\v=.slice (some ⟨p.b,p.o+off*es,none⟩) len cap)\/(len=0/\∃a,v=.slice (some a) 0 0):=by
 cases h with
 | c _ _ h=>cases h
 | hsl _ _ _ cap p t hc u=>simp_all
 | hsl0 _ _ _ a=>grind
theorem bE.h_ {cs:a_ V} {v:Value} (h:bE I μ (.agg cs) v):∃vs,v=.agg vs/\cA I μ cs vs.toList:=by
 cases h with
 | c _ _ h=>cases h with|agg _ vs t h=>exact⟨vs,rfl,by grind,λj a b h1 u=>.c _ _ (h j a b h1 Zd)⟩
 | agg _ vs t h=>exact⟨vs,rfl,by grind,λj a b h1 u=>h j a b h1 Zd⟩
theorem bE.qe {cs:a_ V} {v:Value} (h:bE I μ (.tup cs) v):∃vs,v=.tuple vs/\cA I μ cs vs.toList:=by
 cases h with
 | c _ _ h=>cases h with|tup _ vs t h=>exact⟨vs,rfl,by grind,λj a b h1 u=>.c _ _ (h j a b h1 Zd)⟩
 | tup _ vs t h=>exact⟨vs,rfl,by grind,λj a b h1 u=>h j a b h1 Zd⟩
theorem bE.jU {f:FuncId} {x y:a_ V} {v:Value} (h:bE I μ (.clo f x y) v):∃a b,v=.func (.func f) a b/\cA I μ x a.toList/\cA I μ y b.toList:=by
 cases h with
 | c _ _ h=>cases h with
  | clo _ _ _ u v w z h1 t=>exact⟨u,v,rfl,⟨by grind,λj a b p q=>.c _ _ (h1 j a b p Zd)⟩,⟨by grind,λj a b p q=>.c _ _ (t j a b p Zd)⟩⟩
 | clo _ _ _ u v w z h1 t=>exact⟨u,v,rfl,⟨by grind,λj a b p q=>h1 j a b p Zd⟩,⟨by grind,λj a b p q=>t j a b p Zd⟩⟩
theorem bE.of_bool {x:V} {b:Bool} (h:bE I μ x (.bool b)):x=.bool b:=by
 cases h with|c _ _ h=>cases h;rfl
end inv
def tZ (I:ck):Prop:=∀g cs,bO.gl g=some cs->dW I (.fptr cs) (.pointer (some ⟨g,0,none⟩))
theorem tZ.mono {I I':ck} (h:ck.le I I') (r:tZ I):tZ I':=λg cs hg=>(r g cs hg).mono h
structure dP (I:ck) (μ:Mu) (n:Nat) (F:Frame) (tmps:Array Value):Prop where
 size:tmps.size=n
 rel:∀t,bE I μ (get F t) (tmps.getD t undef)
 gl:tZ I
theorem bE.undef (I:ck) (μ:Mu):bE I μ .undef Go.undef:=.c _ _ (.tup [] #[] rfl Zc)
theorem dP.mono {I I':ck} {μ μ':Mu} {n:Nat} {F:Frame} {tmps:Array Value} (h:ck.le I I') (u:Mu.le μ μ') (r:dP I μ n F tmps):dP I' μ' n F tmps:=
 ⟨r.1,λt=>(r.2 t).mono h u,r.gl.mono h⟩
theorem dP.put {I:ck} {μ:Mu} {n:Nat} {F F':Frame} {a:Act} {dst:bf Nat} {x:V} {v:Value} (r:dP I μ n F a.tmps) (h:bE I μ x v)
 (hp:jt n F dst x=some F'):dP I μ n F' (a.put dst v).tmps:=by
 cases dst with
 | none=>simp[jt]at hp;subst hp;exact r
 | some d=>
  simp only[jt]at hp;split at hp
  .simp  at hp;subst hp;refine⟨by simp[Act.put,r.1],λt=>?_,r.gl⟩
   by_cases u:d=t
   .subst u;have:d<a.tmps.size:=by rw[r.1];omega
    simp_all[Act.put]
   have:=r.2 t;rw[iP _ _ u];simp_all[Act.put]
  grind
theorem Bw {I:ck}:∀(n:Nat) (v:Value) (x:V),ofValue n v=some x->dW I x v:=by
 intro n
 induction n with
 | zero=>grind[ofValue]
 | succ n z=>
  intro v x h;unfold ofValue at h;split at h <;> (try (simp  at h;subst h;constructor)) <;> (try grind)
  simp  at h;obtain⟨B,u,rfl⟩:=h;have key:∀(l:a_ Value) (t:a_ V),l.mapM (ofValue n)=some t->t.length=l.length/\∀(j:Nat) a b,t[j]? = some a->l[j]? = some b->dW I a b:=by
   intro l
   induction l with
   | nil=>grind
   | cons v l w=>
    grind[ζg]
  obtain⟨C,hr⟩:=key _ _ u;exact .agg _ _ Zd λj a b h1 D=>hr j a b h1 Zd
theorem dh {I:ck} {μ:Mu} {n:Nat} {F:Frame} {a:Act} (r:dP I μ n F a.tmps) {o:Operand} {x:V} (h:ev F o=some x):bE I μ x (a.eval o):=by
 cases o with
 | tmp t=>simp[ev]at h;subst h;exact r.2 t
 | const v=>exact .c _ _ (Bw 4 _ _ h)
 | func f=>simp[ev]at h;subst h;exact .c _ _ (.clo f [] [] #[] #[] rfl rfl Zc Zc)
 | global g=>
  obtain⟨cs,h1,rfl⟩:=ζf.1 h;exact .c _ _ (r.gl g cs h1)
theorem nv {I:ck} {μ:Mu} {n:Nat} {F:Frame} {a:Act} (r:dP I μ n F a.tmps):∀{l:a_ Operand} {xs:a_ V},fq F l=some xs->cA I μ xs (l.map a.eval):=by
 intro l
 induction l with
 | nil=>intro xs h;simp[fq]at h;subst h;exact .nil
 | cons o l t=>
  intro xs h;simp[fq]at h;split at h
  next v w h1 u=>simp  at h;subst h;exact .cons (dh r h1) (t u)
  grind
theorem KE {I:ck} {μ:Mu} {n:Nat} {F:Frame} {a:Act} (r:dP I μ n F a.tmps):∀{l:a_ (Nat×Operand)} {xs:a_ (Nat×V)},lN F l=some xs ->
 xs.length=l.length/\∀(j:Nat) x y,xs[j]? = some x->l[j]? = some y->x.1=y.1/\bE I μ x.2 (a.eval y.2):=by
 intro l
 induction l with
 | nil=>grind[lN]
 | cons o l w=>
  intro xs h;simp[lN]at h;split at h
  .rename_i v C h1 z;simp  at h;subst h;obtain⟨B,hr⟩:=w z;refine⟨by simp[B],λj x y t u=>?_⟩
   cases j with
   | zero=>simp at t u;subst t;subst u;exact⟨rfl,dh r h1⟩
   | succ j=>grind
  grind
def lV:TypeDesc->TK
 | .bool=>.bool
 | .int k=>.int k
 | .string=>.str
 | .pointer e=>.ptr e
 | .slice e=>.slice e
 | .struct fs=>.struct (fs.toList.map λf=>(f.offset,f.type))
 | .array n e=>.array n e
 | .map k e=>.map k e
 | _=>.other
def CP:Value->Bool
 | .agg _=>true
 | _=>false
def tF (P:Program) (t:TypeId):bf TD:=
 match P.info? t,P.underlying t with
 | some i,some d=>match i.zero with
  | some z=>match z.cells.toList.mapM (ofValue 4)with
   | some cs=>if cs.length=i.size/\cs.all V.one=true/\CP z=(TD.mk i.size i.bytes cs (lV d)).agg then some ⟨i.size,i.bytes,cs,lV d⟩else none
   | none=>none
  | none=>none
 | _,_=>none
def ic (a:a_ Int):Array Value:=(a.map (Value.int .i64)).toArray
structure s6 (P:Program) (t:TypeId) (n:Nat):Prop where
 eq:∀(w:World) (x y:Operand) (a b:List Int),a.length=n->b.length=n ->
  (do eqGuard .eql t x y (.agg (ic a)) (.agg (ic b));binOp .eql t (.agg (ic a)) (.agg (ic b))).run P w=.ok (.bool (a==b)) w
 ne:∀(w:World) (x y:Operand) (a b:List Int),a.length=n->b.length=n ->
  (do eqGuard .neq t x y (.agg (ic a)) (.agg (ic b));binOp .neq t (.agg (ic a)) (.agg (ic b))).run P w=.ok (.bool !(a==b)) w
 key:∀(w:World) (a b:List Int),a.length=n->b.length=n->(Op.equal t (.agg (ic a)) (.agg (ic b))).run P w=.ok (a==b) w
 check:∀(w:World) (e:Bool) (a:List Int),a.length=n->(Instr.checkKey e 10000 t (.agg (ic a))).run P w=.ok () w
 kind:∃d,P.underlying t=some d/\((∃n e,d=.array n e)\/(∃fs,d=.struct fs))
structure dU (P:Program) (E:Env):Prop where
 tt:∀t d,E.tt t=some d->tF P t=some d
 ft:∀f fi,E.ft f=some fi->∃fn,P.funcs[f]? = some fn/\fn.body=some fi.body/\fn.ntmps=fi.ntmps/\fn.results.toList=fi.results/\(fn.name == "runtime.NumGoroutine")=false
 eqN:∀t n,E.eqN t=some n->s6 P t n
structure nU (P:Program) (t:TypeId) (d:TD):Prop where
 info:∃i z,P.info? t=some i/\i.size=d.size/\i.bytes=d.bytes/\i.zero=some z/\(∀I μ,cA I μ d.zero z.cells.toList)/\d.zero.length=d.size/\d.zero.all V.one=true/\CP z=d.agg
 und:∃desc,P.underlying t=some desc/\lV desc=d.kind
theorem Om {I:ck} {μ:Mu}:∀(l:a_ Value) (ys:a_ V),l.mapM (ofValue 4)=some ys->cA I μ ys l:=by
 intro l
 induction l with
 | nil=>intro ys h;simp at h;subst h;exact .nil
 | cons v l t=>
  intro ys h;simp only[List.mapM_cons,Option.pure_def,Option.bind_eq_bind,ζg,ζa]at h;obtain⟨y,u,w,z,rfl⟩:=h;exact .cons (.c _ _ (Bw 4 _ _ u)) (t w z)
theorem dU.ty {P:Program} {E:Env} (h:dU P E) {t:TypeId} {d:TD} (u:E.tt t=some d):nU P t d:=by
 have:=h.tt t d u;unfold tF at this;split at this
 .rename_i i desc w hd;split at this
  .rename_i z B;split at this
   .rename_i cs hc;split at this
    next C=>simp only[ζa]at this;subst this;exact⟨⟨i,z,w,rfl,rfl,B,λI μ=>Om _ _ hc,C⟩,⟨desc,hd,rfl⟩⟩
    grind
   grind
  grind
 grind
section runs
variable {P:Program} {w:World} {t:TypeId} {d:TD}
theorem dx {desc:TypeDesc} (h:P.underlying t=some desc):(underlying t).run P w=.ok desc w:=by simp[underlying,h]
theorem oe {i:TypeInfo} (h:P.info? t=some i):(typeInfo t).run P w=.ok i w:=by simp[typeInfo,h]
theorem nU.gW (h:nU P t d):(sizeOf t).run P w=.ok d.size w:=by
 obtain⟨i,z,u,B,_⟩:=h.info;simp_all[sizeOf,oe]
theorem nU.dx (h:nU P t d):∃desc,P.underlying t=some desc/\lV desc=d.kind/\∀w,(underlying t).run P w=.ok desc w:=by
 obtain⟨desc,h1,u⟩:=h.und
 grind[VE.dx]
theorem nU.C5 (h:nU P t d):(isAgg t).run P w=.ok d.agg w:=by
 obtain⟨desc,h1,u⟩:=h.und;unfold isAgg;simp only[Sem.run_bind,VE.dx h1,Result.andThen_ok];cases desc <;> simp[TD.agg,<-u,lV]
theorem nU.zX (h:nU P t d):∃z,(∀w,(zeroValue t).run P w=.ok z w)/\(∀I μ,cA I μ d.zero z.cells.toList)/\d.zero.length=d.size/\d.zero.all V.one=true:=by
 obtain⟨i,z,u,_,_,B,hr,C,h1,_⟩:=h.info;simp_all[zeroValue,oe]
end runs
theorem nU.Ti {P:Program} {t:TypeId} {d:TD} (h:nU P t d):∃z,(∀w,(zeroValue t).run P w=.ok z w)/\∀I μ x,VE.mk d.agg d.zero=some x->bE I μ x z:=by
 obtain⟨i,z,D,_,_,G,hr,J,h1,u⟩:=h.info;refine⟨z,λw=>by simp_all[zeroValue,oe],λI μ x C=>?_⟩
 have B:=hr I μ
 cases hd:d.agg with
 | true=>
  rw[hd]at C u;cases z <;> simp[CP]at u;simp only[VE.mk,if_true,ζa]at C;subst C;exact .Gc (by grind[Value.cells])
 | false=>
  rw[hd]at C u;simp only[VE.mk,Bool.false_eq_true,if_false]at C;split at C
  .rename_i v hv;simp only[ζa]at C;subst C;rw[hv]at B;have e:z.cells.toList=[z]:=by cases z <;> first|rfl|grind[CP]
   rw[e]at B;exact B.2 0 _ _ rfl rfl
  simp at C
theorem eZ {E:Env} {t:TypeId} {k:TK} (h:E.kindOf t=some k):∃d,E.tt t=some d/\d.kind=k:=by
 grind[Env.kindOf,ζf]
theorem Dh {d:TypeDesc} {k:IntKind} (h:lV d=.int k):d=.int k:=by cases d <;> simp_all [lV]
theorem JR {d:TypeDesc} (h:lV d=.bool):d=.bool:=by cases d <;> simp_all [lV]
theorem zm {d:TypeDesc} (h:lV d=.str):d=.string:=by cases d <;> simp_all [lV]
theorem iZ {d:TypeDesc} {e:TypeId} (h:lV d=.slice e):d=.slice e:=by cases d <;> simp_all [lV]
theorem BK {d:TypeDesc} {n:Nat} {e:TypeId} (h:lV d=.array n e):d=.array n e:=by cases d <;> simp_all [lV]
theorem zI {d:TypeDesc} {k e:TypeId} (h:lV d=.map k e):d=.map k e:=by cases d <;> simp_all [lV]
theorem z8 {d:TypeDesc} {fs:a_ (Nat×TypeId)} (h:lV d=.struct fs):∃u,d=.struct u/\fs=u.toList.map λf=>(f.offset,f.type):=by
 cases d <;> simp_all [lV]
theorem AY {I:ck} {μ:Mu} {cs r:a_ V} {vs:a_ Value} {off n:Nat} (h:cA I μ cs vs) (hc:cut cs off n=some r) :
 cA I μ r ((vs.drop off).take n)/\r.length=n/\off+n<=cs.length\/(n=0/\r=[]):=by
 unfold cut at hc;simp only at hc;split at hc
 .rename_i t;simp only[ζa]at hc;subst hc
  by_cases u:n=0
  .grind
  left;refine⟨(h.drop off).take n,t,?_⟩
  grind
 simp at hc
theorem Nd {I:ck} {μ:Mu} {cs:a_ V} {x:V} {vs:Array Value} (h:mk true cs=some x) (r:cA I μ cs vs.toList):bE I μ x (.agg vs):=by
 simp only[mk,if_true,ζa]at h;subst h;exact .Gc r
theorem mk_one {I:ck} {μ:Mu} {cs:a_ V} {x:V} {vs:a_ Value} (h:mk false cs=some x) (r:cA I μ cs vs):∃v,vs=[v]/\bE I μ x v:=by
 simp only[mk,Bool.false_eq_true,if_false]at h;split at h
 .simp only[ζa]at h;subst h;obtain⟨v,t,rfl,hv,hr⟩:=r.cons_inv;exact⟨v,by rw[hr.vw],hv⟩
 simp at h
theorem Ig {P:Program} {w:World} {I:ck} {μ:Mu} {t:TypeId} {d:TD} {cs r:a_ V} {vs:Array Value} {x:V} {off:Nat} (D:nU P t d) (h:cA I μ cs vs.toList)
 (hc:cut cs off d.size=some r) (B:mk d.agg r=some x):∃u,(part t vs off).run P w=.ok u w/\bE I μ x u:=by
 unfold part;simp only[Sem.run_bind,D.C5,Result.andThen_ok]
 cases z:d.agg with
 | true=>
  rw[z]at B;refine⟨.agg (vs.extract off (off+d.size)),by simp[D.gW],?_⟩
  refine Nd B ?_;have e:(vs.extract off (off+d.size)).toList=(vs.toList.drop off).take d.size:=by simp
  rw[e];rcases AY h hc with⟨a,_⟩|⟨C,rfl⟩
  .exact a
  rw[C];exact .nil
 | false=>
  rw[z]at B;rcases AY h hc with⟨a,J,_⟩|⟨C,rfl⟩
  .obtain⟨v,hv,G⟩:=mk_one B a;refine⟨v,?_,G⟩;have hd:d.size=1:=by
    have:=a.1;rw[hv]at this;grind
   rw[hd]at hv;have:vs[off]? = some v:=by
    have:=congrArg (·[0]?) hv
    grind
   simp[this]
  grind[mk]
theorem Lw {I:ck} {μ:Mu}:∀(az:a_ V) (a:a_ Int) (u:a_ Value),gZ az=some a->cA I μ az u->u=a.map (Value.int .i64)/\a.length=az.length:=by
 intro az
 induction az with
 | nil=>intro a u h t;simp only[gZ,ζa]at h;subst h;rw[t.vw];simp
 | cons x az w=>
  intro a u h t;obtain⟨v,u,rfl,hv,hr⟩:=t.cons_inv;have z:∃y,x=.int .i64 y:=by
   cases x with
   | int k y=>cases k <;> simp[gZ]at h ⊢
   | _=>simp[gZ]at h
  obtain⟨y,rfl⟩:=z;simp only[gZ,ζf]at h;obtain⟨b,B,rfl⟩:=h;obtain⟨g1,g2⟩:=w _ _ B hr;have:=hv.eX
  grind
theorem pR {I:ck} {μ:Mu} {az:a_ V} {a:a_ Int} {u:Array Value} (h:gZ az=some a) (B:cA I μ az u.toList):u=ic a/\a.length=az.length:=by
 obtain⟨h1,t⟩:=Lw _ _ _ h B;refine⟨?_,t⟩;have:=congrArg List.toArray h1
 grind[ic]
theorem w_ {az u:a_ V} {r:Bool} (h:kg az u=some r):∃a b,gZ az=some a/\gZ u=some b/\a.length=b.length/\r=(a==b):=by
 grind[kg]
section
variable {P:Program} {E:Env} {I:ck} {μ:Mu} {n:Nat} {F:Frame} {a:Act} {w:World}
theorem My (f:BinOp) (t:TypeId) (p q:Operand) (k u:IntKind) (m m':Int):(eqGuard f t p q (.int k m) (.int u m')).run P w=.ok () w:=by
 simp_all[eqGuard]
theorem MM (f:BinOp) (t:TypeId) (p q:Operand) (s u:ByteArray):(eqGuard f t p q (.string s) (.string u)).run P w=.ok () w:=by
 simp_all[eqGuard]
theorem LF (f:BinOp) (t:TypeId) (p q:Operand) (s u:Bool):(eqGuard f t p q (.bool s) (.bool u)).run P w=.ok () w:=by
 simp_all[eqGuard]
theorem HE (d:Nat) {t:TypeId} (x y:Bool) (h:P.underlying t=some .bool):(Op.equalIn (d+1) t (.bool x) (.bool y)).run P w=.ok (x==y) w:=by
 simp_all[Op.equalIn,dx]
theorem CL {t:TypeId} (x y:Bool) (h:P.underlying t=some .bool):(Op.equal t (.bool x) (.bool y)).run P w=.ok (x==y) w:=
 HE 9999 x y h
theorem A9 (d:Nat) {t:TypeId} {k:IntKind} (x y:Int) (h:P.underlying t=some (.int k)):(Op.equalIn (d+1) t (.int k x) (.int k y)).run P w=.ok (x==y) w:=by
 simp_all[Op.equalIn,dx]
theorem FH (d:Nat) {t e:TypeId} (u:bf Addr) (l c:Nat) (h:P.underlying t=some (.slice e)):(Op.equalIn (d+1) t (.slice u l c) (.slice none 0 0)).run P w=.ok u.isNone w:=by
 cases u <;> simp only[Op.equalIn,Sem.run_bind,dx h,Result.andThen_ok,Sem.run_pure] <;> rfl
theorem Jg (d:Nat) {t e:TypeId} (u:bf Addr) (h:P.underlying t=some (.pointer e)):(Op.equalIn (d+1) t (.pointer u) (.pointer none)).run P w=.ok u.isNone w:=by
 cases u <;> simp only[Op.equalIn,Sem.run_bind,dx h,Result.andThen_ok,Sem.run_pure] <;> rfl
theorem Jd (d:Nat) {t e B:TypeId} (u:bf Nat) (h:P.underlying t=some (.map e B)):(Op.equalIn (d+1) t (.map u) (.map none)).run P w=.ok u.isNone w:=by
 cases u <;> simp only[Op.equalIn,Sem.run_bind,dx h,Result.andThen_ok,Sem.run_pure] <;> rfl
theorem Fp (O:dU P E) {t:TypeId} {k:TK} {x y:V} {u v:Value} {b:Bool} (hk:E.kindOf t=some k) (h:uE k x y=some b) (B:bE I μ x u) (D:bE I μ y v) :
 (Op.equal t u v).run P w=.ok b w/\(∀op p q,(eqGuard op t p q u v).run P w=.ok () w)/\binOp .eql t u v=(do pure (.bool (<-Op.equal t u v)))/\binOp .neq t u v=(do pure (.bool (!(<-Op.equal t u v)))):=by
 obtain⟨d,hd,J⟩:=eZ hk;obtain⟨desc,h1,C,_⟩:=(O.ty hd).dx;rw[J]at C;have hsl:∀(e:TypeId) (z:bf Addr) (l c:Nat),P.underlying t=some (.slice e)->b=z.isNone ->
  (Op.equal t (.slice z l c) (.slice none 0 0)).run P w=.ok b w/\(∀op p q,(eqGuard op t p q (.slice z l c) (.slice none 0 0)).run P w=.ok () w)/\binOp .eql t (.slice z l c) (.slice none 0 0)=(do pure (.bool (<-Op.equal t (.slice z l c) (.slice none 0 0))))/\binOp .neq t (.slice z l c) (.slice none 0 0)=(do pure (.bool (!(<-Op.equal t (.slice z l c) (.slice none 0 0))))):=by
  intro e z l c hu G;refine⟨?_,λop p q=>by simp_all[eqGuard],rfl,rfl⟩
  rw[G];exact FH 9999 z l c hu
 have Q:∀(e:TypeId) (z:bf Addr),P.underlying t=some (.pointer e)->b=z.isNone ->
  (Op.equal t (.pointer z) (.pointer none)).run P w=.ok b w/\(∀op p q,(eqGuard op t p q (.pointer z) (.pointer none)).run P w=.ok () w)/\binOp .eql t (.pointer z) (.pointer none)=(do pure (.bool (<-Op.equal t (.pointer z) (.pointer none))))/\binOp .neq t (.pointer z) (.pointer none)=(do pure (.bool (!(<-Op.equal t (.pointer z) (.pointer none))))):=by
  intro e z hu G;refine⟨?_,λop p q=>by simp_all[eqGuard],rfl,rfl⟩
  rw[G];exact Jg 9999 z hu
 have S:∀(e L:TypeId) (z:bf Nat),P.underlying t=some (.map e L)->b=z.isNone ->
  (Op.equal t (.map z) (.map none)).run P w=.ok b w/\(∀op p q,(eqGuard op t p q (.map z) (.map none)).run P w=.ok () w)/\binOp .eql t (.map z) (.map none)=(do pure (.bool (<-Op.equal t (.map z) (.map none))))/\binOp .neq t (.map z) (.map none)=(do pure (.bool (!(<-Op.equal t (.map z) (.map none))))):=by
  intro e L z hu G;refine⟨?_,λop p q=>by simp_all[eqGuard],rfl,rfl⟩
  rw[G];exact Jd 9999 z hu
 unfold uE at h;split at h <;> (try (simp only[ζa]at h;subst h))
 .have:=iZ C;subst this;rw[B.lp,D.lp];grind
 .have:=iZ C;subst this;rw[D.lp];have T:=B.lu
  cases T with
  | fsl0 _ z cap=>grind
  | fsl=>grind
 .have:=iZ C;subst this;rw[D.lp];rcases B.lB with⟨p,cap,_,_,_,_,U⟩|⟨_,z,U⟩
  all_goals grind
 .obtain⟨e,rfl⟩:∃e,desc=.pointer e:=by cases desc <;> simp_all [lV]
  cases B with|c _ _ B=>cases B;cases D with|c _ _ D=>cases D;grind
 .obtain⟨e,rfl⟩:∃e,desc=.pointer e:=by cases desc <;> simp_all [lV]
  cases D with|c _ _ D=>cases D;cases B with|c _ _ B=>cases B;grind
 .obtain⟨e,rfl⟩:∃e,desc=.pointer e:=by cases desc <;> simp_all [lV]
  cases D with
  | c _ _ D=>
   cases D
   cases B with
   | c _ _ B=>cases B
   | hptr=>grind
 .have:=zI C;subst this;cases B with|c _ _ B=>cases B;cases D with|c _ _ D=>cases D;grind
 .have:=zI C;subst this;cases D with|c _ _ D=>cases D;cases B with|c _ _ B=>cases B;grind
 .have:=zI C;subst this
  cases D with
  | c _ _ D=>
   cases D
   cases B with
   | c _ _ B=>cases B
   | hmap=>grind
 cases h
theorem SB (J:dU P E) {op:BinOp} {t:TypeId} {x y z:V} {u v:Value} (p q:Operand) (h:Ic E op t x y=some z) (O:bE I μ x u) (T:bE I μ y v) :
 ∃r,(do eqGuard op t p q u v;binOp op t u v).run P w=.ok r w/\bE I μ z r:=by
 unfold Ic at h;split at h
 .
  rename_i k m k' m';rw[O.eX,T.eX];simp only[Sem.run_bind,My,Result.andThen_ok];split at h
  .
   split at h
   .simp at h
   rename_i C;simp only[ζa]at h;subst h;exact⟨_,by simp[binOp,Op.shift,C],.c _ _ (.int _ _)⟩
  .split at h
   .simp at h
   rename_i C;simp only[ζa]at h;subst h;exact⟨_,by simp[binOp,Op.shift,C],.c _ _ (.int _ _)⟩
  split at h
  .rename_i X Y hk;subst hk
   cases op with
   | shl=>grind
   | shr=>grind
   | add=>simp only[ζa]at h;subst h;exact⟨_,by simp[binOp,Op.intArith],.c _ _ (.int _ _)⟩
   | sub=>simp only[ζa]at h;subst h;exact⟨_,by simp[binOp,Op.intArith],.c _ _ (.int _ _)⟩
   | mul=>simp only[ζa]at h;subst h;exact⟨_,by simp[binOp,Op.intArith],.c _ _ (.int _ _)⟩
   | quo=>
    simp only at h;split at h
    .simp at h
    rename_i C;simp only[ζa]at h;subst h;exact⟨_,by simp[binOp,Op.intDiv,C],.c _ _ (.int _ _)⟩
   | rem=>
    simp only at h;split at h
    .simp at h
    rename_i C;simp only[ζa]at h;subst h;exact⟨_,by simp[binOp,Op.intDiv,C],.c _ _ (.int _ _)⟩
   | and=>simp only[ζa]at h;subst h;exact⟨_,by simp[binOp,Op.intBits],.c _ _ (.int _ _)⟩
   | or=>simp only[ζa]at h;subst h;exact⟨_,by simp[binOp,Op.intBits],.c _ _ (.int _ _)⟩
   | xor=>simp only[ζa]at h;subst h;exact⟨_,by simp[binOp,Op.intBits],.c _ _ (.int _ _)⟩
   | andNot=>simp only[ζa]at h;subst h;exact⟨_,by simp[binOp,Op.intBits],.c _ _ (.int _ _)⟩
   | eql=>simp only[su,Option.map_some,ζa]at h;subst h;exact⟨_,by simp[binOp,Op.intCmp],.c _ _ (.bool _)⟩
   | neq=>simp only[su,Option.map_some,ζa]at h;subst h;exact⟨_,by simp[binOp,Op.intCmp],.c _ _ (.bool _)⟩
   | lss=>simp only[su,Option.map_some,ζa]at h;subst h;exact⟨_,by simp[binOp,Op.intCmp],.c _ _ (.bool _)⟩
   | leq=>simp only[su,Option.map_some,ζa]at h;subst h;exact⟨_,by simp[binOp,Op.intCmp],.c _ _ (.bool _)⟩
   | gtr=>simp only[su,Option.map_some,ζa]at h;subst h;exact⟨_,by simp[binOp,Op.intCmp],.c _ _ (.bool _)⟩
   | geq=>simp only[su,Option.map_some,ζa]at h;subst h;exact⟨_,by simp[binOp,Op.intCmp],.c _ _ (.bool _)⟩
  simp at h
 .
  rename_i s s';rw[O.tw,T.tw];simp only[Sem.run_bind,MM,Result.andThen_ok];split at h
  .split at h
   .simp at h
   rename_i C;simp only[ζa]at h;subst h;exact⟨_,by simp_all[binOp,Op.stringOp],.c _ _ (.str _)⟩
  all_goals first
   | (simp only[ζa]at h;subst h;exact⟨_,by simp[binOp,Op.stringOp],.c _ _ (.bool _)⟩)
   | simp at h
 .
  rename_i b b';rw[O.qP,T.qP];simp only[Sem.run_bind,LF,Result.andThen_ok];split at h
  next hk=>obtain⟨d,hd,D⟩:=eZ hk;obtain⟨desc,h1,B,_⟩:=(J.ty hd).dx;rw[D]at B;have:=JR B;subst this;simp only[ζa]at h;subst h;exact⟨_,by grind[binOp,Sem.run_bind,CL,Result.andThen_ok,Sem.run_pure],.c _ _ (.bool _)⟩
  next hk=>obtain⟨d,hd,D⟩:=eZ hk;obtain⟨desc,h1,B,_⟩:=(J.ty hd).dx;rw[D]at B;have:=JR B;subst this;simp only[ζa]at h;subst h;exact⟨_,by grind[binOp,Sem.run_bind,CL,Result.andThen_ok,Sem.run_pure],.c _ _ (.bool _)⟩
  simp at h
 .
  rename_i az bs;obtain⟨va,rfl,L⟩:=O.h_;obtain⟨vb,rfl,Q⟩:=T.h_;split at h
  .rename_i m G;split at h
   next Z=>simp only[ζf]at h;obtain⟨r,hr,rfl⟩:=h;obtain⟨U,W,h1,B,S,rfl⟩:=w_ hr;obtain⟨rfl,e1⟩:=pR h1 L;obtain⟨rfl,e2⟩:=pR B Q;exact⟨_,(J.eqN _ _ G).eq w p q U W Za Za,.c _ _ (.bool _)⟩
   simp at h
  .rename_i m G;split at h
   next Z=>simp only[ζf]at h;obtain⟨r,hr,rfl⟩:=h;obtain⟨U,W,h1,B,S,rfl⟩:=w_ hr;obtain⟨rfl,e1⟩:=pR h1 L;obtain⟨rfl,e2⟩:=pR B Q;exact⟨_,(J.eqN _ _ G).ne w p q U W Za Za,.c _ _ (.bool _)⟩
   simp at h
  simp at h
 
 split at h
 next k hk=>simp only[ζf]at h;obtain⟨b,C,rfl⟩:=h;obtain⟨h1,B,S,_⟩:=Fp (w:=w) J hk C O T;exact⟨.bool b,by rw[Sem.run_bind,B,S];simp[Result.andThen,h1],.c _ _ (.bool _)⟩
 next k hk=>simp only[ζf]at h;obtain⟨b,C,rfl⟩:=h;obtain⟨h1,B,_,S⟩:=Fp (w:=w) J hk C O T;exact⟨.bool !b,by rw[Sem.run_bind,B,S];simp[Result.andThen,h1],.c _ _ (.bool _)⟩
 simp at h
theorem IM (off:Nat):∀(l:a_ Value) (k:Nat) (cells:Array Value),off+k+l.length<=cells.size ->
 ((l.zipIdx k).foldl (λcs (p:Value×Nat)=>cs.setIfInBounds (off+p.2) p.1) cells).toList=cells.toList.take (off+k)++l++cells.toList.drop (off+k+l.length):=by
 intro l
 induction l with
 | nil=>simp_all
 | cons v l t=>
  intro k cells h;simp  at h;simp;rw[t (k+1) _ (by simp;omega)]
  grind[List.take_succ_eq_append_getElem,List.take_set_of_le,List.drop_set_of_lt]
theorem Ln {cs xs:a_ V} {cells:Array Value} {v:Value} {off:Nat} (h:cA I μ cs cells.toList) (u:cA I μ xs v.cells.toList) (B:off+xs.length<=cs.length) :
 cA I μ (cs.take off++xs++cs.drop (off+xs.length)) (v.cells.zipIdx.foldl (λcs (p:Value×Nat)=>cs.setIfInBounds (off+p.2) p.1) cells).toList:=by
 have e:v.cells.zipIdx.foldl (λcs p=>cs.setIfInBounds (off+p.2) p.1) cells=(v.cells.toList.zipIdx 0).foldl (λcs p=>cs.setIfInBounds (off+p.2) p.1) cells:=by
  rw[<-Array.foldl_toList];simp
 have h1:=h.1;have t:=u.1;rw[e,IM off _ 0 _ Zd]
 rw[<-t];exact((h.take off).append u).append (h.drop _)
theorem BP {place place':Nat->bf (Nat×Nat)} (hp:∀i p,place i=some p->place' i=some p):∀(vs:a_ (Nat×V)) (u:a_ (Nat×Value)) (cs r:a_ V) (cells:Array Value),
 vs.length=u.length->(∀(j:Nat) x y,vs[j]? = some x->u[j]? = some y->x.1=y.1/\bE I μ x.2 y.2)->cA I μ cs cells.toList->ua place cs vs=some r ->
 ∃B,Instr.fill place' cells u=some B/\cA I μ r B.toList:=by
 intro vs
 induction vs with
 | nil=>
  intro u cs r cells G _ hc w
  cases u with
  | nil=>simp[ua]at w;subst w;exact⟨cells,rfl,hc⟩
  | cons _ _=>simp_all
 | cons x vs J=>
  intro u cs r cells G hr hc w
  cases u with
  | nil=>simp_all
  | cons y u=>
   obtain⟨i,x⟩:=x;obtain⟨L,y⟩:=y;obtain⟨C,z⟩:=hr 0 (i,x) (L,y) rfl rfl;subst C;simp only at z;simp only[ua]at w;split at w
   .simp at w
   rename_i off size O;split at w
   .simp at w
   rename_i Q;have t:=z.cells;have D:x.cells.length=y.cells.size:=by simpa using t.1
   have S:cs.length=cells.size:=by simpa using hc.1
   have T:¬(decide (y.cells.size≠size)||decide (off+y.cells.size>cells.size))=true:=by
    grind
   simp  at Q;obtain⟨B,h1,U⟩:=J u _ r _ Zd (λj a b p q=>hr (j+1) a b (by simpa using p) (by simpa using q)) (Ln hc t Za) w
   grind[Instr.fill]
theorem Nf (ps:Array (Nat×Operand)) (f:Operand->Value):(ps.map λ(i,x)=>(i,f x)).toList=ps.toList.map λp=>(p.1,f p.2):=by simp
theorem Fg {ps:Array (Nat×Operand)} {vs:a_ (Nat×V)} (r:dP I μ n F a.tmps) (h:lN F ps.toList=some vs) :
 vs.length=(ps.map λ(i,x)=>(i,a.eval x)).toList.length/\∀(j:Nat) x y,vs[j]? = some x->(ps.map λ(i,x)=>(i,a.eval x)).toList[j]? = some y->x.1=y.1/\bE I μ x.2 y.2:=by
 obtain⟨t,hr⟩:=KE r h;rw[Nf]
 grind
theorem NV (B:dU P E):∀(u:a_ Field) (pl:a_ (Nat×Nat)),mK E (u.map λf=>(f.offset,f.type))=some pl ->
 ((u.mapM λf=>do pure (f.offset,<-sizeOf f.type)):Sem (a_ (Nat×Nat))).run P w=.ok pl w:=by
 intro u
 induction u with
 | nil=>simp_all[mK]
 | cons f u z=>
  intro pl h;simp[mK]at h;split at h
  next d C hd t=>simp  at h;subst h;have:=z _ t;simp only[List.mapM_cons,Sem.run_bind,(B.ty hd).gW,Result.andThen_ok,Sem.run_pure,this]
  grind
theorem LX (B:dU P E) (u:Array Field) (pl:a_ (Nat×Nat)) (h:mK E (u.toList.map λf=>(f.offset,f.type))=some pl) :
 ((u.mapM λf=>do pure (f.offset,<-sizeOf f.type)):Sem (Array (Nat×Nat))).run P w=.ok pl.toArray w:=by
 rw[Array.mapM_eq_mapM_toList];simp only[Sem.run_map,NV B _ _ h,Result.andThen_ok]
theorem P4 (B:dU P E) (r:dP I μ n F a.tmps) {t:TypeId} {ps:Array (Nat×Operand)} {x:V} (h:bH E F (.build t ps)=some x) :
 ∃v,(Instr.build t (ps.map λ(i,x)=>(i,a.eval x))).run P w=.ok v w/\bE I μ x v:=by
 simp[bH]at h;split at h
 .rename_i d Q hd D;obtain⟨S,hr⟩:=Fg r D;obtain⟨z,U,u,_⟩:=(B.ty hd).zX;obtain⟨desc,h1,C,W⟩:=(B.ty hd).dx;unfold Instr.build;simp[Sem.run_bind,U,W,Result.andThen_ok];split at h
  .rename_i fs hk;rw[hk]at C;obtain⟨X,rfl,rfl⟩:=z8 C;split at h
   .rename_i pl G;simp  at h;obtain⟨cs,J,rfl⟩:=h;obtain⟨L,g1,g2⟩:=BP (place':=λi=>pl.toArray[i]?) Zd Q _ d.zero cs z.cells S hr (u I μ) J
    refine⟨.agg L,?_,.Gc g2⟩;have:=LX (w:=w) B X pl G;simp_all
   grind
  .rename_i e hk;rw[hk]at C;have:=BK C;subst this;split at h
   .rename_i T O;simp  at h;obtain⟨cs,J,rfl⟩:=h;obtain⟨L,g1,g2⟩:=BP (place':=λi=>some (i*T.size,T.size)) Zd Q _ d.zero cs z.cells S hr (u I μ) J
    refine⟨.agg L,?_,.Gc g2⟩;simp[Sem.run_bind,(B.ty O).gW,Result.andThen_ok];simp_all
   grind
  grind
 grind
theorem oV (b o k:Nat):(⟨b,o,none⟩:Addr).add k=⟨b,o+k,none⟩:=by
 grind[Addr.add]
theorem Fj {cs:a_ V} {b o:Nat} {c:Array Value} (k:Nat) (B:I b=some (.cells c)) (D:o+cs.length<=c.size)
 (hr:∀(j:Nat) y u,cs[j]? = some y->c[o+j]? = some u->dW I y u) (hk:k<=cs.length):bE I μ (.fptr (cs.drop k)) (.pointer (some ⟨b,o+k,none⟩)):=
 .c _ _ (.fptr _ b (o+k) c B (by simp;omega) λj y u h1 t=>hr (k+j) y u Zd Zd)
theorem K0 (G:dU P E) (r:dP I μ n F a.tmps) {s:TypeId} {o:Operand} {f:Nat} {x:V} (h:bH E F (.fieldAddr s o f)=some x) :
 ∃v,(Instr.fieldAt s (a.eval o) f).run P w=.ok v w/\bE I μ x v:=by
 simp[bH]at h;split at h
 .rename_i fs p hk Q;obtain⟨d,hd,B⟩:=eZ hk;obtain⟨desc,h1,J,S⟩:=(G.ty hd).dx;rw[B]at J;obtain⟨T,rfl,rfl⟩:=z8 J;have hv:=dh r Q;split at h
  .rename_i off t L;simp  at L;obtain⟨fd,U,rfl,rfl⟩:=L;have z:T[f]? = some fd:=by grind
   split at h
   .rename_i Y C;split at h
    .simp_all
    rename_i D;have O:∀(b u:Nat),(Instr.fieldAt s (.pointer (some ⟨b,u,none⟩)) f).run P w=.ok (.pointer (some ⟨b,u+fd.offset,none⟩)) w:=by
     intro b u;unfold Instr.fieldAt;simp[Sem.run_bind,S,Result.andThen_ok,z,Instr.sureAddr,Sem.run_pure,fieldPlace,(G.ty C).gW,if_neg D,oV]
    split at h
    .split at h
     .rename_i W;simp  at h;subst h;obtain⟨b,u,c,e,Z,hb,hr⟩:=hv.lP;rw[e]
      grind[Fj]
     grind
    .rename_i id el u;simp  at h;obtain⟨p,X,e⟩:=hv.tj;rw[e];have:=bE.hptr (I:=I)  id el (u+fd.offset) p X
     grind
    grind
   grind
  grind
 grind
theorem OU (D:dU P E) (r:dP I μ n F a.tmps) {s:TypeId} {o:Operand} {f:Nat} {x:V} (h:bH E F (.field s o f)=some x) :
 ∃v,(Instr.field s (a.eval o) f).run P w=.ok v w/\bE I μ x v:=by
 simp[bH]at h;split at h
 .rename_i fs cs hk O;obtain⟨d,hd,z⟩:=eZ hk;obtain⟨desc,h1,G,W⟩:=(D.ty hd).dx;rw[z]at G;obtain⟨Q,rfl,rfl⟩:=z8 G;obtain⟨X,e,B⟩:=(dh r O).h_;rw[e];split at h
  .rename_i off t J;simp  at J;obtain⟨fd,S,rfl,rfl⟩:=J;have L:Q[f]? = some fd:=by grind
   split at h
   .rename_i Y C;simp[ζg]at h;obtain⟨q,T,U⟩:=h;obtain⟨u,hu,Z⟩:=Ig (w:=w) (D.ty C) B T U
    grind[Instr.field,Sem.run_bind,Result.andThen_ok,asAgg]
   grind
  grind
 grind
theorem k9 (k:IntKind) (m:Int):(asIntOf (.int k m)).run P w=.ok (k,m) w:=rfl
theorem KS (T:dU P E) (r:dP I μ n F a.tmps) {t:TypeId} {o i:Operand} {x:V} (h:bH E F (.indexAddr t o i)=some x) :
 ∃v,(Instr.indexAt t (a.eval o) (a.eval i)).run P w=.ok v w/\bE I μ x v:=by
 simp[bH]at h;split at h
 .
  rename_i e s k m hk W X;obtain⟨d,hd,G⟩:=eZ hk;obtain⟨desc,h1,Q,Y⟩:=(T.ty hd).dx;rw[G]at Q;have:=iZ Q;subst this;have hv:=dh r W;have J:=(dh r X).eX;rw[J];split at h
  .rename_i U L;split at h
   .simp_all
   have D:∀(b z len cap:Nat),m.toNat<len->(Instr.indexAt t (.slice (some ⟨b,z,none⟩) len cap) (.int k m)).run P w=.ok (.pointer (some ⟨b,z+m.toNat*U.size,none⟩)) w:=by
    intro b z len cap B;unfold Instr.indexAt;have hc:0<=m/\m<(len):=by omega
    simp[Sem.run_bind,k9,Y,Result.andThen_ok,Sem.run_pure,(T.ty L).gW,Sem.run_ite,if_pos hc,oV]
   split at h
   .rename_i es Z;split at h
    .rename_i C;simp only[ζf]at h;obtain⟨cs,O,rfl⟩:=h;have B:m.toNat<Z.length:=(ζe.1 O).1;have hf:=hv.lu;generalize hg:a.eval o=g at hf
     cases hf with
     | fsl0=>simp_all
     | fsl _ _ b z cap c hI hc hu ho hb hr=>
      refine⟨_,D b z _ _ B,?_⟩;have S:cs∈Z:=List.mem_of_getElem? O;have ab:=hu cs S;have aa:(m.toNat+1)*es<=Z.length*es:=Nat.mul_le_mul_right _ B;rw[Nat.add_mul]at aa;rw[<-C];exact .c _ _ (.fptr cs b _ c hI Za λj y u p q=>hr m.toNat j cs y u O p q)
    grind
   .rename_i id es off len;split at h
    .rename_i C;simp only[ζa]at h;obtain⟨C,B⟩:=C;rcases hv.lB with⟨p,cap,hm,he,hc,hb,e⟩|⟨h0,_⟩
     .rw[e];have:=bE.hptr (I:=I) (μ:=μ) id (off+m.toNat) 0 p hm
      grind
     omega
    grind
   grind
  grind
 .
  rename_i len e p k m hk W X;obtain⟨d,hd,G⟩:=eZ hk;obtain⟨desc,h1,Q,Y⟩:=(T.ty hd).dx;rw[G]at Q;have:=BK Q;subst this;have hv:=dh r W;have J:=(dh r X).eX;rw[J];split at h
  .rename_i U L;split at h
   .rename_i hc;have D:∀(b z:Nat),(Instr.indexAt t (.pointer (some ⟨b,z,none⟩)) (.int k m)).run P w=.ok (.pointer (some ⟨b,z+m.toNat*U.size,none⟩)) w:=by
     intro b z;unfold Instr.indexAt;simp only[Sem.run_bind,k9,Y,Result.andThen_ok,Sem.run_pure,Instr.sureAddr,(T.ty L).gW,Sem.run_ite,if_pos hc,oV]
    split at h
    .split at h
     .rename_i ad;simp only[ζa]at h;subst h;obtain⟨b,z,c,e,hI,hb,hr⟩:=hv.lP;rw[e]
      grind[Fj]
     grind
    .rename_i id el z;simp only[ζa]at h;obtain⟨p,hm,e⟩:=hv.tj;rw[e];have:=bE.hptr (I:=I) (μ:=μ) id el (z+m.toNat*U.size) p hm
     grind
    grind
   grind
  grind
 grind
theorem O5 (D:dU P E) (r:dP I μ n F a.tmps) {t:TypeId} {o i:Operand} {x:V} (h:bH E F (.index t o i)=some x) :
 ∃v,(Instr.index t (a.eval o) (a.eval i)).run P w=.ok v w/\bE I μ x v:=by
 simp[bH]at h;split at h
 .rename_i s k m hk G J;obtain⟨d,hd,z⟩:=eZ hk;obtain⟨desc,h1,B,O⟩:=(D.ty hd).dx;rw[z]at B;have:=zm B;subst this;rw[(dh r J).eX,(dh r G).tw];split at h
  next hc=>simp  at h;obtain⟨b,U,rfl⟩:=h;refine⟨.int .u8 b.toNat,?_,.c _ _ (.int _ _)⟩;simp_all[Instr.index,k9]
  grind
 .rename_i len e cs k m hk G J;obtain⟨d,hd,z⟩:=eZ hk;obtain⟨desc,h1,B,O⟩:=(D.ty hd).dx;rw[z]at B;have:=BK B;subst this;obtain⟨W,ev,L⟩:=(dh r G).h_;rw[(dh r J).eX,ev];split at h
  .rename_i X C;split at h
   next hc=>simp[ζg]at h;obtain⟨q,Q,S⟩:=h;obtain⟨u,hu,T⟩:=Ig (w:=w) (D.ty C) L Q S;refine⟨u,?_,T⟩;unfold Instr.index;simp[Sem.run_bind,k9,O,Result.andThen_ok,Sem.run_ite,if_pos hc,(D.ty C).gW,hu]
   grind
  grind
 grind
theorem L3 (u:dU P E) (r:dP I μ n F a.tmps) {s d:TypeId} {o:Operand} {x:V} (h:bH E F (.convert s d o)=some x) :
 ∃v,(convert s d (a.eval o)).run P w=.ok v w/\bE I μ x v:=by
 simp[bH]at h;split at h
 .rename_i C D k m z hd B;split at h
  next G hk=>simp  at h;subst h;obtain⟨d1,g1,_,g3⟩:=(u.ty z).dx;obtain⟨d2,h1,t,J⟩:=(u.ty hd).dx;rw[hk]at t;have:=Dh t;subst this;rw[(dh r B).eX];refine⟨_,?_,.c _ _ (.int _ _)⟩;simp_all[convert,Conv.intToInt]
  grind
 grind
theorem pN (r:dP I μ n F a.tmps) {o:bf Operand} {m:bf Int} (h:jB F o=some m) :
 (m=none/\o.map a.eval=none)\/∃k z,m=some z/\o.map a.eval=some (.int k z):=by
 cases o with
 | none=>grind[jB]
 | some x=>
  simp[jB]at h;split at h
  next k z t=>simp  at h;subst h;exact .inr ⟨k,z,rfl,by simp[(dh r t).eX]⟩
  grind
theorem uU (k:IntKind) (z:Int) (y:Nat) (code:BoundsCode) (u:0<=z) (h1:z<=y):(Instr.sliceBound (.int k z) y code).run P w=.ok z.toNat w:=by
 simp_all[Instr.sliceBound,k9]
theorem lC (r:dP I μ n F a.tmps) {D G:bf Operand} {l h:bf Int} (e1:jB F D=some l) (e2:jB F G=some h) (B:Bool) (len cap L H:Nat) (hc:len<=cap)
 (u:dH len l h=some (L,H)):(Instr.sliceBounds B len cap (D.map a.eval) (G.map a.eval) none).run P w=.ok (L,H,cap) w/\L<=H/\H<=len:=by
 unfold dH at u;simp only at u;split at u
 .rename_i t;obtain⟨rfl,rfl⟩:=u;obtain⟨J,O,Q,S⟩:=t;refine⟨?_,by omega,by omega⟩
  unfold Instr.sliceBounds;rcases pN r e1 with⟨rfl,z⟩|⟨k1,T,rfl,z⟩ <;> rcases pN r e2 with⟨rfl,C⟩|⟨k2,U,rfl,C⟩ <;>
   simp only[z,C,Option.getD_some]at J O Q S ⊢
  all_goals grind[Sem.run_pure,Result.andThen_ok,Sem.run_bind,uU]
 grind
theorem Em {es:Nat} {xs:a_ (a_ V)} {v:Value} {L H:Nat} (h:dW I (.fsl es xs) v) (h1:L<=H) (B:H<=xs.length) :
 ∃u len cap,v=.slice u len cap/\len=xs.length/\len<=cap/\dW I (.fsl es ((xs.take H).drop L)) (.slice (if cap=L then u else u.map (·.add (L*es))) (H-L) (cap-L)):=by
 cases h with
 | fsl0 _ u cap=>
  simp at B;have z:L=0:=by omega
  subst B;subst z;refine⟨some u,0,cap,rfl,rfl,Nat.zero_le _,?_⟩;have:=dW.fsl0 (I:=I) es u cap
  grind[Addr.add]
 | fsl _ _ b o cap c C hc hu D J hr=>
  refine⟨_,_,cap,rfl,rfl,hc,?_⟩;have t:((xs.take H).drop L).length=H-L:=by simp_all
  by_cases G:H-L=0
  .have:(xs.take H).drop L=[]:=List.eq_nil_of_length_eq_zero Zd
   rw[this,G];split
   .exact .fsl0 es _ _
   exact .fsl0 es _ _
  simp[oV];have e:dW I (.fsl es ((xs.take H).drop L)) (.slice (some ⟨b,o+L*es,none⟩) ((xs.take H).drop L).length (cap-L)):=by
   refine .fsl es _ b (o+L*es) (cap-L) c C Zd (λx w=>hu x (List.mem_of_mem_take (List.mem_of_mem_drop w))) (λx w=>D x (List.mem_of_mem_take (List.mem_of_mem_drop w))) ?_ ?_
   .rw[t];have:L*es+(H-L)*es<=xs.length*es:=by rw[<-Nat.add_mul];simp_all[Nat.mul_le_mul_right]
    omega
   grind
  grind
theorem Qk (hE:dU P E) (r:dP I μ n F a.tmps) {t:TypeId} {o:Operand} {lo hi Y:bf Operand} {x:V} (h:bH E F (.slice t o lo hi Y)=some x) :
 ∃v,(Instr.sliceAt t (a.eval o) (lo.map a.eval) (hi.map a.eval) (Y.map a.eval)).run P w=.ok v w/\bE I μ x v:=by
 simp[bH]at h;split at h
 .
  rename_i s l hh hk ho W C aa;obtain⟨d,hd,S⟩:=eZ hk;obtain⟨desc,h1,X,h3⟩:=(hE.ty hd).dx;rw[S]at X;have:=zm X;rw[(dh r ho).tw];simp only[ζf]at h;obtain⟨⟨L,H⟩,J,rfl⟩:=h;obtain⟨g,_,_⟩:=lC (P:=P) (w:=w) r W C false s.size s.size L H (Nat.le_refl _) J;have hm:Y.map a.eval=none:=by grind[pN]
  refine⟨.string (s.extract L H),?_,.c _ _ (.str _)⟩;simp_all[Instr.sliceAt,Instr.slice]
 .rename_i e v l hh hk ho W C aa;obtain⟨d,hd,S⟩:=eZ hk;obtain⟨desc,h1,X,h3⟩:=(hE.ty hd).dx;rw[S]at X;have:=iZ X;subst this;have hv:=dh r ho;have hm:Y.map a.eval=none:=by grind[pN]
  have B:∀(D:bf Addr) (len cap L H:Nat) (O:TD),E.tt e=some O->len<=cap->dH len l hh=some (L,H) ->
   (Instr.sliceAt t (.slice D len cap) (lo.map a.eval) (hi.map a.eval) (Y.map a.eval)).run P w=.ok (.slice (if cap=L then D else D.map (·.add (L*O.size))) (H-L) (cap-L)) w:=by
   intro D len cap L H O u hc J;obtain⟨g,_,_⟩:=lC (P:=P) (w:=w) r W C true len cap L H hc J;unfold Instr.sliceAt Instr.slice;simp[Sem.run_bind,h3,Result.andThen_ok,hm,g,(hE.ty u).gW,Sem.run_pure]
  split at h
  .rename_i O u;split at h
   .rename_i es xs;split at h
    next Z=>simp only[ζf]at h;obtain⟨⟨L,H⟩,J,rfl⟩:=h;obtain⟨_,T,U⟩:=lC (P:=P) (w:=w) r W C true xs.length xs.length L H (Nat.le_refl _) J;obtain⟨D,len,cap,e1,e2,e3,e4⟩:=Em hv.lu T U;rw[e1];subst e2;refine⟨_,B D _ cap L H O u e3 J,?_⟩;rw[<-Z];exact .c _ _ e4
    grind
   .rename_i id es off len;split at h
    .rename_i Z;simp only[ζf]at h;obtain⟨⟨L,H⟩,J,rfl⟩:=h;obtain⟨_,T,U⟩:=lC (P:=P) (w:=w) r W C true len len L H (Nat.le_refl _) J;rcases hv.lB with⟨p,cap,ab,he,hc,ae,G⟩|⟨h0,D,G⟩
     .rw[G];refine⟨_,B _ _ cap L H O u hc J,?_⟩
      by_cases hz:cap=L
      .have:H-L=0:=by omega
       rw[if_pos hz,this,show cap-L=0 by omega]
       exact .hsl0 id es (off+L) _
      rw[if_neg hz];simp only[Option.map_some,oV];rw[<-Z];subst he;have:=bE.hsl (I:=I) (μ:=μ) id (off+L) (H-L) (cap-L) p ab Za (by
       grind)
      rwa [Nat.add_mul,<-Nat.add_assoc]at this
     grind
    grind
   .simp only[ζf]at h;obtain⟨⟨L,H⟩,J,rfl⟩:=h;obtain⟨_,T,U⟩:=lC (P:=P) (w:=w) r W C true 0 0 L H (Nat.le_refl _) J;obtain⟨D,G⟩:=hv.rB;rw[G]
    grind
   .simp only[ζf]at h;obtain⟨⟨L,H⟩,J,rfl⟩:=h;obtain⟨_,T,U⟩:=lC (P:=P) (w:=w) r W C true 0 0 L H (Nat.le_refl _) J;have G:=hv.lp;rw[G]
    grind
   grind
  grind
 .rename_i e v hk ho W C aa;obtain⟨d,hd,S⟩:=eZ hk;obtain⟨desc,h1,X,h3⟩:=(hE.ty hd).dx;rw[S]at X;have:=iZ X;subst this;have hv:=dh r ho;have q1:lo.map a.eval=none:=by grind[pN]
  obtain⟨k2,q2⟩:∃k,hi.map a.eval=some (.int k 0):=by
   rcases pN r C with⟨q,_⟩|⟨k,z,e,q⟩
   all_goals grind
  obtain⟨k3,q3⟩:∃k,Y.map a.eval=some (.int k 0):=by
   grind[pN]
  have B:∀(D:bf Addr) (len cap:Nat) (O:TD),E.tt e=some O->∃Q,(Instr.sliceAt t (.slice D len cap) (lo.map a.eval) (hi.map a.eval) (Y.map a.eval)).run P w=.ok (.slice Q 0 0) w:=by
   intro D len cap O u;refine⟨D,?_⟩;unfold Instr.sliceAt Instr.slice Instr.sliceBounds;simp only[Sem.run_bind,h3,Result.andThen_ok,q1,q2,q3,uU k3 0 cap _ (Int.le_refl _) Za,uU k2 0 _ _ (Int.le_refl _) Zc,(hE.ty u).gW]
   simp
  split at h
  next O es xs u=>simp  at h;subst h;obtain⟨D,len,cap,e1,_⟩:=Em   hv.lu (Nat.le_refl _) (Nat.zero_le _);rw[e1];obtain⟨Q,g⟩:=B D len cap _ u;exact⟨_,g,.c _ _ (.c_ _)⟩
  .rename_i O id es off len u;simp  at h;subst h;rcases hv.lB with⟨p,cap,_,_,_,_,G⟩|⟨_,D,G⟩
   .rw[G];obtain⟨Q,g⟩:=B _ _ _ _ u;exact⟨_,g,.c _ _ (.c_ _)⟩
   rw[G];obtain⟨Q,g⟩:=B _ _ _ _ u;exact⟨_,g,.c _ _ (.c_ _)⟩
  next O u=>simp  at h;subst h;obtain⟨D,G⟩:=hv.rB;rw[G];obtain⟨Q,g⟩:=B _ _ _ _ u;exact⟨_,g,.c _ _ (.c_ _)⟩
  next O u=>simp only[ζa]at h;subst h;have G:=hv.lp;rw[G];obtain⟨Q,g⟩:=B _ _ _ _ u;exact⟨_,g,.c _ _ (.c_ _)⟩
  simp at h
 grind
theorem cA.one {x:V} {vs:a_ Value} (h:cA I μ [x] vs):∃v,vs=[v]/\bE I μ x v:=by
 obtain⟨v,r,rfl,hv,hr⟩:=h.cons_inv;exact⟨v,by rw[hr.vw],hv⟩
theorem cA.two {x y:V} {vs:a_ Value} (h:cA I μ [x,y] vs):∃u v,vs=[u,v]/\bE I μ x u/\bE I μ y v:=by
 obtain⟨u,r,rfl,hu,hr⟩:=h.cons_inv;obtain⟨v,rfl,hv⟩:=hr.one
 grind
theorem cA.four {x y z t:V} {vs:a_ Value} (h:cA I μ [x,y,z,t] vs):∃u v p q,vs=[u,v,p,q]/\bE I μ x u/\bE I μ y v/\bE I μ z p/\bE I μ t q:=by
 obtain⟨u,r,rfl,hu,hr⟩:=h.cons_inv;obtain⟨v,r2,rfl,hv,hr⟩:=hr.cons_inv;obtain⟨p,q,rfl,w,B⟩:=hr.two
 grind
theorem ru {args:Array Operand} {l:a_ Value} (h:args.toList.map a.eval=l):args.map a.eval=l.toArray:=by
 grind
def xh:bf TK->V->bf V
 | some .str,.str s=>some (.int .i64 s.size)
 | some (.slice _),.fsl _ xs=>some (.int .i64 xs.length)
 | some (.slice _),.hsl _ _ _ len=>some (.int .i64 len)
 | some (.slice _),.c_=>some (.int .i64 0)
 | some (.slice _),.bN=>some (.int .i64 0)
 | _,_=>none
theorem UM (T:dU P E) {t:TypeId} {x z:V} {v:Value} {ty:TypeId} {D:Array TypeId} (U:D[0]? = some t) (G:bE I μ x v)
 (h:xh (E.kindOf t) x=some z):∃u,(Builtin.len_ D ty #[v]).run P w=.ok u w/\bE I μ z u:=by
 cases hk:E.kindOf t with
 | none=>rw[hk]at h;grind[xh]
 | some k=>
  rw[hk]at h;obtain⟨d,hd,O⟩:=eZ hk;obtain⟨desc,h1,Q,W⟩:=(T.ty hd).dx;rw[O]at Q
  cases k with
  | str=>
   have:=zm Q;subst this
   cases x with
   | str s=>
    simp only[xh,ζa]at h;subst h;rw[G.tw];refine⟨_,?_,.c _ _ (.int _ _)⟩;simp_all[Builtin.len_,goInt]
   | _=>simp[xh]at h
  | slice e=>
   have:=iZ Q;subst this;have B:∀J (len cap:Nat),(Builtin.len_ D ty #[.slice J len cap]).run P w=.ok (.int .i64 len) w:=by
    simp_all[Builtin.len_,goInt]
   cases x with
   | fsl es X=>
    simp only[xh,ζa]at h;subst h;obtain⟨J,len,cap,e1,e2,_⟩:=Em (L:=0) (H:=0) G.lu (Nat.le_refl _) (Nat.zero_le _);rw[e1,<-e2];exact⟨_,B _ _ _,.c _ _ (.int _ _)⟩
   | hsl id es off len=>
    simp only[xh,ζa]at h;subst h;rcases G.lB with⟨p,cap,_,_,_,_,C⟩|⟨S,J,C⟩
    .rw[C];exact⟨_,B _ _ _,.c _ _ (.int _ _)⟩
    rw[C,S];exact⟨_,B _ _ _,.c _ _ (.int _ _)⟩
   | c_=>
    simp only[xh,ζa]at h;subst h;obtain⟨J,C⟩:=G.rB;rw[C];exact⟨_,B _ _ _,.c _ _ (.int _ _)⟩
   | bN=>
    simp only[xh,ζa]at h;subst h;rw[G.lp];exact⟨_,B _ _ _,.c _ _ (.int _ _)⟩
   | _=>simp[xh]at h
  | _=>simp[xh]at h
def US:bf TK->V->bf V
 | some (.slice _),.bN=>some (.int .i64 0)
 | some (.slice _),.c_=>some (.int .i64 0)
 | _,_=>none
theorem VH (O:dU P E) {t:TypeId} {x z:V} {v:Value} {ty:TypeId} {B:Array TypeId} (T:B[0]? = some t) (G:bE I μ x v)
 (h:US (E.kindOf t) x=some z):∃u,(Builtin.cap_ B ty #[v]).run P w=.ok u w/\bE I μ z u:=by
 have key:∀e C,E.kindOf t=some (.slice e)->v=.slice C 0 0->(Builtin.cap_ B ty #[v]).run P w=.ok (.int .i64 0) w:=λe C hk hv=>by
  obtain⟨d,hd,D⟩:=eZ hk;obtain⟨desc,h1,J,L⟩:=(O.ty hd).dx;rw[D]at J;have:=iZ J;simp_all[Builtin.cap_,goInt]
 unfold US at h;split at h
 next _ _ e hk=>cases h;exact⟨_,key _ _ hk G.lp,.c _ _ (.int _ _)⟩
 next _ _ e hk=>cases h;obtain⟨C,q⟩:=G.rB;exact⟨_,key _ _ hk q,.c _ _ (.int _ _)⟩
 cases h
theorem eD {s:Sem Value} {v:Value} {w':World} (h:s.run P w=.ok v w'):(do pure (Next.value (<-s)):Sem Next).run P w=.ok (.value v) w':=by
 rw[Sem.run_bind,h];rfl
theorem S7 (G:dU P E) (r:dP I μ n F a.tmps) (o:Oper) {x:V} (h:bH E F o.op=some x) :
 ∃v,(execOp a.eval o).run P w=.ok (.value v) w/\bE I μ x v:=by
 obtain⟨dst,op,ty,pos,after,guard⟩:=o;simp only at h
 cases op with
 | move y=>exact⟨_,rfl,dh r (by simp_all[bH])⟩
 | assign y=>exact⟨_,rfl,dh r (by simp_all[bH])⟩
 | pick c y z=>
  simp only[bH]at h;simp only[execOp];split at h
  .rename_i t hc;have e:=(dh r hc).qP;simp only[e,asBool,Sem.run_bind,Sem.run_pure,Result.andThen_ok]
   cases t with
   | true=>simp only[if_true]at h ⊢;exact⟨_,rfl,dh r h⟩
   | false=>simp only[Bool.false_eq_true,if_false]at h ⊢;exact⟨_,rfl,dh r h⟩
  simp at h
 | nilCheck y=>
  simp only[bH]at h;simp only[execOp];split at h
  next id el off D=>simp only[ζa]at h;subst h;have hv:=dh r D;obtain⟨p,_,e⟩:=hv.tj;rw[e]at hv ⊢;simp_all
  next cs D=>simp only[ζa]at h;subst h;have hv:=dh r D;obtain⟨b,o,c,e,_⟩:=hv.lP;rw[e]at hv ⊢;simp_all
  next f u v D=>simp only[ζa]at h;subst h;have hv:=dh r D;obtain⟨b,c,e,_⟩:=hv.jU;rw[e]at hv ⊢;simp_all
  simp at h
 | binOp op t y z Z=>
  simp only[bH]at h;split at h
  next u v hu hv=>obtain⟨q,O,hr⟩:=SB (w:=w) G y z h (dh r hu) (dh r hv);exact⟨q,eD O,hr⟩
  simp at h
 | unOp op t y=>
  simp only[bH]at h;simp only[execOp];split at h
  next b D=>simp only[ζa]at h;subst h;rw[(dh r D).qP];exact⟨_,eD (by simp_all[Op.unary]),.c _ _ (.bool _)⟩
  next k m D=>simp only[ζa]at h;subst h;rw[(dh r D).eX];exact⟨_,eD (by simp only[Op.unary,Op.intArith];rfl),by simpa using bE.c _ _ (.int k _)⟩
  simp at h
 | convert s d y=>
  obtain⟨v,h1,C⟩:=L3 (w:=w) G r h;exact⟨v,eD h1,C⟩
 | fieldAddr s y f=>
  obtain⟨v,h1,C⟩:=K0 (w:=w) G r h;exact⟨v,eD h1,C⟩
 | field s y f=>
  obtain⟨v,h1,C⟩:=OU (w:=w) G r h;exact⟨v,eD h1,C⟩
 | indexAddr t y i=>
  obtain⟨v,h1,C⟩:=KS (w:=w) G r h;exact⟨v,eD h1,C⟩
 | index t y i=>
  obtain⟨v,h1,C⟩:=O5 (w:=w) G r h;exact⟨v,eD h1,C⟩
 | slice t y lo hi mx=>
  obtain⟨v,h1,C⟩:=Qk (w:=w) G r h;exact⟨v,eD h1,C⟩
 | build t ps=>
  obtain⟨v,h1,C⟩:=P4 (w:=w) G r h;exact⟨v,eD h1,C⟩
 | makeFunc f u v=>
  cases f with
  | func f=>
   simp only[bH]at h;split at h
   next Q x2 h1 C=>simp only[ζa]at h;subst h;have r1:=nv r h1;have r2:=nv r C;refine⟨.func (.func f) (u.map a.eval) (v.map a.eval),rfl,?_⟩;refine .clo f _ _ _ _ (by simpa using r1.1) (by simpa using r2.1) (λj p q s t=>r1.2 j p q s (by simpa using t)) (λj p q s t=>r2.2 j p q s (by simpa using t))
   simp at h
  | _=>simp[bH]at h
 | extract y i=>
  simp only[bH]at h;simp only[execOp];split at h
  .rename_i vs D;obtain⟨S,e,T⟩:=(dh r D).qe;rw[e];have U:=(ζe.1 h).1;have L:i<S.size:=by have:=T.1;grind
   refine⟨S[i],eD (by simp_all[Instr.extract]),T.2 i x _ h (by simp[L])⟩
  simp at h
 | call c=>
  obtain⟨callee,args,W⟩:=c
  cases callee with
  | builtin b=>
   simp only[bH]at h;simp only[execOp,resolve,Sem.run_bind,Sem.run_pure,Result.andThen_ok,invoke];split at h
   .rename_i v t B J;obtain⟨u,hu,hr⟩:=(nv r B).one;rw[ru hu];obtain⟨q,h1,C⟩:=UM (w:=w) (ty:=ty) G J hr (by rw[<-h];rfl)
    grind[builtin,eD]
   .rename_i v t B J;obtain⟨u,hu,hr⟩:=(nv r B).one;rw[ru hu];obtain⟨q,h1,C⟩:=VH (w:=w) (ty:=ty) G J hr (by rw[<-h];rfl)
    grind[builtin,eD]
   .rename_i k Q X x2 B;split at h
    next hk=>simp only[ζa]at h;subst h;subst hk;obtain⟨u,v,e,hu,hv⟩:=(nv r B).two;rw[ru e,hu.eX,hv.eX];exact⟨_,by simp_all[builtin,Builtin.max_,Builtin.max2],.c _ _ (.int _ _)⟩
    simp at h
   .rename_i k Q k1 x2 k2 x3 k3 x4 B;split at h
    next hk=>simp only[ζa]at h;subst h;obtain⟨rfl,rfl,rfl⟩:=hk;obtain⟨u,v,p,q,e,hu,hv,Y,O⟩:=(nv r B).four;rw[ru e,hu.eX,hv.eX,Y.eX,O.eX];exact⟨_,by simp_all[builtin,Builtin.max_,Builtin.max2,BI],.c _ _ (.int _ _)⟩
    simp at h
   .rename_i k Q X x2 B;split at h
    next hk=>simp only[ζa]at h;subst h;subst hk;obtain⟨u,v,e,hu,hv⟩:=(nv r B).two;rw[ru e,hu.eX,hv.eX];exact⟨_,by simp_all[builtin,Builtin.min_,Builtin.min2],.c _ _ (.int _ _)⟩
    simp at h
   simp at h
  | _=>simp[bH]at h
 | _=>simp[bH]at h
end
structure fU (I:ck) (μ:Mu) (p:Pl) (c:Array Value) (es:Nat) (xs:List (List V)):Prop where
 es_eq:p.es=es
 sz:c.size=p.sz
 oK:∀x∈xs,x.length=es
 one:∀x∈xs,∀y∈x,V.one y=true
 room:p.o+xs.length*es<=c.size
 rel:cA I μ xs.flatten ((c.toList.drop p.o).take (xs.length*es))
def vg (I:ck) (μ:Mu) (u:a_ (V×V)) (es:Array MapEntry):Prop:=
 u.length=es.size/\∀(j:Nat) q e,u[j]? = some q->es[j]? = some e->bE I μ q.1 e.key/\bE I μ q.2 e.val
def Bk.is:Bk->LoopState->Prop
 | .ready,.ready|.busy,.busy|.done,.done=>True
 | _,_=>False
structure vB (I:ck) (μ:Mu) (r:vC) (l:Loop):Prop where
 st:r.st.is l.state
 pend:l.pending=r.pend.bind mc
 pendOk:r.pend≠some .norm
 frame:dP I μ r.nt r.frame l.tmps
 params:l.params.toList=r.params
 assign:l.assign=r.assign
 body:l.body=r.body
def Ob.live:Ob->Bool
 | .row ..|.map _|.loop _=>true
 | _=>false
def sj (I:ck) (μ:Mu) (w:World) (id:Nat):Ob->Prop
 | .free=>μ id=none
 | .dead=>True
 | .row es xs=>∃p c el,μ id=some p/\I p.b=none/\w.heap[p.b]? = some (.cells c el)/\fU I μ p c es xs
 | .frz es xs=>∃p c,μ id=some p/\I p.b=some (.cells c)/\fU I μ p c es xs
 | .map u=>∃p es clock,μ id=some p/\I p.b=none/\w.heap[p.b]? = some (.map es clock)/\vg I μ u es
 | .loop r=>∃p l,μ id=some p/\I p.b=none/\w.heap[p.b]? = some (.loop l)/\vB I μ r l
structure cR (I:ck) (μ:Mu) (H:bn) (w:World):Prop where
 dom:∀id,H.length<=id->μ id=none
 imm:∀b x,I b=some x->x.at w b
 obs:∀id ob,H[id]? = some ob->sj I μ w id ob
 inj:∀id id' ob ob' p p',H[id]? = some ob->H[id']? = some ob'->ob.live=true->ob'.live=true->μ id=some p->μ id'=some p'->p.b=p'.b->id=id'
 gl:tZ I
def gR (μ:Mu) (H:bn) (b:Nat):Prop:=∃id p ob,H[id]? = some ob/\ob.live=true/\μ id=some p/\p.b=b
def Obj.nf (o:Obj):Prop:=∀c t fr,o=.cells c t fr->fr=(0,0)
theorem th (c:Array Value) (t:TypeId):Obj.nf (.cells c t):=λ_ _ _ h=>by grind
theorem qU {o:Obj} (h:(match o with|.cells ..=>false|_=>true)=true):Obj.nf o:=λc t fr e=>by grind
theorem DF {w w':World} {o:Obj} {b:Nat} (B:Obj.nf o) (h1:w'.heap[b]? = some o) (D:∀k,k≠b->w'.heap[k]? = w.heap[k]?) (a:Addr) (h:w.frozen? a=false):w'.frozen? a=false:=by
 by_cases e:a.block=b
 .unfold World.frozen?;rw[e,h1];split
  .rename_i c t z C u;cases u;have:=B _ _ _ rfl
   grind
  rfl
 grind[World.frozen?]
structure ve (w w':World):Prop where
 out:w'.output=w.output
 tape:w'.tape=w.tape
 dr:w.drawn<=w'.drawn
theorem ve.refl (w:World):ve w w:=⟨rfl,rfl,Nat.le_refl _⟩
theorem ve.trans {w w' w'':World} (h:ve w w') (u:ve w' w''):ve w w'':=⟨u.out.trans h.out,u.tape.trans h.tape,Nat.le_trans h.dr u.dr⟩
structure Step (I:ck) (μ:Mu) (H:bn) (w:World) (I':ck) (μ':Mu) (H':bn) (w':World):Prop where
 le:ck.le I I'
 mu:Mu.le μ μ'
 len:H.length<=H'.length
 size:w.heap.size<=w'.heap.size
 frame:∀b,b<w.heap.size->¬gR μ H b->w'.heap[b]? = w.heap[b]?
 terr:∀b,((I' b).isSome=true\/gR μ' H' b)->(I b).isSome=true\/gR μ H b\/w.heap.size<=b
 os:w'.os=w.os
 out:ve w w'
 fz:∀a:Addr,a.block<w.heap.size->w.frozen? a=false->w'.frozen? a=false
section
variable {I I' I'':ck} {μ μ' μ'':Mu} {H H' H'':bn} {w w' w'':World} {P:Program} {E:Env} {n:Nat} {F:Frame} {a:Act}
theorem IC.vj {x:IC} {b:Nat} (h:x.at w b):b<w.heap.size:=by
 cases x with
 | cells c=>obtain⟨_,_,h⟩:=h;grind
 | map es=>obtain⟨_,h⟩:=h;grind
theorem IC.rJ {x:IC} {b:Nat} (h:x.at w b) (e:w'.heap[b]? = w.heap[b]?):x.at w' b:=by
 cases x with
 | cells c=>obtain⟨el,fr,h⟩:=h;exact⟨el,fr,by grind⟩
 | map es=>obtain⟨cl,h⟩:=h;exact⟨cl,by grind⟩
theorem Step.refl (I:ck) (μ:Mu) (H:bn) (w:World):Step I μ H w I μ H w:=
 ⟨ck.le_refl _,Mu.le_refl _,Nat.le_refl _,Nat.le_refl _,λ_ _ _=>rfl,λ_ h=>h.elim .inl λh=>.inr (.inl h),rfl,.refl _,λ_ _ h=>h⟩
theorem fK (s:cR I μ H w) {b:Nat} (h:gR μ H b):I b=none:=by
 obtain⟨id,p,ob,h1,B,C,rfl⟩:=h;have:=s.obs id ob h1
 cases ob with
 | row es D=>obtain⟨q,c,el,t,u,_⟩:=this;grind
 | map z=>obtain⟨q,c,el,t,u,_⟩:=this;grind
 | loop r=>obtain⟨q,c,t,u,_⟩:=this;grind
 | _=>grind[Ob.live]
theorem mJ (s:cR I μ H w) {b:Nat} (h:gR μ H b):b<w.heap.size:=by
 obtain⟨id,p,ob,h1,C,D,rfl⟩:=h;have:=s.obs id ob h1
 cases ob with
 | row es G=>obtain⟨q,c,el,t,u,z,_⟩:=this;grind
 | map B=>obtain⟨q,c,el,t,u,z,_⟩:=this;grind
 | loop r=>obtain⟨q,c,t,u,z,_⟩:=this;grind
 | _=>grind[Ob.live]
theorem Step.trans (B:cR I' μ' H' w') (h1:Step I μ H w I' μ' H' w') (u:Step I' μ' H' w' I'' μ'' H'' w''):Step I μ H w I'' μ'' H'' w'' where
 fz:=λa t h=>u.fz a (Nat.lt_of_lt_of_le t h1.size) (h1.fz a t h)
 le:=ck.le_trans h1.le u.le
 mu:=λid p h=>u.mu id p (h1.mu id p h)
 len:=Nat.le_trans h1.len u.len
 size:=Nat.le_trans h1.size u.size
 frame:=by
  intro b t C;rw[u.frame b (Nat.lt_of_lt_of_le t h1.size) ?_,h1.frame b t C];intro z;rcases h1.terr b (.inr z)with h|h|h
  .have:=fK B z;obtain⟨x,D⟩:=Option.isSome_iff_exists.1 h;rw[h1.le _ _ D]at this;simp_all
  all_goals grind
 terr:=by
  intro b h;rcases u.terr b h with h|h|h
  .exact h1.terr b (.inl h)
  .exact h1.terr b (.inr h)
  exact .inr (.inr (Nat.le_trans h1.size h))
 os:=u.os.trans h1.os
 out:=h1.out.trans u.out
theorem fU.mono (h:ck.le I I') (u:Mu.le μ μ') {p:Pl} {c:Array Value} {es:Nat} {xs:a_ (a_ V)} (r:fU I μ p c es xs):fU I' μ' p c es xs:=
 ⟨r.es_eq,r.sz,r.oK,r.one,r.room,r.rel.mono h u⟩
theorem vg.mono (h:ck.le I I') (B:Mu.le μ μ') {u:a_ (V×V)} {es:Array MapEntry} (r:vg I μ u es):vg I' μ' u es:=
 ⟨r.1,λj q e a b=>⟨(r.2 j q e a b).1.mono h B,(r.2 j q e a b).2.mono h B⟩⟩
theorem vB.mono (h:ck.le I I') (u:Mu.le μ μ') {r:vC} {l:Loop} (x:vB I μ r l):vB I' μ' r l:=
 ⟨x.st,x.pend,x.pendOk,x.frame.mono h u,x.params,x.assign,x.body⟩
theorem sj.mono (h:ck.le I I') (u:Mu.le μ μ') {id:Nat} {ob:Ob} (r:sj I μ w id ob)
 (B:∀p,μ id=some p->ob.live=true->w'.heap[p.b]? = w.heap[p.b]? /\ I' p.b=none) (D:ob=.free->μ' id=none):sj I' μ' w' id ob:=by
 cases ob with
 | free=>exact D rfl
 | dead=>trivial
 | row es G=>
  obtain⟨p,c,el,h1,z,C,t⟩:=r;obtain⟨g1,g2⟩:=B p h1 rfl;exact⟨p,c,el,u _ _ h1,g2,by grind,t.mono h u⟩
 | frz es G=>
  obtain⟨p,c,h1,z,t⟩:=r;exact⟨p,c,u _ _ h1,h _ _ z,t.mono h u⟩
 | map J=>
  obtain⟨p,es,cl,h1,z,C,t⟩:=r;obtain⟨g1,g2⟩:=B p h1 rfl;exact⟨p,es,cl,u _ _ h1,g2,by grind,t.mono h u⟩
 | loop x=>
  obtain⟨p,l,h1,z,C,t⟩:=r;obtain⟨g1,g2⟩:=B p h1 rfl;exact⟨p,l,u _ _ h1,g2,by grind,t.mono h u⟩
theorem cR.oD (s:cR I μ H w) (e:w'.heap=w.heap):cR I μ H w' where
 dom:=s.dom
 imm:=λb x h=>IC.rJ (s.imm b x h) (by rw[e])
 obs:=λid ob h=>(s.obs id ob h).mono (ck.le_refl _) (Mu.le_refl _) (λp t u=>⟨by rw[e],fK s ⟨id,p,ob,h,u,t,rfl⟩⟩) (λz=>by subst z;exact s.obs id _ h)
 inj:=s.inj
 gl:=s.gl
theorem Step.oD (e:w'.heap=w.heap) (h1:w'.os=w.os) (u:ve w w'):Step I μ H w I μ H w':=
 ⟨ck.le_refl _,Mu.le_refl _,Nat.le_refl _,by grind,λ_ _ _=>by rw[e],λb h=>h.elim .inl λh=>.inr (.inl h),h1,u,λa _ h=>by grind[World.frozen?]⟩
def Mu.fT (μ:Mu) (k:Nat) (p:Pl):Mu:=λid=>if id=k then some p else μ id
theorem Mu.fN (μ:Mu) (k:Nat) (p:Pl):μ.fT k p k=some p:=by simp[Mu.fT]
theorem Mu.iq (μ:Mu) {k id:Nat} (p:Pl) (h:id≠k):μ.fT k p id=μ id:=by grind[Mu.fT]
theorem Mu.qo {k:Nat} {p:Pl} (h:μ k=none):Mu.le μ (μ.fT k p):=by
 intro id q t
 grind[Mu.iq]
theorem jO (o:Obj) (b:Nat) (h:b<w.heap.size):(w.alloc o).heap[b]? = w.heap[b]? := by
 show (w.heap.push o)[b]? = _
 grind
theorem kB (o:Obj):(w.alloc o).heap[w.heap.size]? = some o:=by
 show (w.heap.push o)[w.heap.size]? = _;simp
theorem Mm {o:Obj} (u:Obj.nf o) (a:Addr) (h:w.frozen? a=false):(w.alloc o).frozen? a=false:=
 DF  u (kB o) (λk hk=>by
  by_cases t:k<w.heap.size
  .grind[jO]
  show (w.heap.push o)[k]? = _
  grind) a h
theorem cR.place (s:cR I μ H w) {k:Nat} {ob:Ob} {o:Obj} {p:Pl} (hk:μ k=none) (D:H.length<=H'.length) (aa:k<H'.length)
 (ab:∀id,id≠k->H'[id]? = some .free\/H'[id]? = H[id]?) (O:∀id,id≠k->H'[id]? = some .free->μ id=none) (ad:H'[k]? = some ob) (hp:p.b=w.heap.size)
 (ae:sj I (μ.fT k p) (w.alloc o) k ob) (hz:Obj.nf o):cR I (μ.fT k p) H' (w.alloc o)/\Step I μ H w I (μ.fT k p) H' (w.alloc o):=by
 have Z:∀b x,I b=some x->b<w.heap.size:=λb x h=>IC.vj (s.imm b x h)
 have u:∀id t,id≠k->H'[id]? = some t->t≠.free->H[id]? = some t:=by
  grind
 have J:∀b,gR (μ.fT k p) H' b->gR μ H b\/b=w.heap.size:=by
  rintro b ⟨id,q,t,h1,L,S,rfl⟩
  by_cases e:id=k
  .grind[Mu.fN]
  rw[Mu.iq _ _ e]at S;exact .inl ⟨id,q,t,u id t e h1 Zd,L,S,rfl⟩
 refine⟨⟨?_,?_,?_,?_,s.gl⟩,⟨ck.le_refl _,Mu.qo hk,D,by simp,?_,?_,rfl,⟨rfl,rfl,Nat.le_refl _⟩,λa _=>DF (b:=w.heap.size) hz (kB o) (λk hk=>?_) a⟩⟩
 .intro id h;rw[Mu.iq _ _ Za]
  exact s.dom id Za
 .intro b x h;exact IC.rJ (s.imm b x h) (jO o b (Z b x h))
 .intro id t h
  by_cases e:id=k
  .grind
  by_cases Q:t=.free
  .subst Q;show (μ.fT k p) id=none;rw[Mu.iq _ _ e];grind
  have T:=u id t e h Q;refine(s.obs id t T).mono (ck.le_refl _) (Mu.qo hk) (λq hq U=>?_) (λhe=>absurd he Q)
  have ho:gR μ H q.b:=⟨id,q,t,T,U,hq,rfl⟩
  grind[jO,mJ,fK]
 .intro id z o1 o2 q W h1 L X Y B C hb
  by_cases e:id=k <;> by_cases G:z=k
  .simp_all
  .subst e;rw[Mu.fN]at B;cases B;rw[Mu.iq _ _ G]at C;have:=mJ s ⟨z,W,o2,u z o2 G L Zd,Y,C,rfl⟩
   omega
  .subst G;rw[Mu.fN]at C;cases C;rw[Mu.iq _ _ e]at B;have:=mJ s ⟨id,q,o1,u id o1 e h1 Zd,X,B,rfl⟩
   omega
  rw[Mu.iq _ _ e]at B;rw[Mu.iq _ _ G]at C;exact s.inj id z o1 o2 q W (u id o1 e h1 Zd) (u z o2 G L Zd) X Y B C hb
 .grind[jO]
 .grind
 by_cases U:k<w.heap.size
 .grind[jO]
 show (w.heap.push o)[k]? = _;rw[Array.getElem?_eq_none (by simp;omega),Array.getElem?_eq_none Za]
theorem cR.push (s:cR I μ H w) {ob:Ob} {o:Obj} {p:Pl} (hp:p.b=w.heap.size) (u:sj I (μ.fT H.length p) (w.alloc o) H.length ob) (B:Obj.nf o:=by first|exact th _ _|exact qU rfl) :
 cR I (μ.fT H.length p) (H++[ob]) (w.alloc o)/\Step I μ H w I (μ.fT H.length p) (H++[ob]) (w.alloc o):=by
 refine s.place (s.dom _ (Nat.le_refl _)) Zc Zc (λid h=>.inr ?_) (λid h z=>?_) Zc hp u B
 .grind
 by_cases t:id<H.length
 .rw[List.getElem?_append_left t]at z;exact s.obs id _ z
 grind
theorem cR.fill (s:cR I μ H w) {k:Nat} {ob:Ob} {o:Obj} {p:Pl} (hk:H[k]? = some .free) (hp:p.b=w.heap.size) (u:sj I (μ.fT k p) (w.alloc o) k ob) (B:Obj.nf o:=by first|exact th _ _|exact qU rfl) :
 cR I (μ.fT k p) (H.set k ob) (w.alloc o)/\Step I μ H w I (μ.fT k p) (H.set k ob) (w.alloc o):=by
 have z:=(ζe.1 hk).1;refine s.place (s.obs k _ hk) Zc Zd (λid h=>.inr ?_) (λid h t=>?_) (by simp_all) hp u B
 .grind
 rw[List.getElem?_set_ne (Ne.symm h)]at t;exact s.obs id _ t
def fA (w:World) (b:Nat) (o:Obj):World:={ w with heap:=w.heap.setIfInBounds b o }
theorem eU (o:Obj) {b u:Nat} (h:u≠b):(fA w b o).heap[u]? = w.heap[u]? := by grind[fA]
theorem gD (o:Obj) {b:Nat} (h:b<w.heap.size):(fA w b o).heap[b]? = some o:=by grind[fA]
theorem rI (b:Nat) (o:Obj):(fA w b o).heap.size=w.heap.size:=by simp[fA]
theorem NO (b:Nat) (o u:Obj):fA (fA w b o) b u=fA w b u:=by simp[fA]
theorem Vl {o:Obj} {b:Nat} (u:Obj.nf o) (a:Addr) (h:w.frozen? a=false):(fA w b o).frozen? a=false:=by
 grind[DF,fA,World.frozen?]
theorem cR.write (s:cR I μ H w) {id:Nat} {ob ob':Ob} {o:Obj} {p:Pl} (B:H[id]? = some ob) (T:ob.live=true) (hp:μ id=some p)
 (W:sj I μ (fA w p.b o) id ob') (Y:Obj.nf o:=by first|exact th _ _|exact qU rfl):cR I μ (H.set id ob') (fA w p.b o)/\Step I μ H w I μ (H.set id ob') (fA w p.b o):=by
 have z:gR μ H p.b:=⟨id,p,ob,B,T,hp,rfl⟩;have t:∀k x,(H.set id ob')[k]? = some x->∃y,H[k]? = some y/\(x.live=true->y.live=true)/\(k≠id->y=x):=by
  grind
 have G:∀b,gR μ (H.set id ob') b->gR μ H b:=by
  rintro b ⟨k,q,x,h1,J,X,rfl⟩;obtain⟨y,L,u,_⟩:=t k x h1;exact⟨k,q,y,L,u J,X,rfl⟩
 refine⟨⟨?_,?_,?_,?_,s.gl⟩,⟨ck.le_refl _,Mu.le_refl _,by simp,by rw[rI];grind,?_,?_,rfl,⟨rfl,rfl,Nat.le_refl _⟩,λa _=>DF  Y (gD o (mJ s z)) (λk hk=>eU o hk) a⟩⟩
 .intro k h;exact s.dom k Zd
 .intro b x h;refine IC.rJ (s.imm b x h) (eU o ?_)
  grind[fK]
 .intro k x h
  by_cases e:k=id
  .grind
  rw[List.getElem?_set_ne (Ne.symm e)]at h;refine(s.obs k x h).mono (ck.le_refl _) (Mu.le_refl _) (λq S C=>⟨eU o ?_,fK s ⟨k,q,x,h,C,S,rfl⟩⟩) (λZ=>by subst Z;exact s.obs k _ h)
  intro O;exact e (s.inj k id x ob q p h B C T S hp O)
 .intro k U x x' q q' h1 J l1 l2 m1 m2 O;obtain⟨y,L,u,_⟩:=t k x h1;obtain⟨y',Q,D,_⟩:=t U x' J;exact s.inj k U y y' q q' L Q (u l1) (D l2) m1 m2 O
 all_goals grind[eU]
theorem cR.kill (s:cR I μ H w) {id:Nat} {ob:Ob} (B:H[id]? = some ob):cR I μ (H.set id .dead) w/\Step I μ H w I μ (H.set id .dead) w:=by
 have z:=(ζe.1 B).1;have t:∀k x,(H.set id .dead)[k]? = some x->x.live=true->H[k]? = some x/\k≠id:=by
  grind[Ob.live]
 refine⟨⟨?_,s.imm,?_,?_,s.gl⟩,⟨ck.le_refl _,Mu.le_refl _,by simp,Nat.le_refl _,λ_ _ _=>rfl,?_,rfl,.refl _,λ_ _ h=>h⟩⟩
 .intro k h;exact s.dom k Zd
 .intro k x h
  by_cases e:k=id
  .subst e;rw[List.getElem?_set_self z]at h;cases h;trivial
  rw[List.getElem?_set_ne (Ne.symm e)]at h;exact s.obs k x h
 .intro k C x D q L h1 u G J O Q S;exact s.inj k C x D q L (t k x h1 G).1 (t C D u J).1 G J O Q S
 rintro b (h|⟨k,q,x,h1,u,T,rfl⟩)
 .grind
 exact .inr (.inl ⟨k,q,x,(t k x h1 u).1,u,T,rfl⟩)
end
section
variable {P:Program} {E:Env} {I:ck} {μ:Mu} {H:bn} {n:Nat} {F:Frame} {a:Act} {w:World}
theorem pU {b:Nat} {c:Array Value} {el:TypeId} {fr:Nat×Nat} (h:w.heap[b]? = some (.cells c el fr)) (k:Nat):w.cell? ⟨b,k,none⟩=c[k]? := by
 grind[World.cell?]
theorem IQ {b o:Nat} {c:Array Value} (hc:∀k,w.cell? ⟨b,k,none⟩=c[k]?):∀(m i:Nat) (acc:Array Value),o+i+m<=c.size ->
 (loadCellsFrom ⟨b,o,none⟩ i m acc).run P w=.ok (acc++((c.toList.drop (o+i)).take m).toArray) w:=by
 intro m
 induction m with
 | zero=>simp_all[loadCellsFrom]
 | succ m u=>
  intro i acc h;have t:o+i<c.size:=by omega
  have e:w.cell? ⟨b,o+i,none⟩=some c[o+i]:=by rw[hc];simp[t]
  simp only[loadCellsFrom,Sem.run_bind,oV,run_load,e,Result.andThen_ok];rw[u (i+1) _ Za]
  simp_all[List.drop_eq_getElem_cons,Nat.add_assoc]
theorem vG {b o m:Nat} {c:Array Value} (hc:∀k,w.cell? ⟨b,k,none⟩=c[k]?) (h:o+m<=c.size\/m=0) :
 (loadCells ⟨b,o,none⟩ m).run P w=.ok ((c.toList.drop o).take m).toArray w:=by
 rcases h with h|h
 .have:=IQ (P:=P) hc m 0 #[] (o:=o) Za
  grind[loadCells]
 simp_all[loadCells,loadCellsFrom]
theorem fu {es:Nat} {xs:a_ (a_ V)} (hu:∀x∈xs,x.length=es):xs.flatten.length=xs.length*es:=by
 induction xs with
 | nil=>simp
 | cons x xs t=>
  grind
theorem D9 {es:Nat}:∀{xs:a_ (a_ V)} (_:∀x∈xs,x.length=es) {el:Nat} {cs:a_ V},xs[el]? = some cs->(xs.flatten.drop (el*es)).take es=cs:=by
 intro xs
 induction xs with
 | nil=>grind
 | cons x xs t=>
  intro hu el cs h;have u:x.length=es:=hu x Zc
  cases el with
  | zero=>grind
  | succ el=>
   have:=t (λy w=>hu y (List.mem_cons_of_mem _ w)) (el:=el) (cs:=cs) (by simpa using h)
   rw[List.flatten_cons,show (el+1)*es=x.length+el*es by rw[u,Nat.add_mul];omega,<-List.drop_drop]
   grind
theorem Ge {es:Nat}:∀{xs:a_ (a_ V)} (_:∀x∈xs,x.length=es) {el:Nat} (cs:a_ V),el<xs.length->cs.length=es ->
 (xs.set el cs).flatten=xs.flatten.take (el*es)++cs++xs.flatten.drop (el*es+es):=by
 intro xs
 induction xs with
 | nil=>grind
 | cons x xs t=>
  intro hu el cs h hc;have u:x.length=es:=hu x Zc
  cases el with
  | zero=>simp[u]
  | succ el=>
   have:=t (λy w=>hu y (List.mem_cons_of_mem _ w)) (el:=el) cs (by simpa using h) hc
   grind[Nat.add_mul,List.take_append,List.drop_append,List.drop_eq_nil_of_le,Nat.add_sub_cancel_left]
theorem we {es:Nat} {xs:a_ (a_ V)} (hu:∀x∈xs,x.length=es) {i j:Nat} {x:a_ V} {y:V} (h1:xs[i]? = some x) (u:x[j]? = some y):xs.flatten[i*es+j]? = some y:=by
 have:=D9 hu h1
 grind
theorem fU.elem {p:Pl} {c:Array Value} {es:Nat} {xs:a_ (a_ V)} (r:fU I μ p c es xs) {el:Nat} {cs:a_ V} (h:xs[el]? = some cs) :
 cA I μ cs ((c.toList.drop (p.o+el*es)).take es)/\cs.length=es/\p.o+el*es+es<=c.size:=by
 have t:=(ζe.1 h).1;have w:=r.oK cs (List.mem_of_getElem? h);have h1:=(r.rel.drop (el*es)).take es;rw[D9 r.oK h]at h1;have z:el*es+es<=xs.length*es:=by
  have:=Nat.mul_le_mul_right es (show el+1<=xs.length from t)
  rwa [Nat.add_mul,Nat.one_mul]at this
 have u:=r.room
 grind[List.drop_take,List.drop_drop]
theorem fU.span {p:Pl} {c:Array Value} {es:Nat} {xs:a_ (a_ V)} (r:fU I μ p c es xs) {off len:Nat} (h:off+len<=xs.length) :
 cA I μ ((xs.drop off).take len).flatten ((c.toList.drop (p.o+off*es)).take (len*es))/\p.o+off*es+len*es<=c.size:=by
 have u:=r.room;have w:off*es+len*es<=xs.length*es:=by
  rw[<-Nat.add_mul];exact Nat.mul_le_mul_right _ h
 have e1:((xs.drop off).take len).flatten=(xs.flatten.drop (off*es)).take (len*es):=by
  have t:xs=xs.take off++((xs.drop off).take len++(xs.drop off).drop len):=by rw[List.take_append_drop,List.take_append_drop]
  have g1:(xs.take off).flatten.length=off*es:=by
   rw[fu (λx t=>r.oK x (List.mem_of_mem_take t))];rw[List.length_take,Nat.min_eq_left Za]
  have g2:((xs.drop off).take len).flatten.length=len*es:=by
   rw[fu (λx t=>r.oK x (List.mem_of_mem_drop (List.mem_of_mem_take t))),List.length_take,List.length_drop,Nat.min_eq_left Za]
  have z:=congrArg List.flatten t
  grind
 have h1:=(r.rel.drop (off*es)).take (len*es);rw[e1]
 grind[List.drop_take,List.drop_drop]
theorem Hw {ob:Ob} {es:Nat} {xs:a_ (a_ V)} (h:ob.rows=some (es,xs)):ob=.row es xs\/ob=.frz es xs:=by
 cases ob <;> simp_all [Ob.rows]
theorem cR.rows (s:cR I μ H w) {id es:Nat} {xs:a_ (a_ V)} (h:(H[id]?).bind Ob.rows=some (es,xs)) :
 ∃p c,μ id=some p/\(∀k,w.cell? ⟨p.b,k,none⟩=c[k]?)/\fU I μ p c es xs:=by
 obtain⟨ob,h1,t⟩:=ζg.1 h;have:=s.obs id ob h1;rcases Hw t with rfl|rfl
 .obtain⟨p,c,el,g1,_,g3,g4⟩:=this
  grind[pU]
 obtain⟨p,c,g1,g2,g4⟩:=this;obtain⟨el,fr,g3⟩:=s.imm _ _ g2
 grind[pU]
theorem Qc (s:cR I μ H w) {p:V} {v:Value} (hv:bE I μ p v) {m:Nat} {cs:a_ V} (h:dX H p m=some cs) :
 ∃(b o:Nat) (c:Array Value),v=.pointer (some ⟨b,o,none⟩)/\(∀k,w.cell? ⟨b,k,none⟩=c[k]?)/\(o+m<=c.size\/m=0)/\cA I μ cs ((c.toList.drop o).take m):=by
 unfold dX at h;split at h
 .rename_i u;obtain⟨b,o,c,e,D,Q,hr⟩:=hv.lP;obtain⟨el,fr,g⟩:=s.imm _ _ D;refine⟨b,o,c,e,pU g,?_⟩;have G:cA I μ u ((c.toList.drop o).take u.length):=by
   refine⟨by simp;omega,λj x y h1 J=>?_⟩
   have L:=(ζe.1 h1).1;rw[List.getElem?_take,if_pos L,List.getElem?_drop]at J;exact .c _ _ (hr j x y h1 Zd)
  rcases AY G h with⟨g1,g2,g3⟩|⟨g1,g2⟩
  .grind
  refine⟨.inr g1,?_⟩;rw[g2,g1];exact .nil
 .rename_i id el off;split at h
  .rename_i es u t;split at h
   .rename_i O z;obtain⟨p,c,g1,g2,g3⟩:=s.rows t;obtain⟨q,B,e⟩:=hv.tj;rw[g1]at B;cases B;refine⟨_,_,c,e,g2,?_⟩;obtain⟨k1,k2,k3⟩:=g3.elem z;rw[g3.es_eq];rcases AY k1 h with⟨f1,C,S⟩|⟨f1,C⟩
    .grind[List.drop_take,List.drop_drop]
    refine⟨.inr f1,?_⟩;rw[C,f1];exact .nil
   simp at h
  simp at h
 simp at h
theorem Cn (D:dU P E) (s:cR I μ H w) {t:TypeId} {d:TD} (hd:E.tt t=some d) {p x:V} {v:Value} (hv:bE I μ p v) (h:(dX H p d.size).bind (mk d.agg)=some x) :
 ∃u,(Instr.loadAt t v).run P w=.ok u w/\bE I μ x u/\∃G,v=.pointer (some G)/\(loadVar t G).run P w=.ok u w:=by
 obtain⟨cs,hc,B⟩:=ζg.1 h;obtain⟨b,o,c,e,g1,g2,g3⟩:=Qc s hv hc;have key:∃u,(loadVar t ⟨b,o,none⟩).run P w=.ok u w/\bE I μ x u:=by
  unfold loadVar;simp only[Sem.run_bind,(D.ty hd).C5,Result.andThen_ok]
  cases z:d.agg with
  | true=>
   rw[z]at B;refine⟨.agg ((c.toList.drop o).take d.size).toArray,?_,Nd B Zd⟩
   simp only[if_true,Sem.run_bind,(D.ty hd).gW,Result.andThen_ok,vG g1 g2,Sem.run_pure]
  | false=>
   rw[z]at B;obtain⟨u,hu,J⟩:=mk_one B g3;refine⟨u,?_,J⟩;have L:d.size≠0:=by
    grind
   have C:c[o]? = some u:=by
    have:=congrArg (·[0]?) hu
    grind
   simp_all
 grind[Instr.loadAt,Instr.sureAddr]
theorem cR.GB (s:cR I μ H w) {b:Nat} {x:IC} (h:I b=some x):b<w.heap.size:=IC.vj (s.imm b x h)
theorem R9 {b es:Nat} {c:Array Value} {xs:a_ (a_ V)} (h:cA I μ xs.flatten c.toList) (hu:∀x∈xs,x.length=es) (u:∀x∈xs,∀y∈x,V.one y=true) :
 fU I μ ⟨b,0,es,c.size⟩ c es xs:=by
 have t:xs.length*es=c.size:=by rw[<-fu hu,h.1];simp
 exact⟨rfl,rfl,hu,u,by simp[t],by grind[List.take_of_length_le]⟩
structure Rx (I:ck) (μ:Mu) (w:World) (ob:Ob) (m:Mk) (o:Obj) (p:Pl) (u:Value):Prop where
 b:p.b=w.heap.size
 live:ob.live=true
 nf:Obj.nf o
 len:∀es xs,ob=.row es xs->p.sz=xs.length*es
 rel:∀k,μ k=none->sj I (μ.fT k p) (w.alloc o) k ob/\bE I (μ.fT k p) (m.val k) u
theorem cR.yH (s:cR I μ H w):I w.heap.size=none:=by
 cases h:I w.heap.size with
 | none=>rfl
 | some x=>have:=s.GB h;omega
theorem wO (s:cR I μ H w) {es:Nat} {xs:a_ (a_ V)} {c:Array Value} {el:TypeId} {m:Mk} {u:Value} (h:cA I μ xs.flatten c.toList) (hu:∀x∈xs,x.length=es)
 (B:∀x∈xs,∀y∈x,V.one y=true) (hv:∀k,bE I (μ.fT k ⟨w.heap.size,0,es,c.size⟩) (m.val k) u):Rx I μ w (.row es xs) m (.cells c el) ⟨w.heap.size,0,es,c.size⟩ u where
 nf:=th _ _
 b:=rfl
 live:=rfl
 len:=λt z e=>by cases e;rw[<-fu hu,h.1];simp
 rel:=λk hk=>⟨⟨_,c,el,Mu.fN _ _ _,s.yH,kB _,(R9 h hu B).mono (ck.le_refl _) (Mu.qo hk)⟩,hv k⟩
theorem Ec (t:TypeId) (v:Value):(newVar t v).run P w=.ok ⟨w.heap.size,0,none⟩ (w.alloc (.cells v.cells t)):=by
 simp[newVar,newRow]
theorem wv {z:a_ V} {u:Array Value} (h:cA I μ z u.toList) (m:Nat) :
 cA I μ (List.replicate m z).flatten (((Array.range (m*u.size)).map (λi=>u[i % u.size]!)).toList):=by
 have B:z.length=u.size:=by simpa using h.1
 have hu:∀x∈List.replicate m z,x.length=z.length:=λx G=>by rw[List.eq_of_mem_replicate G]
 have w:=fu hu;simp only[List.length_replicate]at w;refine⟨by rw[w,B];simp,λj x y h1 L=>?_⟩
 have D:=(ζe.1 h1).1;rw[w]at D;have t:0<z.length:=by
  grind
 have J:j / z.length<m:=(Nat.div_lt_iff_lt_mul t).2 D;have hr:j % z.length<z.length:=Nat.mod_lt _ t;have e1:=we hu (i:=j / z.length) (j:=j % z.length) (x:=z) (y:=z[j % z.length]) (by simp[J]) (by simp[hr])
 rw[Nat.mul_comm,Nat.div_add_mod]at e1;rw[e1]at h1;cases h1;have C:j % u.size<u.size:=by rw[<-B];exact hr
 have e2:y=u[j % u.size]:=by
  grind
 rw[e2];exact h.2 (j % z.length) _ _ (by simp[hr]) (by rw[B];simp[C])
theorem FG {es:Nat}:∀(vs:a_ (Nat×V)) (xs ys:a_ (a_ V)),(∀x∈xs,x.length=es)->(∀x∈xs,∀y∈x,V.one y=true)->eV es xs vs=some ys ->
 ua (λi=>some (i*es,es)) xs.flatten vs=some ys.flatten/\(∀x∈ys,x.length=es)/\(∀x∈ys,∀y∈x,V.one y=true)/\ys.length=xs.length:=by
 intro vs
 induction vs with
 | nil=>intro xs ys hu w h;simp only[eV,ζa]at h;subst h;exact⟨rfl,hu,w,rfl⟩
 | cons v vs B=>
  intro xs ys hu w h;obtain⟨i,v⟩:=v;simp only[eV]at h;split at h
  .rename_i hc;obtain⟨h1,z,G⟩:=hc;have t:∀x∈xs.set i v.cells,x.length=es:=λx C=>by
    grind
   have u:∀x∈xs.set i v.cells,∀y∈x,V.one y=true:=λx C=>by
    grind
   obtain⟨g1,g2,g3,g4⟩:=B _ ys t u h;refine⟨?_,g2,g3,by grind⟩
   rw[Ge hu _ z h1]at g1;have I:i*es+es<=xs.length*es:=by
    have:=Nat.mul_le_mul_right es (show i+1<=xs.length from z)
    rwa [Nat.add_mul,Nat.one_mul]at this
   have D:=fu hu
   grind[ua]
  simp at h
theorem Cb (J:dU P E) (r:dP I μ n F a.tmps) (s:cR I μ H w) (o:Oper) {ob:Ob} {m:Mk} (h:eC E F o.op=some (ob,m)) :
 ∃x p u,(execOp a.eval o).run P w=.ok (.value u) (w.alloc x)/\Rx I μ w ob m x p u:=by
 obtain⟨dst,op,ty,pos,after,guard⟩:=o;simp only at h
 cases op with
 | alloc t=>
  simp only[eC,ζf,ζc]at h;obtain⟨d,hd,rfl,rfl⟩:=h;obtain⟨z,hz,hr,T,Z⟩:=(J.ty hd).zX;refine⟨.cells z.cells t,_,.pointer (some ⟨w.heap.size,0,none⟩),?_,wO s Zd (by simp[T]) Zd (λk=>?_)⟩
  .simp_all[execOp,Instr.alloc,Ec]
  have:=bE.hptr (I:=I) k 0 0 _ (Mu.fN μ k ⟨w.heap.size,0,d.size,z.cells.size⟩);simp only[Nat.zero_mul,Nat.add_zero]at this;exact this
 | box t x=>
  simp only[eC]at h;split at h
  .rename_i v hv;split at h
   .rename_i Z;simp only[ζa,ζc]at h;obtain⟨rfl,rfl⟩:=h;have hr:=dh r hv;refine⟨.cells (a.eval x).cells t,_,.pointer (some ⟨w.heap.size,0,none⟩),?_,wO s (by simpa using hr.cells) Zc Zd (λk=>?_)⟩
    .simp_all[execOp,Instr.box,Ec]
    have:=bE.hptr (I:=I) k 0 0 _ (Mu.fN μ k ⟨w.heap.size,0,v.cells.length,(a.eval x).cells.size⟩);simp only[Nat.zero_mul,Nat.add_zero]at this;exact this
   simp at h
  simp at h
 | makeSlice t l c=>
  simp only[eC]at h;split at h
  .rename_i e k1 ln k2 B hk T hc;obtain⟨d,hd,L⟩:=eZ hk;obtain⟨desc,h1,U,h3⟩:=(J.ty hd).dx;rw[L]at U;have:=iZ U;subst this;split at h
   .rename_i D C;split at h
    .rename_i O;obtain⟨rfl,rfl,am,an,hm,ao⟩:=O;simp only[ζa,ζc]at h;obtain⟨rfl,rfl⟩:=h;obtain⟨z,hz,hr,Q,Z⟩:=(J.ty C).zX;obtain⟨i,_,hi,aj,ap,_⟩:=(J.ty C).info;have G:z.cells.size=D.size:=by have:=(hr I μ).1;grind
     have ak:(0:Int)<=B:=by omega
     have w1:IntKind.i64.wrap ln=ln:=by grind[IntKind.wrap,IntKind.bits]
     have w2:IntKind.i64.wrap B=B:=by grind[IntKind.wrap,IntKind.bits]
     have al:∀y:Int,0<=y->y<=2147483648->((i.bytes:Int)*y>2 ^ 48)=False:=by
      intro y aa hy;simp only[eq_iff_iff,iff_false,Int.not_lt,gt_iff_lt];have ab:(i.bytes:Int)<=4096:=by omega
      calc (i.bytes:Int)*y<=4096*2147483648:=Int.mul_le_mul ab hy aa Za
       _<=2 ^ 48:=by decide
     have W:(Instr.makeSlice t (.int .i64 ln) (.int .i64 B)).run P w =
      .ok (.slice (some ⟨w.heap.size,0,none⟩) ln.toNat B.toNat) (w.alloc (.cells ((Array.range (B.toNat*z.cells.size)).map (λi=>z.cells[i % z.cells.size]!)) e)):=by
      unfold Instr.makeSlice;have t1:(decide (B<0)||decide ((i.bytes:Int)*B>2 ^ 48))=false:=by
       rw[Bool.or_eq_false_iff]
       grind
      have q1:(((decide (B<0)||decide ((i.bytes:Int)*B>2 ^ 48))||decide (ln<0))||decide (ln>B))=false:=by rw[t1];simp;omega
      simp only[Sem.run_bind,h3,Result.andThen_ok,asInt,k9,Sem.run_pure,oe hi,w1,w2,q1,Bool.false_eq_true,if_false,run_askRoom,(J.ty C).gW];rw[G]
      by_cases Y:B.toNat*D.size=0
      .have er:Array.range 0=(#[]:Array Nat):=rfl;simp[Y,newRow,er]
      simp_all[newRow]
     refine⟨.cells ((Array.range (B.toNat*z.cells.size)).map (λi=>z.cells[i % z.cells.size]!)) e,_,.slice (some ⟨w.heap.size,0,none⟩) ln.toNat B.toNat,?_,wO s (wv (hr I μ) B.toNat) (λx S=>by rw[List.eq_of_mem_replicate S,Q]) (λx S=>by rw[List.eq_of_mem_replicate S];grind) (λk=>?_)⟩
     .simp only[execOp];refine eD ?_;rw[(dh r T).eX,(dh r hc).eX];exact W
     have:=bE.hsl (I:=I) (μ:=μ.fT k ⟨w.heap.size,0,D.size,((Array.range (B.toNat*z.cells.size)).map (λi=>z.cells[i % z.cells.size]!)).size⟩) k 0 ln.toNat B.toNat _ (Mu.fN _ _ _) Za (by simp[G])
     grind[Mk.val]
    simp at h
   simp at h
  simp at h
 | buildSlice t len ps=>
  simp only[eC]at h;split at h
  .rename_i e vs hk ad;obtain⟨d,hd,L⟩:=eZ hk;obtain⟨desc,h1,U,h3⟩:=(J.ty hd).dx;rw[L]at U;have:=iZ U;subst this;split at h
   .rename_i D C;split at h
    .rename_i ae;simp only[ζf,ζc]at h;obtain⟨ys,af,rfl,rfl⟩:=h;obtain⟨z,hz,hr,Q,Z⟩:=(J.ty C).zX;have G:z.cells.size=D.size:=by have:=(hr I μ).1;grind
     obtain⟨T,ah⟩:=Fg r ad;obtain⟨g1,g2,g3,g4⟩:=FG vs _ ys (λx S=>by rw[List.eq_of_mem_replicate S,Q]) (λx S=>by rw[List.eq_of_mem_replicate S];grind) af
     obtain⟨r',f1,f2⟩:=BP (place':=λi=>some (i*D.size,D.size)) (λi p hp=>hp) vs _ _ _ ((Array.range (len*z.cells.size)).map (λi=>z.cells[i % z.cells.size]!)) T ah (wv (hr I μ) len) g1
     have X:r'.size=len*D.size:=by
      have e1:=f2.1;rw[fu g2,g4]at e1
      grind
     refine⟨.cells r' e,_,.slice (some ⟨w.heap.size,0,none⟩) len len,?_,wO s f2 g2 g3 (λk=>?_)⟩
     .simp only[execOp];refine eD ?_;unfold Instr.buildSlice;have ai:¬(len*D.size>2 ^ 24):=by omega
      simp only[Sem.run_bind,h3,Result.andThen_ok,(J.ty C).gW,if_neg ai]
      by_cases Y:len*D.size=0
      .have e0:(Array.range (len*z.cells.size)).map (λi=>z.cells[i % z.cells.size]!)=#[]:=by rw[G,Y];simp
       rw[e0]at f1;have er:Array.range 0=(#[]:Array Nat):=rfl;simp only[Y,if_true,Sem.run_pure,Result.andThen_ok,er,Array.map_empty];rw[f1];simp[newRow]
      simp_all[newRow]
     have:=bE.hsl (I:=I) (μ:=μ.fT k ⟨w.heap.size,0,D.size,r'.size⟩) k 0 len len _ (Mu.fN _ _ _) (Nat.le_refl _) (by simp[X])
     grind[Mk.val]
    simp at h
   simp at h
  simp at h
 | makeMap t r=>
  cases r with
  | none=>
   simp only[eC,ζa,ζc]at h;obtain⟨rfl,rfl⟩:=h;refine⟨.map #[] 0,⟨w.heap.size,0,0,0⟩,.map (some w.heap.size),?_,⟨rfl,rfl,qU rfl,λ_ _ e=>(nomatch e),λk hk=>⟨⟨_,#[],0,Mu.fN _ _ _,s.yH,kB _,rfl,by simp⟩,?_⟩⟩⟩
   .simp_all[execOp,Instr.makeMap]
   exact bE.hmap (I:=I) k ⟨w.heap.size,0,0,0⟩ (Mu.fN _ _ _)
  | some x=>grind[eC]
 | _=>simp[eC]at h
end
section
variable {P:Program} {E:Env} {I:ck} {μ:Mu} {H H':bn} {n:Nat} {F:Frame} {a:Act} {w:World}
theorem bE.one {x:V} {v:Value} (h:bE I μ x v) (u:x.one=true):v.oneCell'=true:=by
 cases h with
 | c _ _ h=>cases h <;> first|rfl|grind[V.one]
 | agg=>grind[V.one]
 | tup=>grind[V.one]
 | _=>rfl
theorem cA.Qd {xs:a_ V} {vs:a_ Value} (h:cA I μ xs vs) (B:∀x∈xs,V.one x=true):∀v∈vs,v.oneCell'=true:=by
 intro v hv;obtain⟨j,u,rfl⟩:=List.mem_iff_getElem.1 hv;have t:j<xs.length:=by rw[h.1];exact u
 exact(h.2 j xs[j] vs[j] (by simp[t]) (by simp[u])).one (B _ (List.getElem_mem t))
theorem Mt {b:Nat} {o:Obj} (h:w.heap[b]? = some o):fA w b o=w:=by
 unfold fA;have:w.heap.setIfInBounds b o=w.heap:=by
  grind
 rw[this]
theorem GF {b o:Nat} {c:Array Value} {el:TypeId} {v:Value} (h:w.heap[b]? = some (.cells c el)) :
 w.setCell ⟨b,o,none⟩ v=fA w b (.cells (c.setIfInBounds o v) el):=by
 unfold World.setCell fA
 congr 1
 grind
theorem oc {b o:Nat} {el:TypeId}:∀(vs:a_ Value) (i:Nat) (w:World) (c:Array Value),w.heap[b]? = some (.cells c el)->(∀v∈vs,v.oneCell'=true)->o+i+vs.length<=c.size ->
 ∃c',(storeCells ⟨b,o,none⟩ vs i).run P w=.ok () (fA w b (.cells c' el))/\c'.toList=c.toList.take (o+i)++vs++c.toList.drop (o+i+vs.length):=by
 intro vs
 induction vs with
 | nil=>
  simp_all[storeCells,Mt]
 | cons v vs C=>
  intro i w c h B D;simp only[List.length_cons]at D;have u:o+i<c.size:=by omega
  have t:w.cell? ⟨b,o+i,none⟩=some c[o+i]:=by rw[pU h];simp[u]
  have z:w.frozen? ⟨b,o+i,none⟩=false:=by grind[World.frozen?]
  have G:=(Array.getElem?_eq_some_iff.1 h).1;obtain⟨c',g1,g2⟩:=C (i+1) (fA w b (.cells (c.setIfInBounds (o+i) v) el)) (c.setIfInBounds (o+i) v) (gD _ G) (λx I=>B x (List.mem_cons_of_mem _ I)) (by simp;omega)
  refine⟨c',?_,?_⟩
  .simp only[storeCells,Sem.run_bind,oV,run_store P w _ v _ (B v Zc),t,z,Bool.false_eq_true,if_false,Result.andThen_ok,GF h]
   rw[g1,NO]
  grind[List.take_succ_eq_append_getElem,List.take_set_of_le,List.drop_set_of_lt]
structure BG (P:Program) (I:ck) (μ:Mu) (H:bn) (w:World) (s:Sem Next) (x:V) (H':bn):Prop where
 run:∃nx u w' μ',s.run P w=.ok nx w'/\(nx=.value u\/(nx=.skip/\u=undef))/\bE I μ' x u/\cR I μ' H' w'/\Step I μ H w I μ' H' w'
theorem A_ {α:Type} (L vs:a_ α) (o m k:Nat) (D:o+m<=L.length) (hk:k+vs.length<=m) :
 ((L.take (o+k)++vs++L.drop (o+k+vs.length)).drop o).take m=((L.drop o).take m).take k++vs++((L.drop o).take m).drop (k+vs.length):=by
 obtain⟨A,B,C,rfl,t,u⟩:∃A B C:a_ α,L=A++(B++C)/\A.length=o/\B.length=m:=
  ⟨L.take o,(L.drop o).take m,(L.drop o).drop m,by rw[List.take_append_drop,List.take_append_drop],by simp;omega,by simp;omega⟩
 subst t;subst u;have e1:(A++(B++C)).take (A.length+k)=A++B.take k:=by
  rw[List.take_append,List.take_of_length_le Za,Nat.add_sub_cancel_left,List.take_append_of_le_length Za]
 have e2:(A++(B++C)).drop (A.length+k+vs.length)=B.drop (k+vs.length)++C:=by
  rw[List.drop_append,List.drop_eq_nil_of_le Za,List.nil_append,List.drop_append_of_le_length Za]
  grind
 have e3:((A++(B++C)).drop A.length).take B.length=B:=by simp
 rw[e1,e2,e3];simp only[List.append_assoc,List.drop_left];have w:(B.take k++(vs++B.drop (k+vs.length))).length=B.length:=by simp;omega
 grind
theorem fU.splice {p:Pl} {c c':Array Value} {es el off:Nat} {xs:a_ (a_ V)} {cs ys:a_ V} {vs:a_ Value} (r:fU I μ p c es xs) (u:xs[el]? = some cs) (T:cA I μ ys vs)
 (U:∀y∈ys,V.one y=true) (W:off+ys.length<=cs.length) (hc:c'.toList=c.toList.take (p.o+el*es+off)++vs++c.toList.drop (p.o+el*es+off+vs.length)) :
 fU I μ p c' es (xs.set el (cs.take off++ys++cs.drop (off+ys.length))):=by
 obtain⟨k1,k2,k3⟩:=r.elem u;have z:=(ζe.1 u).1;have G:=T.1;have J:=r.room;have X:el*es+es<=xs.length*es:=by
  have:=Nat.mul_le_mul_right es (show el+1<=xs.length from z)
  rwa [Nat.add_mul,Nat.one_mul]at this
 have B:c'.size=c.size:=by
  have:=congrArg List.length hc
  grind
 have L:(cs.take off++ys++cs.drop (off+ys.length)).length=es:=by simp;omega
 have t:∀x∈xs.set el (cs.take off++ys++cs.drop (off+ys.length)),x∈xs\/x=cs.take off++ys++cs.drop (off+ys.length):=λx C=>List.mem_or_eq_of_mem_set C
 refine⟨r.es_eq,by rw[B];exact r.sz,?_,?_,by rw[B];grind,?_⟩
 .intro x C;rcases t x C with h|h
  .exact r.oK x h
  grind
 .intro x C y D;rcases t x C with h|h
  .exact r.one x h y D
  rw[h]at D;have Q:=r.one cs (List.mem_of_getElem? u)
  grind
 rw[Ge r.oK _ z L,hc,List.length_set];have w:=r.rel;have O:=D9 r.oK u;have e:List.take (xs.length*es) (List.drop p.o (List.take (p.o+el*es+off) c.toList++vs++List.drop (p.o+el*es+off+vs.length) c.toList)) =
  (((c.toList.drop p.o).take (xs.length*es)).take (el*es+off))++vs++(((c.toList.drop p.o).take (xs.length*es)).drop (el*es+off+vs.length)):=by
  have:=A_ c.toList vs p.o (xs.length*es) (el*es+off) Zd Za
  grind
 rw[e];have e2:xs.flatten.take (el*es)++(cs.take off++ys++cs.drop (off+ys.length))++xs.flatten.drop (el*es+es) =
  xs.flatten.take (el*es+off)++ys++xs.flatten.drop (el*es+off+ys.length):=by
  have S:=fu r.oK;have f1:xs.flatten.take (el*es+off)=xs.flatten.take (el*es)++cs.take off:=by
   rw[<-O,List.take_add,List.take_take,Nat.min_eq_left Za]
  grind[List.drop_take,List.drop_drop,List.take_append_drop]
 rw[e2,<-G];exact((w.take _).append T).append (w.drop _)
theorem Oo (T:dU P E) (r:dP I μ n F a.tmps) (s:cR I μ H w) {t:TypeId} {p q:Operand} {x:V} (h:cr E F H (.store t p q)=some (x,H')) :
 BG P I μ H w (do Instr.storeAt t (a.eval p) (a.eval q);pure .skip) x H':=by
 simp only[cr]at h;split at h
 .rename_i d id el off v hd Q S;split at h
  .rename_i es J z;split at h
   .rename_i cs B;split at h
    .rename_i hc;obtain⟨U,W,X⟩:=hc;simp only[ζa,ζc]at h;obtain⟨rfl,rfl⟩:=h;obtain⟨pl,c,ty,g1,g2,g3,g4⟩:=s.obs id _ z;obtain⟨Y,L,e⟩:=(dh r Q).tj;rw[g1]at L;cases L;have u:=(dh r S).cells;have O:∀y∈v.cells,V.one y=true:=by grind
     obtain⟨k1,k2,k3⟩:=g4.elem B;have Z:=u.1;have hb:pl.o+el*es+off+0+(a.eval q).cells.toList.length<=c.size:=by omega
     obtain⟨c',f1,f2⟩:=oc (P:=P) (o:=pl.o+el*es+off) (a.eval q).cells.toList 0 w c g3 (u.Qd O) hb;have C:fU I μ pl c' es (J.set el (cs.take off++v.cells++cs.drop (off+v.cells.length))):=g4.splice B u O Za Zd
     have D:=(Array.getElem?_eq_some_iff.1 g3).1;obtain⟨s1,s2⟩:=s.write (ob':=.row es (J.set el (cs.take off++v.cells++cs.drop (off+v.cells.length)))) (o:=.cells c' ty) z rfl g1
      ⟨pl,c',ty,g1,g2,gD _ D,C⟩
     refine⟨.skip,undef,_,μ,?_,.inr ⟨rfl,rfl⟩,.undef I μ,s1,s2⟩;rw[e];have G:¬((a.eval q).cells.size≠d.size):=by grind
     rw[g4.es_eq];unfold Instr.storeAt storeVar;simp only[Sem.run_bind,Instr.sureAddr,Sem.run_pure,Result.andThen_ok,(T.ty hd).gW,if_neg G,f1]
    simp at h
   simp at h
  simp at h
 simp at h
theorem zV (s:cR I μ H w) {x:V} {v:Value} (T:bE I μ x v) {es:Nat} {ys:a_ (a_ V)} (h:dG H es x=some ys) :
 ∃u cap arr,v=.slice u ys.length cap/\ys.length<=cap/\(∀D:World,D.heap=w.heap->(Builtin.firstCells es ys.length v).run P D=.ok arr D)/\cA I μ ys.flatten arr.toList/\(∀y∈ys,y.length=es) /\
  (∀y∈ys,∀z∈y,V.one z=true):=by
 have B:∀(u:bf Addr) (cap:Nat) (D:World),D.heap=w.heap->(Builtin.firstCells es 0 (.slice u 0 cap)).run P D=.ok #[] D:=by
  intro u cap D _
  cases u with
  | none=>rfl
  | some u=>simp[Builtin.firstCells,loadCells,loadCellsFrom]
 cases x with
 | c_=>
  simp only[dG,ζa]at h;subst h;obtain⟨u,rfl⟩:=T.rB;exact⟨u,0,#[],rfl,Nat.le_refl _,B u 0,.nil,by simp,by simp⟩
 | bN=>
  simp only[dG,ζa]at h;subst h;rw[T.lp];exact⟨none,0,#[],rfl,Nat.le_refl _,B none 0,.nil,by simp,by simp⟩
 | fsl t J=>
  simp only[dG]at h;split at h
  .rename_i Q;simp only[ζa]at h;subst h;subst Q;have hf:=T.lu
   cases hf with
   | fsl0 _ u cap=>exact⟨some u,cap,#[],rfl,Nat.zero_le _,B (some u) cap,.nil,by simp,by simp⟩
   | fsl _ _ b o cap c hI hc hu ho hb hr=>
    obtain⟨el,fr,aa⟩:=s.imm _ _ hI;refine⟨_,cap,((c.toList.drop o).take (J.length*t)).toArray,rfl,hc,?_,?_,hu,ho⟩
    .grind[Builtin.firstCells,vG,pU]
    have S:=fu hu;refine⟨by grind,λj p q h1 h2=>?_⟩
    have U:=(ζe.1 h1).1;rw[S]at U;have C:0<t:=by
     grind
    have W:j / t<J.length:=(Nat.div_lt_iff_lt_mul C).2 U;have X:j % t<t:=Nat.mod_lt _ C;have ab:=hu _ (List.getElem_mem W);have e1:=we hu (i:=j / t) (j:=j % t) (x:=J[j / t]) (y:=(J[j / t])[j % t]) (by simp[W]) Zd
    have ej:j / t*t+j % t=j:=by rw[Nat.mul_comm,Nat.div_add_mod]
    rw[ej,h1]at e1;cases e1;simp only[List.getElem?_take,if_pos U,List.getElem?_drop]at h2;refine .c _ _ (hr (j / t) (j % t) J[j / t] _ q (by simp[W]) Zd ?_)
    rw[Nat.add_assoc,ej]
    grind
  simp at h
 | hsl id t off len=>
  simp only[dG]at h;split at h
  .rename_i Q;subst Q;split at h
   .rename_i L J O;split at h
    .rename_i Y;simp only[ζa]at h;subst h;obtain⟨p,c,g1,g2,g3⟩:=s.rows O;have G:((J.drop off).take len).length=len:=by simp;omega
     rcases T.lB with⟨q,cap,X,hq,hc,hb,e⟩|⟨h0,u,e⟩
     .rw[g1]at X;cases X;have C:L=t:=by rw[<-g3.es_eq,hq]
      subst C;obtain⟨k1,k2⟩:=g3.span Y;refine⟨_,cap,((c.toList.drop (p.o+off*L)).take (len*L)).toArray,by rw[e,G],by omega,?_,by grind,?_,?_⟩
      .grind[Builtin.firstCells,vG,World.cell?]
      .exact λy Z=>g3.oK y (List.mem_of_mem_drop (List.mem_of_mem_take Z))
      exact λy Z=>g3.one y (List.mem_of_mem_drop (List.mem_of_mem_take Z))
     subst h0;simp only[List.take_zero]at G ⊢;exact⟨_,0,#[],by rw[e];rfl,Nat.le_refl _,by rw[e];grind,.nil,by simp,by simp⟩
    simp at h
   simp at h
  simp at h
 | _=>simp[dG]at h
theorem pO (z:Array Value) (k:Nat):(Builtin.zeroCells z k).size=k*z.size:=by simp[Builtin.zeroCells]
theorem cR.drew (s:cR I μ H w):cR I μ H w.drew:=s.oD rfl
theorem Ay (s:cR I μ H w) {es u:Nat} {xs ys:a_ (a_ V)} {old new rest:Array Value} {el:TypeId} (T:cA I μ xs.flatten old.toList) (U:cA I μ ys.flatten new.toList)
 (G:∀x∈xs,x.length=es) (J:∀x∈ys,x.length=es) (W:∀x∈xs,∀y∈x,V.one y=true) (Y:∀x∈ys,∀y∈x,V.one y=true)
 (B:xs.length+ys.length<=u) (hr:rest.size=(u-(xs.length+ys.length))*es) :
 ∃μ',bE I μ' (.hsl H.length es 0 (xs.length+ys.length)) (.slice (some ⟨w.heap.size,0,none⟩) (xs.length+ys.length) u)/\cR I μ' (H++[.row es (xs++ys)]) (w.alloc (.cells (old++new++rest) el)) /\
  Step I μ H w I μ' (H++[.row es (xs++ys)]) (w.alloc (.cells (old++new++rest) el)):=by
 have L:=fu G;have O:=fu J;have t:=T.1;have z:=U.1;simp only[Array.length_toList]at t z;have Q:(old++new++rest).size=u*es:=by
  simp only[Array.size_append];rw[<-t,<-z,L,O,hr,<-Nat.add_mul,<-Nat.add_mul];grind
 have C:(xs.length+ys.length)*es<=u*es:=Nat.mul_le_mul_right _ B;rw[Nat.add_mul]at C;have D:fU I μ ⟨w.heap.size,0,es,(old++new++rest).size⟩ (old++new++rest) es (xs++ys):=by
  refine⟨rfl,rfl,?_,?_,?_,?_⟩
  .grind
  .grind
  .rw[Q];simp_all[Nat.add_mul]
  have e:((old++new++rest).toList.drop 0).take ((xs++ys).length*es)=old.toList++new.toList:=by
   grind[Nat.add_mul]
  rw[e,List.flatten_append];exact T.append U
 obtain⟨S,X⟩:=s.push (ob:=.row es (xs++ys)) (o:=.cells (old++new++rest) el) (p:=⟨w.heap.size,0,es,(old++new++rest).size⟩) rfl
  ⟨_,_,el,Mu.fN _ _ _,s.yH,kB _,D.mono (ck.le_refl _) (Mu.qo (s.dom _ (Nat.le_refl _)))⟩
 refine⟨_,?_,S,X⟩;have:=bE.hsl (I:=I) H.length 0 (xs.length+ys.length) u _ (Mu.fN μ H.length ⟨w.heap.size,0,es,(old++new++rest).size⟩) B Zd
 grind
theorem K6 (s:cR I μ H w) {id:Nat} {ob ob':Ob} {p p':Pl} {o:Obj} (u:H[id]? = some ob) (J:ob.live=true) (hp:μ id=some p) (Y:p'.b=p.b)
 (U:sj I (μ.fT H.length p') (fA w p.b o) H.length ob') (hz:Obj.nf o:=by first|exact th _ _|exact qU rfl):cR I (μ.fT H.length p') (H.set id .dead++[ob']) (fA w p.b o)/\Step I μ H w I (μ.fT H.length p') (H.set id .dead++[ob']) (fA w p.b o):=by
 have aa:=(ζe.1 u).1;have D:gR μ H p.b:=⟨id,p,ob,u,J,hp,rfl⟩;have hk:=s.dom H.length (Nat.le_refl _);have t:∀k x,(H.set id .dead++[ob'])[k]? = some x->(k=H.length/\x=ob')\/(k≠H.length/\k=id/\x=.dead)\/(k≠H.length/\k≠id/\H[k]? = some x):=by
  grind
 have L:∀b,gR (μ.fT H.length p') (H.set id .dead++[ob']) b->gR μ H b:=by
  rintro b ⟨k,q,x,h1,O,W,rfl⟩;rcases t k x h1 with⟨rfl,rfl⟩|⟨_,_,rfl⟩|⟨e,Q,h⟩
  .rw[Mu.fN]at W;grind
  .grind[Ob.live]
  rw[Mu.iq _ _ e]at W;exact⟨k,q,x,h,O,W,rfl⟩
 refine⟨⟨?_,?_,?_,?_,s.gl⟩,⟨ck.le_refl _,Mu.qo hk,by simp,by rw[rI];grind,?_,?_,rfl,⟨rfl,rfl,Nat.le_refl _⟩,λa _=>DF (b:=p.b) hz (gD o (mJ s D)) (λk hk=>eU o hk) a⟩⟩
 .intro k h;simp at h;rw[Mu.iq _ _ Za]
  exact s.dom k Za
 .intro b x h;refine IC.rJ (s.imm b x h) (eU o ?_)
  grind[fK]
 .intro k x h;rcases t k x h with⟨rfl,rfl⟩|⟨_,_,rfl⟩|⟨e,Q,h⟩
  .exact U
  .trivial
  refine(s.obs k x h).mono (ck.le_refl _) (Mu.qo hk) (λq Z G=>⟨eU o ?_,fK s ⟨k,q,x,h,G,Z,rfl⟩⟩) (λhe=>?_)
  .intro X;exact Q (s.inj k id x ob q p h u G J Z hp X)
  subst he;rw[Mu.iq _ _ e];exact s.obs k _ h
 .intro k S x T q q' h1 O l1 l2 B C z;rcases t k x h1 with⟨rfl,rfl⟩|⟨_,_,rfl⟩|⟨e,Q,h⟩
  .rcases t S T O with⟨rfl,rfl⟩|⟨_,_,rfl⟩|⟨f,f',g⟩
   .rfl
   .grind[Ob.live]
   rw[Mu.fN]at B;cases B;rw[Mu.iq _ _ f]at C;exact absurd (s.inj S id T ob q' p g u l2 J C hp (by rw[<-z,Y])) f'
  .grind[Ob.live]
  rcases t S T O with⟨rfl,rfl⟩|⟨_,_,rfl⟩|⟨f,f',g⟩
  .rw[Mu.fN]at C;cases C;rw[Mu.iq _ _ e]at B;exact absurd (s.inj k id x ob q p h u l1 J B hp (by rw[z,Y])) Q
  .grind[Ob.live]
  rw[Mu.iq _ _ e]at B;rw[Mu.iq _ _ f]at C;exact s.inj k S x T q q' h g l1 l2 B C z
 .intro b _ hn;refine eU o ?_
  grind
 grind
theorem DG (hE:dU P E) {t t' e:TypeId} {d:TD} {B:TypeDesc} (ht:P.underlying t=some (.slice e)) (T:P.underlying t'=some B) (U:∃e',B=.slice e') (hd:E.tt e=some d)
 (O G:bf Addr) (sl sc u Y:Nat) (new:Array Value) (W:(Builtin.firstCells d.size u (.slice G u Y)).run P w=.ok new w) (ty:TypeId) :
 (sl+u<=sc->∀w',(match O with|some b=>(storeCells (b.add (sl*d.size)) new.toList).run P w=.ok () w'|none=>w'=w) ->
  (Builtin.append_ #[t,t'] ty #[.slice O sl sc,.slice G u Y]).run P w=.ok (.slice O (sl+u) sc) w') /\
 (sc<sl+u->sl+u<=2147483648->d.bytes<=4096->0<d.bytes->∀old,(∀J,J.heap=w.heap->(Builtin.firstCells d.size sl (.slice O sl sc)).run P J=.ok old J) ->
  (∀J,J.heap=w.heap->(Builtin.firstCells d.size u (.slice G u Y)).run P J=.ok new J) ->
  ∃D rest,sl+u<=D/\rest.size=(D-(sl+u))*d.size /\
   (Builtin.append_ #[t,t'] ty #[.slice O sl sc,.slice G u Y]).run P w=.ok (.slice (some ⟨w.heap.size,0,none⟩) (sl+u) D) (w.drew.alloc (.cells (old++new++rest) e))):=by
 obtain⟨i,z,hi,ab,ah,hz,Q,ai,_⟩:=(hE.ty hd).info;have C:∀w,(zeroValue e).run P w=.ok z w:=λw=>by simp_all[zeroValue,oe]
 have S:z.cells.size=d.size:=by have:=(Q (λ_=>none) (λ_=>none)).1;grind
 obtain⟨e',rfl⟩:=U;constructor
 .intro X w' aj;unfold Builtin.append_;simp only[Sem.run_bind,List.getElem?_toArray,List.getElem?_cons_zero,List.getElem?_cons_succ,dx ht,dx T,Result.andThen_ok,(hE.ty hd).gW,Sem.run_pure,Builtin.lenOf,Bool.false_eq_true,if_false,Bool.not_false,if_true,if_pos X,W]
  cases O with
  | none=>simp_all
  | some b=>simp_all
 intro Z ae ak af old hold I;have aa  := nextslicecap_le Z;have c1:¬(Builtin.nextslicecap (sl+u) sc*i.bytes>2 ^ 48):=by
  have:Builtin.nextslicecap (sl+u) sc*i.bytes<=(2*2147483648)*4096:=Nat.mul_le_mul Za Za
  omega
 have L:¬(sl+u<=sc):=by omega
 refine⟨(Question.appendCap (sl+u) sc e).cut (w.tape w.drawn (Question.appendCap (sl+u) sc e)),Builtin.zeroCells z.cells (((Question.appendCap (sl+u) sc e).cut (w.tape w.drawn (Question.appendCap (sl+u) sc e)))-(sl+u)),?_,?_,?_⟩
 .simp[Question.cut]
 .rw[pO,S]
 unfold Builtin.append_;simp only[Sem.run_bind,List.getElem?_toArray,List.getElem?_cons_zero,List.getElem?_cons_succ,dx ht,dx T,Result.andThen_ok,(hE.ty hd).gW,Sem.run_pure,Builtin.lenOf,Bool.false_eq_true,if_false,Bool.not_false,if_true,if_neg L,oe hi];rw[if_neg Zd]
 simp only[Sem.run_bind,oe hi,if_neg c1,run_choose,Question.forced,Bool.false_eq_true,if_false,Result.andThen_ok,run_askRoom,C,newRow,run_newObj,Sem.run_pure];rw[hold { w with drawn:=w.drawn+1 } rfl];simp only[Result.andThen_ok];rw[I { w with drawn:=w.drawn+1 } rfl];rfl
theorem wrap_small {m:Nat} (h:m<=2147483648):IntKind.i64.wrap (m:Int)=m:=by grind[IntKind.wrap,IntKind.bits]
theorem EV (O:dU P E) {t T e:TypeId} {d:TD} {kk k:IntKind} (Y:P.underlying t=some (.slice e)) (D:P.underlying T=some (.int kk)) (hd:E.tt e=some d) (ty:TypeId) (m:Nat) (B:m<=2147483648) :
 (m=0->(Builtin.append_ #[t,T] ty #[.slice none 0 0,.int k m]).run P w=.ok (.slice none 0 0) w) /\
 (0<m->d.bytes<=4096->0<d.bytes->∃u z rest,m<=u/\rest.size=(u-m)*d.size/\cA I μ d.zero z.toList /\
  (Builtin.append_ #[t,T] ty #[.slice none 0 0,.int k m]).run P w=.ok (.slice (some ⟨w.heap.size,0,none⟩) m u) (w.drew.alloc (.cells (#[]++Builtin.zeroCells z m++rest) e))):=by
 obtain⟨i,z,Q,Z,ad,hz,G,ae,_⟩:=(O.ty hd).info;have C:∀w,(zeroValue e).run P w=.ok z w:=λw=>by simp_all[zeroValue,oe]
 have S:z.cells.size=d.size:=by have:=(G (λ_=>none) (λ_=>none)).1;grind
 have hw:=wrap_small B;constructor
 .rintro rfl;unfold Builtin.append_;have U:IntKind.i64.wrap 0=0:=by omega
  simp[dx Y,dx D,(O.ty hd).gW,asInt,oe Q,k9,U]
 intro aa af ab;have W:Builtin.nextslicecap (0+m) 0<=2*(0+m):=nextslicecap_le Za
 have c1:¬(Builtin.nextslicecap (0+m) 0*i.bytes>2 ^ 48):=by
  have:Builtin.nextslicecap (0+m) 0*i.bytes<=(2*2147483648)*4096:=Nat.mul_le_mul Za Za
  omega
 have c0:¬(m*(i.bytes:Int)>2 ^ 48):=by
  have h1:m*i.bytes<=2147483648*4096:=Nat.mul_le_mul B Za
  grind
 have c2:¬((0+m:Nat)>IntKind.i64.max):=by
  have:IntKind.i64.max=9223372036854775807:=by rfl
  omega
 have J:¬(0+m<=0):=by omega
 have L:¬((m:Int)<0):=by omega
 refine⟨(Question.appendCap (0+m) 0 e).cut (w.tape w.drawn (Question.appendCap (0+m) 0 e)),z.cells,Builtin.zeroCells z.cells (((Question.appendCap (0+m) 0 e).cut (w.tape w.drawn (Question.appendCap (0+m) 0 e)))-(0+m)),?_,?_,G _ _,?_⟩
 .simp[Question.cut]
 .rw[pO,S,Nat.zero_add]
 unfold Builtin.append_;have X:(if m*d.size=0 then pure #[]else do pure (Builtin.zeroCells (<-zeroValue e).cells m))=(do pure (Builtin.zeroCells (<-zeroValue e).cells m))\/(m*d.size=0/\Builtin.zeroCells z.cells m=#[]):=by
  by_cases h:m*d.size=0
  all_goals simp_all[Array.eq_empty_of_size_eq_zero,pO]
 simp only[Sem.run_bind,List.getElem?_toArray,List.getElem?_cons_zero,List.getElem?_cons_succ,dx Y,dx D,Result.andThen_ok,(O.ty hd).gW,Sem.run_pure,if_true,asInt,k9,hw,if_neg L,oe Q,if_neg c0,Int.toNat_natCast,if_neg J,if_false];rw[if_neg (λh=>c2 h.1)]
 simp only[Sem.run_bind,oe Q,if_neg c1,run_choose,Question.forced,Result.andThen_ok,C,newRow,Builtin.firstCells];rcases X with h|⟨h,h'⟩
 all_goals simp_all
theorem Nx (hE:dU P E) (r:dP I μ n F a.tmps) (s:cR I μ H w) {args:Array Operand} {O:Array TypeId} {x:V} {ty:TypeId}
 (h:cr E F H (.call { callee:=.builtin .append,args,argTypes:=O })=some (x,H')) :
 BG P I μ H w (do let d <-resolve a.eval { callee:=.builtin .append,args,argTypes:=O } ty;invoke d.target d.args) x H':=by
 simp[cr]at h;split at h
 .rename_i t t' vs vx aQ ae;obtain⟨us,ux,S,hs,hx⟩:=(nv r ae).two;split at h
  .rename_i e e' hk af;obtain⟨d0,ah,ai⟩:=eZ hk;obtain⟨desc,h1,h2,h3⟩:=(hE.ty ah).dx;rw[ai]at h2;have:=iZ h2;subst this;obtain⟨d1,jx,T⟩:=eZ af;obtain⟨aj,g1,g2,g3⟩:=(hE.ty jx).dx;rw[T]at g2;have:=iZ g2;subst this;have C:∀v w',(Builtin.append_ #[t,t'] ty #[us,ux]).run P w=.ok v w' ->
    (do let d <-resolve a.eval { callee:=.builtin .append,args,argTypes:=O } ty;invoke d.target d.args).run P w=.ok (.value v) w':=by
    simp[resolve,Sem.run_bind,Sem.run_pure,Result.andThen_ok,invoke,builtin];rw[ru S];have ea:O=#[t,t']:=by grind
    simp_all
   split at h
   .rename_i d hd;split at h
    .
     rename_i xs B ak;obtain⟨ad,cap,arr,e1,e2,e3,e4,_⟩:=zV (P:=P) s hs B;obtain⟨al,U,D,f1,f2,f3,f4,_⟩:=zV  s hx ak;simp  at f1 f3;have aR:D=#[]:=by
      have:=f4.1;grind
     have f3:=f3 w rfl;rw[f1]at f3;have key:=(DG hE h1 g1 ⟨_,rfl⟩ hd ad al xs.length cap 0 U D f3 ty).1 Za w
      (by
       cases ad with
       | none=>rfl
       | some b=>simp_all[storeCells])
     rw[<-f1,<-e1,Nat.add_zero,<-e1]at key;have am:x=vs/\H'=H:=by
      grind
     obtain⟨rfl,rfl⟩:=am;exact⟨_,us,w,μ,C _ _ key,.inl rfl,hs,s,.refl _ _ _ _⟩
    .rename_i xs ys aT B ak;obtain⟨ad,cap,arr,e1,e2,e3,e4,e5,e6⟩:=zV  s hs B;obtain⟨al,U,D,f1,f2,f3,f4,f5,f6⟩:=zV  s hx ak;split at h
     .rename_i hc;obtain⟨av,an,ao⟩:=hc;have aD:0<ys.length:=by
       grind
      have key:=DG hE h1 g1 ⟨_,rfl⟩ hd ad al xs.length cap ys.length U D (by rw[<-f1];exact f3 w rfl) ty
      rw[<-f1,<-e1]at key;have L:cap<xs.length+ys.length->∃G rest,xs.length+ys.length<=G/\rest.size=(G-(xs.length+ys.length))*d.size /\
       (Builtin.append_ #[t,t'] ty #[us,ux]).run P w=.ok (.slice (some ⟨w.heap.size,0,none⟩) (xs.length+ys.length) G) (w.drew.alloc (.cells (arr++D++rest) e)):=by
       intro ap;refine key.2 ap av an ao arr ?_ ?_
       .intro w2 aE;exact e3 w2 aE
       grind
      simp  at h;obtain⟨H1,J,rfl,rfl⟩:=h
      cases vs with
      | c_=>
       simp[gq]at J;subst J;simp[dG]at B;subst B;obtain⟨aF,q⟩:=hs.rB;have aw:cap=0:=by rw[q]at e1;cases e1;rfl
       obtain⟨G,rest,k1,k2,k3⟩:=L (by simp;omega)
       obtain⟨μ',m1,m2,m3⟩:=Ay  s.drew e4 f4 e5 f5 e6 f6 k1 k2;refine⟨_,_,_,μ',C _ _ k3,.inl rfl,m1,m2,?_⟩;exact Step.trans s.drew (Step.oD rfl rfl ⟨rfl,rfl,Nat.le_succ _⟩) m3
      | bN=>
       simp[gq]at J;subst J;simp[dG]at B;subst B;have q:=hs.lp;have aw:cap=0:=by rw[q]at e1;cases e1;rfl
       obtain⟨G,rest,k1,k2,k3⟩:=L (by simp;omega)
       obtain⟨μ',m1,m2,m3⟩:=Ay  s.drew e4 f4 e5 f5 e6 f6 k1 k2;refine⟨_,_,_,μ',C _ _ k3,.inl rfl,m1,m2,?_⟩;exact Step.trans s.drew (Step.oD rfl rfl ⟨rfl,rfl,Nat.le_succ _⟩) m3
      | hsl id es off len=>
       simp[gq]at J;split at J
       .rename_i u aG Z;simp  at J;subst J;have ax:(H[id]?).bind Ob.rows=some (u,aG):=by rw[Z];rfl
        have aS:=B;simp only[dG]at B;split at B
        .rename_i aH;rw[ax]at B;simp only at B;split at B
         .rename_i aI;simp  at B;obtain⟨p,c,ay,q1,q2,q3,q4⟩:=s.obs id _ Z;have W:xs.length=len:=by rw[<-B];simp;omega
          have aq:cap<xs.length+ys.length->BG P I μ H w (do let d <-resolve a.eval { callee:=.builtin .append,args,argTypes:=O } ty;invoke d.target d.args)
           (.hsl H.length d.size 0 (xs.length+ys.length)) (H.set id .dead++[.row d.size (xs++ys)]):=by
           intro ap;obtain⟨G,rest,k1,k2,k3⟩:=L ap;obtain⟨s1,s2⟩:=s.drew.kill Z;obtain⟨μ',m1,m2,m3⟩:=Ay  s1 e4 f4 e5 f5 e6 f6 k1 k2;rw[List.length_set]at m1;exact⟨_,_,_,μ',C _ _ k3,.inl rfl,m1,m2,Step.trans s.drew (Step.oD rfl rfl ⟨rfl,rfl,Nat.le_succ _⟩) (Step.trans s1 s2 m3)⟩
          rcases hs.lB with⟨p',Q,hm,aJ,aU,aK,ee⟩|⟨h0,aF,ee⟩
          .rw[q1]at hm;cases hm;have ar:Q=cap/\ad=some ⟨p.b,p.o+off*es,none⟩:=by rw[ee]at e1;grind
           obtain⟨rfl,rfl⟩:=ar
           by_cases ab:xs.length+ys.length<=Q
           .have aA:u=es:=by rw[<-q4.es_eq,aJ]
            subst aA;have X  := aH;obtain⟨r1,r2⟩:=q4.span aI;rw[B]at r1;have aa:=f4.1;simp only[Array.length_toList]at aa;rw[fu f5]at aa;have aL:(len+ys.length)*u<=Q*u:=Nat.mul_le_mul_right _ Za
            rw[Nat.add_mul]at aL;rw[Nat.add_mul]at aK;have aM:=q4.sz;rw[<-X]at aa;have au:p.o+off*u+len*u+0+D.toList.length<=c.size:=by simp;omega
            obtain⟨c',u1,u2⟩:=oc   D.toList 0 w c q3 (f4.Qd (λx hx=>by
             grind[List.mem_flatten])) au
            have aB:c'.size=c.size:=by
             have:=congrArg List.length u2
             grind
            have aC:=key.1 ab (fA w p.b (.cells c' ay)) (by
             simp[oV,W];rw[<-X];exact u1)
            have Y:fU I μ ⟨p.b,p.o+off*u,u,p.sz⟩ c' u (xs++ys):=by
             refine⟨rfl,by rw[aB];exact aM,?_,?_,?_,?_⟩
             .grind
             .grind
             .rw[aB,ζi,W,Nat.add_mul];grind
             have e:(c'.toList.drop (p.o+off*u)).take ((xs++ys).length*u)=(c.toList.drop (p.o+off*u)).take (len*u)++D.toList:=by
              rw[u2,ζi,W,Nat.add_mul,aa];simp only[Nat.add_zero];have aN:(List.take (p.o+off*u+len*u) c.toList).length=p.o+off*u+len*u:=by simp;omega
              rw[List.append_assoc,List.drop_append_of_le_length (by rw[aN];omega),List.drop_take,show p.o+off*u+len*u-(p.o+off*u)=len*u by omega]
              grind[List.take_left']
             rw[e,List.flatten_append];exact r1.append f4
            obtain⟨s1,s2⟩:=K6 (ob':=.row u (xs++ys)) (p':=⟨p.b,p.o+off*u,u,p.sz⟩)  s Z rfl q1 rfl
             ⟨_,c',ay,Mu.fN _ _ _,q2,gD _ (Array.getElem?_eq_some_iff.1 q3).1,Y.mono (ck.le_refl _) (Mu.qo (s.dom _ (Nat.le_refl _)))⟩
            rw[<-X];refine⟨_,_,_,_,C _ _ aC,.inl rfl,?_,s1,s2⟩;have:=bE.hsl (I:=I) H.length 0 (xs.length+ys.length) Q _ (Mu.fN μ H.length ⟨p.b,p.o+off*u,u,p.sz⟩) ab (by simp ;omega)
            grind
           grind
          grind
         grind
        grind
       grind
      | _=>simp[gq]at J
     grind
    grind
   grind
  .
   rename_i e kk hk af;obtain⟨d0,ah,ai⟩:=eZ hk;obtain⟨desc,h1,h2,h3⟩:=(hE.ty ah).dx;rw[ai]at h2;have:=iZ h2;subst this;obtain⟨d1,jx,T⟩:=eZ af;obtain⟨aj,g1,g2,g3⟩:=(hE.ty jx).dx;rw[T]at g2;have:=Dh g2;subst this;have C:∀v w',(Builtin.append_ #[t,t'] ty #[us,ux]).run P w=.ok v w' ->
    (do let d <-resolve a.eval { callee:=.builtin .append,args,argTypes:=O } ty;invoke d.target d.args).run P w=.ok (.value v) w':=by
    intro v w' hv;simp[resolve,Sem.run_bind,Sem.run_pure,Result.andThen_ok,invoke,builtin];rw[ru S];have ea:O=#[t,t']:=by grind
    rw[ea,hv];rfl
   split at h
   .rename_i d hd;unfold mkApp at h;split at h
    .rename_i k m;have q:=hs.lp;subst q;have q:=hx.eX;subst q;split at h
     .rename_i h0;subst h0;cases h;have key:=(EV (μ:=μ) (I:=I) (w:=w) (k:=k) hE h1 g1 hd ty 0 Za).1 rfl
      exact⟨_,_,w,μ,C _ _ key,.inl rfl,hs,s,.refl _ _ _ _⟩
     split at h
     .rename_i hc;obtain⟨aO,av,an,ao⟩:=hc;cases h;obtain⟨m,rfl⟩:=Int.eq_ofNat_of_zero_le (Int.le_of_lt aO);obtain⟨G,z,rest,k1,k2,k3,k4⟩:=(EV     hE h1 g1 hd ty m Za).2 Za an ao
      have aP  := (hE.ty hd).info.choose_spec.choose_spec.2.2.2.2.2.1;have aV  := (hE.ty hd).info.choose_spec.choose_spec.2.2.2.2.2.2.1;have hu:∀x∈List.replicate m d.zero,x.length=d.size:=λx hx=>by rw[List.eq_of_mem_replicate hx];exact aP
      have ho:∀x∈List.replicate m d.zero,∀y∈x,V.one y=true:=λx hx y hy=>by rw[List.eq_of_mem_replicate hx]at hy;grind
      obtain⟨μ',m1,m2,m3⟩:=Ay  (xs:=[]) (ys:=List.replicate m d.zero) (old:=#[]) (new:=Builtin.zeroCells z m) (rest:=rest) s.drew .nil (wv k3 m) Zc hu Zc ho (by simpa using k1) Zd
      simp  at m1 m2 m3;refine⟨_,_,_,μ',C _ _ k4,.inl rfl,by grind,by simpa using m2,?_⟩
      exact Step.trans s.drew (Step.oD rfl rfl ⟨rfl,rfl,Nat.le_succ _⟩) Zd
     cases h
    cases h
   cases h
  grind
 grind
theorem zu {es:Nat} {xs:a_ (a_ V)} (hu:∀x∈xs,x.length=es) (k:Nat) (hk:k<=xs.length):(xs.take k).flatten=xs.flatten.take (k*es)/\(xs.drop k).flatten=xs.flatten.drop (k*es):=by
 grind[List.take_append_drop,fu]
theorem Oq (hE:dU P E) (r:dP I μ n F a.tmps) (s:cR I μ H w) {args:Array Operand} {D:Array TypeId} {x:V} {ty:TypeId}
 (h:cr E F H (.call { callee:=.builtin .clear,args,argTypes:=D })=some (x,H')) :
 BG P I μ H w (do let d <-resolve a.eval { callee:=.builtin .clear,args,argTypes:=D } ty;invoke d.target d.args) x H':=by
 simp[cr]at h;split at h
 .rename_i t v ab L;obtain⟨u,hu,hr⟩:=(nv r L).one;split at h
  .rename_i e hk;obtain⟨d0,ae,af⟩:=eZ hk;obtain⟨desc,h1,h2,h3⟩:=(hE.ty ae).dx;rw[af]at h2;have:=iZ h2;split at h
   .rename_i d hd;obtain⟨i,z,hi,an,ap,hz,S,ah,aq,_⟩:=(hE.ty hd).info;have ai:∀w,(zeroValue e).run P w=.ok z w:=λw=>by simp_all[zeroValue,oe]
    have aj:z.cells.size=d.size:=by have:=(S (λ_=>none) (λ_=>none)).1;grind
    have J:∀v w',(Builtin.clear_ D ty #[u]).run P w=.ok v w' ->
     (do let d <-resolve a.eval { callee:=.builtin .clear,args,argTypes:=D } ty;invoke d.target d.args).run P w=.ok (.value v) w':=by
     grind[resolve,Sem.run_bind,Sem.run_pure,Result.andThen_ok,invoke,builtin,ru]
    have T:∀U cap,u=.slice U 0 cap->BG P I μ H w (do let d <-resolve a.eval { callee:=.builtin .clear,args,argTypes:=D } ty;invoke d.target d.args) .undef H:=λU cap q=>by
     subst q;refine⟨_,.tuple #[],w,μ,J (.tuple #[]) w ?_,.inl rfl,bE.undef _ _,s,.refl _ _ _ _⟩;unfold Builtin.clear_;cases U <;> simp[ab,h3]
    unfold Dv at h;split at h
    .cases h;exact T _ _ hr.lp
    .obtain⟨U,q⟩:=hr.rB;grind
    .rename_i id es off len;split at h
     .rename_i O;subst O;split at h
      .rcases hr.lB with⟨p,cap,_,_,_,_,q⟩|⟨_,U,q⟩
       all_goals grind
      rename_i len;split at h
      .rename_i ak Q W;split at h
       .rename_i X;cases h;obtain⟨p,c,el,hp,hI,C,B⟩:=s.obs id _ W;rcases hr.lB with⟨q,cap,hq,al,ao,am,rfl⟩|⟨h0,_⟩
        .rw[hp]at hq;cases hq;have O:ak=d.size:=by rw[<-B.es_eq,al]
         subst O;have ar:(Builtin.zeroCells z.cells (len+1)).size=(len+1)*d.size:=by rw[pO,aj]
         have au:=B.room;have Y:(off+(len+1))*d.size<=Q.length*d.size:=Nat.mul_le_mul_right _ X;rw[Nat.add_mul]at Y;have G:=wv   (S I μ) (len+1);have av:∀x∈List.replicate (len+1) d.zero,x.length=d.size:=λx hx=>by rw[List.eq_of_mem_replicate hx];exact ah
         have aw:∀x∈List.replicate (len+1) d.zero,∀y∈x,V.one y=true:=λx hx y hy=>by rw[List.eq_of_mem_replicate hx]at hy;grind
         obtain⟨c',u1,u2⟩:=oc (P:=P) (o:=p.o+off*d.size) (Builtin.zeroCells z.cells (len+1)).toList 0 w c C (cA.Qd G (λx hx=>by
          grind[List.mem_flatten])) Zd
         rw[Nat.add_zero]at u2;have Z:c'.size=c.size:=by
          have:=congrArg List.length u2
          grind
         obtain⟨s2,st2⟩:=s.write  (ob':=.row d.size (Q.take off++List.replicate (len+1) d.zero++Q.drop (off+(len+1)))) W rfl hp
          ⟨p,c',el,hp,hI,gD _ (Array.getElem?_eq_some_iff.1 C).1,by
           have aa:(Q.take off++List.replicate (len+1) d.zero++Q.drop (off+(len+1))).length=Q.length:=by simp;omega
           refine⟨B.es_eq,by rw[Z];exact B.sz,?_,?_,by rw[aa,Z];grind,?_⟩
           .intro x hx;rcases List.mem_append.1 hx with hx|hx
            .rcases List.mem_append.1 hx with hx|hx
             .exact B.oK x (List.mem_of_mem_take hx)
             grind
            exact B.oK x (List.mem_of_mem_drop hx)
           .intro x hx;rcases List.mem_append.1 hx with hx|hx
            .rcases List.mem_append.1 hx with hx|hx
             .exact B.one x (List.mem_of_mem_take hx)
             grind
            exact B.one x (List.mem_of_mem_drop hx)
           rw[aa,u2];have hL:=A_ c.toList (Builtin.zeroCells z.cells (len+1)).toList p.o (Q.length*d.size) (off*d.size) (by simp;omega) Zd
           rw[hL,List.flatten_append,List.flatten_append,(zu B.oK off Za).1,(zu B.oK _ X).2]
           have e:off*d.size+(Builtin.zeroCells z.cells (len+1)).toList.length=(off+(len+1))*d.size:=by grind
           rw[e];exact((B.rel.take _).append G).append (B.rel.drop _)⟩
         refine⟨_,.tuple #[],_,μ,J (.tuple #[]) (fA w p.b (.cells c' el)) ?_,.inl rfl,bE.undef _ _,s2,st2⟩;simp_all[Builtin.clear_]
        simp_all
       simp_all
      simp_all
     simp_all
    simp_all
   simp_all
  simp_all
 simp_all
theorem WH (s t:ByteArray) (h:(s==t)=true):s=t:=by
 cases s with|mk a=>cases t with|mk b=>
 have u:(a==b)=true:=h
 grind
inductive yq (P:Program) (E:Env) (t:TypeId):V->Value->Prop
 | int (k:IntKind) (m:Int) (h:P.underlying t=some (.int k)):yq P E t (.int k m) (.int k m)
 | str (s:ByteArray) (h:P.underlying t=some .string):yq P E t (.str s) (.string s)
 | agg (m:Nat) (cs:List V) (l:List Int) (h:s6 P t m) (hl:l.length=m) (hi:gZ cs=some l):yq P E t (.agg cs) (.agg (ic l))
theorem M8 (B:dU P E) {t:TypeId} {k:V} {v:Value} (h:wB E t k=true) (hv:bE I μ k v):yq P E t k v:=by
 unfold wB at h;split at h
 .rename_i k1 k2 m hk;obtain⟨d,hd,u⟩:=eZ hk;obtain⟨desc,h1,w,G⟩:=(B.ty hd).dx;rw[u]at w;have:=Dh w;subst this;have e:k1=k2:=by grind
  subst e;rw[hv.eX];exact .int _ _ h1
 next s hk=>obtain⟨d,hd,u⟩:=eZ hk;obtain⟨desc,h1,w,G⟩:=(B.ty hd).dx;rw[u]at w;have:=zm w;subst this;rw[hv.tw];exact .str _ h1
 .rename_i cs _;split at h
  next m z=>simp[Option.isSome_iff_exists]at h;obtain⟨J,l,D⟩:=h;obtain⟨L,rfl,C⟩:=hv.h_;obtain⟨rfl,e⟩:=pR D C;exact .agg m cs l (B.eqN _ _ z) Za D
  grind
 grind
theorem NM (d:Nat) (e:Bool) {t:TypeId} {k:IntKind} {m:Int} (h:P.underlying t=some (.int k)):(Instr.checkKey e (d+1) t (.int k m)).run P w=.ok () w:=by
 simp[Instr.checkKey,Sem.run_bind,dx h,Result.andThen_ok,Sem.run_pure]
theorem Ms (d:Nat) (e:Bool) {t:TypeId} {m:ByteArray} (h:P.underlying t=some .string):(Instr.checkKey e (d+1) t (.string m)).run P w=.ok () w:=by
 simp[Instr.checkKey,Sem.run_bind,dx h,Result.andThen_ok,Sem.run_pure]
theorem yQ {t:TypeId} {k:V} {v:Value} (h:yq P E t k v) (e:Bool):(Instr.checkKey e 10000 t v).run P w=.ok () w:=by
 cases h with
 | int k m h=>grind[NM]
 | str s h=>grind[Ms]
 | agg m cs l h u z=>exact h.check w e l u
def lq (I:ck) (μ:Mu) (es:a_ MapEntry) (i:Nat):bf (Nat×V)->bf (Nat×Value)->Prop
 | none,none=>True
 | some (j,x),some (u,v)=>j=u/\bE I μ x v/\i<=j/\∃e,es[j-i]? = some e/\e.val=v
 | _,_=>False
theorem DH {d:TypeDesc} {k:V} {v:Value} (hd:(∃kk m,d=.int kk/\k=.int kk m/\v=.int kk m)\/(∃s,d=.string/\k=.str s/\v=.string s)) :
 ∀(u:a_ (V×V)) (es:a_ MapEntry) (i:Nat) (r:bf (Nat×V)),u.length=es.length->(∀(j:Nat) q e,u[j]? = some q->es[j]? = some e->bE I μ q.1 e.key/\bE I μ q.2 e.val) ->
 ij k u i=some r->∃B,Instr.findNow d v es i=some B/\lq I μ es i r B/\∀j x,r=some (j,x)->∃e,es[j-i]? = some e/\e.key=v:=by
 intro u
 induction u with
 | nil=>
  intro es i r L _ h
  cases es with
  | nil=>simp only[ij,ζa]at h;subst h;exact⟨none,rfl,trivial,by simp⟩
  | cons _ _=>simp_all
 | cons q u O=>
  intro es i r L hr h
  cases es with
  | nil=>simp_all
  | cons e es=>
   obtain⟨C,Q⟩:=q;obtain⟨g1,g2⟩:=hr 0 (C,Q) e rfl rfl;simp only[ij]at h;have t:∀b,wH k C=some b->Instr.sameNow d v e.key=some b/\(b=true->e.key=v):=by
    intro b w;rcases hd with⟨kk,m,rfl,rfl,rfl⟩|⟨s,rfl,rfl,rfl⟩
    .cases C <;> simp only[wH]at w <;> (try grind)
     rename_i k2 X;split at w
     .rename_i D;simp only[ζa]at w;subst w;subst D;rw[g1.eX]
      grind[Instr.sameNow]
     grind
    cases C <;> simp only[wH]at w <;> (try (simp at w;done))
    simp only[ζa]at w;subst w;rw[g1.tw]
    grind[Instr.sameNow,WH]
   split at h
   .rename_i hk;obtain⟨f1,Y⟩:=t true hk;simp only[ζa]at h;subst h;refine⟨some (i,e.val),by grind[Instr.findNow],⟨rfl,g2,Nat.le_refl _,e,by simp,rfl⟩,?_⟩
    grind
   .rename_i hk;obtain⟨f1,_⟩:=t false hk;obtain⟨B,p1,p2,p3⟩:=O es (i+1) r Zd (λj a b x y=>hr (j+1) a b (by simpa using x) (by simpa using y)) h
    refine⟨B,by grind[Instr.findNow],?_,?_⟩
    .cases r with
     | none=>all_goals grind[lq]
     | some z=>
      cases B with
      | none=>grind[lq]
      | some S=>
       obtain⟨T,U,Z,G,c4,W⟩:=p2;exact⟨T,U,by omega,G,by rw[show z.1-i=(z.1-(i+1))+1 by omega];grind,W⟩
    intro j x J;obtain⟨G,u1,u2⟩:=p3 j x J;subst J;have:i+1<=j:=by
     cases B with
     | none=>grind[lq]
     | some S=>exact p2.2.2.1
    grind
   grind
theorem Kk {t:TypeId} {m:Nat} (T:s6 P t m) {cs:a_ V} {l:a_ Int} (U:l.length=m) (W:gZ cs=some l) :
 ∀(u:a_ (V×V)) (es:a_ MapEntry) (i:Nat) (r:bf (Nat×V)),u.length=es.length->(∀(j:Nat) q e,u[j]? = some q->es[j]? = some e->bE I μ q.1 e.key/\bE I μ q.2 e.val) ->
 ij (.agg cs) u i=some r->∃D,(Instr.findAsking t (.agg (ic l)) es i).run P w=.ok D w/\lq I μ es i r D/\∀j x,r=some (j,x)->∃e,es[j-i]? = some e/\e.key=.agg (ic l):=by
 intro u
 induction u with
 | nil=>
  intro es i r C _ h
  cases es with
  | nil=>simp[ij]at h;subst h;exact⟨none,rfl,trivial,by simp⟩
  | cons _ _=>simp_all
 | cons q u X=>
  intro es i r C hr h
  cases es with
  | nil=>simp_all
  | cons e es=>
   obtain⟨G,Y⟩:=q;obtain⟨g1,g2⟩:=hr 0 (G,Y) e rfl rfl;simp[ij]at h;have B:∀b,wH (.agg cs) G=some b->(Op.equal t (.agg (ic l)) e.key).run P w=.ok b w/\(b=true->e.key=.agg (ic l)):=by
    intro b J;cases G <;> simp[wH]at J <;> (try (simp at J))
    obtain⟨ia,Z,O,x2,x3,rfl⟩:=w_ J;rw[W]at O;cases O;obtain⟨vb,ev,L⟩:=g1.h_;obtain⟨rfl,e2⟩:=pR x2 L;rw[ev];refine⟨T.key w l Z U Za,?_⟩
    grind
   split at h
   .rename_i hk;obtain⟨f1,f2⟩:=B true hk;simp  at h;subst h;refine⟨some (i,e.val),by simp[Instr.findAsking,f1],⟨rfl,g2,Nat.le_refl _,e,by simp,rfl⟩,?_⟩
    grind
   .rename_i hk;obtain⟨f1,_⟩:=B false hk;obtain⟨D,p1,p2,p3⟩:=X es (i+1) r Zd (λj a b x y=>hr (j+1) a b Zd (by simpa using y)) h
    refine⟨D,by simp_all[Instr.findAsking],?_,?_⟩
    .cases r with
     | none=>all_goals grind[lq]
     | some z=>
      cases D with
      | none=>grind[lq]
      | some z'=>
       obtain⟨c1,c2,c3,Q,c4,c5⟩:=p2;exact⟨c1,c2,by omega,Q,by rw[show z.1-i=(z.1-(i+1))+1 by omega];grind,c5⟩
    intro j x S;obtain⟨Q,u1,u2⟩:=p3 j x S;subst S;have  := by
     cases D with
     | none=>grind[lq]
     | some z'=>exact p2.2.2.1
    grind
   grind
theorem vo {t:TypeId} {k:V} {v:Value} (h:yq P E t k v) {u:a_ (V×V)} {es:Array MapEntry} (hr:vg I μ u es) {r:bf (Nat×V)} (G:ij k u 0=some r) :
 ∃D,(Instr.findKey t v es.toList).run P w=.ok D w/\lq I μ es.toList 0 r D/\∀j x,r=some (j,x)->∃e,es[j]? = some e/\e.key=v:=by
 have z  := by simpa using hr.1
 have B:∀(j:Nat) q e,u[j]? = some q->es.toList[j]? = some e->bE I μ q.1 e.key/\bE I μ q.2 e.val:=λj q e x y=>hr.2 j q e x Zd
 have fin:∀(D:bf (Nat×Value)),(∀j x,r=some (j,x)->∃e,es.toList[j-0]? = some e/\e.key=v)->∀j x,r=some (j,x)->∃e,es[j]? = some e/\e.key=v:=by
  grind
 cases h with
 | int kk m h=>
  obtain⟨D,g1,g2,g3⟩:=DH (.inl ⟨kk,m,rfl,rfl,rfl⟩) u es.toList 0 r z B G;simp_all[Instr.findKey,dx]
 | str s h=>
  obtain⟨D,g1,g2,g3⟩:=DH (.inr ⟨s,rfl,rfl,rfl⟩) u es.toList 0 r z B G;simp_all[Instr.findKey,dx]
 | agg m cs l h J L=>
  obtain⟨D,g1,g2,g3⟩:=Kk (w:=w) h J L u es.toList 0 r z B G;obtain⟨d,hd,O⟩:=h.kind;refine⟨D,?_,g2,fin D g3⟩;simp[Instr.findKey,Sem.run_bind,dx hd,Result.andThen_ok]
  cases C:es.toList with
  | nil=>
   rw[C]at g1
   grind[Instr.findNow,Instr.findAsking]
  | cons e rest=>
   simp_all[Instr.findNow,Instr.sameNow]
theorem zd {b:Nat} {o:Obj} (h:w.heap[b]? = some o) (u:∀c e f,o≠.cells c e f):(getObj b).run P w=.ok o w:=by
 grind[getObj,Sem.run]
theorem Pe (s:cR I μ H w) {m:V} {v:Value} (hv:bE I μ m v) {u:a_ (V×V)} (h:mj H m=some u) :
 (v=.map none/\u=[])\/∃b es clock,v=.map (some b)/\w.heap[b]? = some (.map es clock)/\vg I μ u es:=by
 cases m with
 | gi=>simp only[mj,ζa]at h;exact .inl ⟨hv.OV,h.symm⟩
 | fmap k=>
  simp[mj]at h;subst h
  cases hv with
  | c _ _ hv=>cases hv with
   | fmap _ b es B C hk t=>
    obtain⟨cl,g⟩:=s.imm _ _ B;exact .inr ⟨b,es,cl,rfl,g,C,λj q e x y=>⟨.c _ _ (hk j q e x y),.c _ _ (t j q e x y)⟩⟩
 | hmap id=>
  simp[mj]at h;split at h
  .rename_i D z;simp  at h;obtain⟨p,es,cl,g1,g2,g3,g4⟩:=s.obs id _ z;obtain⟨q,G,e⟩:=hv.B_
   grind
  grind
 | _=>simp[mj]at h
theorem N5 (O:dU P E) (r:dP I μ n F a.tmps) (s:cR I μ H w) {t:TypeId} {m k:Operand} {ok:Bool} {x:V} (h:dI E F H (.lookup t m k ok)=some x) :
 ∃v,(Instr.lookup t (a.eval m) (a.eval k) ok).run P w=.ok v w/\bE I μ x v:=by
 simp[dI]at h;split at h
 .rename_i kt et mv kv hk hm Q;obtain⟨d,hd,S⟩:=eZ hk;obtain⟨desc,h1,Z,h3⟩:=(O.ty hd).dx;rw[S]at Z;have:=zI Z;subst this;split at h
  .rename_i de T U J;split at h
   .rename_i W;have D:=M8 O W (dh r Q);obtain⟨z,hz,X⟩:=(O.ty U).Ti;obtain⟨es,L,G⟩:∃es:Array MapEntry,vg I μ T es/\∀u,(Instr.findKey kt (a.eval k) es.toList).run P w=.ok u w->(Instr.lookup t (a.eval m) (a.eval k) ok).run P w =
     .ok (if ok then .tuple #[(u.map (·.2)).getD z,.bool u.isSome]else(u.map (·.2)).getD z) w:=by
     rcases Pe s (dh r hm) J with⟨e1,rfl⟩|⟨b,es,cl,e1,e2,e3⟩
     .refine⟨#[],⟨rfl,by simp⟩,λu C=>?_⟩
      unfold Instr.lookup;rw[e1];simp[Sem.run_bind,h3,Result.andThen_ok,Sem.run_pure,yQ D,C];cases u <;> cases ok <;> simp[hz]
     refine⟨es,e3,λu C=>?_⟩
     unfold Instr.lookup;rw[e1];simp[Sem.run_bind,h3,Result.andThen_ok,Sem.run_pure,zd e2 Zc,yQ D,C]
     cases u <;> cases ok <;> simp[hz]
    split at h
    .rename_i j y _ B;simp  at h;obtain⟨u,Y,q2,_⟩:=vo  D L B
     cases u with
     | none=>grind[lq]
     | some q=>
      obtain⟨_,hv,_⟩:=q2;refine⟨_,G _ Y,?_⟩;subst h
      cases ok with
      | true=>exact .QL (.cons hv (.cons (.c _ _ (.bool _)) .nil))
      | false=>exact hv
    .rename_i y B hy;simp  at h;obtain⟨u,Y,q2,_⟩:=vo  D L B
     cases u with
     | some q=>grind[lq]
     | none=>
      refine⟨_,G _ Y,?_⟩;subst h
      cases ok with
      | true=>exact .QL (.cons (X _ _ _ hy) (.cons (.c _ _ (.bool _)) .nil))
      | false=>grind
    grind
   grind
  grind
 grind
theorem IL (l:a_ Int) (d:Nat):Instr.sameBits (d+2) (.agg (ic l)) (.agg (ic l))=true:=by
 simp only[Instr.sameBits,beq_self_eq_true,Bool.true_and,List.all_eq_true];intro p t;obtain⟨j,u,rfl⟩:=List.mem_iff_getElem.1 t;simp[ic,Instr.sameBits]
theorem PX {t:TypeId} {k:V} {v:Value} (h:yq P E t k v):(Instr.keyThatStays v v).run P w=.ok v w:=by
 have:Instr.sameBits 10000 v v=true:=by
  cases h with
  | int k m h=>simp[Instr.sameBits]
  | str s h=>simp[Instr.sameBits];exact(by cases s;exact beq_self_eq_true (α:=Array UInt8) _)
  | agg m cs l h u z=>grind[IL]
 simp_all[Instr.keyThatStays]
theorem Fv {b:Nat} {es:Array MapEntry} {clock:Nat} (o:Obj) (h:w.heap[b]? = some (.map es clock)):(setObj b o).run P w=.ok () (fA w b o):=by
 simp only[setObj,Sem.run,h];rfl
theorem zY (hE:dU P E) (r:dP I μ n F a.tmps) (s:cR I μ H w) {t:TypeId} {m k y:Operand} {x:V} (h:cr E F H (.mapUpdate t m k y)=some (x,H')) :
 BG P I μ H w (do Instr.mapUpdate t (a.eval m) (a.eval k) (a.eval y);pure .skip) x H':=by
 simp only[cr]at h;split at h
 .rename_i kt et id X Y hk hm T hy;obtain⟨d,hd,Z⟩:=eZ hk;obtain⟨desc,h1,D,h3⟩:=(hE.ty hd).dx;rw[Z]at D;have:=zI D;subst this;split at h
  .rename_i C S;split at h
   .rename_i aa;simp only[ζf,ζc]at h;obtain⟨af,u,rfl,rfl⟩:=h;have G:=M8 hE aa (dh r T);obtain⟨p,es,cl,g1,g2,g3,g4⟩:=s.obs id _ S;obtain⟨q,hq,em⟩:=(dh r hm).B_;rw[g1]at hq;cases hq;have Q:=(Array.getElem?_eq_some_iff.1 g3).1;have ah:∀(f:Unit->Sem Next) ,True:=λ_=>trivial
    unfold oT at u;have ab:=dh r T;have ad:=dh r hy;split at u
    .rename_i j z B;simp only[ζa]at u;subst u;obtain⟨J,q1,q2,q3⟩:=vo (w:=w) G g4 B
     cases J with
     | none=>grind[lq]
     | some J=>
      obtain⟨j',zv⟩:=J;obtain⟨rfl,_,_,e',ai,_⟩:=q2;obtain⟨e2,U,aj⟩:=q3 j z rfl;have hj:=(Array.getElem?_eq_some_iff.1 U).1;have L:vg I μ (C.set j (X,Y)) (es.modify j λe=>{ e with key:=a.eval k,val:=a.eval y }):=by
       refine⟨by simpa using g4.1,λi q e h1 D=>?_⟩
       by_cases O:i=j
       .grind
       rw[List.getElem?_set_ne (Ne.symm O)]at h1;rw[Array.getElem?_modify]at D;rw[if_neg (Ne.symm O)]at D;exact g4.2 i q e h1 D
      obtain⟨s1,s2⟩:=s.write (ob':=.map (C.set j (X,Y))) (o:=.map (es.modify j λe=>{ e with key:=a.eval k,val:=a.eval y }) cl) S rfl g1
       ⟨p,_,cl,g1,g2,gD _ Q,L⟩
      refine⟨.skip,undef,_,μ,?_,.inr ⟨rfl,rfl⟩,.undef I μ,s1,s2⟩;unfold Instr.mapUpdate;rw[em];have W:((es[j]?).map (·.key)).getD (a.eval k)=a.eval k:=by rw[U];grind
      simp only[Sem.run_bind,h3,Result.andThen_ok,zd g3 Zc,yQ G,q1,W,PX G,Fv _ g3,Sem.run_pure]
    .rename_i B;simp only[ζa]at u;subst u;obtain⟨J,q1,q2,q3⟩:=vo (w:=w) G g4 B
     cases J with
     | some q=>grind[lq]
     | none=>
      have L:vg I μ (C++[(X,Y)]) (es.push { key:=a.eval k,val:=a.eval y,born:=cl }):=by
       refine⟨by simp[g4.1],λi q e h1 D=>?_⟩
       by_cases O:i<C.length
       .rw[List.getElem?_append_left O]at h1;rw[Array.getElem?_push]at D;rw[if_neg (by rw[<-g4.1];omega)]at D
        exact g4.2 i q e h1 D
       have ae:=(ζe.1 h1).1;simp at ae;have:i=C.length:=by omega
       subst this;simp at h1;subst h1;rw[Array.getElem?_push,if_pos g4.1]at D
       grind
      obtain⟨s1,s2⟩:=s.write (ob':=.map (C++[(X,Y)])) (o:=.map (es.push { key:=a.eval k,val:=a.eval y,born:=cl }) (cl+1)) S rfl g1
       ⟨p,_,_,g1,g2,gD _ Q,L⟩
      refine⟨.skip,undef,_,μ,?_,.inr ⟨rfl,rfl⟩,.undef I μ,s1,s2⟩;unfold Instr.mapUpdate;rw[em];simp only[Sem.run_bind,h3,Result.andThen_ok,zd g3 Zc,yQ G,q1,Fv _ g3,Sem.run_pure]
    grind
   simp at h
  simp at h
 simp at h
theorem SU (B:dU P E) (r:dP I μ n F a.tmps) (s:cR I μ H w) (o:Oper) {x:V} (h:dI E F H o.op=some x) :
 ∃v,(execOp a.eval o).run P w=.ok (.value v) w/\bE I μ x v:=by
 obtain⟨dst,op,ty,pos,after,guard⟩:=o;simp only at h
 cases op with
 | load t p=>
  simp only[dI]at h;split at h
  next d D hd C=>obtain⟨u,h1,z,_⟩:=Cn B s hd (dh r C) h;exact⟨u,eD h1,z⟩
  simp at h
 | lookup t m k ok=>
  obtain⟨u,h1,z⟩:=N5 B r s h;exact⟨u,eD h1,z⟩
 | _=>simp[dI]at h
theorem Sx (u:dU P E) (r:dP I μ n F a.tmps) (s:cR I μ H w) (o:Oper) {x:V} (h:cr E F H o.op=some (x,H')):BG P I μ H w (execOp a.eval o) x H':=by
 obtain⟨dst,op,ty,pos,after,guard⟩:=o;simp only at h
 cases op with
 | store t p q=>exact Oo u r s h
 | mapUpdate t m k y=>exact zY u r s h
 | insert t m k y=>exact zY (t:=t) (m:=m) (k:=k) (y:=y) u r s h
 | call c=>
  obtain⟨callee,args,z⟩:=c
  cases callee with
  | builtin b=>
   cases b with
   | append=>exact Nx u r s h
   | clear=>exact Oq u r s h
   | _=>simp[cr]at h
  | _=>grind[cr]
 | _=>simp[cr]at h
end
theorem tT {xs:a_ V} (h:V.gQ xs=true):∀x∈xs,V.closed x=true:=by
 induction xs with
 | nil=>simp
 | cons x r t=>
  grind[V.gQ]
theorem uf {xs:a_ V} (h:V.cF xs=true):∀x∈xs,V.scalar x=true:=by
 induction xs with
 | nil=>simp
 | cons x r t=>
  grind[V.cF]
section
variable {I I':ck} {μ:Mu} {H H':bn} {w:World}
theorem bE.closed {x:V} {v:Value} (h:bE I μ x v) (hc:x.closed=true):dW I x v:=by
 induction h with
 | c x v h=>omega
 | hsl id off len cap p t h1 L=>grind[V.closed]
 | hsl0 id es off a=>grind[V.closed]
 | hptr id el off p t=>grind[V.closed]
 | yld id p t=>grind[V.closed]
 | hmap id p t=>grind[V.closed]
 | clo f x y u v G J _ _ w z=>
  simp[V.closed]at hc;exact .clo f x y u v G J (λj a b p q=>w j a b p q (tT hc.1 a (List.mem_of_getElem? p))) (λj a b p q=>z j a b p q (tT hc.2 a (List.mem_of_getElem? p)))
 | agg cs B C _ D=>
  exact .agg cs B C λj a b p q=>D j a b p q (tT hc a (List.mem_of_getElem? p))
 | tup cs B C _ D=>
  exact .tup cs B C λj a b p q=>D j a b p q (tT hc a (List.mem_of_getElem? p))
theorem dW.scalar {x:V} {v:Value} (h:dW I x v) (B:x.scalar=true):dW I' x v:=by
 induction h with
 | bool b=>exact .bool b
 | int k n=>exact .int k n
 | str s=>exact .str s
 | c_ a=>exact .c_ a
 | bN=>exact .bN
 | gN=>exact .gN
 | gi=>exact .gi
 | rK=>exact .rK
 | agg cs t u _ w=>
  exact .agg cs t u λj a b p q=>w j a b p q (uf B a (List.mem_of_getElem? p))
 | tup cs t u _ w=>
  exact .tup cs t u λj a b p q=>w j a b p q (uf B a (List.mem_of_getElem? p))
 | _=>grind[V.scalar]
theorem iB {f:V->bf V}:∀{xs ys:a_ V},iy f xs=some ys->ys.length=xs.length/\∀(j:Nat) y,ys[j]? = some y->∃x,xs[j]? = some x/\f x=some y:=by
 intro xs
 induction xs with
 | nil=>grind[iy]
 | cons x xs t=>
  grind[iy]
theorem Kw {f:V->bf V}:∀{xs ys:a_ (a_ V)},kY f xs=some ys->ys.length=xs.length/\∀(j:Nat) y,ys[j]? = some y->∃x,xs[j]? = some x/\iy f x=some y:=by
 intro xs
 induction xs with
 | nil=>grind[kY]
 | cons x xs t=>
  grind[kY]
theorem LH {f:V->bf V}:∀{xs ys:a_ (V×V)},kU f xs=some ys->ys.length=xs.length/\∀(j:Nat) y,ys[j]? = some y->∃x,xs[j]? = some x/\f x.1=some y.1/\f x.2=some y.2:=by
 intro xs
 induction xs with
 | nil=>grind[kU]
 | cons x xs t=>
  grind[kU]
def Obj.ic:Obj->bf IC
 | .cells c _ _=>some (.cells c)
 | .map es _=>some (.map es)
 | _=>none
def AO (μ:Mu) (H:bn) (T:a_ Nat) (b:Nat):Prop:=∃id p ob,id∈T/\H[id]? = some ob/\ob.live=true/\μ id=some p/\p.b=b
open Classical in
noncomputable def plus (I:ck) (μ:Mu) (H:bn) (w:World) (T:a_ Nat):ck:=λb=>
 match I b with
 | some x=>some x
 | none=>if AO μ H T b then(w.heap[b]?).bind Obj.ic else none
theorem ov (I:ck) (μ:Mu) (H:bn) (w:World) (T:a_ Nat):ck.le I (plus I μ H w T):=by
 intro b x h;grind[plus]
theorem tG (s:cR I μ H w) (T:a_ Nat):∀b x,plus I μ H w T b=some x->x.at w b:=by
 intro b x h;unfold plus at h;split at h
 next y z=>cases h;exact s.imm b _ z
 split at h
 .obtain⟨o,u,t⟩:=ζg.1 h;cases o <;> simp[Obj.ic]at t
  .subst t;exact⟨_,_,u⟩
  subst t;exact⟨_,u⟩
 grind
theorem yg {T:a_ Nat} {b:Nat} (h:(plus I μ H w T b).isSome=true):(I b).isSome=true\/AO μ H T b:=by
 grind[plus]
theorem Bx {T:a_ Nat} {b:Nat} (h:AO μ H T b):gR μ H b:=by
 obtain⟨id,p,ob,_,h1,t,u,w⟩:=h;exact⟨id,p,ob,h1,t,u,w⟩
theorem Cc (s:cR I μ H w) {T:a_ Nat} {id es:Nat} {xs:a_ (a_ V)} (u:id∈T) (h:(H[id]?).bind Ob.rows=some (es,xs)) :
 ∃p c,μ id=some p/\plus I μ H w T p.b=some (.cells c)/\fU I μ p c es xs:=by
 obtain⟨ob,h1,z⟩:=ζg.1 h;have t:=s.obs id ob h1;rcases Hw z with rfl|rfl
 .obtain⟨p,c,el,g1,g2,g3,g4⟩:=t;refine⟨p,c,g1,?_,g4⟩;have B:AO μ H T p.b:=⟨id,p,_,u,h1,rfl,g1,rfl⟩
  grind[plus,Obj.ic]
 obtain⟨p,c,g1,g2,g4⟩:=t;exact⟨p,c,g1,ov _ _ _ _ _ _ _ g2,g4⟩
theorem fU.idx {p:Pl} {c:Array Value} {es:Nat} {xs:a_ (a_ V)} (r:fU I μ p c es xs) {i j:Nat} {x:a_ V} {y:V} {v:Value} (h1:xs[i]? = some x) (B:x[j]? = some y)
 (D:c[p.o+i*es+j]? = some v):bE I μ y v:=by
 have u:=we r.oK h1 B;refine r.rel.2 (i*es+j) y v u ?_;have t:=(ζe.1 u).1;rw[fu r.oK]at t
 grind
theorem jN {f:V->a_ Nat} {xs:a_ V} {x:V} {k:Nat} (u:x∈xs) (hk:k∈f x):k∈cN f xs:=by
 induction xs with
 | nil=>simp_all
 | cons y r t=>
  grind[cN]
theorem kM (n:Nat) (H:bn) {x:V} (h:x.closed=true):borrow n H x=some x:=by
 cases n <;> simp[borrow,h]
theorem uM (s:cR I μ H w) (T:a_ Nat):∀(n:Nat) (x y:V) (v:Value),borrow n H x=some y->(∀k∈b7 n H x,k∈T)->bE I μ x v ->
 dW (plus I μ H w T) y v/\(x.one=true->y.one=true):=by
 intro n
 induction n with
 | zero=>
  intro x y v h _ hv;simp only[borrow]at h;split at h
  next hc=>simp  at h;subst h;exact⟨(hv.closed hc).mono (ov _ _ _ _ _),id⟩
  grind
 | succ n ih=>
  intro x y v h L hv;simp[borrow]at h;split at h
  next hc=>simp  at h;subst h;exact⟨(hv.closed hc).mono (ov _ _ _ _ _),id⟩
  rename_i ak;simp[b7,if_neg ak]at L;split at h
  .
   rename_i id es off len;split at h
   .rename_i t xs G;split at h
    .rename_i hc;obtain⟨rfl,al⟩:=hc;simp only[G]at L;simp  at h;obtain⟨S,hz,rfl⟩:=h;obtain⟨aa,U⟩:=Kw hz;refine⟨?_,λ_=>rfl⟩
     have ai:S.length=len:=by grind
     rcases hv.lB with⟨p,cap,hm,hp,aq,hb,rfl⟩|⟨h0,a,rfl⟩
     .obtain⟨p',c,g1,g2,g3⟩:=Cc s  (L id Zc) G
      rw[hm]at g1;cases g1;have W:∀i z,S[i]? = some z->∃O,xs[off+i]? = some O/\iy (borrow n H) O=some z:=by
       grind
      have aj:∀i O,i<len->xs[off+i]? = some O->∀q∈O,∀k∈b7 n H q,k∈T:=by
       intro i O hi am q hq k hk;refine L k ?_;refine List.mem_cons_of_mem _ (jN (List.mem_flatten.2 ⟨O,List.mem_of_getElem? (i:=i) ?_,hq⟩) hk);rw[List.getElem?_take,if_pos hi,List.getElem?_drop];exact am
      have ar:dW (plus I μ H w T) (.fsl t S) (.slice (some ⟨p.b,p.o+off*t,none⟩) S.length cap):=by
       refine .fsl t S p.b (p.o+off*t) cap c g2 Za ?_ ?_ ?_ ?_
       .intro z ae;obtain⟨i,hi⟩:=List.mem_iff_getElem?.1 ae;obtain⟨O,D,X⟩:=W i z hi;rw[(iB X).1];exact g3.oK O (List.mem_of_getElem? D)
       .intro z ae q hq;obtain⟨i,hi⟩:=List.mem_iff_getElem?.1 ae;obtain⟨O,D,X⟩:=W i z hi;obtain⟨j,hj⟩:=List.mem_iff_getElem?.1 hq;obtain⟨J,C,Y⟩:=(iB X).2 j q hj;have ab:=List.mem_of_getElem? D;have ad:=List.mem_of_getElem? C;have an:=g3.room;have av:=g3.oK O ab;have aw:=(ζe.1 C).1;have ao:=(ζe.1 D).1;have au:(off+i)*t+t<=xs.length*t:=by
         have:=Nat.mul_le_mul_right t (ao)
         grind
        have ap  := by omega
        have Z:=g3.idx D C (v:=c[p.o+(off+i)*t+j]) (by simp[ap])
        exact(ih J q _ Y (aj i O (by have:=(ζe.1 hi).1;omega) D J ad) Z).2 (g3.one O ab J ad)
       .have h1:=(g3.span al).2
        grind
       intro i j z q u hi hj hu;obtain⟨O,D,X⟩:=W i z hi;obtain⟨J,C,Y⟩:=(iB X).2 j q hj;have Z:=g3.idx D C (v:=u) Zd
       exact(ih J q u Y (aj i O (by have:=(ζe.1 hi).1;omega) D J (List.mem_of_getElem? C)) Z).1
      grind
     subst h0;have  := List.eq_nil_of_length_eq_zero ai;subst this;exact .fsl0 t _ _
    grind
   grind
  .
   rename_i id el off;split at h
   .rename_i t xs G;split at h
    .rename_i cs af;split at h
     .simp only[G]at L;simp  at h;obtain⟨S,hz,rfl⟩:=h;obtain⟨aa,U⟩:=iB hz;refine⟨?_,λ_=>rfl⟩
      obtain⟨p,hm,rfl⟩:=hv.tj;obtain⟨p',c,g1,g2,g3⟩:=Cc s  (L id Zc) G
      rw[hm]at g1;cases g1;obtain⟨k1,k2,k3⟩:=g3.elem af;rw[g3.es_eq];refine .fptr S p.b _ c g2 ?_ ?_
      .rw[aa,List.length_drop];omega
      intro j q u hj hu;obtain⟨J,C,Y⟩:=U j q hj;rw[List.getElem?_drop]at C;have Z:=g3.idx af C  (by rw[<-Nat.add_assoc];exact hu)
      refine(ih J q u Y (λk hk=>L k ?_) Z).1
      exact List.mem_cons_of_mem _ (jN (List.mem_of_getElem? (i:=j) (by rw[af,Option.getD_some,List.getElem?_drop];exact C)) hk)
     simp at h
    simp at h
   simp at h
  .
   rename_i id;split at h
   .rename_i ax ah;simp  at h;obtain⟨S,hz,rfl⟩:=h;simp only[ah]at L;obtain⟨aa,U⟩:=LH hz;refine⟨?_,λ_=>rfl⟩
    obtain⟨p,hm,rfl⟩:=hv.B_;obtain⟨p',es,cl,g1,g2,g3,g4⟩:=s.obs id _ ah;rw[hm]at g1;cases g1;have ht:AO μ H T p.b:=⟨id,p,_,L id Zc,ah,rfl,hm,rfl⟩
    have hI:plus I μ H w T p.b=some (.map es):=by
     grind[plus,Obj.ic]
    refine .fmap S p.b es hI (by rw[aa];exact g4.1) ?_ ?_
    .intro j q e hj he;obtain⟨J,h1,h2,h3⟩:=U j q hj;refine(ih J.1 q.1 e.key h2 (λk hk=>L k ?_) (g4.2 j J e h1 he).1).1
     exact List.mem_cons_of_mem _ (List.mem_append.2 (.inl (jN (List.mem_map.2 ⟨J,List.mem_of_getElem? h1,rfl⟩) hk)))
    intro j q e hj he;obtain⟨J,h1,h2,h3⟩:=U j q hj;refine(ih J.2 q.2 e.val h3 (λk hk=>L k ?_) (g4.2 j J e h1 he).2).1
    exact List.mem_cons_of_mem _ (List.mem_append.2 (.inr (jN (List.mem_map.2 ⟨J,List.mem_of_getElem? h1,rfl⟩) hk)))
   simp at h
  .rename_i f p q;split at h
   .rename_i p' q' hp hq;simp  at h;subst h;obtain⟨u1,u2,rfl,r1,r2⟩:=hv.jU;obtain⟨l1,m1⟩:=iB hp;obtain⟨l2,m2⟩:=iB hq;refine⟨.clo f p' q' u1 u2 (by rw[l1];simpa using r1.1) (by rw[l2];simpa using r2.1) ?_ ?_,λ_=>rfl⟩
    .intro j a b ha hb;obtain⟨a0,B,Q⟩:=m1 j a ha;exact(ih a0 a b Q (λk hk=>L k (List.mem_append.2 (.inl (jN (List.mem_of_getElem? B) hk)))) (r1.2 j a0 b B Zd)).1
    intro j a b ha hb;obtain⟨a0,B,Q⟩:=m2 j a ha;exact(ih a0 a b Q (λk hk=>L k (List.mem_append.2 (.inr (jN (List.mem_of_getElem? B) hk)))) (r2.2 j a0 b B Zd)).1
   simp at h
  .rename_i cs;simp  at h;obtain⟨S,hz,rfl⟩:=h;obtain⟨l1,m1⟩:=iB hz;obtain⟨u1,rfl,r1⟩:=hv.h_;refine⟨.agg S u1 (by rw[l1];simpa using r1.1) ?_,λh=>by grind[V.one]⟩
   intro j a b ha hb;obtain⟨a0,B,Q⟩:=m1 j a ha;exact(ih a0 a b Q (λk hk=>L k (jN (List.mem_of_getElem? B) hk)) (r1.2 j a0 b B Zd)).1
  .rename_i cs;simp  at h;obtain⟨S,hz,rfl⟩:=h;obtain⟨l1,m1⟩:=iB hz;obtain⟨u1,rfl,r1⟩:=hv.qe;refine⟨.tup S u1 (by rw[l1];simpa using r1.1) ?_,λh=>by grind[V.one]⟩
   intro j a b ha hb;obtain⟨a0,B,Q⟩:=m1 j a ha;exact(ih a0 a b Q (λk hk=>L k (jN (List.mem_of_getElem? B) hk)) (r1.2 j a0 b B Zd)).1
  grind
end
def fr (ro:bf Nat):Fence:={ fn:=λ_=>True,depth:=none,alive:=false,round:=ro }
def xT (I:ck) (μ:Mu) (H:bn) (w:World) (r:V) (H':bn):Ending->World->Prop:=
 λe w'=>∃u I' μ',e=.returned u/\bE I' μ' r u/\cR I' μ' H' w'/\Step I μ H w I' μ' H' w'
def yu (P:Program) (f:FuncId):Prop:=∃fn,P.funcs[f]? = some fn/\fn.body.isSome=true/\(fn.name == "runtime.NumGoroutine")=false
structure kz (P:Program) (call:dz):Prop where
 fn:∀f args H r H',call (.fn f) args H=some (r,H')->yu P f/\∀I μ w vs,cR I μ H w->cA I μ args vs->CallsIn (fr none) 0 P f vs.toArray w (xT I μ H w r H')
 yld:∀id args H r H',call (.yld id) args H=some (r,H')->∀I μ w vs p,cR I μ H w->cA I μ args vs->μ id=some p ->
  ∃l f tmps assign body,(Instr.yield p.b vs.toArray).run P w=.ok (.round l f tmps assign body) w/\RoundIn (fr none) 0 P l f tmps assign body w (xT I μ H w r H')
def sF:Ob->Ob
 | .row es xs=>.frz es xs
 | .map _=>.dead
 | o=>o
theorem FJ (H:bn) (k id:Nat):(uK H k)[id]? = (H[id]?).map λob=>if id=k then sF ob else ob:=by
 unfold uK
 by_cases e:id=k
 .subst e
  cases h:H[id]? with
  | none=>simp[h]
  | some ob=>
   have t:=(ζe.1 h).1;cases ob <;> simp[sF,t] <;> exact(ζe.1 h).2
 grind
theorem IJ (o:Ob):sF (sF o)=sF o:=by cases o <;> rfl
theorem hG:∀(T:a_ Nat) (H:bn) (id:Nat),(cG H T)[id]? = (H[id]?).map λob=>if id∈T then sF ob else ob:=by
 intro T
 induction T with
 | nil=>simp[cG]
 | cons k T t=>
  intro H id;have:=t (uK H k) id
  grind[cG,FJ,IJ]
theorem kR (T:a_ Nat) (H:bn):(cG H T).length=H.length:=by
 induction T generalizing H with
 | nil=>rfl
 | cons k T t=>
  simp[cG]at t ⊢;rw[t]
  grind[uK]
section
variable {P:Program} {I I':ck} {μ μ':Mu} {H H':bn} {w w':World}
theorem cR.kept (s:cR I μ H w) (hk:∀b,b<w.heap.size->w'.heap[b]? = w.heap[b]?):cR I μ H w' where
 dom:=s.dom
 imm:=λb x h=>IC.rJ (s.imm b x h) (hk b (s.GB h))
 obs:=λid ob h=>(s.obs id ob h).mono (ck.le_refl _) (Mu.le_refl _) (λp t u=>by
  have B:gR μ H p.b:=⟨id,p,ob,h,u,t,rfl⟩
  grind[mJ,fK]) (λz=>by subst z;exact s.obs id _ h)
 inj:=s.inj
 gl:=s.gl
theorem qM (μ:Mu) (b:Nat):¬gR μ [] b:=by
 rintro⟨id,p,ob,h,_⟩;simp_all
theorem Dt {call:dz} (hc:kz P call) {f:FuncId} {args:a_ V} {y:V} (h:b8 call f args H=some y) (s:cR I μ H w) {vs:a_ Value} (hv:cA I μ args vs) :
 yu P f/\CallsIn (fr none) 0 P f vs.toArray w (xT I μ H w y (if y.scalar then H else cG H (cN (b7 call.lv H) args))):=by
 unfold b8 at h;split at h
 .rename_i az has;split at h
  .rename_i r H1 Q;split at h
   .rename_i y' hy;split at h
    .rename_i Z;simp  at h;subst h;generalize hT:cN (b7 call.lv H) args=T;obtain⟨aa,C⟩:=iB has;have s0:cR (plus I μ H w T) (λ_=>none) [] w:=⟨λ_ _=>rfl,tG s T,by simp,by simp,s.gl.mono (ov I μ H w T)⟩
     have S:cA (plus I μ H w T) (λ_=>none) az vs:=by
      refine⟨aa.trans hv.1,λj a b h1 t=>?_⟩
      obtain⟨x,X,ae⟩:=C j a h1;refine .c _ _ (uM s T call.lv x a b ae (λk hk=>?_) (hv.2 j x b X t)).1
      rw[<-hT];exact jN (List.mem_of_getElem? X) hk
     obtain⟨hf,J⟩:=hc.fn f az [] r H1 Q;refine⟨hf,(J _ _ w vs s0 S).mono ?_⟩;rintro e w' ⟨u,I1,μ1,rfl,hr,s1,st⟩;have z  := λb C=>st.frame b C (qM _ _)
     generalize aj:b7 call.lv H1 r=T1;have ab:=(uM s1 T1 call.lv r y' u hy (λk hk=>by grind) hr).1
     cases af:y'.scalar with
     | true=>
      exact⟨u,I,μ,rfl,.c _ _ (ab.scalar af),s.kept z,⟨ck.le_refl _,Mu.le_refl _,Nat.le_refl _,st.size,λb C _=>z b C,λ_ h=>h.elim .inl λh=>.inr (.inl h),st.os,st.out,st.fz⟩⟩
     | false=>
      simp only[Bool.false_eq_true,if_false]
      let I2:=plus I1 μ1 H1 w' T1
      have D:ck.le I I2:=ck.le_trans (ov I μ H w T) (ck.le_trans st.le (ov _ _ _ _ _));have U:∀b,(I2 b).isSome=true->(I b).isSome=true\/AO μ H T b\/w.heap.size<=b:=by
       intro b C;have h1:(I1 b).isSome=true\/gR μ1 H1 b:=by
        rcases yg C with h|h
        all_goals grind[Bx]
       rcases st.terr b h1 with h|h|h
       all_goals grind[yg,qM]
      have W:∀id ob p,H[id]? = some ob->ob.live=true->id∉T->μ id=some p->I2 p.b=none:=by
       intro id ob p h1 t h3 h4
       cases hI:I2 p.b with
       | none=>rfl
       | some x=>
        have ho:gR μ H p.b:=⟨id,p,ob,h1,t,h4,rfl⟩;rcases U p.b Zd with h|⟨L,p',ah,g0,g1,g2,g3,g4⟩|h
        .rw[fK s ho]at h;cases h
        .have:=s.inj L id ah ob p' p g1 h1 g2 t g3 h4 g4;simp_all
        have:=mJ s ho;omega
      have O:∀id x,(cG H T)[id]? = some x->∃ob,H[id]? = some ob/\x=(if id∈T then sF ob else ob):=by
       grind[hG]
      have B:∀id x,(cG H T)[id]? = some x->x.live=true->H[id]? = some x/\(id∉T\/∃r,x=.loop r):=by
       intro id x X hl;obtain⟨ob,h1,t⟩:=O id x X
       by_cases Y:id∈T
       .rw[if_pos Y]at t;cases ob <;> simp[sF]at t <;> subst t <;> simp[Ob.live]at hl
        grind
       grind
      refine⟨u,I2,μ,rfl,.c _ _ ab,⟨?_,?_,?_,?_,s.gl.mono D⟩,⟨D,Mu.le_refl _,by rw[kR];grind,st.size,λb C _=>z b C,?_,st.os,st.out,st.fz⟩⟩
      .intro id h;rw[kR]at h;exact s.dom id h
      .grind[tG]
      .intro id x X;obtain⟨ob,h1,t⟩:=O id x X;have G:=s.obs id ob h1
       by_cases Y:id∈T
       .rw[if_pos Y]at t
        cases ob with
        | row es xs=>
         subst t;obtain⟨p,c,g1,g2,g3⟩:=Cc s  Y    (by rw[h1];rfl)
         exact⟨p,c,g1,ov _ _ _ _ _ _ _ (st.le _ _ g2),g3.mono D (Mu.le_refl _)⟩
        | frz es xs=>
         subst t;exact G.mono D (Mu.le_refl _) (λp _ hl=>by grind[Ob.live]) (λhe=>by cases he)
        | map ak=>subst t;trivial
        | free=>simp[sF]at t;subst t;exact G
        | dead=>subst t;trivial
        | loop r=>
         simp[sF]at t;subst t;obtain⟨p,l,g1,g2,g3,g4⟩:=G;refine⟨p,l,g1,?_,?_,g4.mono D (Mu.le_refl _)⟩
         .
          cases hI:I2 p.b with
          | none=>rfl
          | some x=>
           have ad:=tG s1 T1 p.b x hI;have ai  := (Array.getElem?_eq_some_iff.1 g3).1;have hh:=z p.b ai;rw[g3]at hh
           cases x with
           | cells c=>obtain⟨_,_,q⟩:=ad;rw[hh]at q;cases q
           | map es=>obtain⟨_,q⟩:=ad;rw[hh]at q;cases q
         grind
       rw[if_neg Y]at t;subst t;refine G.mono D (Mu.le_refl _) (λp hp hl=>⟨z _ (mJ s ⟨id,p,x,h1,hl,hp,rfl⟩),W id x p h1 hl Y hp⟩) (λhe=>by subst he;exact G)
      .intro id L o1 o2 p p' h1 t l1 l2 m1 m2 C;exact s.inj id L o1 o2 p p' (B id o1 h1 l1).1 (B L o2 t l2).1 l1 l2 m1 m2 C
      intro b C;rcases C with h|⟨id,p,x,h1,t,h3,rfl⟩
      .grind[Bx]
      exact .inr (.inl ⟨id,p,x,(B id x h1 t).1,t,h3,rfl⟩)
    grind
   grind
  grind
 grind
theorem bE.scalar {x:V} {v:Value} (h:bE I μ x v) (u:x.scalar=true):bE I' μ' x v:=by
 have key:∀(l:a_ V) (t:a_ Value),(∀x∈l,∀v,bE I μ x v->x.scalar=true->bE I' μ' x v)->V.cF l=true->(∀(j:Nat) a b,l[j]? = some a->t[j]? = some b->bE I μ a b) ->
  ∀(j:Nat) a b,l[j]? = some a->t[j]? = some b->bE I' μ' a b:=by
  intro l
  induction l with
  | nil=>grind
  | cons x l z=>
   intro t h1 G J j a b B C;simp only[V.cF,ζh]at G
   cases j with
   | zero=>
    grind
   | succ j=>
    cases t with
    | nil=>simp at C
    | cons v t=>exact z t (λy w=>h1 y (List.mem_cons_of_mem _ w)) G.2 (λj a b p q=>J (j+1) a b Zd Zd) j a b Zd Zd
 have main:∀(k:Nat) (x:V) (v:Value),SizeOf.sizeOf x<k->bE I μ x v->x.scalar=true->bE I' μ' x v:=by
  intro k
  induction k with
  | zero=>grind
  | succ k z=>
   intro x v hk h u
   cases h with
   | c _ _ h=>exact .c _ _ (h.scalar u)
   | agg cs t D h=>
    refine .agg cs t D (λj a b B C=>key cs t.toList (λy w v hv u=>z y v ?_ hv u) u (λj a b p q=>h j a b p (by simpa using q)) j a b B Zd)
    have:=List.sizeOf_lt_of_mem w
    grind
   | tup cs t D h=>
    refine .tup cs t D (λj a b B C=>key cs t.toList (λy w v hv u=>z y v ?_ hv u) u (λj a b p q=>h j a b p (by simpa using q)) j a b B Zd)
    have:=List.sizeOf_lt_of_mem w
    grind
   | _=>grind[V.scalar]
 exact main (SizeOf.sizeOf x+1) x v Za h u
theorem cR.K6 (s:cR I μ H w) {ob:Ob} {p:Pl} (O:ob≠.free) (hI:I p.b=none) (D:¬gR μ H p.b) (T:sj I (μ.fT H.length p) w H.length ob) :
 cR I (μ.fT H.length p) (H++[ob]) w:=by
 have hk  := s.dom _ (Nat.le_refl _);have t:∀id x,(H++[ob])[id]? = some x->(id≠H.length/\H[id]? = some x)\/(id=H.length/\x=ob):=by
  grind
 refine⟨?_,s.imm,?_,?_,s.gl⟩
 .intro id h;simp at h;rw[Mu.iq _ _ Za];exact s.dom id Za
 .intro id x h;rcases t id x h with⟨e,h⟩|⟨rfl,rfl⟩
  .refine(s.obs id x h).mono (ck.le_refl _) (Mu.qo hk) (λq Q S=>?_) (λU=>by subst U;rw[Mu.iq _ _ e];exact s.obs id _ h)
   exact⟨rfl,fK s ⟨id,q,x,h,S,Q,rfl⟩⟩
  grind
 intro id u o1 o2 q G h1 W J L z B C;rcases t id o1 h1 with⟨e1,k1⟩|⟨X,Z⟩ <;> rcases t u o2 W with⟨e2,k2⟩|⟨Y,b2⟩
 .rw[Mu.iq _ _ e1]at z;rw[Mu.iq _ _ e2]at B;exact s.inj id u o1 o2 q G k1 k2 J L z B C
 .subst Y;rw[Mu.iq _ _ e1]at z;rw[Mu.fN]at B;cases B;exact absurd ⟨id,q,o1,k1,J,z,C⟩ D
 .subst X;rw[Mu.iq _ _ e2]at B;rw[Mu.fN]at z;cases z;exact absurd ⟨u,G,o2,k2,L,B,C.symm⟩ D
 grind
theorem Uj {call:dz} (hc:kz P call) {f:FuncId} {args:a_ V} {y:V} (h:nH call f args H=some (y,H')) (s:cR I μ H w) {vs:a_ Value} (hv:cA I μ args vs) :
 yu P f/\CallsIn (fr none) 0 P f vs.toArray w (xT I μ H w y H'):=by
 unfold nH at h;split at h
 .rename_i az has;split at h
  .rename_i r H1 J;generalize hT:cN (b7 call.lv H) args=T;obtain⟨U,C⟩:=iB has;have s0:cR (plus I μ H w T) (λ_=>none) [] w:=⟨λ_ _=>rfl,tG s T,by simp,by simp,s.gl.mono (ov I μ H w T)⟩
   have L:cA (plus I μ H w T) (λ_=>none) az vs:=by
    refine⟨U.trans hv.1,λj a b h1 h2=>?_⟩
    obtain⟨x,S,aa⟩:=C j a h1;refine .c _ _ (uM s T call.lv x a b aa (λk hk=>?_) (hv.2 j x b S h2)).1
    rw[<-hT];exact jN (List.mem_of_getElem? S) hk
   obtain⟨hf,D⟩:=hc.fn f az [] r H1 J;refine⟨hf,(D _ _ w vs s0 L).mono ?_⟩;rintro e w' ⟨u,I1,μ1,rfl,hr,s1,st⟩;have t:∀b,b<w.heap.size->w'.heap[b]? = w.heap[b]? := λb C=>st.frame b C (qM _ _)
   have sk:cR I μ H w':=s.kept t;have ab:Step I μ H w I μ H w':=⟨ck.le_refl _,Mu.le_refl _,Nat.le_refl _,st.size,λb C _=>t b C,λ_ h=>h.elim .inl λh=>.inr (.inl h),st.os,st.out,st.fz⟩
   split at h
   next ae=>simp only[ζa,ζc]at h;obtain⟨rfl,rfl⟩:=h;exact⟨u,I,μ,rfl,hr.scalar ae,sk,ab⟩
   
   have key:∀(id es off len:Nat) (v:V) (ob:Ob) (u:Value),uJ H.length H1 id es off len=some (v,ob)->bE I1 μ1 (.hsl id es off len) u ->
    ∃p,bE I (μ.fT H.length p) v u/\cR I (μ.fT H.length p) (H++[ob]) w'/\Step I μ H w I (μ.fT H.length p) (H++[ob]) w':=by
    intro id es off len v ob u z hu;unfold uJ at z;split at z
    .rename_i W xs G;split at z
     .rename_i O;obtain⟨rfl,am⟩:=O;obtain⟨rfl,rfl⟩:=z;obtain⟨p,c,el,g1,g2,g3,g4⟩:=s1.obs id _ G;have an:w.heap.size<=p.b:=by
       rcases st.terr p.b (.inr ⟨id,p,_,G,rfl,g1,rfl⟩)with h|h|h
       .obtain⟨x,S⟩:=Option.isSome_iff_exists.1 h;have:=st.le _ _ S
        grind
       all_goals grind[qM]
      have hI:I p.b=none:=by
       cases S:I p.b with
       | none=>rfl
       | some x=>have:=s.GB S;omega
      have hn:¬gR μ H p.b:=λho=>by have:=mJ s ho;omega
      have af:fU I (μ.fT H.length p) p c W xs:=by
       refine⟨g4.es_eq,g4.sz,g4.oK,g4.one,g4.room,g4.rel.1,λj a b z C=>(g4.rel.2 j a b z C).scalar ?_⟩
       have Z:=List.mem_of_getElem? z;rw[List.mem_flatten]at Z
       grind
      have sa:=sk.K6 (ob:=.row W xs)  Zc hI hn ⟨p,c,el,Mu.fN _ _ _,hI,g3,af⟩
      refine⟨p,?_,sa,⟨ck.le_refl _,Mu.qo (s.dom _ (Nat.le_refl _)),by simp,st.size,λb C _=>t b C,?_,st.os,st.out,st.fz⟩⟩
      .rcases hu.lB with⟨p',cap,Z,ah,ai,aj,ee⟩|⟨h0,ad,ee⟩
       .rw[g1]at Z;cases Z;rw[ee];subst ah;exact .hsl _ off len cap p (Mu.fN _ _ _) ai aj
       rw[ee,h0];exact .hsl0 _ _ _ _
      rintro b (h|⟨k,q,x,h1,h2,h3,rfl⟩)
      .exact .inl h
      by_cases e:k=H.length
      .grind[Mu.fN]
      rw[Mu.iq _ _ e]at h3;have ak:k<H.length:=by
       have:=(ζe.1 h1).1
       grind
      rw[List.getElem?_append_left ak]at h1;exact .inr (.inl ⟨k,q,x,h1,h2,h3,rfl⟩)
     grind
    grind
   split at h
   next id es off len _=>simp only[ζf]at h;obtain⟨⟨v,ob⟩,z,rfl,rfl⟩:=h;obtain⟨p,k1,k2,k3⟩:=key id es off len v ob u z hr;exact⟨u,I,_,rfl,k1,k2,k3⟩
   .rename_i id es off len rest _;split at h
    .rename_i Q;simp only[ζf,ζc]at h;obtain⟨⟨v,ob⟩,z,rfl,rfl⟩:=h;obtain⟨us,rfl,B⟩:=hr.qe;have X:0<us.toList.length:=by have:=B.1;grind
     obtain⟨u0,ur,Y⟩:∃u0 ur,us.toList=u0::ur:=by
      cases hl:us.toList with
      | nil=>rw[hl]at X;simp at X
      | cons a b=>grind
     rw[Y]at B;obtain⟨p,k1,k2,k3⟩:=key id es off len v ob u0 z (B.2 0 _ _ rfl rfl);refine⟨_,I,_,rfl,.tup _ _ ?_ ?_,k2,k3⟩
     .have:=B.1;grind
     intro j a b hj C;have al:(u0::ur)[j]? = some b:=by rw[<-Y];grind
     cases j with
     | zero=>grind
     | succ j=>
      simp at hj al;refine(B.2 (j+1) a b Zd Zd).scalar ?_
      have:∀(l:a_ V),V.cF l=true->∀x∈l,x.scalar=true:=by
       intro l
       induction l with
       | nil=>grind
       | cons y l ih=>
        simp_all[V.cF]
      exact this rest Q a (List.mem_of_getElem? hj)
    simp at h
   grind
  grind
 grind
theorem Vc {E:Env} {call:dz} (hc:kz P call) {f:FuncId} {args:a_ V} {y:V} (h:gP E call f args H=some (y,H')) (s:cR I μ H w) {vs:a_ Value} (hv:cA I μ args vs) :
 yu P f/\CallsIn (fr none) 0 P f vs.toArray w (xT I μ H w y H'):=by
 unfold gP at h;split at h
 .grind[Uj]
 obtain⟨k1,k2⟩:=hc.fn f args H y H' h
 grind
end
def Ob.mp:Ob->bf (a_ (V×V))
 | .map u=>some u
 | _=>none
def mh (H H2:bn):Prop:=∀id:Nat,(H[id]?).bind Ob.rows=(H2[id]?).bind Ob.rows/\(H[id]?).bind Ob.mp=(H2[id]?).bind Ob.mp
theorem mh.refl (H:bn):mh H H:=λ_=>⟨rfl,rfl⟩
theorem mh.symm {H H2:bn} (h:mh H H2):mh H2 H:=λid=>⟨(h id).1.symm,(h id).2.symm⟩
theorem mh.trans {H H2 u:bn} (h:mh H H2) (k:mh H2 u):mh H u:=λid=>⟨(h id).1.trans (k id).1,(h id).2.trans (k id).2⟩
theorem mh.of_eq {H H2:bn} (h:H=H2):mh H H2:=by subst h;exact .refl _
theorem Jj {H H2:bn} (h:mh H H2):∀n,borrow n H=borrow n H2:=by
 intro n
 induction n with
 | zero=>funext x;rfl
 | succ n t=>
  funext x
  cases x with
  | hsl id es off len=>simp only[borrow,(h id).1,t]
  | hptr id el off=>simp only[borrow,(h id).1,t]
  | hmap id=>
   have:=(h id).2;simp only[borrow,t];split
   .rfl
   cases h1:H[id]? with
   | none=>
    grind[Ob.mp]
   | some o=>
    cases u:H2[id]? with
    | none=>rw[h1,u]at this;all_goals grind[Ob.mp]
    | some o2=>rw[h1,u]at this;cases o <;> cases o2 <;> simp[Ob.mp]at this <;> first|rfl|grind
  | _=>simp only[borrow,t]
theorem LK {H H2:bn} (h:mh H H2):∀n,b7 n H=b7 n H2:=by
 intro n
 induction n with
 | zero=>funext x;rfl
 | succ n t=>
  funext x
  cases x with
  | hsl id es off len=>simp only[b7,(h id).1,t]
  | hptr id el off=>simp only[b7,(h id).1,t]
  | hmap id=>
   have:=(h id).2;simp only[b7,t];split
   .rfl
   cases h1:H[id]? with
   | none=>
    grind[Ob.mp]
   | some o=>
    cases u:H2[id]? with
    | none=>rw[h1,u]at this;all_goals grind[Ob.mp]
    | some o2=>rw[h1,u]at this;cases o <;> cases o2 <;> simp[Ob.mp]at this <;> first|rfl|grind
  | _=>simp only[b7,t]
theorem zy {H H2:bn} (h:mh H H2) (call:dz) (f:FuncId) (args:a_ V):b8 call f args H=b8 call f args H2:=by
 grind[b8,borrows,Jj]
theorem H7 {H H2:bn} (h:mh H H2) (p:V) (n:Nat):dX H p n=dX H2 p n:=by
 cases p with
 | hptr id el off=>simp only[dX,(h id).1]
 | _=>rfl
theorem Ly {H H2:bn} (h:mh H H2) (p:V):mj H p=mj H2 p:=by
 cases p with
 | hmap id=>
  have:=(h id).2;simp only[mj]
  cases h1:H[id]? with
  | none=>
   grind[Ob.mp]
  | some o=>
   cases t:H2[id]? with
   | none=>rw[h1,t]at this;all_goals grind[Ob.mp]
   | some o2=>rw[h1,t]at this;cases o <;> cases o2 <;> simp[Ob.mp]at this <;> first|rfl|grind
 | _=>rfl
theorem yX {E:Env} {F:Frame} {H H2:bn} (h:mh H H2) (op:Op):dI E F H op=dI E F H2 op:=by
 cases op <;> simp only[dI,H7 h,Ly h]
theorem u7 {H H2:bn} (h:mh H H2) (T:a_ Nat):iw H T=iw H2 T:=by
 unfold iw
 congr 1
 funext id
 rw[(h id).1]
theorem Ax {H:bn} {T:a_ Nat} (h:iw H T=true) {id:Nat} (u:id∈T):∃es xs,H[id]? = some (.row es xs)\/H[id]? = some (.frz es xs):=by
 unfold iw at h;rw[List.all_eq_true]at h;have:=h id u
 cases h1:H[id]? with
 | none=>rw[h1]at this;simp at this
 | some o=>rw[h1]at this;cases o <;> simp[Ob.rows]at this <;> exact⟨_,_,by first|exact .inl rfl|exact .inr rfl⟩
theorem wD {H:bn} {b id:Nat}:(H.take b)[id]? = if id<b then H[id]? else none:=by
 rw[List.getElem?_take]
theorem qA {H:bn} {T:a_ Nat} {b:Nat} (h:iw (H.take b) T=true):mh (cG H T) H:=by
 intro id;rw[hG]
 by_cases t:id∈T
 .obtain⟨es,w,u⟩:=Ax h t;rw[wD]at u
  grind[sF,Ob.rows,Ob.mp]
 grind
theorem mh.take {H H2:bn} (h:mh H H2) (b:Nat):mh (H.take b) (H2.take b):=by
 intro id;rw[wD,wD]
 by_cases t:id<b
 .rw[if_pos t,if_pos t];exact h id
 grind
theorem zf {H:bn} {T:a_ Nat} {b:Nat} (h:iw (H.take b) T=true) {id:Nat} (u:id∈T):id<b:=by
 obtain⟨es,w,t⟩:=Ax h u;rw[wD]at t
 grind
theorem C6 {H:bn} {T:a_ Nat} {k:Nat} {ob:Ob} (h:k∉T):cG (H.set k ob) T=(cG H T).set k ob:=by
 apply List.ext_getElem?;intro i;rw[hG]
 by_cases e:i=k
 .grind[kR]
 simp_all[Ne.symm,hG]
theorem I7 (H:bn) (T u:a_ Nat):cG (cG H T) u=cG (cG H u) T:=by
 apply List.ext_getElem?
 grind[hG]
theorem LJ {H:bn} {b:Nat}:∀(n:Nat) (x:V),(∀id∈b7 n (H.take b) x,id<b)->b7 n H x=b7 n (H.take b) x:=by
 intro n
 induction n with
 | zero=>intro x _;rfl
 | succ n w=>
  have t:∀l:a_ V,(∀id∈cN (b7 n (H.take b)) l,id<b)->cN (b7 n H) l=cN (b7 n (H.take b)) l:=by
   intro l
   induction l with
   | nil=>intro _;rfl
   | cons x r u=>
    grind[cN]
  intro x h;simp only[b7]at h ⊢;split
  all_goals grind
theorem tU {H:bn} {b n:Nat}:∀(l:a_ V),(∀id∈cN (b7 n (H.take b)) l,id<b)->cN (b7 n H) l=cN (b7 n (H.take b)) l
 | [],_=>rfl
 | x::r,h=>by
  simp only[cN,List.mem_append]at h ⊢;rw[LJ n x λid u=>h id (.inl u),tU r λid u=>h id (.inr u)]
theorem Fk {H:bn} {b id es:Nat} {xs:a_ (a_ V)} (h:((H.take b)[id]?).bind Ob.rows=some (es,xs)):(H[id]?).bind Ob.rows=some (es,xs):=by
 grind
theorem H6 {H:bn} {b:Nat} {p:V} {n:Nat} {cs:a_ V} (h:dX (H.take b) p n=some cs):dX H p n=some cs:=by
 unfold dX at h ⊢
 grind
theorem LD {H:bn} {b:Nat} {m:V} {u:a_ (V×V)} (h:mj (H.take b) m=some u):mj H m=some u:=by
 unfold mj at h ⊢
 grind
theorem yY {E:Env} {F:Frame} {H:bn} {b:Nat} {op:Op} {x:V} (h:dI E F (H.take b) op=some x):dI E F H op=some x:=by
 cases op with
 | load t a=>
  grind[dI,ζg,H6]
 | lookup t m k ok=>
  grind[dI,LD]
 | _=>simp[dI]at h
theorem sq {f g:V->bf V} (u:∀x y,f x=some y->g x=some y):∀{xs ys:a_ V},iy f xs=some ys->iy g xs=some ys:=by
 intro xs
 induction xs with
 | nil=>intro ys h;exact h
 | cons x xs t=>
  grind[iy]
theorem Ji {f g:V->bf V} (u:∀x y,f x=some y->g x=some y):∀{xs ys:a_ (a_ V)},kY f xs=some ys->kY g xs=some ys:=by
 intro xs
 induction xs with
 | nil=>intro ys h;exact h
 | cons x xs t=>
  grind[kY,sq]
theorem Ja {f g:V->bf V} (u:∀x y,f x=some y->g x=some y):∀{xs ys:a_ (V×V)},kU f xs=some ys->kU g xs=some ys:=by
 intro xs
 induction xs with
 | nil=>intro ys h;exact h
 | cons x xs t=>
  grind[kU]
theorem Bf {H:bn} {b:Nat}:∀(n:Nat) (x y:V),borrow n (H.take b) x=some y->borrow n H x=some y:=by
 intro n
 induction n with
 | zero=>intro x y h;exact h
 | succ n w=>
  intro x y h;simp[borrow]at h ⊢;split at h
  .grind
  rename_i hc;rw[if_neg hc];split at h
  .split at h
   .rename_i hr;simp only[Fk hr];split at h
    .rename_i t;rw[if_pos t]
     grind[ζf,Ji]
    grind
   grind
  .split at h
   .rename_i hr;simp[Fk hr];split at h
    .split at h
     .rename_i u;rw[if_pos u]
      grind[ζf,sq]
     grind
    grind
   grind
  all_goals grind[ζf,Ja,sq]
theorem o7 {call:dz} {f:FuncId} {args:a_ V} {H:bn} {b:Nat} {y:V} (h:b8 call f args (H.take b)=some y):b8 call f args H=some y:=by
 grind[b8,borrows,sq,Bf]
theorem zK (n:Nat) (H:bn) {x:V} (h:x.closed=true):b7 n H x=[]:=by
 cases n with
 | zero=>rfl
 | succ n=>simp[b7,h]
theorem FL (n:Nat) (H:bn) {xs:a_ V} (h:V.gQ xs=true):cN (b7 n H) xs=[]:=by
 induction xs with
 | nil=>rfl
 | cons x r t=>
  grind[V.gQ,cN,zK]
section
variable {P:Program} {E:Env} {I I':ck} {μ μ':Mu} {H H':bn} {n:Nat} {F:Frame} {a:Act} {w w':World}
theorem xd {f:FuncId} (h:yu P f) (args:Array Value):(callFunc f args).run P w=.ok (.enter f args) w:=by
 obtain⟨fn,h1,z,t⟩:=h;unfold callFunc;have u:fn.body.isNone=false:=by simp_all
 simp only[Sem.run_bind,run_program,Result.andThen_ok,h1,t,u,Bool.false_eq_true,if_false,Sem.run_pure]
theorem CG {o:Oper} {ro:bf Nat} {K:Act->World->Prop} {Q:Exit->Act->World->Prop} {f:FuncId} {args:Array Value} {r:V}
 (B:CallsIn (fr none) 0 P f args w (xT I μ H w r H')) (D:∀u I' μ' w',bE I' μ' r u->cR I' μ' H' w'->Step I μ H w I' μ' H' w'->K (a.put o.dst u) w') :
 o.uponIn (fr ro) 0 P a K Q (.ok (.enter f args) w):=by
 refine⟨λh=>by grind[fr],?_⟩
 have t  := B;refine t.mono ?_;rintro e w' ⟨u,I',μ',rfl,h1,t,z⟩
 grind
theorem FK {x:V} (h:x.scalar=true) {I:ck} {μ:Mu} {v:Value} (r:bE I μ x v):dW I x v:=by
 induction r with
 | c x v z=>omega
 | agg cs t u _ w=>
  exact .agg cs t u λj a b p q=>w j a b p q (uf h a (List.mem_of_getElem? p))
 | tup cs t u _ w=>
  exact .tup cs t u λj a b p q=>w j a b p q (uf h a (List.mem_of_getElem? p))
 | _=>grind[V.scalar]
theorem SQ (hE:dU P E) (r:dP I μ n F a.tmps) (s:cR I μ H w) (o:Oper) {x:V} (h:oR E F o.op=some x) :
 ∃u I' w',(execOp a.eval o).run P w=.ok (.value u) w'/\bE I' μ x u/\cR I' μ H w'/\Step I μ H w I' μ H w':=by
 unfold oR at h;split at h
 rotate_left
 .cases h
 rename_i es B t n X;split at h
 rotate_left
 .cases h
 rename_i hc;obtain⟨rfl,rfl,Y⟩:=hc;obtain⟨obj,p,u,h1,U⟩:=Cb hE r s o X;have Z:=U.len _ _ rfl;obtain⟨⟨q,c,el,g1,g2,g3,g4⟩,gv⟩:=U.rel _ (s.dom _ (Nat.le_refl _));rw[Mu.fN]at g1;cases g1;have L:=U.b;have O:obj=.cells c el:=by
  rw[L,kB]at g3;cases g3;rfl
 subst O
 let I':ck:=λb=>if b=w.heap.size then some (.cells c)else I b
 have C:ck.le I I':=λb y J=>by
  grind
 have D:I' p.b=some (.cells c):=by grind
 have aa:∀y∈B,∀z∈y,z.scalar=true:=λy J z hz=>List.all_eq_true.1 (List.all_eq_true.1 Y y J) z hz
 have hw:∀b,b<w.heap.size->(w.alloc (.cells c el)).heap[b]? = w.heap[b]? := λb Q=>jO _ b Q
 have ae:∀b,b<w.heap.size->I' b=I b:=λb Q=>by grind
 refine⟨u,I',_,h1,?_,⟨s.dom,?_,?_,s.inj,s.gl.mono C⟩,⟨C,Mu.le_refl _,Nat.le_refl _,by simp,λb Q _=>hw b Q,?_,rfl,⟨rfl,rfl,Nat.le_refl _⟩,λa Q=>Mm U.nf a⟩⟩
 .refine .c _ _ ?_;have af:∀cap,B.length<=cap->p.o+(0+cap)*t<=p.sz->u=.slice (some ⟨p.b,p.o+0*t,none⟩) B.length cap->dW I' x u:=by
   rintro cap k1 k2 rfl;rw[Nat.zero_mul,Nat.add_zero];have hf:dW I' (.fsl t B) (.slice (some ⟨p.b,p.o,none⟩) B.length cap):=.fsl t B p.b p.o cap c D k1 g4.oK g4.one g4.room λi j y z v m1 m2 m3=>
    dW.mono C (FK (aa y (List.mem_of_getElem? m1) z (List.mem_of_getElem? m2)) (g4.idx m1 m2 m3))
   split at h
   .split at h
    .rename_i W;split at h
     rotate_left
     .cases h
     rename_i S;simp only[ζa]at h;subst h;simp only[List.isEmpty_iff,bne_iff_ne,ne_eq]at W S;subst W;have:cap=0:=by
      simp only[List.length_nil,Nat.zero_mul]at Z;rcases Nat.eq_zero_or_pos cap with k|k
      .exact k
      have:=Nat.mul_pos k (Nat.pos_of_ne_zero S);rw[Nat.zero_add]at k2;omega
     subst this;exact .c_ _
    grind
   grind
  have hp:p.es=t:=g4.es_eq;change bE I _ (.hsl H.length t 0 B.length) u at gv;generalize ab:B.length=ln at gv
  cases gv with
  | c _ _ ad=>cases ad
  | hsl id off len cap p' hm k1 k2=>
   rw[Mu.fN]at hm;grind
  | hsl0 id es off a=>
   have W:B=[]:=List.length_eq_zero_iff.1 ab;subst W;split at h
   .split at h
    .split at h
     .simp only[ζa]at h;subst h;exact .c_ _
     cases h
    grind
   simp only[ζa]at h;subst h;exact .fsl0 _ _ _
 .intro b y J
  by_cases e:b=w.heap.size
  .subst e;have:y=.cells c:=by have:=D;rw[L]at this;rw[this]at J;cases J;rfl
   subst this;exact⟨el,_,kB _⟩
  have T:I b=some y:=by have:(if b=w.heap.size then some (IC.cells c)else I b)=some y:=J;rw[if_neg e]at this;exact this
  exact IC.rJ (s.imm b y T) (hw b (IC.vj (s.imm b y T)))
 .intro id ob G;refine(s.obs id ob G).mono C (Mu.le_refl _) (λq hq hl=>?_) (λe=>by subst e;exact s.obs id _ G)
  have ho:gR μ H q.b:=⟨id,q,ob,G,hl,hq,rfl⟩;have ah:=mJ s ho
  grind[fK]
 grind
theorem Ew:∀{ys:a_ (a_ V)} {l:a_ Int},pK ys=some l->ys.flatten=l.map (V.int .u8)/\l.length=ys.length
 | [],l,h=>by cases h;grind
 | x::r,l,h=>by
  unfold pK at h;split at h
  .grind
  .rename_i n u e;cases e;obtain⟨k,h1,rfl⟩:=ζf.1 h;obtain⟨t,w⟩:=Ew h1
   grind
  cases h
theorem Tj (O:dU P E) (r:dP I μ n F a.tmps) (s:cR I μ H w) (o:Oper) {x:V} (h:evalConv E F H o.op=some x):∃u,(execOp a.eval o).run P w=.ok (.value u) w/\bE I μ x u:=by
 unfold evalConv at h;split at h
 .rename_i st Q y B;split at h
  .rename_i e v S hd hv;split at h
   .rename_i T;obtain⟨D,h1,U⟩:=ζg.1 h;obtain⟨l,W,rfl⟩:=ζf.1 U;obtain⟨X,b2⟩:=Ew W;have C:∀{t:TypeId} {k:TK},E.kindOf t=some k->∃d desc,E.tt t=some d/\P.underlying t=some desc/\lV desc=k:=λ{t k} hk=>by
     unfold Env.kindOf at hk;obtain⟨d,g1,g2⟩:=ζf.1 hk;obtain⟨desc,G,J,_⟩:=(O.ty g1).dx
     grind
    obtain⟨_,d1,_,p1,G⟩:=C S;obtain⟨_,d2,_,p2,J⟩:=C hd;obtain⟨_,d3,_,p3,Y⟩:=C T;rw[iZ G]at p1;rw[zm J]at p2;rw[Dh Y]at p3;obtain⟨L,cap,arr,e1,_,e2,e3,_⟩:=zV s (dh r hv) h1;have z:arr=(l.map (Value.int .u8)).toArray:=by
     apply Array.ext';rw[X]at e3;refine List.ext_getElem (by simpa using e3.1.symm) λj g1 g2=>?_
     have g3:j<l.length:=by grind
     have:=e3.2 j (V.int .u8 l[j]) arr.toList[j] (by simp[g3]) (ζd g1)
     rw[this.eX];simp
    refine⟨.string (K7 l),?_,.c _ _ (.str _)⟩;rw[show execOp a.eval o=_ from by unfold execOp;rw[B]]
    refine eD ?_;rw[e1];rw[run_convert_bytes_string w st Q e L D.length cap p1 p3 p2]
    cases L with
    | none=>
     have:=e2 w rfl;rw[e1]at this;simp only[Builtin.firstCells,Sem.run_pure]at this;cases this;have Z:l=[]:=by
      have:=congrArg Array.size z
      grind
     subst Z;rfl
    | some q=>
     have:=e2 w rfl;rw[e1]at this;simp only[Builtin.firstCells,Nat.mul_one]at this;rw[z]at this;exact run_bytesToString w q D.length cap l this
   cases h
  cases h
 cases h
theorem P3 (W:dU P E) {call:dz} (hc:kz P call) {ops:a_ Oper} {place:bf (Nat×Nat)} {o:Oper} {x:V} (h:cK E call ops place F H o.op=some (x,H'))
 (r:dP I μ n F a.tmps) (s:cR I μ H w) (ro:bf Nat) {K:Act->World->Prop} {Q:Exit->Act->World->Prop}
 (hK:∀u I' μ' w',bE I' μ' x u->cR I' μ' H' w'->Step I μ H w I' μ' H' w'->K (a.put o.dst u) w'):o.wpIn (fr ro) 0 P a w K Q:=by
 refine⟨λ_ _=>trivial,?_⟩
 have Z:∀c,o.op≠.defer c:=by
  intro c aa;rw[aa]at h;simp[cK,cB,rW,bH]at h
  all_goals grind[evalConv]
 show o.uponIn (fr ro) 0 P a K Q ((o.semAt ro a.eval).run P w);rw[Oper.semAt_eq ro a.eval o Z];have ad:∀v,(execOp a.eval o).run P w=.ok (.value v) w->bE I μ x v->H'=H->o.uponIn (fr ro) 0 P a K Q ((execOp a.eval o).run P w):=by
  intro v e hv hH;rw[e,Oper.uponIn_value];subst hH;exact hK v I μ w hv s (.refl _ _ _ _)
 unfold cK at h;split at h
 .
  simp  at h;obtain⟨v,hv,rfl,rfl⟩:=h;unfold rW at hv;split at hv
  .rename_i hp;cases hv;obtain⟨u,h1,z⟩:=S7 (w:=w) W r o hp
   grind
  split at hv
  .obtain⟨u,h1,z⟩:=Tj W r s o hv
   grind
  cases hv
 .
  have hr:dI E F H o.op=some x/\H'=H:=by
   split at h
   .simp  at h
    grind
   split at h
   .split at h
    next v hv=>obtain⟨rfl,rfl⟩:=h;exact⟨yY hv,rfl⟩
    split at h
    .simp  at h
     grind
    grind
   grind
  grind[SU]
 .
  by_cases D:mX E ops place=true
  .rw[if_pos D]at h
   grind[ζf,SQ,Oper.uponIn_value]
  rw[if_neg D]at h;split at h
  .rename_i ob m S;obtain⟨obj,p,u,h1,z⟩:=Cb W r s o S;rw[h1,Oper.uponIn_value];obtain⟨g1,g2⟩:=z.rel _ (s.dom _ (Nat.le_refl _));obtain⟨s1,s2⟩:=s.push z.b g1 z.nf
   grind
  .rename_i ob m b i S;split at h
   .rename_i G;obtain⟨obj,p,u,h1,z⟩:=Cb W r s o S;rw[h1,Oper.uponIn_value];obtain⟨g1,g2⟩:=z.rel _ (s.obs _ _ G);obtain⟨s1,s2⟩:=s.fill G z.b g1 z.nf
    grind
   grind
  grind
 .
  have hl:cr E F H o.op=some (x,H'):=by
   grind
  obtain⟨nx,u,w',μ',h1,z,Y,h4,h5⟩:=(Sx W r s o hl).run;rw[h1];rcases z with rfl|⟨rfl,rfl⟩
  .exact hK u I μ' w' Y h4 h5
  exact hK _ I μ' w' Y h4 h5
 
 have t:∀c args,jL F o.op=some (c,args)->∃L:a_ Value,cA I μ args L /\
  (∀f,c=.fn f->yu P f->(execOp a.eval o).run P w=.ok (.enter f L.toArray) w) /\
  (∀id,c=.yld id->∃p,μ id=some p/\(execOp a.eval o).run P w=(Instr.yield p.b L.toArray).run P w):=by
  intro c args B;obtain⟨dst,op,ty,pos,after,guard⟩:=o
  cases op with
  | call cl=>
   obtain⟨callee,J,ah⟩:=cl
   cases callee with
   | value f=>
    simp only[jL]at B;split at B
    .rename_i g p q L hf T;obtain⟨rfl,rfl⟩:=B;obtain⟨u,v,ef,hu,hv⟩:=(dh r hf).jU;have C:=nv r T;refine⟨u.toList++J.toList.map a.eval++v.toList,(hu.append C).append hv,?_,by simp⟩
     simp_all[execOp,resolve,Deferred.ofValue,invoke,xd]
    .rename_i id L hf T;simp  at B;obtain⟨rfl,rfl⟩:=B;obtain⟨p,hm,ef⟩:=(dh r hf).TL;have C:=nv r T;refine⟨J.toList.map a.eval,C,by simp,?_⟩
     intro ai X;cases X;refine⟨p,hm,?_⟩;simp[execOp,resolve,Sem.run_bind];rw[ef];simp[Deferred.ofValue,Sem.run_pure,Result.andThen_ok,invoke]
     congr 1
     congr 1
     grind
    grind
   | _=>grind[jL]
  | _=>simp[jL]at B
 have O:∀f args y,jL F o.op=some (.fn f,args)->b8 call f args H=some y->x=y->H'=(if y.scalar then H else cG H (cN (b7 call.lv H) args)) ->
  o.uponIn (fr ro) 0 P a K Q ((execOp a.eval o).run P w):=by
  intro f args y h1 z Y h4;obtain⟨L,g1,g2,_⟩:=t _ _ h1;obtain⟨k1,k2⟩:=Dt hc z s g1;rw[g2 f rfl k1]
  grind[CG]
 have ae:∀f args,jL F o.op=some (.fn f,args)->gP E call f args H=some (x,H')->o.uponIn (fr ro) 0 P a K Q ((execOp a.eval o).run P w):=by
  intro f args h1 z;obtain⟨L,g1,g2,_⟩:=t _ _ h1;obtain⟨k1,k2⟩:=Vc hc z s g1;rw[g2 f rfl k1]
  grind[CG]
 have af:∀id args,jL F o.op=some (.yld id,args)->call (.yld id) args H=some (x,H')->o.uponIn (fr ro) 0 P a K Q ((execOp a.eval o).run P w):=by
  intro id args h1 z;obtain⟨L,g1,_,g3⟩:=t _ _ h1;obtain⟨p,hm,e⟩:=g3 id rfl;obtain⟨l,f,tmps,assign,body,k1,k2⟩:=hc.yld id args H x H' z I μ w L p s g1 hm;rw[e,k1,Oper.uponIn_round];refine⟨λh=>by grind[fr],?_⟩
  have z  := k2;refine z.mono ?_;rintro e w' ⟨u,I',μ',rfl,h1,z,Y⟩
  grind
 split at h
 .rename_i f args B;split at h
  rotate_left
  .cases h
  unfold dJ at h;split at h
  .grind
  split at h
  .grind
  split at h
  .rename_i y hy;split at h
   next U=>simp  at h;refine O f args y B (o7 hy) h.1.symm ?_;rw[<-h.2,if_pos U]
   rename_i U;split at h
   next ab=>simp  at h;refine O f args y B (o7 hy) h.1.symm ?_;rw[<-h.2,if_neg U,tU _ λid hi=>zf ab hi]
   simp at h
  grind
 all_goals grind
end
structure jM (B:Nat) (ds:List Deferred) (w:World):Prop where
 all:∀d∈ds,∃r,d.target=.collected r/\B<=r/\w.heap[r]? = some (.deferred (some []))
 apart:ds.Pairwise λd d'=>∀r,d.target=.collected r->d'.target≠.collected r
section
variable {P:Program} {E:Env} {I I' I'':ck} {μ μ' μ'':Mu} {H H' H'':bn} {n B:Nat} {F F':Frame} {a:Act} {w w' w'':World}
theorem uL (s:cR I μ H w) {r:Nat} {c:bf (a_ Deferred)} (h:w.heap[r]? = some (.deferred c)):¬gR μ H r:=by
 rintro⟨id,p,ob,h1,C,u,rfl⟩;have:=s.obs id ob h1
 cases ob with
 | row es D=>obtain⟨q,c,el,t,_,z,_⟩:=this;rw[u]at t;grind
 | map B=>obtain⟨q,c,el,t,_,z,_⟩:=this;rw[u]at t;grind
 | loop x=>obtain⟨q,c,t,_,z,_⟩:=this;rw[u]at t;grind
 | _=>grind[Ob.live]
theorem jM.step {ds:a_ Deferred} (h:jM B ds w) (s:cR I μ H w) (st:Step I μ H w I' μ' H' w'):jM B ds w' where
 all:=by
  intro d hd;obtain⟨r,h1,u,t⟩:=h.all d hd;refine⟨r,h1,u,?_⟩;rw[st.frame r (Array.getElem?_eq_some_iff.1 t).1 (uL s t)];exact t
 apart:=h.apart
theorem NL (r:dP I μ n F a.tmps) (ops:Array Oper) (o:Oper):fG ops.toList F o=Region.wanted o (yielded ops a.tmps):=by
 unfold fG Region.wanted
 cases hg:o.guard with
 | none=>rfl
 | some g=>
  obtain⟨j,b⟩:=g;simp only;unfold yielded;have e:ops.toList[j]? = ops[j]? := by simp
  rw[e]
  cases hd:(ops[j]?).bind (·.dst)with
  | none=>simp
  | some d=>
   simp only[ζb];have hr:=r.2 d
   by_cases u:d<a.tmps.size
   .have t:a.tmps[d]? = some a.tmps[d]:=by simp[u]
    have w:a.tmps.getD d undef=a.tmps[d]:=by simp[u]
    rw[w]at hr;rw[t]
    cases z:get F d with
    | bool c=>rw[z]at hr;rw[hr.qP];all_goals grind
    | _=>
     cases hv:a.tmps[d]with
     | bool c=>rw[hv]at hr;have:=hr.of_bool;rw[z]at this;cases this
     | _=>rfl
   have t:a.tmps[d]? = none:=Array.getElem?_eq_none (Nat.le_of_not_lt u);have w:a.tmps.getD d undef=undef:=by simp[u]
   rw[w]at hr;rw[t]
   cases z:get F d with
   | bool c=>rw[z]at hr;have:=hr.qP;grind[undef]
   | _=>rfl
theorem CJ (J:dU P E) {call:dz} (hc:kz P call) {ops:Array Oper} {place:bf (Nat×Nat)} {o:Oper} (h:fZ E call n ops.toList place o F H=some (F',H'))
 (r:dP I μ n F a.tmps) (s:cR I μ H w) (ro:bf Nat) {K:Act->World->Prop} {Q:Exit->Act->World->Prop}
 (G:∀a' I' μ' w',dP I' μ' n F' a'.tmps->a'.defers=a.defers->cR I' μ' H' w'->Step I μ H w I' μ' H' w'->K a' w') :
 if Region.wanted o (yielded ops a.tmps)then o.wpIn (fr ro) 0 P a w K Q else(∀f,o.about P w a.eval=some f->(fr ro).fn f)/\K (a.put o.dst undef) w:=by
 unfold fZ at h;rw[<-NL r];have t:∀v,(a.put o.dst v).defers=a.defers:=λv=>by cases o.dst <;> rfl
 split at h
 .rename_i B;rw[if_pos B];split at h
  .rename_i x H2 C;simp only[ζf,ζc]at h;obtain⟨L,D,rfl,rfl⟩:=h;refine P3 J hc C r s ro (λu I' μ' w' O S z=>?_)
   exact G _ I' μ' w' ((r.mono z.le z.mu).put O D) (t u) S z
  simp at h
 rename_i B;rw[if_neg B];simp only[ζf,ζc]at h;obtain⟨L,D,rfl,rfl⟩:=h;exact⟨λ_ _=>trivial,G _ I μ w (r.put (.undef I μ) D) (t _) s (.refl _ _ _ _)⟩
theorem ML (B:dU P E) {call:dz} (hc:kz P call) {ops:Array Oper} (ro:bf Nat) {Q:Exit->Act->World->Prop}:∀(rest:a_ Oper) (k:Nat) (I:ck) (μ:Mu) (F:Frame) (H:bn) (a:Act) (w:World),
 (∀j,rest[j]? = ops[k+j]?)->lQ E call n ops.toList rest F H=some (F',H')->dP I μ n F a.tmps->cR I μ H w ->
 (∀a' I' μ' w',dP I' μ' n F' a'.tmps->a'.defers=a.defers->cR I' μ' H' w'->Step I μ H w I' μ' H' w'->Q .normal a' w') ->
 wpOpsIn (fr ro) 0 P ops Q (List.range' k rest.length) a w:=by
 intro rest
 induction rest with
 | nil=>
  intro k I μ F H a w _ h r s z;simp only[lQ,ζa,ζc]at h;obtain⟨rfl,rfl⟩:=h;exact z a I μ w r rfl s (.refl _ _ _ _)
 | cons o rest C=>
  intro k I μ F H a w t h r s z;simp only[lQ]at h;split at h
  .rename_i F1 H1 u;have D:ops[k]? = some o:=by simpa using (t 0).symm
   simp only[List.length_cons,List.range'_succ,wpOpsIn,D];refine CJ B hc u r s ro (λa' I' μ' w' hr hd G J=>?_)
   refine C (k+1) I' μ' F1 H1 a' w' (λj=>by have:=t (j+1);grind) h hr G ?_
   grind[Step.trans]
  simp at h
end
def mZ (F F':Frame) (op:Op):Prop:=∀x∈op.operands,ev F x=ev F' x
theorem rC {F F':Frame}:∀{l:a_ Operand},(∀x∈l,ev F x=ev F' x)->fq F l=fq F' l:=by
 intro l
 induction l with
 | nil=>intro _;rfl
 | cons x l t=>
  grind[fq]
theorem y9 {F F':Frame}:∀{l:a_ (Nat×Operand)},(∀x∈l,ev F x.2=ev F' x.2)->lN F l=lN F' l:=by
 intro l
 induction l with
 | nil=>intro _;rfl
 | cons x l t=>
  grind[lN]
theorem xw {F F':Frame} {o:bf Operand} (h:∀x∈o.toArray,ev F x=ev F' x):jB F o=jB F' o:=by
 cases o with
 | none=>rfl
 | some x=>grind[jB]
theorem D1 {E:Env} {F F':Frame} {op:Op} (h:mZ F F' op):bH E F op=bH E F' op:=by
 cases op with
 | move x=>exact h x (by simp[Op.operands])
 | assign x=>exact h x (by simp[Op.operands])
 | pick c a b=>
  simp[bH];rw[h c (by simp[Op.operands]),h a (by simp[Op.operands]),h b (by simp[Op.operands])]
 | nilCheck x=>simp[bH];rw[h x (by simp[Op.operands])]
 | binOp op t x y B=>simp[bH];rw[h x (by simp[Op.operands]),h y (by simp[Op.operands])]
 | unOp op t x=>simp[bH];rw[h x (by simp[Op.operands])]
 | convert s d x=>simp[bH];rw[h x (by simp[Op.operands])]
 | fieldAddr s x f=>simp[bH];rw[h x (by simp[Op.operands])]
 | field s x f=>simp[bH];rw[h x (by simp[Op.operands])]
 | indexAddr t x i=>simp[bH];rw[h x (by simp[Op.operands]),h i (by simp[Op.operands])]
 | index t x i=>simp[bH];rw[h x (by simp[Op.operands]),h i (by simp[Op.operands])]
 | slice t x C D G=>
  simp[bH];rw[h x (by simp[Op.operands]),xw  (λy w=>h y (by grind[Op.operands])),xw  (λy w=>h y (by grind[Op.operands])),
   xw  (λy w=>h y (by grind[Op.operands]))]
 | build t I=>
  simp[bH];rw[y9  (λx u=>h x.2 (by grind[Op.operands]))]
 | makeFunc f a b=>
  cases f with
  | func f=>
   simp[bH];rw[rC  (λx u=>h x (by grind[Op.operands])),rC  (λx u=>h x (by grind[Op.operands]))]
  | _=>rfl
 | extract x i=>simp[bH];rw[h x (by simp[Op.operands])]
 | call c=>
  obtain⟨callee,args,z⟩:=c
  cases callee with
  | builtin b=>
   simp[bH];rw[rC  (λx u=>h x (by grind[Op.operands,Call.operands]))]
  | _=>rfl
 | _=>rfl
theorem xR {E:Env} {F F':Frame} {H:bn} {op:Op} (h:mZ F F' op):dI E F H op=dI E F' H op:=by
 cases op with
 | load t x=>simp[dI];rw[h x (by simp[Op.operands])]
 | lookup t m k ok=>simp[dI];rw[h m (by simp[Op.operands]),h k (by simp[Op.operands])]
 | _=>rfl
theorem wo {E:Env} {F F':Frame} {op:Op} (h:mZ F F' op):eC E F op=eC E F' op:=by
 cases op with
 | alloc t=>rfl
 | box t x=>simp[eC];rw[h x (by simp[Op.operands])]
 | makeSlice t l c=>simp[eC];rw[h l (by simp[Op.operands]),h c (by simp[Op.operands])]
 | buildSlice t len u=>
  simp[eC];rw[y9  (λx w=>h x.2 (by grind[Op.operands]))]
 | makeMap t r=>cases r <;> rfl
 | _=>rfl
theorem El {E:Env} {F F':Frame} {H:bn} {op:Op} (h:mZ F F' op):cr E F H op=cr E F' H op:=by
 cases op with
 | store t p x=>simp[cr];rw[h p (by simp[Op.operands]),h x (by simp[Op.operands])]
 | mapUpdate t m k x=>simp[cr];rw[h m (by simp[Op.operands]),h k (by simp[Op.operands]),h x (by simp[Op.operands])]
 | insert t m k x=>simp[cr];rw[h m (by simp[Op.operands]),h k (by simp[Op.operands]),h x (by simp[Op.operands])]
 | call c=>
  obtain⟨callee,args,u⟩:=c
  cases callee with
  | builtin b=>
   cases b with
   | append=>
    simp[cr];rw[rC  (λx w=>h x (by grind[Op.operands,Call.operands]))]
   | clear=>
    simp[cr];rw[rC  (λx w=>h x (by grind[Op.operands,Call.operands]))]
   | _=>rfl
  | _=>rfl
 | _=>rfl
theorem Ei {F F':Frame} {op:Op} (h:mZ F F' op):jL F op=jL F' op:=by
 cases op with
 | call c=>
  obtain⟨callee,args,t⟩:=c
  cases callee with
  | value f=>
   simp[jL];rw[h f (by simp[Op.operands,Call.operands]),rC  (λx u=>h x (by grind[Op.operands,Call.operands]))]
  | _=>rfl
 | _=>rfl
theorem IZ {E:Env} {F F':Frame} {op:Op} (h:mZ F F' op):oR E F op=oR E F' op:=by grind[oR,wo]
theorem Kp {F F':Frame} {ops:a_ Oper} {i b:Nat} {H:bn} {op:Op} (h:mZ F F' op):An ops i b F H op=An ops i b F' H op:=by
 have:pq F op=pq F' op:=by
  unfold pq;split
  .rename_i args _;split
   .rename_i x r t;rw[h x (by
     have:x∈args.toList:=by rw[t];simp
     grind[Op.operands,Call.operands])]
   rfl
  rfl
 grind[An]
theorem Jf {E:Env} {place:bf (Nat×Nat)} {F F':Frame} {H:bn} {op:Op} (h:mZ F F' op):rW E F H place op=rW E F' H place op:=by
 unfold rW;rw[D1 h];have:evalConv E F H op=evalConv E F' H op:=by
  unfold evalConv;split
  .rw[h _ (by simp[Op.operands])]
  rfl
 rw[this]
theorem CN {E:Env} {b:Nat×Nat} {F:Frame} {H:bn} {op:Op}:rW E F H (some b) op=bH E F op:=by
 grind[rW]
theorem Db {E:Env} {call:dz} {ops:a_ Oper} {place:bf (Nat×Nat)} {F F':Frame} {H:bn} {op:Op} (h:mZ F F' op) (u:∀b i,place=some (b,i)->pM ops i F=pM ops i F'/\qV ops b i F=qV ops b i F'/\nJ ops i F op=nJ ops i F' op):cK E call ops place F H op=cK E call ops place F' H op:=by
 unfold cK;rw[Jf h,wo h,El h,Ei h,xR (H:=H) h,IZ h];split <;> (try rfl)
 .split <;> (try rfl)
  rename_i i;rw[xR h,(u _ i rfl).2.2]
 split <;> (try rfl)
 rename_i b i;rw[(u _ i rfl).1,(u _ i rfl).2.1,Kp h]
section
variable {E:Env} {call:dz} {n:Nat} {ops:a_ Oper} {base:Nat}
theorem K1 {o:Oper} {t:Nat} (h:.tmp t∈o.op.operands):t∈tmpsOf o ops:=by
 refine List.mem_append.2 (.inl (List.mem_filterMap.2 ⟨.tmp t,by grind,rfl⟩))
theorem Ez {F F':Frame} {o:Oper} {dst:bf Nat} {v:V} (hp:jt n F dst v=some F') (h:∀d,dst=some d->d∉tmpsOf o ops):mZ F' F o.op:=by
 intro x u
 cases x with
 | tmp t=>
  cases dst with
  | none=>grind[jt]
  | some d=>
   simp only[jt]at hp;split at hp
   .simp  at hp;subst hp;have w:d≠t:=λe=>h d rfl (by rw[e];exact K1 u)
    grind[ev,iP]
   grind
 | const v=>rfl
 | func f=>rfl
 | global g=>rfl
theorem Bs {F F':Frame} {o:Oper} {dst:bf Nat} {v:V} (hp:jt n F dst v=some F') (h:∀d,dst=some d->d∉tmpsOf o ops):fG ops F' o=fG ops F o:=by
 unfold fG
 cases hg:o.guard with
 | none=>rfl
 | some g=>
  obtain⟨j,b⟩:=g;simp only
  cases hd:(ops[j]?).bind (·.dst)with
  | none=>rfl
  | some t=>
   simp only
   cases dst with
   | none=>grind[jt]
   | some d=>
    simp only[jt]at hp;split at hp
    .simp  at hp;subst hp;have u:d≠t:=λe=>h d rfl (by
      grind[tmpsOf])
     rw[iP _ _ u]
    grind
theorem NW {F F1 G:Frame} {d D:bf Nat} {u v:V} (h1:jt n F d u=some F1) (O:jt n F1 D v=some G) (J:∀x,d=some x->D≠some x) :
 ∃B,jt n F D v=some B/\jt n B d u=some G:=by
 cases d with
 | none=>
  simp_all[jt]
 | some x=>
  cases D with
  | none=>
   simp_all[jt]
  | some y=>
   simp_all[jt,IB]
theorem Je {i k:Nat} {u ok:Oper} (h:dA ops i=true) (D:ops[i]? = some u) (hk:ops[k]? = some ok) (B:k≠i):cB ok.op=.pure\/(if k<i then before ops i k else before ops k i)=true\/(isApp u.op=true/\cB ok.op=.alloc/\i<k):=by
 grind[dA]
theorem Fe {H:bn} {j es:Nat} {ob:Ob} {x:V} {xs:a_ (a_ V)} (u:H[j]? = some .free) (h:dG H es x=some xs):dG (H.set j ob) es x=some xs:=by
 unfold dG at h ⊢
 all_goals grind[Ob.rows]
theorem Qf {H H1:bn} {j:Nat} {ob:Ob} {x:V} (h:gq H x=some H1):H1.length=H.length/\(H1[j]? = some .free->H[j]? = some .free)/\(H[j]? = some .free->gq (H.set j ob) x=some (H1.set j ob)):=by
 unfold gq at h ⊢;split at h
 .grind
 .grind
 .rename_i id a b c;split at h
  .rename_i hr;cases h;refine⟨by simp,λh=>?_,λh=>?_⟩
   .grind
   have e:id≠j:=λe=>by grind
   rw[List.getElem?_set_ne (Ne.symm e),hr];rw[List.set_comm _ _ e]
  simp_all
 simp_all
theorem O2 {H:bn} {o:Ob} {j:Nat} (u:o≠.free) (h:(H++[o])[j]? = some .free):j<H.length/\H[j]? = some .free:=by
 grind
theorem Ty {F:Frame} {H H1:bn} {op:Op} {v:V} {j:Nat} {ob:Ob} (B:isApp op=true) (h:cr E F H op=some (v,H1)) (D:H1[j]? = some .free):H[j]? = some .free/\cr E F (H.set j ob) op=some (v,H1.set j ob):=by
 unfold isApp at B;split at B
 .simp only[cr]at h ⊢;split at h
  .split at h
   .rename_i e _ t u;split at h
    .rename_i d hd;split at h
     .simp_all[Fe]
     .rename_i J L z O Q;split at h
      .obtain⟨H0,hg,C⟩:=ζf.1 h;obtain⟨rfl,rfl⟩:=C;obtain⟨G,w⟩:=O2 Zc D
       obtain⟨g1,g2,g3⟩:=Qf  (ob:=ob) hg;have I:=g2 w
       grind[Fe]
      simp_all
     simp_all
    simp_all
   .rename_i e _ t u;split at h
    .rename_i d hd;unfold mkApp at h;split at h
     .split at h
      .simp_all[mkApp]
      split at h
      .obtain⟨rfl,rfl⟩:=h
       grind[mkApp]
      simp_all
     simp_all
    simp_all
   simp_all
  simp_all
 simp_all
theorem tS {i:Nat} {F:Frame} {H H':bn} {op:Op} {v:V} (h:cK E call ops (some (base,i)) F H op=some (v,H')) (O:dA ops i=false) (u:cB op≠.loud) :
 (H'=H/\∀H2:bn,mh (H2.take base) (H.take base)->cK E call ops (some (base,i)) F H2 op=some (v,H2)) \/
 (∃ob,H[base+i]? = some .free/\H'=H.set (base+i) ob/\∀H2:bn,H2[base+i]? = some .free->cK E call ops (some (base,i)) F H2 op=some (v,H2.set (base+i) ob)) \/
 (∃T,iw (H.take base) T=true/\H'=cG H T/\∀H2:bn,mh (H2.take base) (H.take base)->cK E call ops (some (base,i)) F H2 op=some (v,cG H2 T)):=by
 unfold cK at h;split at h
 next L=>simp  at h;obtain⟨x,J,rfl,rfl⟩:=h;simp_all[CN,cK]
 .rename_i u;simp only at h;split at h
  .rename_i Q;split at h
   .rename_i x J;obtain⟨rfl,rfl⟩:=h;refine .inl ⟨rfl,λH2 C=>?_⟩
    grind[cK,yX]
   grind
  grind
 .split at h
  .obtain⟨x,J,e⟩:=ζf.1 h;simp_all[cK]
  split at h
  .grind
  .rename_i ob m U W S D;obtain⟨rfl,rfl⟩:=D;split at h
   .rename_i w;obtain⟨rfl,rfl⟩:=h;refine .inr (.inl ⟨ob,w,rfl,λH2 C=>?_⟩)
    grind[cK]
   grind
  grind
 .grind
 rename_i u;split at h
 .rename_i f args z;split at h
  rotate_left
  .cases h
  rename_i B;unfold dJ at h;split at h
  .grind
  rename_i t;simp only at h;split at h
  .rename_i y X;split at h
   .rename_i G;obtain⟨rfl,rfl⟩:=h;refine .inl ⟨rfl,λH2 C=>?_⟩
    unfold cK dJ;rw[u];simp only[z,if_pos B];rw[if_neg t]
    grind[zy]
   split at h
   .rename_i I;obtain⟨rfl,rfl⟩:=h;refine .inr (.inr ⟨_,I,rfl,λH2 C=>?_⟩)
    unfold cK dJ;rw[u];simp only[z,if_pos B];rw[if_neg t]
    grind[zy,LK,u7]
   grind
  grind
 all_goals grind
theorem EN {g:Bool} {i:Nat}:∀{r l:a_ Nat},B7 g ops i r=some l->∀k∈r,∃a,F0 g ops i k=some a/\∀s∈a,s∈l
 | [],l,h,k,hk=>by simp_all
 | q::r,l,h,k,hk=>by
  simp[B7]at h;split at h
  .rename_i a b h1 u;simp  at h;rcases List.mem_cons.1 hk with rfl|hk
   .grind
   obtain⟨a',g1,g2⟩:=EN u k hk;exact⟨a',g1,λs t=>by grind⟩
  grind
theorem Gt {g:Bool} {i:Nat}:∀{r l:a_ Nat},B7 g ops i r=some l->∀s∈l,s∉dstsOf ops
 | [],l,h,s,hs=>by grind[B7]
 | q::r,l,h,s,hs=>by
  simp[B7]at h;split at h
  .rename_i a b h1 u;simp  at h;subst h;rcases List.mem_append.1 hs with hs|hs
   .grind[F0]
   exact Gt u s hs
  grind
theorem oW {g:Bool} {i a:Nat} {l:a_ Nat} {B:Oper} (D:ops[i]? = some B) (h:qZ g ops i=some (a,l)):(∃t x,B.op=.store t (.tmp a) x)/\a∉dstsOf ops/\(∀s∈l,s∉dstsOf ops) /\
 ∀k ok,ops[k]? = some ok->k≠i->cB ok.op=.pure\/(if k<i then before ops i k else before ops k i)=true\/(∃G a',ok.op=.load G (.tmp a')/\(a'∈l\/a'∈dstsOf ops))\/(g=true/\(cB ok.op=.alloc\/cB ok.op=.call)):=by
 unfold qZ at h;rw[D]at h;simp  at h;split at h
 .rename_i t a0 x w;simp  at w;split at h
  .simp_all
  obtain⟨I,z,e⟩:=ζf.1 h;obtain⟨rfl,rfl⟩:=e;refine⟨⟨t,x,w⟩,by grind,Gt z,λk ok hk C=>?_⟩
  obtain⟨b,h1,J⟩:=EN z k (List.mem_range.2 (ζe.1 hk).1);unfold F0 at h1;rw[hk]at h1;simp only at h1;split at h1
  .rename_i u;simp  at u;rcases u with (u|u)|u
   .grind
   .grind
   exact .inr (.inl u)
  grind
 grind
theorem HJ {F F':Frame} {dst:bf Nat} {v:V} {s:Nat} (hp:jt n F dst v=some F') (h:∀d,dst=some d->s≠d):get F' s=get F s:=by
 unfold jt at hp;split at hp
 .grind
 rename_i d;split at hp
 .simp  at hp;subst hp;simp_all[iP,Ne.symm]
 grind
theorem HL {k d:Nat} {ok:Oper} (hk:ops[k]? = some ok) (hd:ok.dst=some d):d∈dstsOf ops:=
 List.mem_filterMap.2 ⟨ok,List.mem_of_getElem? hk,hd⟩
theorem ye {F F':Frame} {k i:Nat} {ok D:Oper} {v:V} (hk:ops[k]? = some ok) (B:ops[i]? = some D) (hp:jt n F ok.dst v=some F'):pM ops i F'=pM ops i F/\∀b,qV ops b i F'=qV ops b i F:=by
 have hg:∀s,s∉dstsOf ops->get F' s=get F s:=λs w=>HJ hp λd hd e=>w (e▸HL hk hd)
 refine⟨?_,λb=>?_⟩
 .unfold pM
  cases t:qZ false ops i with
  | none=>rfl
  | some u=>
   obtain⟨a,l⟩:=u;obtain⟨_,z,C,_⟩:=oW B t
   grind
 unfold qV
 cases t:qZ true ops i with
 | none=>rfl
 | some u=>
  obtain⟨a,l⟩:=u;obtain⟨_,z,C,_⟩:=oW B t
  grind
theorem Nw {i k a a':Nat} {t:TypeId} {x:Operand} {u:Oper} (B:ops[i]? = some u) (e1:u.op=.store t (.tmp a) x) (h1:a'∈dstsOf ops) (D:a∉dstsOf ops) (G:ri ops i k=false):a∈oQ ops k a':=by
 grind[oQ]
theorem CU {k a' s:Nat} (h:s∈oQ ops k a'):s∉dstsOf ops/\∃i u t x,ops[i]? = some u/\u.op=.store t (.tmp s) x/\ri ops i k=false:=by
 grind[oQ]
theorem Fb {F F':Frame} {k i:Nat} {ok:Oper} {op:Op} {v:V} (hk:ops[k]? = some ok) (hp:jt n F ok.dst v=some F') (u:mZ F' F op):nJ ops i F' op=nJ ops i F op:=by
 have hg:∀s,s∉dstsOf ops->get F' s=get F s:=λs h=>HJ hp λd hd e=>h (e▸HL hk hd)
 unfold nJ;split
 .rename_i t w;have z  := by
   have:=u (.tmp w) (by simp[Op.operands])
   simpa [ev]using this
  rw[z,Bool.eq_iff_iff]
  grind[CU]
 rfl
theorem C4 {k a':Nat} {ok:Oper} {t:TypeId} (hk:ops[k]? = some ok) (e:ok.op=.load t (.tmp a')) (h:dA ops k=true):oQ ops k a'=[]:=by
 refine List.eq_nil_iff_forall_not_mem.2 λs w=>?_
 obtain⟨_,i,B,C,x,h1,z,D⟩:=CU w;have u:i≠k:=λe2=>by grind
 rcases Je h hk h1 u with g|g|g
 .rw[z]at g;cases g
 all_goals grind[ri,isApp]
theorem xA {F:Frame} {H H':bn} {t:TypeId} {a:Nat} {x:Operand} {id el off:Nat} {u:V} (B:get F a=.hptr id el off) (h:cr E F H (.store t (.tmp a) x)=some (u,H')):∃r,H'=H.set id r:=by
 grind[cr,ev]
theorem K3 {F:Frame} {H:bn} {t:TypeId} {a id b:Nat} {r:Ob} (u:nF id (get F a)=true):dI E F ((H.set id r).take b) (.load t (.tmp a))=dI E F (H.take b) (.load t (.tmp a)):=by
 have:∀m,dX ((H.set id r).take b) (get F a) m=dX (H.take b) (get F a) m:=λm=>by
  unfold nF at u
  grind[dX]
 grind[dI,ev]
theorem Fq {i:Nat} {B:Oper} (T:ops[i]? = some B) (U:cB B.op=.loud) (W:dA ops i=false) (J:isApp B.op=false) {F:Frame} {O G:bn} {u:V} (D:cK E call ops (some (base,i)) F O B.op=some (u,G)) :
 ∃g a l id el off t x,qZ g ops i=some (a,l)/\B.op=.store t (.tmp a) x/\get F a=.hptr id el off/\(∀s∈l,nF id (get F s)=true)/\(g=true->id<base)/\cr E F O B.op=some (u,G)/\∀H,cK E call ops (some (base,i)) F H B.op=cr E F H B.op:=by
 have key:(pM ops i F||qV ops base i F)=true/\cr E F O B.op=some (u,G)/\∀H,cK E call ops (some (base,i)) F H B.op=cr E F H B.op:=by
  have J:∀F b H,An ops i b F H B.op=false:=λF b H=>by grind[An]
  have e:∀H,cK E call ops (some (base,i)) F H B.op=if pM ops i F||qV ops base i F then cr E F H B.op else none:=λH=>by
   unfold cK;rw[U];simp only[W,Bool.false_or,J,Bool.or_false]
  rw[e]at D;split at D
  next hc=>exact⟨hc,D,λH=>by rw[e,if_pos hc]⟩
  cases D
 obtain⟨h1,C,I⟩:=key;rcases Bool.or_eq_true_iff.1 h1 with hf|hf
 .unfold pM at hf;split at hf
  .rename_i a l w;split at hf
   next id el off hg=>obtain⟨⟨t,x,z⟩,-⟩:=oW T w;exact⟨false,a,l,id,el,off,t,x,w,z,hg,λs D=>List.all_eq_true.1 hf s D,λh=>(by cases h),C,I⟩
   cases hf
  cases hf
 unfold qV at hf;split at hf
 .rename_i a l w;split at hf
  next id el off hg=>obtain⟨⟨t,x,z⟩,-⟩:=oW T w;simp only[ζh,decide_eq_true_eq]at hf;exact⟨true,a,l,id,el,off,t,x,w,z,hg,λs D=>List.all_eq_true.1 hf.2 s D,λ_=>hf.1,C,I⟩
  cases hf
 cases hf
theorem Ix {g:Bool} {k i a a' id el off:Nat} {l:a_ Nat} {ok J:Oper} {t T:TypeId} {x:Operand} (hk:ops[k]? = some ok) (O:ops[i]? = some J) (W:(if k<i then before ops i k else before ops k i)=false) (lk:dA ops k=false)
 (D:qZ g ops i=some (a,l)) (G:J.op=.store t (.tmp a) x) {F:Frame} (hg:get F a=.hptr id el off) (U:∀s∈l,nF id (get F s)=true) (B:ok.op=.load T (.tmp a')) (hmem:a'∈l\/a'∈dstsOf ops)
 {H0 H1:bn} {v:V} (u:cK E call ops (some (base,k)) F H0 ok.op=some (v,H1)) :
 H1=H0/\(∀(H:bn) (r:Ob),dI E F ((H.set id r).take base) ok.op=dI E F (H.take base) ok.op)/\cB ok.op=.read/\dI E F (H0.take base) ok.op=some v/\nJ ops k F ok.op=true:=by
 obtain⟨-,C,-,-⟩:=oW O D;unfold cK at u;rw[B]at u;simp only[cB]at u;split at u
 rotate_left
 .simp at u
 rename_i w;have I:nF id (get F a')=true:=by
  rcases hmem with hmem|hmem
  .exact U a' hmem
  have z:ri ops i k=false:=by
   grind[ri]
  have L:=Nw O G hmem C z
  grind[nJ]
 split at u
 next Q hv=>simp only[ζa,ζc]at u;obtain⟨rfl,rfl⟩:=u;exact⟨rfl,λH r=>by rw[B];grind[K3],by rw[B];rfl,by rw[B];exact hv,by rw[B];exact w⟩
 grind
theorem FA {F:Frame} {H:bn} {t:TypeId} {a:Nat} {x:Operand} {id el off j:Nat} {ob:Ob} (B:get F a=.hptr id el off) (u:id≠j):cr E F (H.set j ob) (.store t (.tmp a) x)=(cr E F H (.store t (.tmp a) x)).map λp=>(p.1,p.2.set j ob):=by
 have hg:(H.set j ob)[id]? = H[id]? := List.getElem?_set_ne (Ne.symm u);have hc:∀r,(H.set j ob).set id r=(H.set id r).set j ob:=λr=>List.set_comm _ _ (Ne.symm u)
 simp only[cr,ev,B];split
 .rename_i h1 w z;cases w;rw[hg]
  (repeat' split) <;> first|rfl|simp only[hc,Option.map_some]
 rfl
theorem Bj {i:Nat} {F:Frame} {H H':bn} {op:Op} {v:V} (u:cB op=.alloc) (B:mX E ops (some (base,i))=false) (h:cK E call ops (some (base,i)) F H op=some (v,H')) :
 ∃ob,H[base+i]? = some .free/\H'=H.set (base+i) ob/\∀H2:bn,H2[base+i]? = some .free->cK E call ops (some (base,i)) F H2 op=some (v,H2.set (base+i) ob):=by
 unfold cK at h;rw[u]at h;simp only[B,Bool.false_eq_true,if_false]at h;split at h
 .grind
 .rename_i ob m D G w z;obtain⟨rfl,rfl⟩:=z;split at h
  .rename_i t;obtain⟨rfl,rfl⟩:=h;refine⟨ob,t,rfl,λH2 C=>?_⟩
   unfold cK;rw[u];simp only[B,Bool.false_eq_true,if_false,w,C]
  cases h
 cases h
theorem ta (n:Nat) (H:bn):∀{l:a_ V},V.gQ l=true->borrows n H l=some l
 | [],_=>rfl
 | x::r,h=>by
  simp only[V.gQ,ζh]at h;have:=ta n H h.2;unfold borrows at this ⊢;simp only[iy,kM n H h.1,this]
theorem Di {k i:Nat} {a:Nat} {l:a_ Nat} {F:Frame} {H H':bn} {op:Op} {v:V} (u:cB op=.call) (lk:dA ops k=false) (B:qZ true ops i=some (a,l)) (D:i<ops.length) (O:ri ops i k=false) (h:cK E call ops (some (base,k)) F H op=some (v,H')) :
 H'=H/\∀H2:bn,cK E call ops (some (base,k)) F H2 op=some (v,H2):=by
 have z:Gj ops k=true:=by
  unfold Gj;rw[List.any_eq_true];exact⟨i,List.mem_range.2 D,by simp[O,B]⟩
 unfold cK at h;rw[u]at h;simp only at h;split at h
 .rename_i f args C;split at h
  .rename_i t;have hc:V.gQ args=true:=by
    unfold vZ at t;simpa [z]using t
   have w:∀H2,b8 call f args H2=b8 call f args []:=λH2=>by
    unfold b8;rw[ta _ _ hc,ta _ _ hc]
   have G:∀n H2,cN (b7 n H2) args=[]:=λn H2=>FL n H2 hc
   have e:∀H2,cK E call ops (some (base,k)) F H2 op=dJ E call ops (some (base,k)) f args H2:=λH2=>by
    unfold cK;rw[u];simp only[C,if_pos t]
   have I:∀H2:bn,cG H2 []=H2:=λ_=>rfl
   have J:jA E ops (some (base,k)) f=false:=by
    cases hk:jA E ops (some (base,k)) f with
    | false=>rfl
    | true=>unfold dJ at h;rw[if_pos hk]at h;simp only[lk,Bool.false_eq_true,if_false]at h;cases h
   have e2:∀H2,dJ E call ops (some (base,k)) f args H2=(b8 call f args []).map λy=>(y,H2):=λH2=>by
    unfold dJ;simp only[J,Bool.false_eq_true,if_false,w,G,I,lk]
    cases b8 call f args []with
    | none=>rfl
    | some y=>simp[iw]
   rw[e2]at h;obtain⟨y,L,e3⟩:=ζf.1 h;cases e3;exact⟨rfl,λH2=>by rw[e,e2,L];rfl⟩
  cases h
 .simp only[lk,Bool.false_eq_true,if_false]at h;cases h
 cases h
theorem Dp {place:Nat×Nat} {F:Frame} {H H':bn} {op:Op} {v:V} (u:cB op=.pure\/cB op=.alloc/\mX E ops (some place)=true) (h:cK E call ops (some place) F H op=some (v,H')) :
 H'=H/\∀H2:bn,cK E call ops (some place) F H2 op=some (v,H2):=by
 rcases u with u|⟨u,t⟩
 rotate_left
 .unfold cK at h;rw[u]at h;simp only[t]at h;obtain⟨x,w,e⟩:=ζf.1 h;simp_all[cK]
 unfold cK at h;rw[u]at h;simp  at h;obtain⟨x,w,rfl,rfl⟩:=h;simp_all[CN,cK]
theorem take_set_of_le {H:bn} {b k:Nat} {x:Ob} (h:b<=k):(H.set k x).take b=H.take b:=List.take_set_of_le h
theorem apart_spec {a b:Oper} (h:xZ ops a b=true):(∀d,a.dst=some d->d∉tmpsOf b ops/\b.dst≠some d)/\(∀d,b.dst=some d->d∉tmpsOf a ops):=by
 grind[xZ]
theorem C9 {i k:Nat} {ok:Oper} (h:wL ops i=true) (hk:ops[k]? = some ok) (u:k≠i) (B:ri ops i k=false):cB ok.op=.pure\/cB ok.op=.read\/cB ok.op=.alloc/\(AR ops k=true\/i<k):=by
 grind[wL]
theorem zB {op:Op} (h:isApp op=true):cB op=.loud:=by
 unfold isApp at h;split at h
 .rfl
 cases h
theorem Ip {F:Frame} {H H1:bn} {op:Op} {v:V} {b:Nat} (u:isApp op=true) (D:pq F op=true) (G:b<=H.length) (h:cr E F H op=some (v,H1)):H1.take b=H.take b:=by
 unfold isApp at u;split at u
 rotate_left
 .cases u
 rename_i args w;simp only[cr]at h;split at h
 rotate_left
 .cases h
 rename_i t I s x z B;have C:s=.c_\/s=.bN:=by
  grind[pq,fq]
 have hg:∀H2,gq H s=some H2->H2=H:=λH2 h=>by rcases C with rfl|rfl <;> (grind[gq])
 split at h
 .grind[ζf]
 .split at h
  .unfold mkApp at h
   grind
  cases h
 cases h
theorem DY {i:Nat} {F:Frame} {H H':bn} {op:Op} {u:V} (B:isApp op=true) (D:dA ops i=false) (G:(ops[i]?).map Oper.op=some op) (h:cK E call ops (some (base,i)) F H op=some (u,H')) :
 wL ops i=true/\pq F op=true/\base<=H.length/\cr E F H op=some (u,H'):=by
 unfold cK at h;rw[zB B]at h;have t:∀g,qZ g ops i=none:=λg=>by
  unfold qZ;rw[G]
  grind[isApp]
 have w:pM ops i F=false:=by unfold pM;rw[t]
 have z:qV ops base i F=false:=by unfold qV;rw[t]
 simp only[D,w,z,Bool.false_or]at h
 grind[An]
theorem Nh {i:Nat} {F:Frame} {H H':bn} {op:Op} {u:V} (B:isApp op=true) (h:cr E F H op=some (u,H')) (hc:dA ops i=true\/wL ops i=true/\pq F op=true/\base<=H.length):cK E call ops (some (base,i)) F H op=some (u,H'):=by
 unfold cK;rw[zB B]
 grind[An]
theorem Dj {i:Nat} {F:Frame} {H H':bn} {op:Op} {v:V} (u:cB op=.read) (B:dA ops i=false) (h:cK E call ops (some (base,i)) F H op=some (v,H')) :
 H'=H/\∀H2:bn,mh (H2.take base) (H.take base)->cK E call ops (some (base,i)) F H2 op=some (v,H2):=by
 unfold cK at h;rw[u]at h;simp only at h;split at h
 .rename_i t;split at h
  .rename_i x w;simp only[ζa,ζc]at h;obtain⟨rfl,rfl⟩:=h;refine⟨rfl,λH2 z=>?_⟩
   unfold cK;rw[u];simp only[yX z,w,t,if_true]
  grind
 simp at h
theorem swap {k i:Nat} {ok G:Oper} (hk:ops[k]? = some ok) (U:ops[i]? = some G) (af:k<i) (W:before ops i k=false) (J:xZ ops ok G=true) {F F1 F2:Frame} {H H1 H2:bn}
 (h1:fZ E call n ops (some (base,k)) ok F H=some (F1,H1)) (h2:fZ E call n ops (some (base,i)) G F1 H1=some (F2,H2)) :
 ∃B D,fZ E call n ops (some (base,i)) G F H=some (B,D)/\fZ E call n ops (some (base,k)) ok B D=some (F2,H2):=by
 obtain⟨a1,a2⟩:=apart_spec J;have ah:∃v,jt n F ok.dst v=some F1/\((fG ops F ok=true/\cK E call ops (some (base,k)) F H ok.op=some (v,H1))\/(fG ops F ok=false/\v=.undef/\H1=H)):=by
  unfold fZ at h1;split at h1
  .rename_i hw;split at h1
   .rename_i v H' hd;simp only[ζf,ζc]at h1
    grind
   simp at h1
  rename_i hw;simp only[ζf,ζc]at h1
  grind
 have ai:∃v,jt n F1 G.dst v=some F2/\((fG ops F1 G=true/\cK E call ops (some (base,i)) F1 H1 G.op=some (v,H2))\/(fG ops F1 G=false/\v=.undef/\H2=H1)):=by
  unfold fZ at h2;split at h2
  .rename_i hw;split at h2
   .rename_i v H' hd;simp only[ζf,ζc]at h2
    grind
   simp at h2
  rename_i hw;simp only[ζf,ζc]at h2
  grind
 obtain⟨v,Q,jx⟩:=ah;obtain⟨u,ay,ao⟩:=ai;have aA:fG ops F1 G=fG ops F G:=Bs Q λd hd=>(a1 d hd).1
 have ap:mZ F1 F G.op:=Ez Q λd hd=>(a1 d hd).1
 have aB:∀(b j:Nat),(some (base,i):bf (Nat×Nat))=some (b,j)->pM ops j F1=pM ops j F/\qV ops b j F1=qV ops b j F/\nJ ops j F1 G.op=nJ ops j F G.op:=λb j e=>by cases e;exact⟨(ye hk U Q).1,(ye hk U Q).2 _,Fb hk Q ap⟩
 rw[aA,Db ap aB]at ao;obtain⟨B,S,aC⟩:=NW Q ay λx hx=>(a1 x hx).2
 have aD:fG ops B ok=fG ops F ok:=Bs S λd hd=>a2 d hd
 have aq:mZ B F ok.op:=Ez S λd hd=>a2 d hd
 have aE:∀(b j:Nat),(some (base,k):bf (Nat×Nat))=some (b,j)->pM ops j B=pM ops j F/\qV ops b j B=qV ops b j F/\nJ ops j B ok.op=nJ ops j F ok.op:=λb j e=>by cases e;exact⟨(ye U hk S).1,(ye U hk S).2 _,Fb U S aq⟩
 have fin:∀D,((fG ops F G=true/\cK E call ops (some (base,i)) F H G.op=some (u,D))\/(fG ops F G=false/\u=.undef/\D=H)) ->
  ((fG ops F ok=true/\cK E call ops (some (base,k)) F D ok.op=some (v,H2))\/(fG ops F ok=false/\v=.undef/\H2=D)) ->
  ∃B D,fZ E call n ops (some (base,i)) G F H=some (B,D)/\fZ E call n ops (some (base,k)) ok B D=some (F2,H2):=by
  intro D e1 e2;refine⟨B,D,?_,?_⟩
  .grind[fZ]
  unfold fZ;rw[aD];rcases e2 with⟨x1,x2⟩|⟨x1,x2,x3⟩
  .rw[if_pos x1,Db aq aE,x2];simp[aC]
  grind
 rcases jx with⟨I,d1⟩|⟨I,rfl,rfl⟩
 .rcases ao with⟨L,d2⟩|⟨L,rfl,rfl⟩
  .by_cases pk:cB ok.op=.pure\/cB ok.op=.alloc/\mX E ops (some (base,k))=true
   .obtain⟨rfl,q⟩:=Dp pk d1
    grind
   by_cases pi:cB G.op=.pure\/cB G.op=.alloc/\mX E ops (some (base,i))=true
   .obtain⟨rfl,q⟩:=Dp pi d2
    grind
   by_cases J:isApp ok.op=true/\cB G.op=.alloc
   .
    obtain⟨J,aF⟩:=J;have aI:=zB J;have ar:(dA ops k=true\/wL ops k=true/\pq F ok.op=true/\base<=H.length)/\cr E F H ok.op=some (v,H1):=by
     cases hl:dA ops k with
     | true=>
      simp_all[cK]
     | false=>
      obtain⟨a,b,c,d⟩:=DY J hl (by rw[hk];rfl) d1
      grind
    obtain⟨ar,e1⟩:=ar;have ad:mX E ops (some (base,i))=false:=by
     grind
    have e2:∃ob m,eC E F G.op=some (ob,m)/\H1[base+i]? = some .free/\u=m.val (base+i)/\H2=H1.set (base+i) ob:=by
     unfold cK at d2;rw[aF]at d2
     grind
    obtain⟨ob,m,aJ,aj,rfl,rfl⟩:=e2;obtain⟨f0,f1⟩:=Ty (ob:=ob) J e1 aj;refine fin (H.set (base+i) ob) (.inl ⟨L,?_⟩) (.inl ⟨I,?_⟩)
    .grind[cK]
    grind[Nh]
   have lk:dA ops k=false:=by
    grind[dA]
   have li:dA ops i=false:=by
    grind[dA]
   by_cases au:isApp G.op=true
   .obtain⟨g1,g2,g3,g4⟩:=DY au li (by rw[U];rfl) d2
    rcases C9 g1 hk Za (by grind[ri])with h|h|⟨h,h2⟩
    .grind
    .obtain⟨rfl,q⟩:=Dj h lk d1
     grind[mh.of_eq,Ip]
    rcases h2 with h2|h2
    .exact absurd (.inr ⟨h,show (AR ops k||QT E ops k)=true by rw[h2];rfl⟩) pk
    omega
   by_cases av:isApp ok.op=true
   .obtain⟨g1,g2,g3,g4⟩:=DY av lk (by rw[hk];rfl) d1
    rcases C9 g1 U Za (by grind[ri])with h|h|⟨h,h2⟩
    .grind
    .obtain⟨rfl,q⟩:=Dj h li d2
     grind[mh.of_eq,Ip]
    grind
   by_cases O:cB G.op=.loud
   .obtain⟨g,a,l,id,el,off,t,x,C,w,hg,Y,ak,he,al⟩:=Fq U O li (by simpa using au) d2
    obtain⟨r,hr⟩:=xA hg (by rw[<-w];exact he)
    obtain⟨-,-,-,h4⟩:=oW U C;rcases h4 k ok hk Za with h|h|⟨t',a',am,Z⟩|⟨rfl,h|h⟩
    .exact absurd (.inl h) pk
    .rw[if_pos af,W]at h;cases h
    .obtain⟨rfl,q1,q3,q4,q5⟩:=Ix hk U (by rw[if_pos af];exact W) lk C w hg Y am Z d1
     refine fin H2 (.inl ⟨L,d2⟩) (.inl ⟨I,?_⟩);unfold cK;rw[q3];subst hr;simp only[q1,q4,q5,if_true]
    .have ad:mX E ops (some (base,k))=false:=by
      cases hc:mX E ops (some (base,k))with
      | false=>rfl
      | true=>exact absurd (.inr ⟨h,hc⟩) pk
     obtain⟨ob,f1,rfl,qk⟩:=Bj h ad d1;have aG:=ak rfl;rw[w,FA hg (show id≠base+k by omega)]at he
     obtain⟨⟨u',H'⟩,e1,e2⟩:=ζf.1 he;cases e2;obtain⟨r',rfl⟩:=xA hg e1;exact fin (H.set id r') (.inl ⟨L,by rw[al,w];exact e1⟩) (.inl ⟨I,qk _ (by rw[List.getElem?_set_ne Za];exact f1)⟩)
    obtain⟨rfl,qk⟩:=Di h lk C (ζe.1 U).1 (by unfold ri;rw[if_pos af];exact W) d1
    exact fin H2 (.inl ⟨L,d2⟩) (.inl ⟨I,qk H2⟩)
   by_cases ae:cB ok.op=.loud
   .obtain⟨g,a,l,id,el,off,t,x,C,w,hg,Y,ak,he,al⟩:=Fq hk ae lk (by simpa using av) d1
    obtain⟨r,hr⟩:=xA hg (by rw[<-w];exact he)
    obtain⟨-,-,-,h4⟩:=oW hk C;rcases h4 i G U Za with h|h|⟨t',a',am,Z⟩|⟨rfl,h|h⟩
    .exact absurd (.inl h) pi
    .rw[if_neg Za,W]at h;cases h
    .obtain⟨rfl,q1,q3,q4,q5⟩:=Ix U hk (by rw[if_neg Za];exact W) li C w hg Y am Z d2
     refine fin H (.inl ⟨L,?_⟩) (.inl ⟨I,d1⟩);unfold cK;rw[q3];subst hr;rw[q1]at q4;simp only[q4,q5,if_true]
    .have ad:mX E ops (some (base,i))=false:=by
      cases hc:mX E ops (some (base,i))with
      | false=>rfl
      | true=>exact absurd (.inr ⟨h,hc⟩) pi
     obtain⟨ob,f1,rfl,z⟩:=Bj h ad d2;have aG:=ak rfl;subst hr;rw[List.getElem?_set_ne Za]at f1
     refine fin (H.set (base+i) ob) (.inl ⟨L,z H f1⟩) (.inl ⟨I,?_⟩);rw[al,w,FA hg (show id≠base+i by omega),<-w,he];rfl
    obtain⟨rfl,z⟩:=Di h li C (ζe.1 hk).1 (by unfold ri;rw[if_neg Za];exact W) d2
    exact fin H (.inl ⟨L,z H⟩) (.inl ⟨I,d1⟩)
   have tk:∀(X:bn) (k:Nat) (o:Ob),mh ((X.set (base+k) o).take base) (X.take base):=λX k o=>mh.of_eq (take_set_of_le Za)
   rcases tS d1 lk ae with⟨rfl,qk⟩|⟨ob,fk,rfl,qk⟩|⟨T,tr,rfl,qk⟩
   .rcases tS d2 li O with⟨rfl,z⟩|⟨an,fi,rfl,z⟩|⟨T2,aa,rfl,z⟩
    .grind
    .grind
    exact fin _ (.inl ⟨L,d2⟩) (.inl ⟨I,qk _ ((qA aa).take base)⟩)
   .rcases tS d2 li O with⟨rfl,z⟩|⟨an,fi,rfl,z⟩|⟨T2,aa,rfl,z⟩
    .refine fin H (.inl ⟨L,z H (tk _ _ _).symm⟩) (.inl ⟨I,d1⟩)
    .grind[List.set_comm]
    have ab:iw (H.take base) T2=true:=by rw[<-u7 (tk H k ob)];exact aa
    have aw:base+k∉T2:=λhm=>absurd (zf ab hm) Za
    refine fin (cG H T2) (.inl ⟨L,z H (tk _ _ _).symm⟩) (.inl ⟨I,?_⟩);rw[qk _ (by rw[hG,fk];simp[aw]),C6 aw]
   rcases tS d2 li O with⟨rfl,z⟩|⟨an,fi,rfl,z⟩|⟨T2,aa,rfl,z⟩
   .refine fin H (.inl ⟨L,z H ((qA tr).take base).symm⟩) (.inl ⟨I,d1⟩)
   .have ax:base+i∉T:=λhm=>absurd (zf tr hm) Za
    have aH:H[base+i]? = some .free:=by
     rw[hG]at fi;obtain⟨o,ho,hf⟩:=ζf.1 fi;rw[if_neg ax]at hf;rw[ho,hf]
    refine fin (H.set (base+i) an) (.inl ⟨L,z H aH⟩) (.inl ⟨I,?_⟩);rw[qk _ (tk _ _ _),C6 ax]
   have ab:iw (H.take base) T2=true:=by rw[<-u7 ((qA tr).take base)];exact aa
   refine fin (cG H T2) (.inl ⟨L,z H ((qA tr).take base).symm⟩) (.inl ⟨I,?_⟩);rw[qk _ ((qA ab).take base),I7]
  grind
 grind
theorem IK (h:vM ops=true) {k i:Nat} {ok u:Oper} (hk:ops[k]? = some ok) (D:ops[i]? = some u) (B:k<i):DM u k=true\/xZ ops ok u=true:=by
 unfold vM at h;simp  at h
 grind
theorem PC (hd:vM ops=true) {i:Nat} {u:Oper} (B:ops[i]? = some u):∀(l r:a_ Nat),(∀k∈l,k<i/\DM u k=false/\before ops i k=false)->∀{F F':Frame} {H H':bn},
 jE E call n ops base (l++i::r) F H=some (F',H')->jE E call n ops base (i::(l++r)) F H=some (F',H'):=by
 intro l
 induction l with
 | nil=>grind
 | cons k l D=>
  intro r C F F' H H' h;obtain⟨t,G,w⟩:=C k Zc
  simp[jE]at h;split at h
  .rename_i ok hk;split at h
   .rename_i F1 H1 h1;have:=D r (λx I=>C x (List.mem_cons_of_mem _ I)) h
    simp[jE,B]at this;split at this
    .rename_i Q H2 J;have z:xZ ops ok u=true:=by
      grind[IK]
     obtain⟨L,O,g1,g2⟩:=swap hk B t w z h1 J
     grind[jE]
    grind
   grind
  grind
inductive Reach (ops:List Oper):Nat->Nat->Prop
 | one (i k:Nat) (o:Oper) (e:Edge) (hi:ops[i]? = some o) (he:e∈o.after) (hb:kK e=true) (hk:e.on=k):Reach ops i k
 | more (i j k:Nat) (o:Oper) (e:Edge) (hi:ops[i]? = some o) (he:e∈o.after) (hb:kK e=true) (hk:e.on=j) (h:Reach ops j k):Reach ops i k
theorem Dn:∀(u l:a_ Nat) (k:Nat),k∈u.foldl (λl k=>if l.contains k then l else k::l) l->k∈u\/k∈l
 | [],_,_,h=>.inr h
 | x::u,l,k,h=>by
  rcases Dn u _ k h with h|h
  all_goals grind
theorem K2 {acc:a_ (a_ Nat)} {o:Oper} {k:Nat} (h:k∈HM acc o):∃e∈o.after,kK e=true/\(k=e.on\/∃S,acc[e.on]? = some S/\k∈S):=by
 have key:∀(es:a_ Edge) (l:a_ Nat),k∈es.foldl (λl e=>(e.on::(acc[e.on]?).getD []).foldl (λl k=>if l.contains k then l else k::l) l) l->k∈l\/∃e∈es,k=e.on\/∃S,acc[e.on]? = some S/\k∈S:=by
  intro es
  induction es with
  | nil=>grind
  | cons e es t=>
   intro l h;rcases t _ h with h|⟨w,h1,u⟩
   .rcases Dn _ _ _ h with h|h
    all_goals grind
   grind
 rcases key _ _ h with h|⟨e,h1,u⟩
 all_goals grind
theorem x8 (ops:a_ Oper):∀(l:a_ Oper) (acc:a_ (a_ Nat)) (pre:a_ Oper),ops=pre++l->acc.length=pre.length->(∀(i:Nat) S,acc[i]? = some S->∀k∈S,Reach ops i k) ->
 ∀(i:Nat) S,(l.foldl (λacc o=>acc++[HM acc o]) acc)[i]? = some S->∀k∈S,Reach ops i k
 | [],_,_,_,_,h=>h
 | o::l,acc,pre,D,G,h=>by
  refine x8 ops l _ (pre++[o]) (by simp_all) (by simp_all) ?_
  intro i S u k hk
  by_cases J:i<acc.length
  .grind
  rw[List.getElem?_append_right Za]at u
  have B:i=acc.length:=by
   grind
  subst B;simp at u;subst u;have t:ops[acc.length]? = some o:=by grind
  obtain⟨e,w,z,hk⟩:=K2 hk;rcases hk with hk|⟨S,u,hk⟩
  .exact .one _ _ o e t w z hk.symm
  exact .more _ e.on _ o e t w z rfl (h _ S u k hk)
theorem HQ {i k:Nat} (h:before ops i k=true):Reach ops i k:=by
 unfold before at h
 cases t:(HD ops)[i]? with
 | none=>grind
 | some S=>
  exact x8 ops ops [] [] rfl rfl Zc i S t k Zd
end
section
variable {P:Program} {E:Env} {I I':ck} {μ μ':Mu} {H H':bn} {n B:Nat} {F F':Frame} {a:Act} {w w':World}
theorem Fs (e:Edge):Region.binds .any e=kK e:=by
 unfold Region.binds kK
 grind
def todo (ops:Array Oper) (listed:Array Bool):a_ Nat:=(List.range ops.size).filter λi => !listed.getD i true
theorem xC (ops:Array Oper) (listed:Array Bool):(todo ops listed).Pairwise (·<·):=List.pairwise_lt_range.filter _
theorem Qe {ops:Array Oper} {listed:Array Bool} {i:Nat} (D:listed.size=ops.size) (G:i<ops.size) {u B:a_ Nat} (h:todo ops listed=u++i::B) :
 todo ops (listed.setIfInBounds i true)=u++B:=by
 have I:∀j∈List.range ops.size,(!(listed.setIfInBounds i true).getD j true)=((!listed.getD j true)&&(j != i)):=by
  intro j _
  by_cases e:j=i
  .simp_all
  have:(listed.setIfInBounds i true).getD j true=listed.getD j true:=by simp[Array.getElem?_setIfInBounds_ne (Ne.symm e)]
  grind
 have:todo ops (listed.setIfInBounds i true)=(todo ops listed).filter (· != i):=by
  unfold todo;rw[List.filter_filter]
  grind
 rw[this,h];have t:=xC ops listed;rw[h]at t;rw[List.pairwise_append]at t;obtain⟨_,z,C⟩:=t;rw[List.pairwise_cons]at z;rw[List.filter_append,List.filter_cons];simp;rw[List.filter_eq_self.2 (λx w=>by have:=C x w i Zc;simp;omega),List.filter_eq_self.2 (λx w=>by grind)]
def Down (ops:Array Oper) (listed:Array Bool):Prop:=∀j o,listed.getD j false=true->ops[j]? = some o->∀e∈o.after,kK e=true->listed.getD e.on false=true
theorem L0 {ops:Array Oper} {listed:Array Bool} (hd:Down ops listed) {i k:Nat} (h:Reach ops.toList i k) (B:∀o,ops[i]? = some o->∀e∈o.after,kK e=true->listed.getD e.on false=true):listed.getD k false=true:=by
 induction h with
 | one i k o e z u w hk=>grind
 | more i j k o e z u w hk _ C=>
  subst hk;exact C λD t=>hd _ _ (B o Zd e u w) t
theorem E0 (hE:dU P E) {call:dz} (hc:kz P call) {ops:Array Oper} (hd:vM ops.toList=true) (hb:Al ops.toList=true) (ro:bf Nat) {Q:Exit->Act->World->Prop} (base:Nat) :
 ∀(D:Nat) (listed:Array Bool) (I:ck) (μ:Mu) (F:Frame) (H:bn) (a:Act) (w:World),listed.size=ops.size->Down ops listed->(todo ops listed).length=D ->
 jE E call n ops.toList base (todo ops listed) F H=some (F',H')->dP I μ n F a.tmps->cR I μ H w ->
 (∀a' I' μ' w',dP I' μ' n F' a'.tmps->a'.defers=a.defers->cR I' μ' H' w'->Step I μ H w I' μ' H' w'->Q .normal a' w') ->
 wpAnyIn (fr ro) 0 P .any ops Q D listed a w:=by
 intro D
 induction D with
 | zero=>
  intro listed I μ F H a w L J hl h r s hQ;have O:todo ops listed=[]:=List.eq_nil_of_length_eq_zero hl;rw[O]at h;obtain⟨rfl,rfl⟩:=h;refine⟨?_,hQ a I μ w r rfl s (.refl _ _ _ _)⟩;unfold Region.ready;rw[List.filter_eq_nil_iff];intro i hi;have:i∉todo ops listed:=by grind
  unfold todo at this
  grind
 | succ D ih=>
  intro listed I μ F H a w L J hl h r s hQ;have U:∀i,i∈Region.ready .any ops listed->i<ops.size/\i∈todo ops listed/\∃o,ops[i]? = some o/\∀e∈o.after,kK e=true->listed.getD e.on false=true:=by
   intro i hi;unfold Region.ready at hi;rw[List.mem_filter]at hi;obtain⟨h1,h2⟩:=hi;simp only[ζh]at h2;have C:i<ops.size:=by grind
   refine⟨C,by unfold todo;grind,ops[i],by simp_all,?_⟩
   have h5:(ops[i].after.all λe => !Region.binds .any e||listed.getD e.on false)=true:=by
    grind
   rw[Array.all_eq_true_iff_forall_mem]at h5;intro e T W;have:=h5 e T;rw[Fs,W]at this
   grind
  refine⟨?_,?_⟩
  .
   intro O
   cases X:todo ops listed with
   | nil=>rw[X]at hl;simp at hl
   | cons Y rest=>
    have u:Y∈todo ops listed:=by rw[X];simp
    have hs:=xC ops listed;rw[X,List.pairwise_cons]at hs;unfold todo at u;rw[List.mem_filter]at u;have C:Y<ops.size:=by simpa using u.1
    have:Y∈Region.ready .any ops listed:=by
     unfold Region.ready;rw[List.mem_filter];refine⟨u.1,?_⟩;simp only[ζh];refine⟨u.2,?_⟩;have e0:ops[Y]? = some ops[Y]:=by simp[C]
     rw[e0];simp only[Option.map_some,Option.getD_some];rw[Array.all_eq_true_iff_forall_mem];intro e T;rw[Fs]
     cases al:kK e with
     | false=>simp
     | true=>
      simp only[Bool.not_true];have am:e.on<Y:=by
       unfold Al at hb;simp only[List.all_eq_true]at hb;have:=hb Y (by simpa using C)
       have e1:ops.toList[Y]? = some ops[Y]:=by simp[C]
       rw[e1]at this;simp only[Array.all_eq_true_iff_forall_mem]at this;have:=this e T;rw[al]at this;simpa using this
      cases an:listed.getD e.on false with
      | true=>rfl
      | false=>
       exfalso;have ah:e.on∈todo ops listed:=by
        unfold todo;rw[List.mem_filter];refine⟨by simp;omega,?_⟩
        have ai:e.on<listed.size:=by omega
        have:listed.getD e.on true=listed.getD e.on false:=by simp[ai]
        rw[this,an];rfl
       rw[X]at ah;rcases List.mem_cons.1 ah with h|h
       .omega
       have:=hs.1 _ h;omega
    rw[O]at this;simp at this
  intro i hi;obtain⟨C,u,o,ho,B⟩:=U i hi;obtain⟨l1,l2,t⟩:=List.append_of_mem u;have G:=xC ops listed;rw[t,List.pairwise_append]at G;have Z:∀k∈l1,k<i/\DM o k=false/\before ops.toList i k=false:=by
   intro k hk;have ao:listed.getD k false=false:=by
    have z:k∈todo ops listed:=by rw[t];simp[hk]
    unfold todo at z;rw[List.mem_filter]at z;have ad:k<listed.size:=by rw[L];simpa using z.1
    have:listed.getD k true=listed.getD k false:=by simp[ad]
    rw[this]at z;simpa using z.2
   refine⟨G.2.2 k hk i Zc,?_,?_⟩
   rotate_left
   .cases ap:before ops.toList i k with
    | false=>rfl
    | true=>
     have:=L0 J (HQ ap) (λo' aa=>by rw[ho]at aa;cases aa;exact B)
     rw[ao]at this;cases this
   cases T:DM o k with
   | false=>rfl
   | true=>
    exfalso;unfold DM at T;rw[Array.any_eq_true]at T;obtain⟨ix,aq,ab⟩:=T;have aj:o.after[ix]∈o.after:=Array.getElem_mem aq;generalize o.after[ix]=e at aj ab;simp only[ζh,beq_iff_eq]at ab;have h1:=B e aj ab.2;rw[ab.1]at h1;have z:k∈todo ops listed:=by rw[t];simp[hk]
    unfold todo at z;rw[List.mem_filter]at z;have ad:k<listed.size:=by rw[L];simpa using z.1
    have:listed.getD k true=listed.getD k false:=by simp[ad]
    rw[this,h1]at z;simp at z
  rw[t]at h;have h':=PC hd (by simpa using ho) l1 l2 Z h
  simp only[jE]at h';have aa:ops.toList[i]? = some o:=by simpa using ho
  rw[aa]at h';simp only at h';split at h'
  .rename_i F1 H1 ae;unfold wpOpIn;rw[ho];simp only;refine CJ hE hc ae r s ro (λa' I' μ' w' hr ar hs au=>?_)
   have ht:=Qe L C t;refine ih (listed.setIfInBounds i true) I' μ' F1 H1 a' w' (by simpa using L) ?_ ?_ (by rw[ht];exact h') hr hs ?_
   .have S:∀j,listed.getD j false=true->(listed.setIfInBounds i true).getD j false=true:=by
     intro j hj
     by_cases e:i=j
     .subst e;simp[L,C]
     simpa [Array.getD_eq_getD_getElem?,Array.getElem?_setIfInBounds_ne e]using hj
    intro j oj hj af e T W
    by_cases e':i=j
    .subst e';rw[ho]at af;cases af;exact S _ (B e T W)
    refine S _ (J j oj ?_ af e T W);simpa [Array.getD_eq_getD_getElem?,Array.getElem?_setIfInBounds_ne e']using hj
   .rw[ht];rw[t]at hl;simp at hl ⊢;omega
   intro a2 I2 μ2 w2 av aw ax ak;exact hQ a2 I2 μ2 w2 av (aw.trans ar) ax (Step.trans hs au ak)
  simp at h'
theorem cR.FZ (s:cR I μ H w) (k:Nat):cR I μ (H++List.replicate k .free) w:=by
 have t:∀id ob,(H++List.replicate k Ob.free)[id]? = some ob->H[id]? = some ob\/(ob=.free/\H.length<=id):=by
  grind
 refine⟨λid h=>s.dom id Zd,s.imm,?_,?_,s.gl⟩
 .intro id ob h;rcases t id ob h with h|⟨rfl,u⟩
  .exact s.obs id ob h
  exact s.dom id u
 intro id z ob B p G h1 u C D;rcases t id ob h1 with h1|⟨rfl,_⟩
 .rcases t z B u with u|⟨rfl,_⟩
  .exact s.inj id z ob B p G h1 u C D
  simp[Ob.live]at D
 simp[Ob.live]at C
theorem IT (k:Nat) (b:Nat):gR μ (H++List.replicate k .free) b↔gR μ H b:=by
 constructor
 .rintro⟨id,p,ob,h1,t,u,w⟩
  by_cases z:id<H.length
  .rw[List.getElem?_append_left z]at h1;exact⟨id,p,ob,h1,t,u,w⟩
  rw[List.getElem?_append_right Za,List.getElem?_replicate]at h1
  split at h1
  .simp at h1;subst h1;simp[Ob.live]at t
  grind
 rintro⟨id,p,ob,h1,t,u,w⟩;exact⟨id,p,ob,by grind,t,u,w⟩
theorem Step.FZ (k:Nat):Step I μ H w I μ (H++List.replicate k .free) w:=
 ⟨ck.le_refl _,Mu.le_refl _,by simp,Nat.le_refl _,λ_ _ _=>rfl,λb h=>h.elim .inl λh=>.inr (.inl ((IT k b).1 h)),rfl,.refl _,λ_ _ h=>h⟩
theorem H8 (D:dU P E) (T:P.follows .mixedOrders=true) {call:dz} (hc:kz P call) {id:Nat} {ops:Array Oper} {u:Bool} (ro:bf Nat) {Q:Exit->Act->World->Prop}
 (h:jf E call n ops.toList u F H=some (F',H')) (r:dP I μ n F a.tmps) (s:cR I μ H w)
 (G:∀a' I' μ' w',dP I' μ' n F' a'.tmps->a'.defers=a.defers->cR I' μ' H' w'->Step I μ H w I' μ' H' w'->Q .normal a' w') :
 (Code.region id ops u).wpIn (fr ro) 0 P Q a w:=by
 unfold jf at h
 cases u with
 | false=>
  refine wpIn_region ?_;rw[List.range_eq_range',<-Array.length_toList];exact ML D hc ro ops.toList 0 I μ F H a w Zc h r s G
 | true=>
  simp only[if_true]at h;split at h
  .rename_i z;simp  at z;refine wpIn_region_draw λt=>?_
   simp[Region.schedule,T];have s0:cR I μ H { w with drawn:=w.drawn+1 }:=s.oD rfl;have st0:Step I μ H w I μ H { w with drawn:=w.drawn+1 }:=Step.oD rfl rfl ⟨rfl,rfl,Nat.le_succ _⟩;have B:todo ops (Array.replicate ops.size false)=List.range ops.toList.length:=by
    unfold todo;simp_all
   have C:Down ops (Array.replicate ops.size false):=by
    intro j o S;simp[Array.getElem?_replicate]at S
    grind
   refine wpAnyIn_sound ops.size t _ a _ ?_;split at h
   .refine E0 D hc z.1 z.2 ro H.length ops.size _ I μ F (H++List.replicate ops.toList.length .free) a _ Zc C Zd (by rw[B];omega) r (s0.FZ _) ?_
    intro a' I' μ' w' h1 J L O;exact G a' I' μ' w' h1 J L (Step.trans s0 st0 (Step.trans (s0.FZ _) (Step.FZ _) O))
   refine E0 D hc z.1 z.2 ro H.length ops.size _ I μ F H a _ Zc C Zd (by rw[B];omega) r s0 ?_
   intro a' I' μ' w' h1 J L O;exact G a' I' μ' w' h1 J L (Step.trans s0 st0 O)
  grind
end
def Out.Hg:Out->Exit
 | .norm=>.normal
 | .exit id=>.exit id
 | .ret=>.ret
theorem exists_least (p:Nat->Prop):∀k,p k->∃m,p m/\∀j,p j->m<=j:=by
 intro k
 induction k using Nat.strongRecOn with
 | _ k t=>
  grind
open Classical in
noncomputable def least (p:Nat->Prop):Nat:=if h:∃m,p m/\∀j,p j->m<=j then h.choose else 0
theorem KJ (p:Nat->Prop) {k:Nat} (hk:p k):p (least p)/\least p<=k:=by
 have h:=exists_least p k hk
 grind[least]
section
variable {P:Program} {E:Env} {I I':ck} {μ μ':Mu} {H H':bn} {n B:Nat} {F F':Frame} {a:Act} {w w':World}
def Post (B n:Nat) (I:ck) (μ:Mu) (H:bn) (w:World) (o:Out) (F':Frame) (H':bn):Exit->Act->World->Prop:=
 λe t w'=>e=o.Hg/\(∃I' μ',dP I' μ' n F' t.tmps/\cR I' μ' H' w'/\Step I μ H w I' μ' H' w')/\jM B t.defers w'
theorem Post.mono {I1:ck} {u:Mu} {H1:bn} {D:World} {o:Out} (G:cR I1 u H1 D) (st:Step I μ H w I1 u H1 D) {e:Exit} {a':Act} {w':World} (h:Post B n I1 u H1 D o F' H' e a' w') :
 Post B n I μ H w o F' H' e a' w':=by
 obtain⟨h1,⟨I',μ',t,z,C⟩,J⟩:=h;exact⟨h1,⟨I',μ',t,z,Step.trans G st C⟩,J⟩
theorem cR.A2 (s:cR I μ H w) {b:Nat} (o:Obj) (D:I b=none) (G:¬gR μ H b):cR I μ H (fA w b o) where
 dom:=s.dom
 imm:=λt x h=>IC.rJ (s.imm t x h) (eU o Zd)
 obs:=λid ob h=>(s.obs id ob h).mono (ck.le_refl _) (Mu.le_refl _) (λp u z=>by
  have C:gR μ H p.b:=⟨id,p,ob,h,z,u,rfl⟩
  grind[eU,fK]) (λB=>by subst B;exact s.obs id _ h)
 inj:=s.inj
 gl:=s.gl
theorem Tk (s:cR I μ H w) {b:Nat} {o:Obj} (h:w.heap[b]? = some o) (h1:∀c e f,o≠.cells c e f) (u:∀es c,o≠.map es c):I b=none:=by
 cases t:I b with
 | none=>rfl
 | some x=>
  have:=s.imm b x t
  cases x with
  | cells c=>obtain⟨_,_,q⟩:=this;rw[h]at q;grind
  | map es=>obtain⟨_,q⟩:=this;rw[h]at q;grind
theorem Step.kept (hk:∀b,b<w.heap.size->w'.heap[b]? = w.heap[b]?) (u:w.heap.size<=w'.heap.size) (h1:w'.os=w.os) (B:ve w w') (D:∀a:Addr,a.block<w.heap.size->w.frozen? a=false->w'.frozen? a=false):Step I μ H w I μ H w':=
 ⟨ck.le_refl _,Mu.le_refl _,Nat.le_refl _,u,λb t _=>hk b t,λ_ h=>h.elim .inl λh=>.inr (.inl h),h1,B,D⟩
theorem Step.after (st:Step I μ H w I' μ' H' w') {b:Nat} (o:Obj) (u:w.heap.size<=b) (B:Obj.nf o:=by first|exact th _ _|exact qU rfl):Step I μ H w I' μ' H' (fA w' b o):=
 ⟨st.le,st.mu,st.len,by rw[rI];exact st.size,λz t C=>by rw[eU o Za];exact st.frame z t C,st.terr,st.os,⟨st.out.out,st.out.tape,st.out.dr⟩,λa u D=>Vl B a (st.fz a u D)⟩
theorem jM.A2 {ds:a_ Deferred} (h:jM B ds w) {b:Nat} {o:Obj} (u:∀r,w.heap[r]? = some (.deferred (some []))->r≠b):jM B ds (fA w b o):=
 ⟨λd hd=>by
  obtain⟨r,h1,t,z⟩:=h.all d hd
  grind[eU],h.apart⟩
theorem LB {step:Frame->bn->bf (Out×Frame×bn)} {c:Code} {ro:bf Nat} {o:Out}
 (u:∀I μ F H a w o F' H',step F H=some (o,F',H')->dP I μ n F a.tmps->cR I μ H w->jM B a.defers w->B<=w.heap.size->c.wpIn (fr ro) 0 P (Post B n I μ H w o F' H') a w)
 {k:Nat} (h:j_ step k F H=some (o,F',H')) (r:dP I μ n F a.tmps) (s:cR I μ H w) (m:jM B a.defers w) (hB:B<=w.heap.size) :
 (Code.loop c).wpIn (fr ro) 0 P (Post B n I μ H w o F' H') a w:=by
 let Inv:Nat->Act->World->Prop:=λk t w'=>∃I1 G F1 H1,j_ step k F1 H1=some (o,F',H')/\dP I1 G n F1 t.tmps/\cR I1 G H1 w'/\Step I μ H w I1 G H1 w'/\jM B t.defers w'/\B<=w'.heap.size
 let M:Act->World->Nat:=λt w'=>least (λk=>Inv k t w')
 have Y:∀k t w',Inv k t w'->Inv (M t w') t w'/\M t w'<=k:=λk t w' Q=>KJ (λk=>Inv k t w') Q
 refine wpIn_loop (λt w'=>∃k,Inv k t w') M ⟨k,I,μ,F,H,h,r,s,.refl _ _ _ _,m,hB⟩ ?_
 rintro S T ⟨k1,W⟩;obtain⟨Q,_⟩:=Y k1 S T W;generalize hk:M S T=kk at Q;obtain⟨I1,G,F1,H1,U,r1,J,C,Z,D⟩:=Q
 cases kk with
 | zero=>grind[j_]
 | succ kk=>
  simp only[j_]at U;split at U
  next F2 H2 X=>refine wpIn_mono (u I1 G F1 H1 S T .norm F2 H2 X r1 J Z D) ?_;rintro e L O ⟨rfl,⟨I2,μ2,r2,s2,st2⟩,m2⟩;show (∃k,Inv k L O)/\M L O<kk+1;have z:Inv kk L O:=⟨I2,μ2,F2,H2,U,r2,s2,Step.trans J C st2,m2,Nat.le_trans D st2.size⟩;exact⟨⟨kk,z⟩,Nat.lt_succ_of_le (Y kk L O z).2⟩
  rename_i aa;refine wpIn_mono (u I1 G F1 H1 S T o F' H' U r1 J Z D) ?_;intro e L O hp;have ab:o≠.norm:=by
   simp_all
  obtain⟨rfl,h2,h3⟩:=hp
  cases o with
  | norm=>grind
  | exit id=>exact Post.mono J C ⟨rfl,h2,h3⟩
  | ret=>exact Post.mono J C ⟨rfl,h2,h3⟩
theorem AV (s:cR I μ H w) {id:Nat} {r:vC} (h:H[id]? = some (.loop r)):∃p l,μ id=some p/\I p.b=none/\w.heap[p.b]? = some (.loop l)/\vB I μ r l:=s.obs id _ h
theorem HN {p:bf Out} (hp:p≠some .norm):(p.bind mc=none->p.getD .norm=.norm)/\(∀c,p.bind mc=some c->(c=.ret/\p.getD .norm=.ret)\/∃id,c=.exit id/\p.getD .norm=.exit id):=by
 cases p with
 | none=>grind
 | some o=>
  cases o with
  | norm=>grind
  | ret=>grind[mc]
  | exit id=>grind[mc]
theorem Jh {call:dz} (hc:kz P call) {g:Operand} {ps:Array Tmp} {assign body:Code} {o:Out} {lf:Nat}
 (h:exec E call lf false n (.rangeFunc g ps assign body) F H=some (o,F',H')) (r:dP I μ n F a.tmps) (s:cR I μ H w) (m:jM B a.defers w) (hB:B<=w.heap.size) :
 (Code.rangeFunc g ps assign body).wpIn (fr none) 0 P (Post B n I μ H w o F' H') a w:=by
 cases hg:ev F g with
 | none=>simp_all[exec]
 | some gv=>
 cases gv with
 | clo f x y=>
  simp[exec,hg]at h;split at h
  .rename_i ak H2 J;split at h
   .rename_i r2 L;have U:r2.st≠.busy/\r2.pend.getD .norm=o/\F=F'/\H2.set H.length .dead=H':=by
     grind
    obtain⟨U,rfl,rfl,rfl⟩:=U;obtain⟨u,v,eg,hu,hv⟩:=(dh r hg).jU;refine wpIn_rangeFunc λz _=>?_
    have W:∀b,b<w.heap.size->(w.alloc (.deferred (some []))).heap[b]? = w.heap[b]? := λb hb=>jO _ b hb
    have s1  := s.kept W;have ab:Step I μ H w I μ H (w.alloc (.deferred (some []))):=Step.kept W Zc rfl ⟨rfl,rfl,Nat.le_refl _⟩ (λa _=>Mm (qU rfl) a)
    have ad:vB I μ ⟨.ready,none,F,n,ps.toList,assign,body⟩ { state:=.ready,pending:=none,fn:=z,tmps:=a.tmps,params:=ps,assign,body,defers:=w.heap.size }:=
     ⟨trivial,rfl,by simp,r,rfl,rfl,rfl⟩
    obtain⟨s2,st2⟩:=s1.push (ob:=.loop ⟨.ready,none,F,n,ps.toList,assign,body⟩)
     (o:=.loop { state:=.ready,pending:=none,fn:=z,tmps:=a.tmps,params:=ps,assign,body,defers:=w.heap.size }) (p:=⟨w.heap.size+1,0,0,0⟩) Zc
     ⟨_,_,Mu.fN _ _ _,by have:=s1.yH;simp_all,by have:=kB (w:=w.alloc (.deferred (some []))) (.loop { state:=.ready,pending:=none,fn:=z,tmps:=a.tmps,params:=ps,assign,body,defers:=w.heap.size });simp_all,
      ad.mono (ck.le_refl _) (Mu.qo (s1.dom _ (Nat.le_refl _)))⟩
    have O :=
     (hu.mono (ck.le_refl _) st2.mu).append (.cons (.yld H.length ⟨w.heap.size+1,0,0,0⟩ (Mu.fN _ _ _)) (hv.mono (ck.le_refl _) st2.mu))
    obtain⟨hf,D⟩:=hc.fn f _ _ _ _ J;refine⟨w.heap.size+1,[{ target:=.collected w.heap.size,args:=#[] }],((w.alloc (.deferred (some []))).alloc (.loop { state:=.ready,pending:=none,fn:=z,tmps:=a.tmps,params:=ps,assign,body,defers:=w.heap.size })),{ target:=.fn (.func f) v,args:=u++#[.func (.yield (w.heap.size+1)) #[] #[]] },((w.alloc (.deferred (some []))).alloc (.loop { state:=.ready,pending:=none,fn:=z,tmps:=a.tmps,params:=ps,assign,body,defers:=w.heap.size })),f,u++#[.func (.yield (w.heap.size+1)) #[] #[]]++v,((w.alloc (.deferred (some []))).alloc (.loop { state:=.ready,pending:=none,fn:=z,tmps:=a.tmps,params:=ps,assign,body,defers:=w.heap.size })),
     run_enterLoop_outer z a.tmps ps assign body,?_,λ_ _=>trivial,?_,λh=>by grind[fr],?_⟩
    .simp_all[resolve,Deferred.ofValue,Act.eval]
    .exact xd hf _
    have X:=D _ _ _ _ s2 O;have Q:(u.toList++.func (.yield (w.heap.size+1)) #[] #[]::v.toList).toArray=u++#[.func (.yield (w.heap.size+1)) #[] #[]]++v:=by grind
    rw[Q]at X;refine X.mono ?_;rintro e Y ⟨aj,I3,μ3,rfl,_,s3,S⟩;obtain⟨p,l,g1,g2,g3,g4⟩:=AV s3 L;have hp:p=⟨w.heap.size+1,0,0,0⟩:=by
     have:=S.mu _ _ (Mu.fN μ H.length ⟨w.heap.size+1,0,0,0⟩)
     grind
    subst hp;have G:l.state≠.busy:=by
     intro he;have:=g4.st;rw[he]at this
     all_goals grind[Bk.is]
    refine⟨l.pending,_,run_endLoop g3 G,?_⟩;obtain⟨s4,ae⟩:=s3.kill L;have T:¬gR μ3 (H2.set H.length .dead) (w.heap.size+1):=by
     rintro⟨id,q,ob,h1,h2,Z,h4⟩
     by_cases e:id=H.length
     .grind[Ob.live]
     rw[List.getElem?_set_ne (Ne.symm e)]at h1;exact e (s3.inj id H.length ob _ q _ h1 L h2 rfl Z g1 h4)
    have s5:cR I3 μ3 (H2.set H.length .dead) (fA Y (w.heap.size+1) (.loop { l with state:=.exhausted })):=s4.A2 _ g2 T;have st  := Step.trans s1 ab (Step.trans s2 st2 (Step.trans s3 S ae));have af:Step I μ H w I3 μ3 (H2.set H.length .dead) (fA Y (w.heap.size+1) (.loop { l with state:=.exhausted })):=st.after _ Za
    have m2:jM B ({ target:=.collected w.heap.size,args:=#[] }::a.defers) ((w.alloc (.deferred (some []))).alloc (.loop { state:=.ready,pending:=none,fn:=z,tmps:=a.tmps,params:=ps,assign,body,defers:=w.heap.size })):=by
     refine⟨?_,?_⟩
     .intro d hd;rcases List.mem_cons.1 hd with rfl|hd
      .refine⟨w.heap.size,rfl,hB,?_⟩;rw[jO _ _ Zc];exact kB _
      obtain⟨q,h1,h2,Z⟩:=m.all d hd;have hq:=(Array.getElem?_eq_some_iff.1 Z).1
      grind[jO]
     refine List.Pairwise.cons ?_ m.apart;intro d hd q hq al;obtain⟨q2,h1,h2,Z⟩:=m.all d hd;have:=(Array.getElem?_eq_some_iff.1 Z).1
     grind
    have m3:=m2.step s2 S;have m5:jM B ({ target:=.collected w.heap.size,args:=#[] }::a.defers) (fA Y (w.heap.size+1) (.loop { l with state:=.exhausted })):=
     m3.A2 (λq hq e=>by grind)
    have ah  := st.le;have ai  := st.mu;have t:∀C:Out,r2.pend.getD .norm=C->Post B n I μ H w C F (H2.set H.length .dead) C.Hg { a with defers:=[{ target:=.collected w.heap.size,args:=#[] }]++a.defers } (fA Y (w.heap.size+1) (.loop { l with state:=.exhausted })):=
     λC _=>⟨rfl,⟨I3,μ3,r.mono ah ai,s5,af⟩,m5⟩
    obtain⟨W5,aa⟩:∃W5,Y.putObj (w.heap.size+1) (.loop { l with state:=.exhausted })=W5:=⟨_,rfl⟩;have t:∀C:Out,r2.pend.getD .norm=C->Post B n I μ H w C F (H2.set H.length .dead) C.Hg { a with defers:=[{ target:=.collected w.heap.size,args:=#[] }]++a.defers } W5:=by
     intro C ho;rw[<-aa];exact t C ho
    rw[aa];obtain⟨k1,k2⟩:=HN g4.pendOk;rw[g4.pend]
    cases hj:r2.pend.bind mc with
    | none=>rw[k1 hj];exact t .norm (k1 hj)
    | some c=>
     rcases k2 c hj with⟨rfl,e⟩|⟨id,rfl,e⟩
     .rw[e];exact wpIn_ret (t .ret e)
     rw[e];exact wpIn_exit (t (.exit id) e)
   grind
  grind
 | _=>simp[exec,hg]at h
theorem yV (hE:dU P E) (hm:P.follows .mixedOrders=true) {call:dz} (hc:kz P call) (lf:Nat) (ro:bf Nat) (T:Bool) (aa:T=ro.isSome) (n:Nat) :
 ∀(c:Code) (I:ck) (μ:Mu) (F:Frame) (H:bn) (a:Act) (w:World) (o:Out) (F':Frame) (H':bn),exec E call lf T n c F H=some (o,F',H')->dP I μ n F a.tmps->cR I μ H w ->
  jM B a.defers w->B<=w.heap.size->c.wpIn (fr ro) 0 P (Post B n I μ H w o F' H') a w:=by
 intro c
 induction c with
 | skip=>
  intro I μ F H a w o F' H' h r s m _;obtain⟨rfl,rfl,rfl⟩:=h;exact wpIn_skip ⟨rfl,⟨I,μ,r,s,.refl _ _ _ _⟩,m⟩
 | label l=>
  intro I μ F H a w o F' H' h r s m _;obtain⟨rfl,rfl,rfl⟩:=h;exact wpIn_label ⟨rfl,⟨I,μ,r,s,.refl _ _ _ _⟩,m⟩
 | region id ops X=>
  intro I μ F H a w o F' H' h r s m _;simp only[exec,ζf]at h;obtain⟨⟨F2,H2⟩,h,rfl,rfl,rfl⟩:=h;refine H8 hE hm hc ro h r s (λa' I' μ' w' h1 z C Y=>⟨rfl,⟨I',μ',h1,C,Y⟩,?_⟩)
  rw[z];exact m.step s Y
 | seq x y D G=>
  intro I μ F H a w o F' H' h r s m u;simp[exec]at h;refine wpIn_seq ?_;split at h
  .rename_i F1 H1 h1;refine wpIn_mono (D I μ F H a w _ F1 H1 h1 r s m u) ?_;rintro e J L ⟨rfl,⟨I1,Z,r1,s1,S⟩,m1⟩;refine wpIn_mono (G I1 Z F1 H1 J L o F' H' h r1 s1 m1 (Nat.le_trans u S.size)) ?_
   grind[Post.mono]
  refine wpIn_mono (D I μ F H a w o F' H' h r s m u) ?_;rintro e J L ⟨rfl,z,C⟩
  cases o with
  | norm=>grind
  | exit id=>exact⟨rfl,z,C⟩
  | ret=>exact⟨rfl,z,C⟩
 | cond c x y D G=>
  intro I μ F H a w o F' H' h r s m u;simp[exec]at h;split at h
  .rename_i t U;have ab:=(dh r U).qP
   grind[wpIn_cond]
  grind
 | block id c Q=>
  intro I μ F H a w o F' H' h r s m u;simp[exec]at h;refine wpIn_block ?_;split at h
  .rename_i O F1 H1 h1;refine wpIn_mono (Q I μ F H a w _ F1 H1 h1 r s m u) ?_;rintro e J L ⟨rfl,z,C⟩;show Exit.inBlock id _ (.exit O) J L;unfold Exit.inBlock;split at h
   next W=>obtain⟨rfl,rfl,rfl⟩:=h;simp[W];exact⟨rfl,z,C⟩
   rename_i W;obtain⟨rfl,rfl,rfl⟩:=h;simp[W];exact⟨rfl,z,C⟩
  refine wpIn_mono (Q I μ F H a w o F' H' h r s m u) ?_;rintro e J L ⟨rfl,z,C⟩
  cases o with
  | norm=>exact⟨rfl,z,C⟩
  | exit O=>grind
  | ret=>exact⟨rfl,z,C⟩
 | loop c Q=>
  intro I μ F H a w o F' H' h r s m u;exact LB (λI μ F H a w o F' H' h r s m u=>Q I μ F H a w o F' H' h r s m u) h r s m u
 | rangeFunc g ps assign body _ _=>
  intro I μ F H a w o F' H' h r s m u
  cases T with
  | true=>simp[exec]at h
  | false=>
   cases ro with
   | none=>grind[Jh]
   | some l=>simp_all
 | exit id=>
  intro I μ F H a w o F' H' h r s m _;obtain⟨rfl,rfl,rfl⟩:=h;exact wpIn_exit ⟨rfl,⟨I,μ,r,s,.refl _ _ _ _⟩,m⟩
 | ret=>
  intro I μ F H a w o F' H' h r s m _;obtain⟨rfl,rfl,rfl⟩:=h;exact wpIn_ret ⟨rfl,⟨I,μ,r,s,.refl _ _ _ _⟩,m⟩
 | scope body _=>simp_all[exec]
 | goto l=>simp_all[exec]
 | refuse ad=>simp_all[exec]
end
end Go.VE
