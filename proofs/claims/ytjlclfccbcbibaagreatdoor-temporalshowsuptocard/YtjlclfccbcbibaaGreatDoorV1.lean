/- Engine, values. -/
import Derived.RangeFuncLeaves
import Derived.Sort.Defs
import Derived.Lib.BitFns
import Derived.Laws.Sem
import Derived.Laws.World
import Derived.Laws.Append
import Derived.Laws.BytesString
import Derived.OrdersIn
import Derived.RangeFuncRecord
set_option linter.all false
open BitVec(ofInt)
open Go.IntKind(i64 wrap)
open Go.Op(bytesLess equal equalIn intArith intBits intCmp operands)
open List(all_eq_true drop_drop drop_take eq_of_mem_replicate finRange flatten_append getElem?_drop getElem?_set_ne getElem?_take length mem_append mem_cons mem_cons_of_mem mem_filter mem_flatten mem_map mem_of_getElem? mem_of_mem_drop mem_of_mem_take range replicate set_comm take_append_drop)
open Go.Instr(checkKey fieldAt fill findAsking findKey findNow indexAt loadAt sameBits sameNow sliceAt sliceBound sliceBounds storeAt sureAddr)
open Go.Sem(run_bind run_ite run_pure)
open Go.Result(andThen andThen_ok)
open Bool(false_eq_true)
open Option(getD_some isSome_iff_exists map_some)
open Nat(add_assoc add_mul add_zero le_refl le_succ le_trans mod_lt mul_le_mul mul_le_mul_right one_mul zero_le zero_mul)
open Go.Builtin(append_ cap_ clear_ firstCells lenOf len_ max2 max_ min2 min_ nextslicecap zeroCells)
open Go.World(cell? frozen?)
open Go.Question(appendCap forced)
namespace Go.VE
abbrev T':=IntKind
abbrev U':=Operand
abbrev V':=ByteArray
abbrev WP:=Value
abbrev W':=TypeId
abbrev X':=Bool
abbrev Y':=FuncId
def Zaa{p:Prop}(h:p:=by omega):p:=h
def Zab{p:Prop}(h:p:=by simp):p:=h
def Zac{p:Prop}(h:p:=by grind):p:=h
def Zad{p:Prop}(h:p:=by simp_all):p:=h
def ζa{α:Type _}(a b:α):(some a=some b)=(a=b):=Option.some.injEq a b
def ζb{α β:Type _}(a:α)(f:α->Option β):(some a).bind f=f a:=rfl
def ζc{α β:Type _}(a:α)(b:β)(c:α)(d:β):((a,b)=(c,d))=(a=c/\b=d):=Prod.mk.injEq a b c d
def ζd{α:Type _}{l:List α}{i:Nat}(h:i<l.length):l[i]?=some l[i]:=List.getElem?_eq_getElem h
def ζe{α:Type _}{l:List α}{i:Nat}{a:α}:l[i]?=some a↔∃h:i<l.length,l[i]=a:=List.getElem?_eq_some_iff
theorem ζf{α β:Type _}{b:β}{x:Option α}{f:α->β}:x.map f=some b↔∃a,x=some a/\f a=b:=Option.map_eq_some_iff
theorem ζg{α β:Type _}{b:β}{x:Option α}{f:α->Option β}:x.bind f=some b↔∃a,x=some a/\f a=some b:=Option.bind_eq_some_iff
def ζh(a b:X'):((a&&b)=true)=(a=true/\b=true):=Bool.and_eq_true a b
def ζi{α:Type _}{a b:List α}:(a++b).length=a.length+b.length:=List.length_append
abbrev aX:=@List
abbrev Rd:=aX Oper
abbrev SW:=aX Int
abbrev So:=aX Nat
abbrev aY:=@Option
abbrev Pi:=aY Int
inductive V where
 |bool(b:Bool)|int(k:IntKind)(n:Int)|str(s:ByteArray)|dH|bG|fsl(es:Nat)(xs:List (List V))|hsl(id es off len:Nat)|iF|fptr(cs:List V)|hptr(id el off:Nat)|clo(f:FuncId)(first cap:List V)|yld(id:Nat)|gR|tI|fmap(kvs:List (V×V))|hmap(id:Nat)|agg(cs:List V)|tup(vs:List V)
 deriving Inhabited
abbrev S':=aX V
abbrev T2:=aX (aX V)
def V.undef:V:=.tup []
def V.one:V->X'
 |.agg _|.tup _=>false|_=>true
def V.cells:V->S'
 |.agg cs=>cs|v=>[v]
mutual
def V.scalar:V->X'
 |.bool _|.int ..|.str _|.iF|.gR|.tI|.dH|.bG=>true|.agg cs=>V.c7 cs|.tup cs=>V.c7 cs|_=>false
def V.c7:S'->X'
 |[]=>true|v::r=>V.scalar v&&V.c7 r
end
mutual
def V.closed:V->X'
 |.hsl ..|.hptr ..|.yld ..|.hmap ..=>false|.clo _ a b=>V.iG a&&V.iG b|.agg cs=>V.iG cs|.tup cs=>V.iG cs|_=>true
def V.iG:S'->X'
 |[]=>true|v::r=>V.closed v&&V.iG r
end
inductive TK where
 |bool|int (k:IntKind)|str|ptr (e:TypeId)|slice (e:TypeId)|struct(fs:List (Nat×TypeId))|array (n:Nat) (e:TypeId)|map (k e:TypeId)|other
 deriving Inhabited
structure TD where
 size:Nat
 bytes:Nat
 zero:List V
 kind:TK
 deriving Inhabited
def TD.agg(d:TD):X':=match d.kind with|.struct _|.array _ _=>true|_=>false
abbrev Frame:=aX V
abbrev WF:=Frame
def get:WF->Nat->V
 |[],_=>.undef|x::_,0=>x|_::r,i+1=>get r i
def set:WF->Nat->V->WF
 |[],0,v=>[v]|[],i+1,v=>.undef::set [] i v|_::r,0,v=>v::r|x::r,i+1,v=>x::set r i v
inductive CA where
 |ready|busy|done
inductive Out where
 |norm|exit(id:Nat)|ret
 deriving DecidableEq,Inhabited
structure xw where
 st:CA
 pend:Option Out
 frame:Frame
 nt:Nat
 params:List Nat
 assign:Code
 body:Code
inductive Ob where
 |free|dead|row(es:Nat)(xs:List (List V))|frz(es:Nat)(xs:List (List V))|map(kvs:List (V×V))|loop(r:xw)
def Ob.rows:Ob->aY (Nat×T2)
 |.row es xs|.frz es xs=>some (es,xs)|_=>none
abbrev bk:=aX Ob
structure FI where
 ntmps:Nat
 results:List ResultVar
 body:Code
structure Env where
 tt:TypeId->Option TD
 ft:FuncId->Option FI
 keep:FuncId->Bool
 own:FuncId->Bool
 eqN:TypeId->Option Nat
 sort:FuncId->Bool
 known:FuncId->List V->Option V:=λ_ _=>none
def Env.kindOf(E:Env)(t:W'):aY TK:=(E.tt t).map TD.kind
def ofValue:Nat->WP->aY V
 |0,_=>none|n+1,v=>
  match v with
  |.bool b=>some (.bool b)|.int k n=>some (.int k n)|.string s=>some (.str s)|.pointer none=>some .iF|.slice none 0 0=>some .bG|.map none=>some .gR|.nilFunc=>some .tI|.agg cs=>(cs.toList.mapM (ofValue n)).map .agg|_=>none
class bT where
 gl:Nat->Option (List V)
 sc:∀g cs,gl g=some cs->∃(k:IntKind)(l:List Int),cs=l.map (V.int k)
variable[bT]
def ev(F:WF):U'->aY V
 |.tmp t=>some (get F t)|.const v=>ofValue 4 v|.func f=>some (.clo f [] [])|.global g=>(bT.gl g).map .fptr
def fC(F:WF):aX U'->aY S'
 |[]=>some []|x::r=>match ev F x,fC F r with
  |some v,some vs=>some (v::vs)|_,_=>none
def mk(agg:X')(cs:S'):aY V:=if agg then some (.agg cs)else match cs with|[v]=>some v|_=>none
def cut(cs:S')(off n:Nat):aY S':=
 let r:=(cs.drop off).take n
 if r.length=n then some r else none
def iL:S'->aY SW
 |[]=>some []|.int .i64 a::r=>(iL r).map (a::·)|_=>none
def lQ(az B:S'):aY X':=
 match iL az,iL B with
 |some a,some b=>if a.length=b.length then some (a==b)else none|_,_=>none
def tg(op:BinOp)(x y:Int):aY X':=
 match op with
 |.eql=>some (x==y)|.neq=>some (x != y)|.lss=>some (decide (x<y))|.leq=>some (decide (x<=y))|.gtr=>some (decide (x>y))|.geq=>some (decide (x>=y))|_=>none
def vT(k:TK)(x y:V):aY X':=
 match k,x,y with
 |.slice _,.bG,.bG=>some true|.slice _,.fsl ..,.bG=>some false|.slice _,.hsl ..,.bG=>some false|.ptr _,.iF,.iF=>some true|.ptr _,.fptr _,.iF=>some false|.ptr _,.hptr ..,.iF=>some false|.map ..,.gR,.gR=>some true|.map ..,.fmap _,.gR=>some false|.map ..,.hmap _,.gR=>some false|_,_,_=>none
def JC(E:Env)(op:BinOp)(t:W')(x y:V):aY V:=
 match x,y with
 |.int k a,.int u b=>
  match op with
  |.shl=>if b<0 then none else some (.int k (k.wrap (a*2 ^ (min b.toNat k.bits))))|.shr=>if b<0 then none else some (.int k (a.fdiv (2 ^ (min b.toNat k.bits))))|_=>if k=u then
   match op with
   |.add=>some (.int k (k.wrap (a+b)))|.sub=>some (.int k (k.wrap (a-b)))|.mul=>some (.int k (k.wrap (a*b)))|.quo=>if b=0 then none else some (.int k (k.wrap (a.tdiv b)))|.rem=>if b=0 then none else some (.int k (a.tmod b))|.and=>some (.int k (k.wrap (ofInt k.bits a &&& ofInt k.bits b).toNat))|.or=>some (.int k (k.wrap (ofInt k.bits a ||| ofInt k.bits b).toNat))|.xor=>some (.int k (k.wrap (ofInt k.bits a ^^^ ofInt k.bits b).toNat))|.andNot=>some (.int k (k.wrap (ofInt k.bits a &&& ~~~ ofInt k.bits b).toNat))|op=>(tg op a b).map .bool
   else none
 |.str a,.str b=>
  match op with
  |.add=>if((a.size+b.size:Nat):Int)>i64.max then none else some (.str (a++b))|.eql=>some (.bool (a.toList==b.toList))|.neq=>some (.bool !(a.toList==b.toList))|.lss=>some (.bool (bytesLess a.toList b.toList))|.leq=>some (.bool (bytesLess a.toList b.toList||a.toList==b.toList))|.gtr=>some (.bool !(bytesLess a.toList b.toList||a.toList==b.toList))|.geq=>some (.bool !(bytesLess a.toList b.toList))|_=>none
 |.bool a,.bool b=>
  match E.kindOf t,op with
  |some .bool,.eql=>some (.bool (a==b))|some .bool,.neq=>some (.bool !(a==b))|_,_=>none
 |.agg a,.agg b=>
  match E.eqN t,op with
  |some n,.eql=>if a.length=n then(lQ a b).map .bool else none|some n,.neq=>if a.length=n then(lQ a b).map (λt=>.bool !t)else none|_,_=>none
 |x,y=>
  match E.kindOf t,op with
  |some k,.eql=>(vT k x y).map .bool|some k,.neq=>(vT k x y).map λt=>.bool !t|_,_=>none
def vB(place:Nat->aY (Nat×Nat))(cells:S'):aX (Nat×V)->aY S'
 |[]=>some cells|(i,v)::rest=>
  match place i with
  |none=>none|some (off,size)=>
   if v.cells.length≠size||off+v.cells.length>cells.length then none
   else vB place (cells.take off++v.cells++cells.drop (off+v.cells.length)) rest
def mY(F:WF):aX (Nat×U')->aY (aX (Nat×V))
 |[]=>some []|(i,x)::r=>match ev F x,mY F r with
  |some v,some vs=>some ((i,v)::vs)|_,_=>none
def oa(E:Env):aX (Nat×W')->aY (aX (Nat×Nat))
 |[]=>some []|(off,t)::r=>match E.tt t,oa E r with
  |some d,some ps=>some ((off,d.size)::ps)|_,_=>none
def kB(F:WF):aY U'->aY Pi
 |none=>some none|some x=>match ev F x with
  |some (.int _ n)=>some (some n)|_=>none
def ec(len:Nat)(lo hi:Pi):aY (Nat×Nat):=
 let h:=hi.getD len
 let l:=lo.getD 0
 if 0<=h/\h<=len/\0<=l/\l<=h then some (l.toNat,h.toNat)else none
def DI(a b:Int):Int:=if b>a then b else a
def bK(E:Env)(F:WF)(op:Op):aY V:=
 match op with
 |.move x|.assign x=>ev F x|.pick c a b=>match ev F c with
  |some (.bool t)=>if t then ev F a else ev F b|_=>none
 |.nilCheck x=>match ev F x with
  |some (.hptr id el off)=>some (.hptr id el off)|some (.fptr cs)=>some (.fptr cs)|some (.clo f a b)=>some (.clo f a b)|_=>none
 |.binOp op t x y _=>match ev F x,ev F y with
  |some a,some b=>JC E op t a b|_,_=>none
 |.unOp op _ x=>match op,ev F x with
  |.not,some (.bool b)=>some (.bool !b)|.neg,some (.int k n)=>some (.int k (k.wrap (0-n)))|_,_=>none
 |.convert s d x=>match E.tt s,E.tt d,ev F x with
  |some _,some C,some (.int _ n)=>match C.kind with
   |.int k=>some (.int k (k.wrap n))|_=>none
  |_,_,_=>none
 |.fieldAddr s x f=>match E.kindOf s,ev F x with
  |some (.struct fs),some p=>match fs[f]?with
   |some (off,t)=>match E.tt t with
    |some d=>if d.size=0 then none else match p with
     |.fptr cs=>if off<=cs.length then some (.fptr (cs.drop off))else none|.hptr id el o=>some (.hptr id el (o+off))|_=>none
    |none=>none
   |none=>none
  |_,_=>none
 |.field s x f=>match E.kindOf s,ev F x with
  |some (.struct fs),some (.agg cs)=>match fs[f]?with
   |some (off,t)=>match E.tt t with
    |some d=>(cut cs off d.size).bind (mk d.agg)|none=>none
   |none=>none
  |_,_=>none
 |.indexAddr t x i=>match E.kindOf t,ev F x,ev F i with
  |some (.slice e),some s,some (.int _ n)=>match E.tt e with
   |some d=>if n<0 then none else match s with
    |.fsl es u=>if es=d.size then(u[n.toNat]?).map .fptr else none|.hsl id es off len=>if es=d.size/\n.toNat<len then some (.hptr id (off+n.toNat) 0)else none|_=>none
   |none=>none
  |some (.array len e),some p,some (.int _ n)=>match E.tt e with
   |some d=>if 0<=n/\n<len then match p with
    |.fptr cs=>if n.toNat*d.size<=cs.length then some (.fptr (cs.drop (n.toNat*d.size)))else none|.hptr id el o=>some (.hptr id el (o+n.toNat*d.size))|_=>none
    else none
   |none=>none
  |_,_,_=>none
 |.index t x i=>match E.kindOf t,ev F x,ev F i with
  |some .str,some (.str s),some (.int _ n)=>if 0<=n then(s[n.toNat]?).map (λb=>.int .u8 b.toNat)else none|some (.array len e),some (.agg cs),some (.int _ n)=>match E.tt e with
   |some d=>if 0<=n/\n<len then(cut cs (n.toNat*d.size) d.size).bind (mk d.agg)else none|none=>none
  |_,_,_=>none
 |.slice t x lo hi D=>match E.kindOf t,ev F x,kB F lo,kB F hi,kB F D with
  |some .str,some (.str s),some l,some h,some none=>(ec s.size l h).map λ(l,h)=>.str (s.extract l h)|some (.slice e),some v,some l,some h,some none=>match E.tt e with
   |some d=>match v with
    |.fsl es u=>if es=d.size then(ec u.length l h).map λ(l,h)=>.fsl es ((u.take h).drop l)else none|.hsl id es off len=>if es=d.size then(ec len l h).map λ(l,h)=>.hsl id es (off+l) (h-l)else none|.dH=>(ec 0 l h).map λ_=>.dH|.bG=>(ec 0 l h).map λ_=>.bG|_=>none
   |none=>none
  |some (.slice e),some v,some none,some (some 0),some (some 0)=>match E.tt e,v with
   |some _,.fsl ..|some _,.hsl ..|some _,.dH|some _,.bG=>some .dH|_,_=>none
  |_,_,_,_,_=>none
 |.build t ps=>match E.tt t,mY F ps.toList with
  |some d,some w=>match d.kind with
   |.struct fs=>match oa E fs with
    |some pl=>(vB (λi=>pl[i]?) d.zero w).map .agg|none=>none
   |.array _ e=>match E.tt e with
    |some B=>(vB (λi=>some (i*B.size,B.size)) d.zero w).map .agg|none=>none
   |_=>none
  |_,_=>none
 |.makeFunc (.func f) a b=>match fC F a.toList,fC F b.toList with
  |some a,some b=>some (.clo f a b)|_,_=>none
 |.extract x i=>match ev F x with
  |some (.tup w)=>w[i]?|_=>none
 |.call {callee:=.builtin b,args,argTypes}=>match b,fC F args.toList,argTypes[0]?with
  |.len,some [v],some t=>match E.kindOf t,v with
   |some .str,.str s=>some (.int .i64 s.size)|some (.slice _),.fsl _ u=>some (.int .i64 u.length)|some (.slice _),.hsl _ _ _ len=>some (.int .i64 len)|some (.slice _),.dH=>some (.int .i64 0)|some (.slice _),.bG=>some (.int .i64 0)|_,_=>none
  |.cap,some [v],some t=>match E.kindOf t,v with
   |some (.slice _),.bG=>some (.int .i64 0)|some (.slice _),.dH=>some (.int .i64 0)|_,_=>none
  |.max,some [.int k a,.int z b],_=>if k=z then some (.int k (if b>a then b else a))else none|.max,some [.int k a,.int k1 b,.int k2 c,.int k3 d],_=>if k=k1/\k=k2/\k=k3 then some (.int k (DI (DI (DI a b) c) d))else none|.min,some [.int k a,.int z b],_=>if k=z then some (.int k (if b<a then b else a))else none|_,_,_=>none
 |_=>none
def eN(H:bk)(p:V)(n:Nat):aY S':=
 match p with
 |.fptr cs=>cut cs 0 n|.hptr id el off=>match(H[id]?).bind Ob.rows with
  |some (_,u)=>match u[el]?with
   |some cs=>cut cs off n|none=>none
  |none=>none
 |_=>none
def yB:V->V->aY X'
 |.int k a,.int B b=>if k=B then some (a==b)else none|.str a,.str b=>some (a==b)|.agg a,.agg b=>lQ a b|_,_=>none
def i_(k:V):aX (V×V)->Nat->aY (aY (Nat×V))
 |[],_=>some none|(B,v)::r,i=>match yB k B with
  |some true=>some (some (i,v))|some false=>i_ k r (i+1)|none=>none
def Ce(E:Env)(t:W')(k:V):X':=
 match E.kindOf t,k with
 |some (.int k),.int u _=>k==u|some .str,.str _=>true|some _,.agg cs=>match E.eqN t with|some n=>cs.length==n&&(iL cs).isSome|none=>false
 |_,_=>false
def nO(H:bk):V->aY (aX (V×V))
 |.gR=>some []|.fmap B=>some B|.hmap id=>match H[id]?with
  |some (.map B)=>some B|_=>none
 |_=>none
def d_(E:Env)(F:WF)(H:bk)(op:Op):aY V:=
 match op with
 |.load t a=>match E.tt t,ev F a with
  |some d,some p=>(eN H p d.size).bind (mk d.agg)|_,_=>none
 |.lookup t m k ok=>match E.kindOf t,ev F m,ev F k with
  |some (.map w B),some m,some k=>match E.tt B,nO H m with
   |some d,some u=>if Ce E w k then match i_ k u 0,mk d.agg d.zero with
    |some (some (_,v)),_=>some (if ok then .tup [v,.bool true]else v)|some none,some z=>some (if ok then .tup [z,.bool false]else z)|_,_=>none
    else none
   |_,_=>none
  |_,_,_=>none
 |_=>none
inductive Mk where
 |ptr|sl (es len:Nat)|map
def Mk.val(id:Nat):Mk->V
 |.ptr=>.hptr id 0 0|.sl es len=>.hsl id es 0 len|.map=>.hmap id
def fK(es:Nat)(xs:T2):aX (Nat×V)->aY T2
 |[]=>some xs|(i,v)::r=>if v.cells.length=es/\i<xs.length/\v.cells.all V.one=true then fK es (xs.set i v.cells) r else none
def eX(E:Env)(F:WF)(op:Op):aY (Ob×Mk):=
 match op with
 |.alloc t=>(E.tt t).map λd=>(.row d.size [d.zero],.ptr)|.box _ x=>match ev F x with
  |some v=>if v.cells.all V.one then some (.row v.cells.length [v.cells],.ptr)else none|none=>none
 |.makeSlice t l c=>match E.kindOf t,ev F l,ev F c with
  |some (.slice e),some (.int k n),some (.int u m)=>match E.tt e with
   |some d=>if k=.i64/\u=.i64/\0<=n/\n<=m/\m<=2147483648/\d.bytes<=4096 then some (.row d.size (replicate m.toNat d.zero),.sl d.size n.toNat)else none|none=>none
  |_,_,_=>none
 |.buildSlice t len ps=>match E.kindOf t,mY F ps.toList with
  |some (.slice e),some w=>match E.tt e with
   |some d=>if len*d.size<=16777216 then(fK d.size (replicate len d.zero) w).map λz=>(.row d.size z,.sl d.size len)else none|none=>none
  |_,_=>none
 |.makeMap _ none=>some (.map [],.map)|_=>none
def qg(E:Env)(F:WF)(op:Op):aY V:=
 match eX E F op with
 |some (.row es u,.sl w n)=>if w=es/\n=u.length/\(u.all λx=>x.all V.scalar)=true then match op with
  |.buildSlice ..=>if u.isEmpty then(if es != 0 then some .dH else none)else some (.fsl es u)|_=>some (.fsl es u)
  else none
 |_=>none
def dM(H:bk)(es:Nat):V->aY T2
 |.dH=>some []|.bG=>some []|.fsl B xs=>if B=es then some xs else none|.hsl id B off len=>if B=es then match(H[id]?).bind Ob.rows with
  |some (_,xs)=>if off+len<=xs.length then some ((xs.drop off).take len)else none|none=>none
  else none
 |_=>none
def qJ(k v:V)(B:aX (V×V)):aY (aX (V×V)):=
 match i_ k B 0 with
 |some (some (j,_))=>some (B.set j (k,v))|some none=>some (B++[(k,v)])|none=>none
def gH(H:bk):V->aY bk
 |.dH=>some H|.bG=>some H|.hsl id _ _ _=>match H[id]?with
  |some (.row _ _)=>some (H.set id .dead)|_=>none
 |_=>none
def mkApp(H:bk)(size bytes:Nat)(zero:S')(s x:V):aY (V×bk):=
 match s,x with
 |.bG,.int _ n=>if n=0 then some (.bG,H)else if 0<n/\n<=2147483648/\bytes<=4096/\0<bytes then some (.hsl H.length size 0 n.toNat,H++[.row size (replicate n.toNat zero)])else none|_,_=>none
def Eg(H:bk)(size:Nat)(zero:S'):V->aY (V×bk)
 |.bG|.dH=>some (.undef,H)|.hsl id es off len=>if es=size then match len with
  |0=>some (.undef,H)|len+1=>match H[id]?with
   |some (.row B xs)=>if off+(len+1)<=xs.length then some (.undef,H.set id (.row B (xs.take off++replicate (len+1) zero++xs.drop (off+(len+1)))))else none|_=>none
  else none
 |_=>none
def cK(E:Env)(F:WF)(H:bk)(op:Op):aY (V×bk):=
 match op with
 |.store t a x=>match E.tt t,ev F a,ev F x with
  |some d,some (.hptr id el off),some v=>match H[id]?with
   |some (.row es w)=>match w[el]?with
    |some cs=>if v.cells.length=d.size/\off+d.size<=cs.length/\v.cells.all V.one=true then
     some (.undef,H.set id (.row es (w.set el (cs.take off++v.cells++cs.drop (off+v.cells.length)))))else none
    |none=>none
   |_=>none
  |_,_,_=>none
 |.mapUpdate t m k x|.insert t m k x=>match E.kindOf t,ev F m,ev F k,ev F x with
  |some (.map B _),some (.hmap id),some k,some v=>match H[id]?with
   |some (.map u)=>if Ce E B k then(qJ k v u).map λu=>(.undef,H.set id (.map u))else none|_=>none
  |_,_,_,_=>none
 |.call {callee:=.builtin .append,args,argTypes}=>match argTypes.toList,fC F args.toList with
  |[t,C],some [s,x]=>match E.kindOf t,E.kindOf C with
   |some (.slice e),some (.slice _)=>match E.tt e with
    |some d=>match dM H d.size s,dM H d.size x with
     |some _,some []=>some (s,H)|some w,some z=>
      if w.length+z.length<=2147483648/\d.bytes<=4096/\0<d.bytes then
       (gH H s).map λH1=>(.hsl H.length d.size 0 (w.length+z.length),H1++[.row d.size (w++z)])
      else none
     |_,_=>none
    |none=>none
   |some (.slice e),some (.int _)=>match E.tt e with
    |some d=>mkApp H d.size d.bytes d.zero s x|none=>none
   |_,_=>none
  |_,_=>none
 |.call {callee:=.builtin .clear,args,argTypes}=>match argTypes[0]?,fC F args.toList with
  |some t,some [v]=>match E.kindOf t with
   |some (.slice e)=>match E.tt e with
    |some d=>Eg H d.size d.zero v|none=>none
   |_=>none
  |_,_=>none
 |_=>none
def mm:T2->aY SW
 |[]=>some []|[.int .u8 n]::r=>(mm r).map (n::·)|_=>none
def rT(l:SW):V':=l.foldl (λr n=>r.push (UInt8.ofNat n.toNat)) ByteArray.empty
def evalConv(E:Env)(F:WF)(H:bk)(op:Op):aY V:=
 match op with
 |.convert s d x=>match E.kindOf s,E.kindOf d,ev F x with
  |some (.slice e),some .str,some v=>match E.kindOf e with
   |some (.int .u8)=>(dM H 1 v).bind λu=>(mm u).map λl=>.str (rT l)|_=>none
  |_,_,_=>none
 |_=>none
def uw(E:Env)(F:WF)(H:bk)(place:aY (Nat×Nat))(op:Op):aY V:=
 match bK E F op with
 |some v=>some v|none=>match place with
  |none=>evalConv E F H op|some _=>none
inductive Callee where
 |fn(f:FuncId)|yld(id:Nat)
def kL(F:WF)(op:Op):aY (Callee×S'):=
 match op with
 |.call {callee:=.value f,args,..}=>match ev F f,fC F args.toList with
  |some (.clo g a b),some u=>some (.fn g,a++u++b)|some (.yld id),some u=>some (.yld id,u)|_,_=>none
 |_=>none
inductive Wf where
 |pure|read|alloc|loud|call
 deriving DecidableEq
def cT:Op->Wf
 |.load ..|.lookup ..=>.read|.alloc ..|.box ..|.makeSlice ..|.buildSlice ..|.makeMap ..=>.alloc|.store ..|.mapUpdate ..|.insert ..=>.loud|.call {callee:=.builtin .append,..}=>.loud|.call {callee:=.builtin .clear,..}=>.loud|.call {callee:=.value _,..}=>.call|_=>.pure
def iU(f:V->aY V):S'->aY S'
 |[]=>some []|x::r=>match f x,iU f r with
  |some y,some s=>some (y::s)|_,_=>none
def mF(f:V->aY V):T2->aY T2
 |[]=>some []|x::r=>match iU f x,mF f r with
  |some y,some s=>some (y::s)|_,_=>none
def mw(f:V->aY V):aX (V×V)->aY (aX (V×V))
 |[]=>some []|(k,x)::r=>match f k,f x,mw f r with
  |some k,some y,some s=>some ((k,y)::s)|_,_,_=>none
def borrow:Nat->bk->V->aY V
 |0,_,x=>if x.closed then some x else none|n+1,H,x=>
  if x.closed then some x else
  match x with
  |.hsl id es off len=>match(H[id]?).bind Ob.rows with
   |some (B,xs)=>if B=es/\off+len<=xs.length then(mF (borrow n H) ((xs.drop off).take len)).map (.fsl es)else none|none=>none
  |.hptr id el off=>match(H[id]?).bind Ob.rows with
   |some (_,xs)=>match xs[el]?with
    |some cs=>if off<=cs.length then(iU (borrow n H) (cs.drop off)).map .fptr else none|none=>none
   |none=>none
  |.hmap id=>match H[id]?with
   |some (.map D)=>(mw (borrow n H) D).map .fmap|_=>none
  |.clo f a b=>match iU (borrow n H) a,iU (borrow n H) b with
   |some a,some b=>some (.clo f a b)|_,_=>none
  |.agg cs=>(iU (borrow n H) cs).map .agg|.tup cs=>(iU (borrow n H) cs).map .tup|_=>none
def borrows(n:Nat)(H:bk)(l:S'):aY S':=iU (borrow n H) l
def dh(f:V->So):S'->So
 |[]=>[]|x::r=>f x++dh f r
def ct:Nat->bk->V->So
 |0,_,_=>[]|n+1,H,x=>
  if x.closed then[]else
  match x with
  |.hsl id _ off len=>id::(match(H[id]?).bind Ob.rows with|some (_,xs)=>dh (ct n H) ((xs.drop off).take len).flatten|none=>[])|.hptr id el off=>id::(match(H[id]?).bind Ob.rows with|some (_,xs)=>dh (ct n H) (((xs[el]?).getD []).drop off)|none=>[])|.hmap id=>id::(match H[id]?with|some (.map B)=>dh (ct n H) (B.map (·.1))++dh (ct n H) (B.map (·.2))|_=>[])|.clo _ a b=>dh (ct n H) a++dh (ct n H) b|.agg cs=>dh (ct n H) cs|.tup cs=>dh (ct n H) cs|_=>[]
def vS(H:bk)(id:Nat):bk:=
 match H[id]?with
 |some (.row es u)=>H.set id (.frz es u)|some (.map _)=>H.set id .dead|_=>H
def cZ(H:bk)(l:So):bk:=l.foldl vS H
structure dP where
 lv:Nat
 go:Callee->List V->bk->Option (V×bk)
instance:CoeFun dP λ_=>Callee->S'->bk->aY (V×bk):=⟨dP.go⟩
def jl(H:bk)(T:So):X':=T.all λid=>((H[id]?).bind Ob.rows).isSome
def b8(call:dP)(f:Y')(args:S')(H:bk):aY V:=
 match borrows call.lv H args with
 |some az=>match call (.fn f) az []with
  |some (r,H1)=>match borrow call.lv H1 r with
   |some y=>if y.closed then some y else none|none=>none
  |none=>none
 |none=>none
def uh(k:Nat)(H1:bk)(id es off len:Nat):aY (V×Ob):=
 match H1[id]?with
 |some (.row u w)=>if u=es/\(w.all λx=>x.all V.scalar)=true then some (.hsl k es off len,.row es w)else none|_=>none
def mK(call:dP)(f:Y')(args:S')(H:bk):aY (V×bk):=
 match borrows call.lv H args with
 |some az=>match call (.fn f) az []with
  |some (r,H1)=>
   if r.scalar then some (r,H)else
   match r with
   |.hsl id es off len=>(uh H.length H1 id es off len).map λ(v,ob)=>(v,H++[ob])|.tup (.hsl id es off len::rest)=>if V.c7 rest then(uh H.length H1 id es off len).map λ(v,ob)=>(.tup (v::rest),H++[ob])else none|_=>none
  |none=>none
 |none=>none
def gG(E:Env)(call:dP)(f:Y')(args:S')(H:bk):aY (V×bk):=if E.own f then mK call f args H else call (.fn f) args H
def mg(e:Edge):X':=match e.ground with|.textOnly _|.gcOnly _=>false|_=>true
def Fs(o:Oper)(i:Nat):X':=o.after.any λe=>e.on==i&&mg e
def IG(a:aX So)(o:Oper):So:=(o.after.toList.filter mg).foldl (λl e=>(e.on::(a[e.on]?).getD []).foldl (λl k=>if l.contains k then l else k::l) l) []
def Kb(ops:Rd):aX So:=ops.foldl (λa o=>a++[IG a o]) []
def before(ops:Rd)(i k:Nat):X':=(((Kb ops)[i]?).getD []).contains k
def isApp:Op->X'
 |.call {callee:=.builtin .append,..}=>true|_=>false
def dR(ops:Rd)(i:Nat):X':=
 match ops[i]?with
 |some o=>(range ops.length).all λk=>match ops[k]?with
  |some p=>k==i||cT p.op==.pure||(if k<i then before ops i k else before ops k i)||(isApp o.op&&cT p.op==.alloc&&decide (i<k))|none=>true
 |none=>false
def dstsOf(ops:Rd):So:=ops.filterMap (·.dst)
def s7(ops:Rd)(i k:Nat):X':=if k<i then before ops i k else before ops k i
def Ii(g:X')(ops:Rd)(i k:Nat):aY So:=
 match ops[k]?with
 |some p=>
  if k==i||cT p.op==.pure||s7 ops i k then some []else
  match p.op with
  |.load _ (.tmp a)=>if(dstsOf ops).contains a then some []else some [a]|o=>if g&&(cT o==.alloc||cT o==.call)then some []else none
 |none=>some []
def Du(g:X')(ops:Rd)(i:Nat):So->aY So
 |[]=>some []|k::r=>match Ii g ops i k,Du g ops i r with
  |some a,some b=>some (a++b)|_,_=>none
def sU(g:X')(ops:Rd)(i:Nat):aY (Nat×So):=
 match(ops[i]?).map Oper.op with
 |some (.store _ (.tmp a) _)=>if(dstsOf ops).contains a then none else(Du g ops i (range ops.length)).map λl=>(a,l)|_=>none
def oL(id:Nat):V->X'
 |.hptr B _ _=>B != id|.fptr _=>true|_=>false
def qU(ops:Rd)(i:Nat)(F:WF):X':=
 match sU false ops i with
 |some (a,l)=>match get F a with
  |.hptr id _ _=>l.all λs=>oL id (get F s)|_=>false
 |none=>false
def ta(ops:Rd)(b i:Nat)(F:WF):X':=
 match sU true ops i with
 |some (a,l)=>match get F a with
  |.hptr id _ _=>decide (id<b)&&l.all λs=>oL id (get F s)|_=>false
 |none=>false
def I6(ops:Rd)(k:Nat):X':=(range ops.length).any λi=> !s7 ops i k&&(sU true ops i).isSome
def xP(ops:Rd)(place:aY (Nat×Nat))(args:S'):X':=match place with|some (_,i)=> !I6 ops i||V.iG args|none=>true
def qu(ops:Rd)(k a':Nat):So:=
 if(dstsOf ops).contains a' then(range ops.length).filterMap λi=>match(ops[i]?).map Oper.op with
  |some (.store _ (.tmp a) _)=>if s7 ops i k||(dstsOf ops).contains a then none else some a|_=>none
 else[]
def oV(ops:Rd)(k:Nat)(F:WF)(op:Op):X':=
 match op with
 |.load _ (.tmp u)=>(qu ops k u).all λa=>match get F a with
  |.hptr id _ _=>oL id (get F u)|_=>true
 |_=>true
def Cb(d:Nat)(op:Op):X':=op.operands.any λx=>match x with|.tmp t=>t==d|_=>false
def R3(d:Nat):Op->X'
 |.call {callee:=.builtin .append,args,..}=>match args.toList with
  |.tmp t::r=>t==d&&r.all λx=>match x with|.tmp t=>t != d|_=>true
  |_=>false
 |_=>false
def Cp(ops:Rd)(i:Nat):X':=
 match ops[i]?with
 |some o=>match o.op,o.dst with
  |.makeSlice ..,some d=>(ops.any λp=>Cb d p.op)&&ops.all λp=> !Cb d p.op||cT p.op==.call|.buildSlice _ len ps,some d=>len==0&&ps.size==0&&((range ops.length).any λk=>match ops[k]?with|some p=>Cb d p.op&& !dR ops k|none=>false)&&ops.all λp=> !Cb d p.op||R3 d p.op|_,_=>false
 |none=>false
def TC(E:Env)(ops:Rd)(i:Nat):X':=
 match ops[i]?with
 |some o=>match o.op,o.dst with
  |.buildSlice t len _,some d=>decide (0<len)&&(match E.kindOf t with
   |some (.slice e)=>(match E.kindOf e with|some .bool|some (.int _)|some .str=>true|_=>false)|_=>false)&&(ops.any λp=>Cb d p.op)&&ops.all λp=> !Cb d p.op||cT p.op==.call
  |_,_=>false
 |none=>false
def DX(E:Env)(ops:Rd)(i:Nat):X':=Cp ops i||TC E ops i
def ot(E:Env)(ops:Rd):aY (Nat×Nat)->X'
 |some (_,i)=>DX E ops i|none=>false
def lI(E:Env)(ops:Rd)(place:aY (Nat×Nat))(f:Y'):X':=E.keep f&&(match place with|none=>true|some (_,i)=>dR ops i|| !E.own f)
def yj(ops:Rd)(i:Nat):X':=
 match ops[i]?with
 |some o=>isApp o.op&&(range ops.length).all λk=>match ops[k]?with
  |some p=>k==i||cT p.op==.pure||s7 ops i k||cT p.op==.read||(cT p.op==.alloc&&(Cp ops k||decide (i<k)))|none=>true
 |none=>false
def qQ(F:WF):Op->X'
 |.call {callee:=.builtin .append,args,..}=>match args.toList with
  |x::_=>match ev F x with|some .dH|some .bG=>true|_=>false
  |_=>false
 |_=>false
def Bl(ops:Rd)(i b:Nat)(F:WF)(H:bk)(op:Op):X':=yj ops i&&(isApp op&&qQ F op&&decide (b<=H.length))
def eu(E:Env)(call:dP)(ops:Rd)(place:aY (Nat×Nat))(f:Y')(args:S')(H:bk):aY (V×bk):=
 if lI E ops place f then
  match place with
  |none=>gG E call f args H|some (_,i)=>if dR ops i then gG E call f args H else none
 else match place with
  |none=>match b8 call f args H with
   |some y=>some (y,if y.scalar then H else cZ H (dh (ct call.lv H) args))|none=>none
  |some (b,i)=>match b8 call f args (H.take b)with
   |some y=>if y.scalar then some (y,H)else if jl (H.take b) (dh (ct call.lv (H.take b)) args)then some (y,cZ H (dh (ct call.lv (H.take b)) args))else none|none=>if dR ops i then match b8 call f args H with
    |some y=>some (y,if y.scalar then H else cZ H (dh (ct call.lv H) args))|none=>none
    else none
def c_(E:Env)(call:dP)(ops:Rd)(place:aY (Nat×Nat))(F:WF)(H:bk)(op:Op):aY (V×bk):=
 match cT op with
 |.pure=>(uw E F H place op).map λv=>(v,H)|.read=>match place with
  |none=>(d_ E F H op).map λv=>(v,H)|some (b,i)=>if oV ops i F op then match d_ E F (H.take b) op with
   |some v=>some (v,H)|none=>if dR ops i then(d_ E F H op).map λv=>(v,H)else none
   else none
 |.alloc=>if ot E ops place then(qg E F op).map λv=>(v,H)else match eX E F op,place with
  |some (ob,m),none=>some (m.val H.length,H++[ob])|some (ob,m),some (b,i)=>match H[b+i]?with
   |some .free=>some (m.val (b+i),H.set (b+i) ob)|_=>none
  |none,_=>none
 |.loud=>match place with
  |none=>cK E F H op|some (b,i)=>if dR ops i||qU ops i F||ta ops b i F||Bl ops i b F H op then cK E F H op else none
 |.call=>match kL F op with
  |some (.fn f,args)=>if xP ops place args then eu E call ops place f args H else none|some (.yld id,args)=>match place with
   |none=>call (.yld id) args H|some (_,i)=>if dR ops i then call (.yld id) args H else none
  |none=>none
def kJ(n:Nat)(F:WF)(dst:aY Nat)(v:V):aY WF:=
 match dst with
 |none=>some F|some d=>if d<n then some (set F d v)else none
def gj(ops:Rd)(F:WF)(o:Oper):X':=
 match o.guard with
 |none=>true|some (j,b)=>match(ops[j]?).bind (·.dst)with
  |some d=>match get F d with
   |.bool c=>c==b|_=>false
  |none=>false
def gQ(E:Env)(call:dP)(n:Nat)(ops:Rd)(place:aY (Nat×Nat))(o:Oper)(F:WF)(H:bk):aY (WF×bk):=
 if gj ops F o then
  match c_ E call ops place F H o.op with
  |some (v,H')=>(kJ n F o.dst v).map λF'=>(F',H')|none=>none
 else(kJ n F o.dst .undef).map λF'=>(F',H)
def mU(E:Env)(call:dP)(n:Nat)(ops:Rd):Rd->WF->bk->aY (WF×bk)
 |[],F,H=>some (F,H)|o::r,F,H=>match gQ E call n ops none o F H with
  |some (F',H')=>mU E call n ops r F' H'|none=>none
def kF(E:Env)(call:dP)(n:Nat)(ops:Rd)(base:Nat):So->WF->bk->aY (WF×bk)
 |[],F,H=>some (F,H)|i::r,F,H=>match ops[i]?with
  |some o=>match gQ E call n ops (some (base,i)) o F H with
   |some (F',H')=>kF E call n ops base r F' H'|none=>none
  |none=>none
def tmpsOf(o:Oper)(ops:Rd):So:=
 (o.op.operands.toList.filterMap λ|.tmp t=>some t|_=>none)++
 (match o.guard with|some (g,_)=>((ops[g]?).bind (·.dst)).toList|none=>[])
def zi(ops:Rd)(a b:Oper):X':=
 (match a.dst with|some d=> !(tmpsOf b ops).contains d&&b.dst != some d|none=>true)&&
 (match b.dst with|some d=> !(tmpsOf a ops).contains d|none=>true)
def xK(ops:Rd):X':=
 (range ops.length).all λj=>(range j).all λi=>
  match ops[i]?,ops[j]?with
  |some a,some b=>Fs b i||zi ops a b|_,_=>false
def Bt(ops:Rd):X':=
 (range ops.length).all λj=>match ops[j]?with
  |some o=>o.after.all λe=> !mg e||decide (e.on<j)|none=>true
def sV(ops:Rd):X':=ops.any λo=>cT o.op==.alloc
def j8(E:Env)(call:dP)(n:Nat)(ops:Rd)(B:X')(F:WF)(H:bk):aY (WF×bk):=if B then if xK ops&&Bt ops then kF E call n ops H.length (range ops.length) F (if sV ops then H++replicate ops.length .free else H)else none else mU E call n ops ops F H
def lF(step:WF->bk->aY (Out×WF×bk)):Nat->WF->bk->aY (Out×WF×bk)
 |0,_,_=>none|k+1,F,H=>match step F H with
  |some (.norm,F',H')=>lF step k F' H'|r=>r
def nD:Out->aY Code
 |.norm=>none|.ret=>some .ret|.exit id=>some (.exit id)
def exec(E:Env)(call:dP)(lf:Nat)(ro:X')(n:Nat):Code->WF->bk->aY (Out×WF×bk)
 |.skip,F,H=>some (.norm,F,H)|.label _,F,H=>some (.norm,F,H)|.region _ ops B,F,H=>(j8 E call n ops.toList B F H).map λ(F',H')=>(.norm,F',H')|.seq a b,F,H=>match exec E call lf ro n a F H with
  |some (.norm,F',H')=>exec E call lf ro n b F' H'|r=>r
 |.cond c x y,F,H=>match ev F c with
  |some (.bool t)=>if t then exec E call lf ro n x F H else exec E call lf ro n y F H|_=>none
 |.block id c,F,H=>match exec E call lf ro n c F H with
  |some (.exit D,F',H')=>if D=id then some (.norm,F',H')else some (.exit D,F',H')|r=>r
 |.loop c,F,H=>lF (exec E call lf ro n c) lf F H|.rangeFunc g ps assign body,F,H=>match ro,ev F g with
  |false,some (.clo f a b)=>
   match call (.fn f) (a++.yld H.length::b) (H++[.loop ⟨.ready,none,F,n,ps.toList,assign,body⟩])with
   |some (_,H')=>match H'[H.length]?with
    |some (.loop r)=>match r.st with
     |.busy=>none|_=>some (r.pend.getD .norm,F,H'.set H.length .dead)
    |_=>none
   |none=>none
  |_,_=>none
 |.exit id,F,H=>some (.exit id,F,H)|.ret,F,H=>some (.ret,F,H)|_,_,_=>none
def iR(E:Env)(F:WF)(H:bk):aX ResultVar->aY S'
 |[]=>some []|.tmp t::r=>(iR E F H r).map (get F t::·)|.cell a t::r=>match E.tt t,iR E F H r with
  |some d,some vs=>((eN H (get F a) d.size).bind (mk d.agg)).map (·::vs)|_,_=>none
def result:S'->V
 |[v]=>v|vs=>.tup vs
def zD:So->S'->WF->WF
 |t::B,v::vs,F=>zD B vs (set F t v)|_,_,F=>F
def IM{α:Type}[Inhabited α](lt:α->α->X'):Nat->Nat->Array α->Array α
 |0,_,d=>d|k+1,i,d=>IM lt k (i+1) (Sort.insInner lt 0 i d)
def rN(n:Nat)(lt:Fin (n+1)->Fin (n+1)->X'):Array (Fin (n+1)):=if n<12 then IM lt n 1 (finRange (n+1)).toArray else Sort.pdq lt (finRange (n+1)).toArray 0 (n+1) (Lib.bitLen (n+1)) true true
def jv(call:dP)(g:Y')(D B:S')(n:Nat)(i j:Fin (n+1)):Pi:=
 match D[i.1]?,D[j.1]?with
 |some a,some b=>match b8 call g (a::b::B) []with
  |some (.int .i64 c)=>some c|_=>none
 |_,_=>none
def qj{n:Nat}(t:Fin (n+1)->Fin (n+1)->Pi)(i j:Fin (n+1)):X':=decide ((t i j).getD 0<0)
def B8{n:Nat}(t:Fin (n+1)->Fin (n+1)->Pi):X':=
 let l:=finRange (n+1)
 l.all λi=> !qj t i i&&l.all λj=>(t i j).isSome&&l.all λk=>(!(qj t i j&&qj t j k)||qj t i k)&&((qj t i j||qj t j k)|| !qj t i k)
def sN(xs:T2)(off n:Nat)(l:aX (Fin (n+1))):T2:=xs.take off++l.map (λi=>(xs[off+i.1]?).getD [])++xs.drop (off+(n+1))
def rH(keep:Y'->X')(call:dP)(args:S')(H:bk):aY (V×bk):=
 match args with
 |[s,c]=>match s with
  |.bG|.dH=>some (.undef,H)|.hsl id es off len=>match len,c with
   |0,_=>some (.undef,H)|n+1,.clo g [] cb=>match H[id]?with
    |some (.row w z)=>if es=1/\w=1/\off+(n+1)<=z.length/\n<2147483648/\keep g=false then
     match borrows call.lv (H.set id .dead) ((z.drop off).take (n+1)).flatten,borrows call.lv (H.set id .dead) cb with
     |some B,some u=>if B8 (jv call g B u n)then some (.undef,H.set id (.row 1 (sN z off n (rN n (qj (jv call g B u n))).toList)))else none|_,_=>none
     else none
    |_=>none
   |_,_=>none
  |_=>none
 |_=>none
def ku(E:Env)(c:dP)(n:Nat):Callee->S'->bk->aY (V×bk)
 |.fn f,args,H=>match E.ft f with
  |some fi=>if args.length<=fi.ntmps then
   match exec E c n false fi.ntmps fi.body args H with
   |some (.exit _,_,_)=>none|some (_,F',H')=>(iR E F' H' fi.results).map λvs=>(result vs,H')|none=>none
   else none
  |none=>if E.sort f then rH E.keep c args H else(E.known f args).map λy=>(y,H)
 |.yld id,args,H=>match H[id]?with
  |some (.loop r)=>match r.st with
   |.ready=>if args.length=r.params.length/\r.params.all (·<r.nt)then
    match exec E c n true r.nt r.assign (zD r.params args r.frame) H with
    |some (.norm,D,H2)=>match H2[id]?with
     |some (.loop r2)=>match r2.st with
      |.ready=>match exec E c n true r.nt r.body D (H2.set id (.loop {r2 with st:=.busy}))with
       |some (o,_,B)=>match B[id]?with
        |some (.loop r4)=>some (.bool (o==.norm),B.set id (.loop {r4 with st:=(if o==.norm then .ready else .done),pend:=(if o==.norm then none else some o)}))|_=>none
       |none=>none
      |_=>none
     |_=>none
    |_=>none
    else none
   |_=>none
  |_=>none
def run(E:Env):Nat->dP
 |0=>⟨0,λ_ _ _=>none⟩|n+1=>⟨n+1,ku E (run E n) n⟩
def Ig{E:Env}{n:Nat}{x:Callee}{a:S'}{H:bk}:run E (n+1) x a H=ku E (run E n) n x a H:=rfl
end Go.VE
namespace Go.VE
variable[bT]
@[simp] def get_nil(i:Nat):get [] i=.undef:=by cases i<;>rfl
@[simp] def uf(F:WF)(i:Nat)(v:V):get (set F i v) i=v:=by
 induction F generalizing i with
 |nil=>induction i with
  |zero=>rfl|succ i u=>grind[set,get]
 |cons x r u=>cases i with
  |zero=>rfl|succ i=>grind[set,get]
theorem jG(F:WF){i j:Nat}(v:V)(h:i≠j):get (set F i v) j=get F j:=by
 induction F generalizing i j with
 |nil=>
  induction i generalizing j with
  |zero=>cases j with
   |zero=>grind|succ j=>simp[set,get]
  |succ i u=>cases j with
   |zero=>simp[set,get]|succ j=>grind[set,get]
 |cons x r u=>cases i with
  |zero=>cases j with
   |zero=>grind|succ j=>simp[set,get]
  |succ i=>cases j with
   |zero=>simp[set,get]|succ j=>grind[set,get]
def JK(F:WF){i j:Nat}(u v:V)(h:i≠j):set (set F i u) j v=set (set F j v) i u:=by
 induction F generalizing i j with
 |nil=>
  induction i generalizing j with
  |zero=>cases j with
   |zero=>grind|succ j=>simp[set]
  |succ i w=>cases j with
   |zero=>simp[set]|succ j=>grind[set]
 |cons x r w=>cases i with
  |zero=>cases j with
   |zero=>grind|succ j=>simp[set]
  |succ i=>cases j with
   |zero=>simp[set]|succ j=>grind[set]
inductive IC where
 |cells(c:Array Value)|map(es:Array MapEntry)
abbrev cG:=Nat->aY IC
def IC.at(x:IC)(w:World)(b:Nat):Prop:=
 match x with
 |.cells c=>∃el fr,w.heap[b]?=some (.cells c el fr)|.map es=>∃a,w.heap[b]?=some (.map es a)
def cG.le(I I':cG):Prop:=∀b x,I b=some x->I' b=some x
def cG.le_refl(I:cG):cG.le I I:=λ_ _ h=>h
def cG.le_trans{I J K:cG}(h:cG.le I J)(B:cG.le J K):cG.le I K:=λb x e=>B b x (h b x e)
inductive eF(I:cG):V->Value->Prop
 |bool(b:Bool):eF I (.bool b) (.bool b)|int(k:IntKind)(n:Int):eF I (.int k n) (.int k n)|str(s:ByteArray):eF I (.str s) (.string s)|dH(a:Option Addr):eF I .dH (.slice a 0 0)|bG:eF I .bG (.slice none 0 0)|fsl0(es:Nat)(a:Addr)(cap:Nat):eF I (.fsl es []) (.slice (some a) 0 cap)|fsl(es:Nat)(xs:List (List V))(b o cap:Nat)(c:Array Value)(hI:I b=some (.cells c))(hc:xs.length<=cap)
  (hu:∀x∈xs,x.length=es) (ho:∀x∈xs,∀y∈x,V.one y=true) (hb:o+xs.length*es<=c.size)
  (hr:∀(i j:Nat)x y v,xs[i]?=some x->x[j]?=some y->c[o+i*es+j]?=some v->eF I y v):
  eF I (.fsl es xs) (.slice (some ⟨b,o,none⟩) xs.length cap)
 |iF:eF I .iF (.pointer none)|fptr(cs:List V)(b o:Nat)(c:Array Value)(hI:I b=some (.cells c))(hb:o+cs.length<=c.size)
  (hr:∀(j:Nat)y v,cs[j]?=some y->c[o+j]?=some v->eF I y v):eF I (.fptr cs) (.pointer (some ⟨b,o,none⟩))
 |clo(f:FuncId)(x y:List V)(u v:Array Value)(hx:x.length=u.size)(hy:y.length=v.size)
  (h1:∀(j:Nat)a b,x[j]?=some a->u[j]?=some b->eF I a b) (h2:∀(j:Nat)a b,y[j]?=some a->v[j]?=some b->eF I a b):
  eF I (.clo f x y) (.func (.func f) u v)
 |gR:eF I .gR (.map none)|tI:eF I .tI .nilFunc|fmap(kvs:List (V×V))(b:Nat)(es:Array MapEntry)(hI:I b=some (.map es))(hl:kvs.length=es.size)
  (hk:∀(j:Nat)p e,kvs[j]?=some p->es[j]?=some e->eF I p.1 e.key)
  (hv:∀(j:Nat)p e,kvs[j]?=some p->es[j]?=some e->eF I p.2 e.val):eF I (.fmap kvs) (.map (some b))
 |agg(cs:List V)(vs:Array Value)(hl:cs.length=vs.size)(h:∀(j:Nat)a b,cs[j]?=some a->vs[j]?=some b->eF I a b):
  eF I (.agg cs) (.agg vs)
 |tup(cs:List V)(vs:Array Value)(hl:cs.length=vs.size)(h:∀(j:Nat)a b,cs[j]?=some a->vs[j]?=some b->eF I a b):
  eF I (.tup cs) (.tuple vs)
structure Pl where
 b:Nat
 o:Nat
 es:Nat
 sz:Nat
abbrev Mu:=Nat->aY Pl
inductive bH(I:cG)(μ:Mu):V->Value->Prop
 |c(x:V)(v:Value)(h:eF I x v):bH I μ x v|hsl(id off len cap:Nat)(p:Pl)(hm:μ id=some p)(hc:len<=cap)(hb:p.o+(off+cap)*p.es<=p.sz):
  bH I μ (.hsl id p.es off len) (.slice (some ⟨p.b,p.o+off*p.es,none⟩) len cap)
 |hsl0(id es off:Nat)(a:Addr):bH I μ (.hsl id es off 0) (.slice (some a) 0 0)|hptr(id el off:Nat)(p:Pl)(hm:μ id=some p):bH I μ (.hptr id el off) (.pointer (some ⟨p.b,p.o+el*p.es+off,none⟩))|yld(id:Nat)(p:Pl)(hm:μ id=some p):bH I μ (.yld id) (.func (.yield p.b) #[] #[])|hmap(id:Nat)(p:Pl)(hm:μ id=some p):bH I μ (.hmap id) (.map (some p.b))|clo(f:FuncId)(x y:List V)(u v:Array Value)(hx:x.length=u.size)(hy:y.length=v.size)
  (h1:∀(j:Nat)a b,x[j]?=some a->u[j]?=some b->bH I μ a b) (h2:∀(j:Nat)a b,y[j]?=some a->v[j]?=some b->bH I μ a b):
  bH I μ (.clo f x y) (.func (.func f) u v)
 |agg(cs:List V)(vs:Array Value)(hl:cs.length=vs.size)(h:∀(j:Nat)a b,cs[j]?=some a->vs[j]?=some b->bH I μ a b):
  bH I μ (.agg cs) (.agg vs)
 |tup(cs:List V)(vs:Array Value)(hl:cs.length=vs.size)(h:∀(j:Nat)a b,cs[j]?=some a->vs[j]?=some b->bH I μ a b):
  bH I μ (.tup cs) (.tuple vs)
def Mu.le(μ μ':Mu):Prop:=∀id p,μ id=some p->μ' id=some p
def Mu.le_refl(μ:Mu):Mu.le μ μ:=λ_ _ h=>h
def eF.mono{I I':cG}(h:cG.le I I'){x:V}{v:WP}(r:eF I x v):eF I' x v:=by induction r with|bool b=>exact .bool b|int k n=>exact .int k n|str s=>exact .str s|dH a=>exact .dH a|bG=>exact .bG|fsl0 es a cap=>exact .fsl0 es a cap|fsl es O b o cap c C hc hu Q G _ w=>exact .fsl es O b o cap c (h _ _ C) hc hu Q G w|iF=>exact .iF|fptr cs b o c C G _ w=>exact .fptr cs b o c (h _ _ C) G w|clo f x y u v S T _ _ z B=>exact .clo f x y u v S T z B|gR=>exact .gR|tI=>exact .tI|fmap J b es C D _ _ z B=>exact .fmap J b es (h _ _ C) D z B|agg cs L D _ w=>exact .agg cs L D w|tup cs L D _ w=>exact .tup cs L D w
def bH.mono{I I':cG}{μ μ':Mu}(h:cG.le I I')(B:Mu.le μ μ'){x:V}{v:WP}(r:bH I μ x v):bH I' μ' x v:=by induction r with|c x v r=>exact .c _ _ (r.mono h)|hsl id off len cap p w hc L=>exact .hsl id off len cap p (B _ _ w) hc L|hsl0 id es off a=>exact .hsl0 id es off a|hptr id el off p w=>exact .hptr id el off p (B _ _ w)|yld id p w=>exact .yld id p (B _ _ w)|hmap id p w=>exact .hmap id p (B _ _ w)|clo f x y u v O Q _ _ z C=>exact .clo f x y u v O Q z C|agg cs D G _ J=>exact .agg cs D G J|tup cs D G _ J=>exact .tup cs D G J
def cR(I:cG)(μ:Mu)(xs:S')(vs:aX WP):Prop:=xs.length=vs.length/\∀(j:Nat)a b,xs[j]?=some a->vs[j]?=some b->bH I μ a b
def cR.nil{I:cG}{μ:Mu}:cR I μ [] []:=⟨rfl,Zab⟩
def cR.cons{I:cG}{μ:Mu}{x:V}{v:WP}{xs:S'}{vs:aX WP}(h:bH I μ x v)(r:cR I μ xs vs):cR I μ (x::xs) (v::vs):=by refine⟨by simp[r.1],?_⟩;intro j a b c u;cases j with|zero=>grind|succ j=>exact r.2 j a b Zac Zac
def cR.cons_inv{I:cG}{μ:Mu}{x:V}{xs:S'}{B:aX WP}(r:cR I μ (x::xs) B):∃v vs,B=v::vs/\bH I μ x v/\cR I μ xs vs:=by have⟨u,h⟩:=r;cases B with|nil=>simp_all|cons v vs=>refine⟨v,vs,rfl,h 0 x v Zab Zab,Zac,?_⟩;intro j a b c w;exact h (j+1) a b Zac Zac
def cR.xo{I:cG}{μ:Mu}{B:aX WP}(r:cR I μ [] B):B=[]:=by have:=r.1;grind
def cR.append{I:cG}{μ:Mu}{xs ys:S'}{B vs:aX WP}(h:cR I μ xs B)(D:cR I μ ys vs):cR I μ (xs++ys) (B++vs):=by induction xs generalizing B with|nil=>rw[cR.xo h];exact D|cons x xs u=>obtain⟨v,B,rfl,a,b⟩:=h.cons_inv;exact .cons a (u b)
def cR.mono{I I':cG}{μ μ':Mu}(h:cG.le I I')(B:Mu.le μ μ'){xs:S'}{vs:aX WP}(r:cR I μ xs vs):cR I' μ' xs vs:=⟨r.1,λj a b c u=>(r.2 j a b c u).mono h B⟩
def cR.take{I:cG}{μ:Mu}{xs:S'}{vs:aX WP}(r:cR I μ xs vs)(n:Nat):cR I μ (xs.take n) (vs.take n):=by refine⟨by simp[r.1],λj a b c u=>?_⟩;rw[getElem?_take]at c u;split at c<;>simp_all;exact r.2 j a b c u
def cR.drop{I:cG}{μ:Mu}{xs:S'}{vs:aX WP}(r:cR I μ xs vs)(n:Nat):cR I μ (xs.drop n) (vs.drop n):=by refine⟨by simp[r.1],λj a b c u=>?_⟩;rw[getElem?_drop]at c u;exact r.2 _ a b c u
def bH.cells{I:cG}{μ:Mu}{x:V}{v:WP}(r:bH I μ x v):cR I μ x.cells v.cells.toList:=by
 cases r with
 |c x v h=>cases h with|agg cs B w h=>exact⟨by grind[V.cells,Value.cells],λj a b d C=>.c _ _ (h j a b d (by grind[Value.cells]))⟩|bool b=>exact .cons (.c _ _ (.bool b)) .nil|int k n=>exact .cons (.c _ _ (.int k n)) .nil|str s=>exact .cons (.c _ _ (.str s)) .nil|dH a=>exact .cons (.c _ _ (.dH a)) .nil|bG=>exact .cons (.c _ _ .bG) .nil|fsl0 es a cap=>exact .cons (.c _ _ (.fsl0 es a cap)) .nil|fsl es Q b o cap c D hc hu S G hr=>exact .cons (.c _ _ (.fsl es Q b o cap c D hc hu S G hr)) .nil|iF=>exact .cons (.c _ _ .iF) .nil|fptr cs b o c D G hr=>exact .cons (.c _ _ (.fptr cs b o c D G hr)) .nil|clo f x y u v J L d C=>exact .cons (.c _ _ (.clo f x y u v J L d C)) .nil|gR=>exact .cons (.c _ _ .gR) .nil|tI=>exact .cons (.c _ _ .tI) .nil|fmap O b es D w hk hv=>exact .cons (.c _ _ (.fmap O b es D w hk hv)) .nil|tup cs B w h=>exact .cons (.c _ _ (.tup cs B w h)) .nil
 |hsl id off len cap p z hc G=>exact .cons (.hsl id off len cap p z hc G) .nil|hsl0 id es off a=>exact .cons (.hsl0 id es off a) .nil|hptr id el off p z=>exact .cons (.hptr id el off p z) .nil|yld id p z=>exact .cons (.yld id p z) .nil|hmap id p z=>exact .cons (.hmap id p z) .nil|clo f x y u v J L d C=>exact .cons (.clo f x y u v J L d C) .nil|agg cs B w h=>exact⟨by grind[V.cells,Value.cells],λj a b d C=>h j a b d (by grind[Value.cells])⟩|tup cs B w h=>exact .cons (.tup cs B w h) .nil
def bH.Ij{I:cG}{μ:Mu}{cs:S'}{vs:Array WP}(h:cR I μ cs vs.toList):bH I μ (.agg cs) (.agg vs):=.agg cs vs (by simpa using h.1) λj a b c u=>h.2 j a b c Zac
def bH.Uh{I:cG}{μ:Mu}{cs:S'}{vs:Array WP}(h:cR I μ cs vs.toList):bH I μ (.tup cs) (.tuple vs):=.tup cs vs (by simpa using h.1) λj a b c u=>h.2 j a b c Zac
section inv
variable{I:cG}{μ:Mu}
def bH.sZ{b:X'}{v:WP}(h:bH I μ (.bool b) v):v=.bool b:=by cases h with|c _ _ h=>cases h;rfl
def bH.fM{k:T'}{n:Int}{v:WP}(h:bH I μ (.int k n) v):v=.int k n:=by cases h with|c _ _ h=>cases h;rfl
def bH.uY{s:V'}{v:WP}(h:bH I μ (.str s) v):v=.string s:=by cases h with|c _ _ h=>cases h;rfl
def bH.tK{v:WP}(h:bH I μ .dH v):∃a,v=.slice a 0 0:=by cases h with|c _ _ h=>cases h;grind
def bH.mR{es:Nat}{xs:T2}{v:WP}(h:bH I μ (.fsl es xs) v):eF I (.fsl es xs) v:=by cases h with|c _ _ h=>omega
def bH.mZ{cs:S'}{v:WP}(h:bH I μ (.fptr cs) v):∃b o c,v=.pointer (some ⟨b,o,none⟩)/\I b=some (.cells c)/\o+cs.length<=c.size/\
 (∀(j:Nat)y u,cs[j]?=some y->c[o+j]?=some u->eF I y u):=by
 cases h with|c _ _ h=>cases h with|fptr cs b o c w z hr=>grind
def bH.mQ{v:WP}(h:bH I μ .bG v):v=.slice none 0 0:=by cases h with|c _ _ h=>cases h;rfl
def bH.SJ{v:WP}(h:bH I μ .gR v):v=.map none:=by cases h with|c _ _ h=>cases h;rfl
def bH.u5{id el off:Nat}{v:WP}(h:bH I μ (.hptr id el off) v):∃p,μ id=some p/\v=.pointer (some ⟨p.b,p.o+el*p.es+off,none⟩):=by cases h with|c _ _ h=>cases h|hptr _ _ _ p u=>grind
def bH.Vp{id:Nat}{v:WP}(h:bH I μ (.yld id) v):∃p,μ id=some p/\v=.func (.yield p.b) #[] #[]:=by cases h with|c _ _ h=>cases h|yld _ p u=>grind
def bH.C2{id:Nat}{v:WP}(h:bH I μ (.hmap id) v):∃p,μ id=some p/\v=.map (some p.b):=by cases h with|c _ _ h=>cases h|hmap _ p u=>grind
def bH.mL{id es off len:Nat}{v:WP}(h:bH I μ (.hsl id es off len) v):
 (∃p b,μ id=some p/\p.es=es/\len<=b/\p.o+(off+b)*es<=p.sz/\v=.slice (some ⟨p.b,p.o+off*es,none⟩) len b)\/(len=0/\∃a,v=.slice (some a) 0 0):=by
 cases h with
 |c _ _ h=>cases h|hsl _ _ _ b p u hc w=>simp_all|hsl0 _ _ _ a=>grind
def bH.iZ{cs:S'}{v:WP}(h:bH I μ (.agg cs) v):∃vs,v=.agg vs/\cR I μ cs vs.toList:=by
 cases h with
 |c _ _ h=>cases h with|agg _ vs u h=>exact⟨vs,rfl,Zac,λj a b d w=>.c _ _ (h j a b d Zac)⟩
 |agg _ vs u h=>exact⟨vs,rfl,Zac,λj a b d w=>h j a b d Zac⟩
def bH.qZ{cs:S'}{v:WP}(h:bH I μ (.tup cs) v):∃vs,v=.tuple vs/\cR I μ cs vs.toList:=by
 cases h with
 |c _ _ h=>cases h with|tup _ vs u h=>exact⟨vs,rfl,Zac,λj a b d w=>.c _ _ (h j a b d Zac)⟩
 |tup _ vs u h=>exact⟨vs,rfl,Zac,λj a b d w=>h j a b d Zac⟩
def bH.kS{f:Y'}{x y:S'}{v:WP}(h:bH I μ (.clo f x y) v):∃a b,v=.func (.func f) a b/\cR I μ x a.toList/\cR I μ y b.toList:=by
 cases h with
 |c _ _ h=>cases h with
  |clo _ _ _ u v z B h1 w=>exact⟨u,v,rfl,⟨Zac,λj a b p q=>.c _ _ (h1 j a b p Zac)⟩,⟨Zac,λj a b p q=>.c _ _ (w j a b p Zac)⟩⟩
 |clo _ _ _ u v z B h1 w=>exact⟨u,v,rfl,⟨Zac,λj a b p q=>h1 j a b p Zac⟩,⟨Zac,λj a b p q=>w j a b p Zac⟩⟩
def bH.of_bool{x:V}{b:X'}(h:bH I μ x (.bool b)):x=.bool b:=by cases h with|c _ _ h=>cases h;rfl
end inv
def vE(I:cG):Prop:=∀g cs,bT.gl g=some cs->eF I (.fptr cs) (.pointer (some ⟨g,0,none⟩))
def vE.mono{I I':cG}(h:cG.le I I')(r:vE I):vE I':=λg cs a=>(r g cs a).mono h
structure eD(I:cG)(μ:Mu)(n:Nat)(F:Frame)(tmps:Array Value):Prop where
 size:tmps.size=n
 rel:∀t,bH I μ (get F t) (tmps.getD t undef)
 gl:vE I
theorem bH.undef(I:cG)(μ:Mu):bH I μ .undef Go.undef:=.c _ _ (.tup [] #[] rfl Zab)
def eD.mono{I I':cG}{μ μ':Mu}{n:Nat}{F:WF}{tmps:Array WP}(h:cG.le I I')(B:Mu.le μ μ')(r:eD I μ n F tmps):eD I' μ' n F tmps:=⟨r.1,λt=>(r.2 t).mono h B,r.gl.mono h⟩
def eD.put{I:cG}{μ:Mu}{n:Nat}{F F':WF}{a:Act}{dst:aY Nat}{x:V}{v:WP}(r:eD I μ n F a.tmps)(h:bH I μ x v)
 (hp:kJ n F dst x=some F'):eD I μ n F' (a.put dst v).tmps:=by
 cases dst with
 |none=>simp[kJ]at hp;subst hp;exact r|some d=>
  simp only[kJ]at hp;split at hp
  .simp at hp;subst hp;refine⟨by simp[Act.put,r.1],λt=>?_,r.gl⟩
   by_cases u:d=t
   .subst u;have:d<a.tmps.size:=by rw[r.1];omega
    simp_all[Act.put]
   have:=r.2 t;rw[jG _ _ u];simp_all[Act.put]
  grind
def CE{I:cG}:∀(n:Nat)(v:WP)(x:V),ofValue n v=some x->eF I x v:=by intro n;induction n with|zero=>grind[ofValue]|succ n B=>intro v x h;unfold ofValue at h;split at h<;>(try (simp at h;subst h;constructor))<;>(try grind);simp at h;obtain⟨C,w,rfl⟩:=h;have key:∀(l:aX WP)(u:S'),l.mapM (ofValue n)=some u->u.length=l.length/\∀(j:Nat)a b,u[j]?=some a->l[j]?=some b->eF I a b:=(by intro l;induction l with|nil=>grind|cons v l z=>grind[ζg]);have⟨D,c⟩:=key _ _ w;exact .agg _ _ Zac λj a b d G=>c j a b d Zac
def dJ{I:cG}{μ:Mu}{n:Nat}{F:WF}{a:Act}(r:eD I μ n F a.tmps){o:U'}{x:V}(h:ev F o=some x):bH I μ x (a.eval o):=by cases o with|tmp t=>simp[ev]at h;subst h;exact r.2 t|const v=>exact .c _ _ (CE 4 _ _ h)|func f=>simp[ev]at h;subst h;exact .c _ _ (.clo f [] [] #[] #[] rfl rfl Zab Zab)|global g=>obtain⟨cs,b,rfl⟩:=ζf.1 h;exact .c _ _ (r.gl g cs b)
def oy{I:cG}{μ:Mu}{n:Nat}{F:WF}{a:Act}(r:eD I μ n F a.tmps):∀{l:aX U'}{xs:S'},fC F l=some xs->cR I μ xs (l.map a.eval):=by intro l;induction l with|nil=>intro xs h;simp[fC]at h;subst h;exact .nil|cons o l u=>intro xs h;simp[fC]at h;split at h;(next v z b w=>simp at h;subst h;exact .cons (dJ r b) (u w));grind
def Ow{I:cG}{μ:Mu}{n:Nat}{F:WF}{a:Act}(r:eD I μ n F a.tmps):∀{l:aX (Nat×U')}{xs:aX (Nat×V)},mY F l=some xs->
 xs.length=l.length/\∀(j:Nat)x y,xs[j]?=some x->l[j]?=some y->x.1=y.1/\bH I μ x.2 (a.eval y.2):=by
 intro l
 induction l with
 |nil=>grind[mY]|cons o l z=>
  intro xs h;simp[mY]at h;split at h
  .rename_i v D h1 B;simp at h;subst h;have⟨C,b⟩:=z B;refine⟨by simp[C],λj x y u w=>?_⟩
   cases j with
   |zero=>simp at u w;subst u;subst w;exact⟨rfl,dJ r h1⟩|succ j=>grind
  grind
def mW:TypeDesc->TK
 |.bool=>.bool|.int k=>.int k|.string=>.str|.pointer e=>.ptr e|.slice e=>.slice e|.struct fs=>.struct (fs.toList.map λf=>(f.offset,f.type))|.array n e=>.array n e|.map k e=>.map k e|_=>.other
def D4:WP->X'
 |.agg _=>true|_=>false
def xM(P:Program)(t:W'):aY TD:=
 match P.info? t,P.underlying t with
 |some i,some d=>match i.zero with
  |some z=>match z.cells.toList.mapM (ofValue 4)with
   |some cs=>if cs.length=i.size/\cs.all V.one=true/\D4 z=(TD.mk i.size i.bytes cs (mW d)).agg then some ⟨i.size,i.bytes,cs,mW d⟩else none|none=>none
  |none=>none
 |_,_=>none
def ic(a:SW):Array WP:=(a.map (Value.int .i64)).toArray
structure x6(P:Program)(t:TypeId)(n:Nat):Prop where
 eq:∀(w:World)(x y:Operand)(a b:List Int),a.length=n->b.length=n->
  (do eqGuard .eql t x y (.agg (ic a)) (.agg (ic b));binOp .eql t (.agg (ic a)) (.agg (ic b))).run P w=.ok (.bool (a==b)) w
 ne:∀(w:World)(x y:Operand)(a b:List Int),a.length=n->b.length=n->
  (do eqGuard .neq t x y (.agg (ic a)) (.agg (ic b));binOp .neq t (.agg (ic a)) (.agg (ic b))).run P w=.ok (.bool !(a==b)) w
 key:∀(w:World)(a b:List Int),a.length=n->b.length=n->(equal t (.agg (ic a)) (.agg (ic b))).run P w=.ok (a==b) w
 check:∀(w:World)(e:Bool)(a:List Int),a.length=n->(checkKey e 10000 t (.agg (ic a))).run P w=.ok () w
 kind:∃d,P.underlying t=some d/\((∃n e,d=.array n e)\/(∃fs,d=.struct fs))
structure eG(P:Program)(E:Env):Prop where
 tt:∀t d,E.tt t=some d->xM P t=some d
 ft:∀f fi,E.ft f=some fi->∃fn,P.funcs[f]?=some fn/\fn.body=some fi.body/\fn.ntmps=fi.ntmps/\fn.results.toList=fi.results/\(fn.name== "runtime.NumGoroutine")=false
 eqN:∀t n,E.eqN t=some n->x6 P t n
structure qM(P:Program)(t:TypeId)(d:TD):Prop where
 info:∃i z,P.info? t=some i/\i.size=d.size/\i.bytes=d.bytes/\i.zero=some z/\(∀I μ,cR I μ d.zero z.cells.toList)/\d.zero.length=d.size/\d.zero.all V.one=true/\D4 z=d.agg
 und:∃desc,P.underlying t=some desc/\mW desc=d.kind
def Ss{I:cG}{μ:Mu}:∀(l:aX WP)(ys:S'),l.mapM (ofValue 4)=some ys->cR I μ ys l:=by intro l;induction l with|nil=>intro ys h;simp at h;subst h;exact .nil|cons v l u=>intro ys h;simp only[List.mapM_cons,Option.pure_def,Option.bind_eq_bind,ζg,ζa]at h;obtain⟨y,w,z,B,rfl⟩:=h;exact .cons (.c _ _ (CE 4 _ _ w)) (u z B)
def eG.ty{P:Program}{E:Env}(h:eG P E){t:W'}{d:TD}(B:E.tt t=some d):qM P t d:=by
 have:=h.tt t d B;unfold xM at this;split at this;rename_i i a hi hd;split at this;rename_i z u;split at this;rename_i cs b;split at this;next w=>simp only[ζa]at this;subst this;exact⟨⟨i,z,hi,rfl,rfl,u,λI μ=>Ss _ _ b,w⟩,⟨a,hd,rfl⟩⟩
 grind;grind;grind;grind
section runs
variable{P:Program}{w:World}{t:W'}{d:TD}
theorem dS{a:TypeDesc}(h:P.underlying t=some a):(underlying t).run P w=.ok a w:=by simp[underlying,h]
def pK{i:TypeInfo}(h:P.info? t=some i):(typeInfo t).run P w=.ok i w:=by simp[typeInfo,h]
def qM.k_(h:qM P t d):(sizeOf t).run P w=.ok d.size w:=by have⟨i,z,hi,u,_⟩:=h.info;simp_all[sizeOf,pK]
def qM.dS(h:qM P t d):∃a,P.underlying t=some a/\mW a=d.kind/\∀w,(underlying t).run P w=.ok a w:=by have⟨a,b,u⟩:=h.und;grind[VE.dS]
def qM.MV(h:qM P t d):(isAgg t).run P w=.ok d.agg w:=by have⟨a,b,u⟩:=h.und;unfold isAgg;simp only[run_bind,VE.dS b,andThen_ok];cases a<;>simp[TD.agg,<-u,mW]
def qM.Ep(h:qM P t d):∃z,(∀w,(zeroValue t).run P w=.ok z w)/\(∀I μ,cR I μ d.zero z.cells.toList)/\d.zero.length=d.size/\d.zero.all V.one=true:=by have⟨i,z,hi,_,_,u,a,B,b,_⟩:=h.info;simp_all[zeroValue,pK]
end runs
def qM.VD{P:Program}{t:W'}{d:TD}(h:qM P t d):∃z,(∀w,(zeroValue t).run P w=.ok z w)/\∀I μ x,VE.mk d.agg d.zero=some x->bH I μ x z:=by
 have⟨i,z,hi,_,_,D,a,G,b,u⟩:=h.info;refine⟨z,λw=>by simp_all[zeroValue,pK],λI μ x C=>?_⟩;have B:=a I μ;cases hd:d.agg with|true=>rw[hd]at C u;cases z<;>simp[D4]at u;simp only[VE.mk,if_true,ζa]at C;subst C;exact .Ij (by grind[Value.cells])|false=>
  rw[hd]at C u;simp only[VE.mk,false_eq_true,if_false]at C;split at C
  .rename_i v hv;simp only[ζa]at C;subst C;rw[hv]at B;have e:z.cells.toList=[z]:=(by cases z<;>first|rfl|grind[D4]);rw[e]at B;exact B.2 0 _ _ rfl rfl
  simp at C
def fQ{E:Env}{t:W'}{k:TK}(h:E.kindOf t=some k):∃d,E.tt t=some d/\d.kind=k:=by grind[Env.kindOf,ζf]
def Fp{d:TypeDesc}{k:T'}(h:mW d=.int k):d=.int k:=by cases d<;>simp_all [mW]
def LN{d:TypeDesc}(h:mW d=.bool):d=.bool:=by cases d<;>simp_all [mW]
def BH{d:TypeDesc}(h:mW d=.str):d=.string:=by cases d<;>simp_all [mW]
def jS{d:TypeDesc}{e:W'}(h:mW d=.slice e):d=.slice e:=by cases d<;>simp_all [mW]
def Dr{d:TypeDesc}{n:Nat}{e:W'}(h:mW d=.array n e):d=.array n e:=by cases d<;>simp_all [mW]
def Bi{d:TypeDesc}{k e:W'}(h:mW d=.map k e):d=.map k e:=by cases d<;>simp_all [mW]
def A_{d:TypeDesc}{fs:aX (Nat×W')}(h:mW d=.struct fs):∃B,d=.struct B/\fs=B.toList.map λf=>(f.offset,f.type):=by cases d<;>simp_all [mW]
def B0{I:cG}{μ:Mu}{cs r:S'}{vs:aX WP}{off n:Nat}(h:cR I μ cs vs)(a:cut cs off n=some r):
 cR I μ r ((vs.drop off).take n)/\r.length=n/\off+n<=cs.length\/(n=0/\r=[]):=by
 unfold cut at a;simp only at a;split at a
 .rename_i u;simp only[ζa]at a;subst a
  by_cases w:n=0
  .grind
  left;refine⟨(h.drop off).take n,u,?_⟩
  grind
 simp at a
def OO{I:cG}{μ:Mu}{cs:S'}{x:V}{vs:Array WP}(h:mk true cs=some x)(r:cR I μ cs vs.toList):bH I μ x (.agg vs):=by simp only[mk,if_true,ζa]at h;subst h;exact .Ij r
def mk_one{I:cG}{μ:Mu}{cs:S'}{x:V}{vs:aX WP}(h:mk false cs=some x)(r:cR I μ cs vs):∃v,vs=[v]/\bH I μ x v:=by simp only[mk,false_eq_true,if_false]at h;split at h;simp only[ζa]at h;subst h;obtain⟨v,u,rfl,a,b⟩:=r.cons_inv;exact⟨v,by rw[b.xo],a⟩;simp at h
def Jg{P:Program}{w:World}{I:cG}{μ:Mu}{t:W'}{d:TD}{cs r:S'}{vs:Array WP}{x:V}{off:Nat}(D:qM P t d)(h:cR I μ cs vs.toList)
 (b:cut cs off d.size=some r)(B:mk d.agg r=some x):∃u,(part t vs off).run P w=.ok u w/\bH I μ x u:=by
 unfold part;simp only[run_bind,D.MV,andThen_ok]
 cases z:d.agg with
 |true=>
  rw[z]at B;refine⟨.agg (vs.extract off (off+d.size)),by simp[D.k_],?_⟩
  refine OO B ?_;have e:(vs.extract off (off+d.size)).toList=(vs.toList.drop off).take d.size:=Zab
  rw[e];rcases B0 h b with⟨a,_⟩|⟨C,rfl⟩
  .exact a
  rw[C];exact .nil
 |false=>
  rw[z]at B;rcases B0 h b with⟨a,J,_⟩|⟨C,rfl⟩
  .have⟨v,hv,G⟩:=mk_one B a;refine⟨v,?_,G⟩;have hd:d.size=1:=by
    have:=a.1;rw[hv]at this;grind
   rw[hd]at hv;have:vs[off]?=some v:=by have:=congrArg (·[0]?) hv;grind
   simp[this]
  grind[mk]
def Nq{I:cG}{μ:Mu}:∀(az:S')(a:SW)(B:aX WP),iL az=some a->cR I μ az B->B=a.map (Value.int .i64)/\a.length=az.length:=by intro az;induction az with|nil=>intro a B h u;simp only[iL,ζa]at h;subst h;rw[u.xo];simp|cons x az w=>intro a B h u;obtain⟨v,B,rfl,c,d⟩:=u.cons_inv;have z:∃y,x=.int .i64 y:=(by cases x with|int k y=>cases k<;>simp[iL]at h⊢|_=>simp[iL]at h);obtain⟨y,rfl⟩:=z;simp only[iL,ζf]at h;obtain⟨b,C,rfl⟩:=h;have⟨g1,g2⟩:=w _ _ C d;have:=c.fM;grind
def rj{I:cG}{μ:Mu}{az:S'}{a:SW}{B:Array WP}(h:iL az=some a)(D:cR I μ az B.toList):B=ic a/\a.length=az.length:=by have⟨b,u⟩:=Nq _ _ _ h D;refine⟨?_,u⟩;have:=congrArg List.toArray b;grind[ic]
def yL{az B:S'}{r:X'}(h:lQ az B=some r):∃a b,iL az=some a/\iL B=some b/\a.length=b.length/\r=(a==b):=by grind[lQ]
section
variable{P:Program}{E:Env}{I:cG}{μ:Mu}{n:Nat}{F:WF}{a:Act}{w:World}
def QB(f:BinOp)(t:W')(p q:U')(k B:T')(m m':Int):(eqGuard f t p q (.int k m) (.int B m')).run P w=.ok () w:=by simp_all[eqGuard]
def Ph(f:BinOp)(t:W')(p q:U')(s B:V'):(eqGuard f t p q (.string s) (.string B)).run P w=.ok () w:=by simp_all[eqGuard]
def Og(f:BinOp)(t:W')(p q:U')(s B:X'):(eqGuard f t p q (.bool s) (.bool B)).run P w=.ok () w:=by simp_all[eqGuard]
def Jh(d:Nat){t:W'}(x y:X')(h:P.underlying t=some .bool):(equalIn (d+1) t (.bool x) (.bool y)).run P w=.ok (x==y) w:=by simp_all[equalIn,dS]
theorem Ee{t:W'}(x y:X')(h:P.underlying t=some .bool):(equal t (.bool x) (.bool y)).run P w=.ok (x==y) w:=Jh 9999 x y h
def CL(d:Nat){t:W'}{k:T'}(x y:Int)(h:P.underlying t=some (.int k)):(equalIn (d+1) t (.int k x) (.int k y)).run P w=.ok (x==y) w:=by simp_all[equalIn,dS]
def HY(d:Nat){t e:W'}(B:aY Addr)(l c:Nat)(h:P.underlying t=some (.slice e)):(equalIn (d+1) t (.slice B l c) (.slice none 0 0)).run P w=.ok B.isNone w:=by cases B<;>simp only[equalIn,run_bind,dS h,andThen_ok,run_pure]<;>rfl
def K9(d:Nat){t e:W'}(B:aY Addr)(h:P.underlying t=some (.pointer e)):(equalIn (d+1) t (.pointer B) (.pointer none)).run P w=.ok B.isNone w:=by cases B<;>simp only[equalIn,run_bind,dS h,andThen_ok,run_pure]<;>rfl
def La(d:Nat){t e D:W'}(B:aY Nat)(h:P.underlying t=some (.map e D)):(equalIn (d+1) t (.map B) (.map none)).run P w=.ok B.isNone w:=by cases B<;>simp only[equalIn,run_bind,dS h,andThen_ok,run_pure]<;>rfl
def Gw(T:eG P E){t:W'}{k:TK}{x y:V}{u v:WP}{b:X'}(i:E.kindOf t=some k)(h:vT k x y=some b)(B:bH I μ x u)(D:bH I μ y v):
 (equal t u v).run P w=.ok b w/\(∀op p q,(eqGuard op t p q u v).run P w=.ok () w)/\binOp .eql t u v=(do pure (.bool (<-equal t u v)))/\binOp .neq t u v=(do pure (.bool (!(<-equal t u v)))):=by
 have⟨d,hd,J⟩:=fQ i;have⟨a,m,C,_⟩:=(T.ty hd).dS;rw[J]at C;have j:∀(e:W')(z:aY Addr)(l c:Nat),P.underlying t=some (.slice e)->b=z.isNone->
  (equal t (.slice z l c) (.slice none 0 0)).run P w=.ok b w/\(∀op p q,(eqGuard op t p q (.slice z l c) (.slice none 0 0)).run P w=.ok () w)/\binOp .eql t (.slice z l c) (.slice none 0 0)=(do pure (.bool (<-equal t (.slice z l c) (.slice none 0 0))))/\binOp .neq t (.slice z l c) (.slice none 0 0)=(do pure (.bool (!(<-equal t (.slice z l c) (.slice none 0 0))))):=by
  intro e z l c f G;refine⟨?_,λop p q=>by simp_all[eqGuard],rfl,rfl⟩
  rw[G];exact HY 9999 z l c f
 have O:∀(e:W')(z:aY Addr),P.underlying t=some (.pointer e)->b=z.isNone->
  (equal t (.pointer z) (.pointer none)).run P w=.ok b w/\(∀op p q,(eqGuard op t p q (.pointer z) (.pointer none)).run P w=.ok () w)/\binOp .eql t (.pointer z) (.pointer none)=(do pure (.bool (<-equal t (.pointer z) (.pointer none))))/\binOp .neq t (.pointer z) (.pointer none)=(do pure (.bool (!(<-equal t (.pointer z) (.pointer none))))):=by
  intro e z f G;refine⟨?_,λop p q=>by simp_all[eqGuard],rfl,rfl⟩
  rw[G];exact K9 9999 z f
 have Q:∀(e L:W')(z:aY Nat),P.underlying t=some (.map e L)->b=z.isNone->
  (equal t (.map z) (.map none)).run P w=.ok b w/\(∀op p q,(eqGuard op t p q (.map z) (.map none)).run P w=.ok () w)/\binOp .eql t (.map z) (.map none)=(do pure (.bool (<-equal t (.map z) (.map none))))/\binOp .neq t (.map z) (.map none)=(do pure (.bool (!(<-equal t (.map z) (.map none))))):=by
  intro e L z f G;refine⟨?_,λop p q=>by simp_all[eqGuard],rfl,rfl⟩
  rw[G];exact La 9999 z f
 unfold vT at h;split at h<;>(try (simp only[ζa]at h;subst h))
 .have:=jS C;subst this;rw[B.mQ,D.mQ];grind
 .have:=jS C;subst this;rw[D.mQ];have S:=B.mR
  cases S with
  |fsl0 _ z g=>grind|fsl=>grind
 .have:=jS C;subst this;rw[D.mQ];rcases B.mL with⟨p,g,_,_,_,_,U⟩|⟨_,z,U⟩
  all_goals grind
 .obtain⟨e,rfl⟩:∃e,a=.pointer e:=by cases a<;>simp_all [mW]
  cases B with|c _ _ B=>cases B;cases D with|c _ _ D=>cases D;grind
 .obtain⟨e,rfl⟩:∃e,a=.pointer e:=by cases a<;>simp_all [mW]
  cases D with|c _ _ D=>cases D;cases B with|c _ _ B=>cases B;grind
 .obtain⟨e,rfl⟩:∃e,a=.pointer e:=by cases a<;>simp_all [mW]
  cases D with
  |c _ _ D=>
   cases D
   cases B with
   |c _ _ B=>cases B|hptr=>grind
 .have:=Bi C;subst this;cases B with|c _ _ B=>cases B;cases D with|c _ _ D=>cases D;grind
 .have:=Bi C;subst this;cases D with|c _ _ D=>cases D;cases B with|c _ _ B=>cases B;grind
 .have:=Bi C;subst this
  cases D with
  |c _ _ D=>
   cases D
   cases B with
   |c _ _ B=>cases B|hmap=>grind
 cases h
def VS(J:eG P E){op:BinOp}{t:W'}{x y z:V}{u v:WP}(p q:U')(h:JC E op t x y=some z)(T:bH I μ x u)(U:bH I μ y v):
 ∃r,(do eqGuard op t p q u v;binOp op t u v).run P w=.ok r w/\bH I μ z r:=by
 unfold JC at h;split at h
 .
  rename_i k m g m';rw[T.fM,U.fM];simp only[run_bind,QB,andThen_ok];split at h
  .
   split at h
   .simp at h
   rename_i C;simp only[ζa]at h;subst h;exact⟨_,by simp[binOp,Op.shift,C],.c _ _ (.int _ _)⟩
  .split at h
   .simp at h
   rename_i C;simp only[ζa]at h;subst h;exact⟨_,by simp[binOp,Op.shift,C],.c _ _ (.int _ _)⟩
  split at h
  .rename_i X Y a;subst a
   cases op with
   |shl=>grind|shr=>grind|add=>simp only[ζa]at h;subst h;exact⟨_,by simp[binOp,intArith],.c _ _ (.int _ _)⟩|sub=>simp only[ζa]at h;subst h;exact⟨_,by simp[binOp,intArith],.c _ _ (.int _ _)⟩|mul=>simp only[ζa]at h;subst h;exact⟨_,by simp[binOp,intArith],.c _ _ (.int _ _)⟩|quo=>
    simp only at h;split at h
    .simp at h
    rename_i C;simp only[ζa]at h;subst h;exact⟨_,by simp[binOp,Op.intDiv,C],.c _ _ (.int _ _)⟩
   |rem=>
    simp only at h;split at h
    .simp at h
    rename_i C;simp only[ζa]at h;subst h;exact⟨_,by simp[binOp,Op.intDiv,C],.c _ _ (.int _ _)⟩
   |and=>simp only[ζa]at h;subst h;exact⟨_,by simp[binOp,intBits],.c _ _ (.int _ _)⟩|or=>simp only[ζa]at h;subst h;exact⟨_,by simp[binOp,intBits],.c _ _ (.int _ _)⟩|xor=>simp only[ζa]at h;subst h;exact⟨_,by simp[binOp,intBits],.c _ _ (.int _ _)⟩|andNot=>simp only[ζa]at h;subst h;exact⟨_,by simp[binOp,intBits],.c _ _ (.int _ _)⟩|eql=>simp only[tg,map_some,ζa]at h;subst h;exact⟨_,by simp[binOp,intCmp],.c _ _ (.bool _)⟩|neq=>simp only[tg,map_some,ζa]at h;subst h;exact⟨_,by simp[binOp,intCmp],.c _ _ (.bool _)⟩|lss=>simp only[tg,map_some,ζa]at h;subst h;exact⟨_,by simp[binOp,intCmp],.c _ _ (.bool _)⟩|leq=>simp only[tg,map_some,ζa]at h;subst h;exact⟨_,by simp[binOp,intCmp],.c _ _ (.bool _)⟩|gtr=>simp only[tg,map_some,ζa]at h;subst h;exact⟨_,by simp[binOp,intCmp],.c _ _ (.bool _)⟩|geq=>simp only[tg,map_some,ζa]at h;subst h;exact⟨_,by simp[binOp,intCmp],.c _ _ (.bool _)⟩
  simp at h
 .
  rename_i s i;rw[T.uY,U.uY];simp only[run_bind,Ph,andThen_ok];split at h
  .split at h
   .simp at h
   rename_i C;simp only[ζa]at h;subst h;exact⟨_,by simp_all[binOp,Op.stringOp],.c _ _ (.str _)⟩
  all_goals first
   |(simp only[ζa]at h;subst h;exact⟨_,by simp[binOp,Op.stringOp],.c _ _ (.bool _)⟩)|simp at h
 .
  rename_i b j;rw[T.sZ,U.sZ];simp only[run_bind,Og,andThen_ok];split at h
  next a=>have⟨d,hd,D⟩:=fQ a;have⟨e,c,B,_⟩:=(J.ty hd).dS;rw[D]at B;have:=LN B;subst this;simp only[ζa]at h;subst h;exact⟨_,by grind[binOp,run_bind,Ee,andThen_ok,run_pure],.c _ _ (.bool _)⟩
  next a=>have⟨d,hd,D⟩:=fQ a;have⟨e,c,B,_⟩:=(J.ty hd).dS;rw[D]at B;have:=LN B;subst this;simp only[ζa]at h;subst h;exact⟨_,by grind[binOp,run_bind,Ee,andThen_ok,run_pure],.c _ _ (.bool _)⟩
  simp at h
 .
  rename_i az l;obtain⟨n,rfl,L⟩:=T.iZ;obtain⟨o,rfl,O⟩:=U.iZ;split at h
  .rename_i m G;split at h
   next Z=>simp only[ζf]at h;obtain⟨r,f,rfl⟩:=h;obtain⟨S,W,c,B,Q,rfl⟩:=yL f;obtain⟨rfl,e1⟩:=rj c L;obtain⟨rfl,e2⟩:=rj B O;exact⟨_,(J.eqN _ _ G).eq w p q S W Zaa Zaa,.c _ _ (.bool _)⟩
   simp at h
  .rename_i m G;split at h
   next Z=>simp only[ζf]at h;obtain⟨r,f,rfl⟩:=h;obtain⟨S,W,c,B,Q,rfl⟩:=yL f;obtain⟨rfl,e1⟩:=rj c L;obtain⟨rfl,e2⟩:=rj B O;exact⟨_,(J.eqN _ _ G).ne w p q S W Zaa Zaa,.c _ _ (.bool _)⟩
   simp at h
  simp at h

 split at h
 next k a=>simp only[ζf]at h;obtain⟨b,C,rfl⟩:=h;have⟨c,B,Q,_⟩:=Gw (w:=w) J a C T U;exact⟨.bool b,by rw[run_bind,B,Q];simp[andThen,c],.c _ _ (.bool _)⟩
 next k a=>simp only[ζf]at h;obtain⟨b,C,rfl⟩:=h;have⟨c,B,_,Q⟩:=Gw (w:=w) J a C T U;exact⟨.bool !b,by rw[run_bind,B,Q];simp[andThen,c],.c _ _ (.bool _)⟩
 simp at h
def K0(off:Nat):∀(l:aX WP)(k:Nat)(cells:Array WP),off+k+l.length<=cells.size->
 ((l.zipIdx k).foldl (λcs(p:WP×Nat)=>cs.setIfInBounds (off+p.2) p.1) cells).toList=cells.toList.take (off+k)++l++cells.toList.drop (off+k+l.length):=by
 intro l
 induction l with
 |nil=>simp_all|cons v l u=>
  intro k cells h;simp at h;simp;rw[u (k+1) _ (by simp;omega)]
  grind[List.take_succ_eq_append_getElem,List.take_set_of_le,List.drop_set_of_lt]
def NJ{cs xs:S'}{cells:Array WP}{v:WP}{off:Nat}(h:cR I μ cs cells.toList)(B:cR I μ xs v.cells.toList)(D:off+xs.length<=cs.length):
 cR I μ (cs.take off++xs++cs.drop (off+xs.length)) (v.cells.zipIdx.foldl (λcs(p:WP×Nat)=>cs.setIfInBounds (off+p.2) p.1) cells).toList:=by
 have e:v.cells.zipIdx.foldl (λcs p=>cs.setIfInBounds (off+p.2) p.1) cells=(v.cells.toList.zipIdx 0).foldl (λcs p=>cs.setIfInBounds (off+p.2) p.1) cells:=by rw[<-Array.foldl_toList];simp
 have a:=h.1;have u:=B.1;rw[e,K0 off _ 0 _ Zac]
 rw[<-u];exact((h.take off).append B).append (h.drop _)
def C_{place place':Nat->aY (Nat×Nat)}(hp:∀i p,place i=some p->place' i=some p):∀(vs:aX (Nat×V))(B:aX (Nat×WP))(cs r:S')(cells:Array WP),
 vs.length=B.length->(∀(j:Nat)x y,vs[j]?=some x->B[j]?=some y->x.1=y.1/\bH I μ x.2 y.2)->cR I μ cs cells.toList->vB place cs vs=some r->
 ∃D,fill place' cells B=some D/\cR I μ r D.toList:=by
 intro vs
 induction vs with
 |nil=>
  intro B cs r cells J _ c w
  cases B with
  |nil=>simp[vB]at w;subst w;exact⟨cells,rfl,c⟩|cons _ _=>simp_all
 |cons x vs L=>
  intro B cs r cells J d c w
  cases B with
  |nil=>simp_all|cons y B=>
   have⟨i,x⟩:=x;have⟨O,y⟩:=y;have⟨C,z⟩:=d 0 (i,x) (O,y) rfl rfl;subst C;simp only at z;simp only[vB]at w;split at w
   .simp at w
   rename_i off size Q;split at w
   .simp at w
   rename_i S;have u:=z.cells;have G:x.cells.length=y.cells.size:=by simpa using u.1
   have T:cs.length=cells.size:=by simpa using c.1
   have U:¬(decide (y.cells.size≠size)||decide (off+y.cells.size>cells.size))=true:=by grind
   simp at S;have⟨D,e,W⟩:=L B _ r _ Zac (λj a b p q=>d (j+1) a b (by simpa using p) (by simpa using q)) (NJ c u Zaa) w
   grind[fill]
def Qt(ps:Array (Nat×U'))(f:U'->WP):(ps.map λ(i,x)=>(i,f x)).toList=ps.toList.map λp=>(p.1,f p.2):=Zab
def Hf{ps:Array (Nat×U')}{vs:aX (Nat×V)}(r:eD I μ n F a.tmps)(h:mY F ps.toList=some vs):
 vs.length=(ps.map λ(i,x)=>(i,a.eval x)).toList.length/\∀(j:Nat)x y,vs[j]?=some x->(ps.map λ(i,x)=>(i,a.eval x)).toList[j]?=some y->x.1=y.1/\bH I μ x.2 y.2:=by
 have⟨u,b⟩:=Ow r h;rw[Qt]
 grind
def Pm(D:eG P E):∀(B:aX Field)(pl:aX (Nat×Nat)),oa E (B.map λf=>(f.offset,f.type))=some pl->
 ((B.mapM λf=>do pure (f.offset,<-sizeOf f.type)):Sem (aX (Nat×Nat))).run P w=.ok pl w:=by
 intro B
 induction B with
 |nil=>simp_all[oa]|cons f B z=>
  intro pl h;simp[oa]at h;split at h
  next d ps hd u=>simp at h;subst h;have:=z _ u;simp only[List.mapM_cons,run_bind,(D.ty hd).k_,andThen_ok,run_pure,this]
  grind
def N7(D:eG P E)(B:Array Field)(pl:aX (Nat×Nat))(h:oa E (B.toList.map λf=>(f.offset,f.type))=some pl):
 ((B.mapM λf=>do pure (f.offset,<-sizeOf f.type)):Sem (Array (Nat×Nat))).run P w=.ok pl.toArray w:=by
 rw[Array.mapM_eq_mapM_toList];simp only[Sem.run_map,Pm D _ _ h,andThen_ok]
def RA(B:eG P E)(r:eD I μ n F a.tmps){t:W'}{ps:Array (Nat×U')}{x:V}(h:bK E F (.build t ps)=some x):
 ∃v,(Instr.build t (ps.map λ(i,x)=>(i,a.eval x))).run P w=.ok v w/\bH I μ x v:=by
 simp[bK]at h;split at h
 .rename_i d Q hd D;have⟨S,b⟩:=Hf r D;have⟨z,U,u,_⟩:=(B.ty hd).Ep;have⟨c,f,C,W⟩:=(B.ty hd).dS;unfold Instr.build;simp[run_bind,U,W,andThen_ok];split at h
  .rename_i fs hk;rw[hk]at C;obtain⟨X,rfl,rfl⟩:=A_ C;split at h
   .rename_i pl G;simp at h;obtain⟨cs,J,rfl⟩:=h;have⟨L,g1,g2⟩:=C_ (place':=λi=>pl.toArray[i]?) Zac Q _ d.zero cs z.cells S b (u I μ) J
    refine⟨.agg L,?_,.Ij g2⟩;have:=N7 (w:=w) B X pl G;simp_all
   grind
  .rename_i e hk;rw[hk]at C;have:=Dr C;subst this;split at h
   .rename_i T O;simp at h;obtain⟨cs,J,rfl⟩:=h;have⟨L,g1,g2⟩:=C_ (place':=λi=>some (i*T.size,T.size)) Zac Q _ d.zero cs z.cells S b (u I μ) J
    refine⟨.agg L,?_,.Ij g2⟩;simp[run_bind,(B.ty O).k_,andThen_ok];simp_all
   grind
  grind
 grind
def qR(b o k:Nat):(⟨b,o,none⟩:Addr).add k=⟨b,o+k,none⟩:=by grind[Addr.add]
theorem Hv{cs:S'}{b o:Nat}{c:Array WP}(k:Nat)(B:I b=some (.cells c))(D:o+cs.length<=c.size)
 (a:∀(j:Nat)y u,cs[j]?=some y->c[o+j]?=some u->eF I y u)(d:k<=cs.length):bH I μ (.fptr (cs.drop k)) (.pointer (some ⟨b,o+k,none⟩)):=
 .c _ _ (.fptr _ b (o+k) c B (by simp;omega) λj y u e w=>a (k+j) y u Zac Zac)
def MR(G:eG P E)(r:eD I μ n F a.tmps){s:W'}{o:U'}{f:Nat}{x:V}(h:bK E F (.fieldAddr s o f)=some x):
 ∃v,(fieldAt s (a.eval o) f).run P w=.ok v w/\bH I μ x v:=by
 simp[bK]at h;split at h
 .rename_i fs p hk Q;have⟨d,hd,B⟩:=fQ hk;have⟨i,k,J,S⟩:=(G.ty hd).dS;rw[B]at J;obtain⟨T,rfl,rfl⟩:=A_ J;have j:=dJ r Q;split at h
  .rename_i off t L;simp at L;obtain⟨g,U,rfl,rfl⟩:=L;have z:T[f]?=some g:=by grind
   split at h
   .rename_i Y C;split at h
    .simp_all
    rename_i D;have O:∀(b u:Nat),(fieldAt s (.pointer (some ⟨b,u,none⟩)) f).run P w=.ok (.pointer (some ⟨b,u+g.offset,none⟩)) w:=by intro b u;unfold fieldAt;simp[run_bind,S,andThen_ok,z,sureAddr,run_pure,fieldPlace,(G.ty C).k_,if_neg D,qR]
    split at h
    .split at h
     .rename_i W;simp at h;subst h;have⟨b,u,c,e,Z,l,m⟩:=j.mZ;rw[e]
      grind[Hv]
     grind
    .rename_i id el u;simp at h;have⟨p,X,e⟩:=j.u5;rw[e];have:=bH.hptr (I:=I) id el (u+g.offset) p X
     grind
    grind
   grind
  grind
 grind
def Si(D:eG P E)(r:eD I μ n F a.tmps){s:W'}{o:U'}{f:Nat}{x:V}(h:bK E F (.field s o f)=some x):
 ∃v,(Instr.field s (a.eval o) f).run P w=.ok v w/\bH I μ x v:=by
 simp[bK]at h;split at h
 .rename_i fs cs hk O;have⟨d,hd,z⟩:=fQ hk;have⟨b,g,G,W⟩:=(D.ty hd).dS;rw[z]at G;obtain⟨Q,rfl,rfl⟩:=A_ G;have⟨X,e,B⟩:=(dJ r O).iZ;rw[e];split at h
  .rename_i off t J;simp at J;obtain⟨c,S,rfl,rfl⟩:=J;have L:Q[f]?=some c:=by grind
   split at h
   .rename_i Y C;simp[ζg]at h;have⟨q,T,U⟩:=h;have⟨u,i,Z⟩:=Jg (w:=w) (D.ty C) B T U
    grind[Instr.field,run_bind,andThen_ok,asAgg]
   grind
  grind
 grind
def mI(k:T')(m:Int):(asIntOf (.int k m)).run P w=.ok (k,m) w:=rfl
def Oh(T:eG P E)(r:eD I μ n F a.tmps){t:W'}{o i:U'}{x:V}(h:bK E F (.indexAddr t o i)=some x):
 ∃v,(indexAt t (a.eval o) (a.eval i)).run P w=.ok v w/\bH I μ x v:=by
 simp[bK]at h;split at h
 .
  rename_i e s k m K W hi;have⟨d,hd,G⟩:=fQ K;have⟨l,h1,Q,X⟩:=(T.ty hd).dS;rw[G]at Q;have:=jS Q;subst this;have A:=dJ r W;have J:=(dJ r hi).fM;rw[J];split at h
  .rename_i U L;split at h
   .simp_all
   have D:∀(b z len f:Nat),m.toNat<len->(indexAt t (.slice (some ⟨b,z,none⟩) len f) (.int k m)).run P w=.ok (.pointer (some ⟨b,z+m.toNat*U.size,none⟩)) w:=by intro b z len f B;unfold indexAt;have H:0<=m/\m<(len):=Zaa;simp[run_bind,mI,X,andThen_ok,run_pure,(T.ty L).k_,run_ite,if_pos H,qR]
   split at h
   .rename_i es Y;split at h
    .rename_i C;simp only[ζf]at h;obtain⟨cs,O,rfl⟩:=h;have B:m.toNat<Y.length:=(ζe.1 O).1;have N:=A.mR;generalize hg:a.eval o=g at N
     cases N with
     |fsl0=>simp_all|fsl _ _ b z f c hI H hu ho R hr=>refine⟨_,D b z _ _ B,?_⟩;have S:cs∈Y:=mem_of_getElem? O;have aa:=hu cs S;have Z:(m.toNat+1)*es<=Y.length*es:=mul_le_mul_right _ B;rw[add_mul]at Z;rw[<-C];exact .c _ _ (.fptr cs b _ c hI Zaa λj y u p q=>hr m.toNat j cs y u O p q)
    grind
   .rename_i id es off len;split at h
    .rename_i C;simp only[ζa]at h;have⟨C,B⟩:=C;rcases A.mL with⟨p,f,M,he,H,R,e⟩|⟨h0,_⟩
     .rw[e];have:=bH.hptr (I:=I) (μ:=μ) id (off+m.toNat) 0 p M
      grind
     omega
    grind
   grind
  grind
 .
  rename_i len e p k m K W hi;have⟨d,hd,G⟩:=fQ K;have⟨l,h1,Q,X⟩:=(T.ty hd).dS;rw[G]at Q;have:=Dr Q;subst this;have A:=dJ r W;have J:=(dJ r hi).fM;rw[J];split at h
  .rename_i U L;split at h
   .rename_i H;have D:∀(b z:Nat),(indexAt t (.pointer (some ⟨b,z,none⟩)) (.int k m)).run P w=.ok (.pointer (some ⟨b,z+m.toNat*U.size,none⟩)) w:=by
     intro b z;unfold indexAt;simp only[run_bind,mI,X,andThen_ok,run_pure,sureAddr,(T.ty L).k_,run_ite,if_pos H,qR]
    split at h
    .split at h
     .rename_i ab;simp only[ζa]at h;subst h;have⟨b,z,c,e,hI,R,hr⟩:=A.mZ;rw[e]
      grind[Hv]
     grind
    .rename_i id el z;simp only[ζa]at h;have⟨p,M,e⟩:=A.u5;rw[e];have:=bH.hptr (I:=I) (μ:=μ) id el (z+m.toNat*U.size) p M
     grind
    grind
   grind
  grind
 grind
def Rg(D:eG P E)(r:eD I μ n F a.tmps){t:W'}{o i:U'}{x:V}(h:bK E F (.index t o i)=some x):
 ∃v,(Instr.index t (a.eval o) (a.eval i)).run P w=.ok v w/\bH I μ x v:=by
 simp[bK]at h;split at h
 .rename_i s k m hk G hi;have⟨d,hd,z⟩:=fQ hk;have⟨c,g,B,L⟩:=(D.ty hd).dS;rw[z]at B;have:=BH B;subst this;rw[(dJ r hi).fM,(dJ r G).uY];split at h
  next f=>simp at h;obtain⟨b,T,rfl⟩:=h;refine⟨.int .u8 b.toNat,?_,.c _ _ (.int _ _)⟩;simp_all[Instr.index,mI]
  grind
 .rename_i len e cs k m hk G hi;have⟨d,hd,z⟩:=fQ hk;have⟨c,g,B,L⟩:=(D.ty hd).dS;rw[z]at B;have:=Dr B;subst this;have⟨U,ev,J⟩:=(dJ r G).iZ;rw[(dJ r hi).fM,ev];split at h
  .rename_i W C;split at h
   next f=>simp[ζg]at h;have⟨q,O,Q⟩:=h;have⟨u,j,S⟩:=Jg (w:=w) (D.ty C) J O Q;refine⟨u,?_,S⟩;unfold Instr.index;simp[run_bind,mI,L,andThen_ok,run_ite,if_pos f,(D.ty C).k_,j]
   grind
  grind
 grind
def MH(B:eG P E)(r:eD I μ n F a.tmps){s d:W'}{o:U'}{x:V}(h:bK E F (.convert s d o)=some x):
 ∃v,(convert s d (a.eval o)).run P w=.ok v w/\bH I μ x v:=by
 simp[bK]at h;split at h
 .rename_i D G k m z hd C;split at h
  next J b=>simp at h;subst h;have⟨c,g1,_,g3⟩:=(B.ty z).dS;have⟨e,f,u,L⟩:=(B.ty hd).dS;rw[b]at u;have:=Fp u;subst this;rw[(dJ r C).fM];refine⟨_,?_,.c _ _ (.int _ _)⟩;simp_all[convert,Conv.intToInt]
  grind
 grind
theorem qP(r:eD I μ n F a.tmps){o:aY U'}{m:Pi}(h:kB F o=some m):
 (m=none/\o.map a.eval=none)\/∃k z,m=some z/\o.map a.eval=some (.int k z):=by
 cases o with
 |none=>grind[kB]|some x=>
  simp[kB]at h;split at h
  next k z u=>simp at h;subst h;exact .inr ⟨k,z,rfl,by simp[(dJ r u).fM]⟩
  grind
theorem wE(k:T')(z:Int)(y:Nat)(code:BoundsCode)(B:0<=z)(a:z<=y):(sliceBound (.int k z) y code).run P w=.ok z.toNat w:=by simp_all[sliceBound,mI]
def mN(r:eD I μ n F a.tmps){lo hi:aY U'}{l h:Pi}(e1:kB F lo=some l)(e2:kB F hi=some h)(D:X')(len b L H:Nat)(c:len<=b)
 (B:ec len l h=some (L,H)):(sliceBounds D len b (lo.map a.eval) (hi.map a.eval) none).run P w=.ok (L,H,b) w/\L<=H/\H<=len:=by
 unfold ec at B;simp only at B;split at B
 .rename_i u;obtain⟨rfl,rfl⟩:=B;have⟨G,J,O,Q⟩:=u;refine⟨?_,Zaa,Zaa⟩
  unfold sliceBounds;rcases qP r e1 with⟨rfl,z⟩|⟨k1,S,rfl,z⟩<;>rcases qP r e2 with⟨rfl,C⟩|⟨k2,T,rfl,C⟩<;>
   simp only[z,C,getD_some]at G J O Q⊢
  all_goals grind[run_pure,andThen_ok,run_bind,wE]
 grind
def Gb{es:Nat}{xs:T2}{v:WP}{L H:Nat}(h:eF I (.fsl es xs) v)(d:L<=H)(D:H<=xs.length):
 ∃B len a,v=.slice B len a/\len=xs.length/\len<=a/\eF I (.fsl es ((xs.take H).drop L)) (.slice (if a=L then B else B.map (·.add (L*es))) (H-L) (a-L)):=by
 cases h with
 |fsl0 _ B a=>
  simp at D;have z:L=0:=Zaa
  subst D;subst z;refine⟨some B,0,a,rfl,rfl,zero_le _,?_⟩;have:=eF.fsl0 (I:=I) es B a
  grind[Addr.add]
 |fsl _ _ b o a c C hc hu G O hr=>
  refine⟨_,_,a,rfl,rfl,hc,?_⟩;have u:((xs.take H).drop L).length=H-L:=Zad
  by_cases J:H-L=0
  .have:(xs.take H).drop L=[]:=List.eq_nil_of_length_eq_zero Zac
   rw[this,J];split
   .exact .fsl0 es _ _
   exact .fsl0 es _ _
  simp[qR];have e:eF I (.fsl es ((xs.take H).drop L)) (.slice (some ⟨b,o+L*es,none⟩) ((xs.take H).drop L).length (a-L)):=by refine .fsl es _ b (o+L*es) (a-L) c C Zac (λx w=>hu x (mem_of_mem_take (mem_of_mem_drop w))) (λx w=>G x (mem_of_mem_take (mem_of_mem_drop w))) ?_ ?_;rw[u];have:L*es+(H-L)*es<=xs.length*es:=(by rw[<-add_mul];simp_all[mul_le_mul_right]);omega;grind
  grind
def Sw(i:eG P E)(r:eD I μ n F a.tmps){t:W'}{o:U'}{lo hi Y:aY U'}{x:V}(h:bK E F (.slice t o lo hi Y)=some x):
 ∃v,(sliceAt t (a.eval o) (lo.map a.eval) (hi.map a.eval) (Y.map a.eval)).run P w=.ok v w/\bH I μ x v:=by
 simp[bK]at h;split at h
 .
  rename_i s l K j m W C M;obtain⟨d,hd,S⟩:=fQ j;obtain⟨f,N,X,y⟩:=(i.ty hd).dS;rw[S]at X;have:=BH X;rw[(dJ r m).uY];simp only[ζf]at h;obtain⟨⟨L,H⟩,J,rfl⟩:=h;obtain⟨g,_,_⟩:=mN (P:=P) (w:=w) r W C false s.size s.size L H (le_refl _) J;have R:Y.map a.eval=none:=by grind[qP]
  refine⟨.string (s.extract L H),?_,.c _ _ (.str _)⟩;simp_all[sliceAt,Instr.slice]
 .rename_i e v l K j m W C M;obtain⟨d,hd,S⟩:=fQ j;obtain⟨f,N,X,y⟩:=(i.ty hd).dS;rw[S]at X;have:=jS X;subst this;have c:=dJ r m;have R:Y.map a.eval=none:=by grind[qP]
  have B:∀(D:aY Addr)(len b L H:Nat)(O:TD),E.tt e=some O->len<=b->ec len l K=some (L,H)->
   (sliceAt t (.slice D len b) (lo.map a.eval) (hi.map a.eval) (Y.map a.eval)).run P w=.ok (.slice (if b=L then D else D.map (·.add (L*O.size))) (H-L) (b-L)) w:=by
   intro D len b L H O u A J;obtain⟨g,_,_⟩:=mN (P:=P) (w:=w) r W C true len b L H A J;unfold sliceAt Instr.slice;simp[run_bind,y,andThen_ok,R,g,(i.ty u).k_,run_pure]
  split at h
  .rename_i O u;split at h
   .rename_i es xs;split at h
    next Z=>simp only[ζf]at h;obtain⟨⟨L,H⟩,J,rfl⟩:=h;obtain⟨_,T,U⟩:=mN (P:=P) (w:=w) r W C true xs.length xs.length L H (le_refl _) J;obtain⟨D,len,b,e1,e2,e3,e4⟩:=Gb c.mR T U;rw[e1];subst e2;refine⟨_,B D _ b L H O u e3 J,?_⟩;rw[<-Z];exact .c _ _ e4
    grind
   .rename_i id es off len;split at h
    .rename_i Z;simp only[ζf]at h;obtain⟨⟨L,H⟩,J,rfl⟩:=h;obtain⟨_,T,U⟩:=mN (P:=P) (w:=w) r W C true len len L H (le_refl _) J;rcases c.mL with⟨p,b,ab,he,A,ae,G⟩|⟨h0,D,G⟩
     .rw[G];refine⟨_,B _ _ b L H O u A J,?_⟩
      by_cases hz:b=L
      .have:H-L=0:=by omega
       rw[if_pos hz,this,show b-L=0 by omega]
       exact .hsl0 id es (off+L) _
      rw[if_neg hz];simp only[map_some,qR];rw[<-Z];subst he;have:=bH.hsl (I:=I) (μ:=μ) id (off+L) (H-L) (b-L) p ab Zaa (by
       grind)
      rwa [add_mul,<-add_assoc]at this
     grind
    grind
   .simp only[ζf]at h;obtain⟨⟨L,H⟩,J,rfl⟩:=h;obtain⟨_,T,U⟩:=mN (P:=P) (w:=w) r W C true 0 0 L H (le_refl _) J;obtain⟨D,G⟩:=c.tK;rw[G]
    grind
   .simp only[ζf]at h;obtain⟨⟨L,H⟩,J,rfl⟩:=h;obtain⟨_,T,U⟩:=mN (P:=P) (w:=w) r W C true 0 0 L H (le_refl _) J;have G:=c.mQ;rw[G]
    grind
   grind
  grind
 .rename_i e v j m W C M;obtain⟨d,hd,S⟩:=fQ j;obtain⟨f,N,X,y⟩:=(i.ty hd).dS;rw[S]at X;have:=jS X;subst this;have c:=dJ r m;have q1:lo.map a.eval=none:=by grind[qP]
  obtain⟨k2,q2⟩:∃k,hi.map a.eval=some (.int k 0):=by rcases qP r C with⟨q,_⟩|⟨k,z,e,q⟩;all_goals grind
  obtain⟨k3,q3⟩:∃k,Y.map a.eval=some (.int k 0):=by grind[qP]
  have B:∀(D:aY Addr)(len b:Nat)(O:TD),E.tt e=some O->∃Q,(sliceAt t (.slice D len b) (lo.map a.eval) (hi.map a.eval) (Y.map a.eval)).run P w=.ok (.slice Q 0 0) w:=by intro D len b O u;refine⟨D,?_⟩;unfold sliceAt Instr.slice sliceBounds;simp only[run_bind,y,andThen_ok,q1,q2,q3,wE k3 0 b _ (Int.le_refl _) Zaa,wE k2 0 _ _ (Int.le_refl _) Zab,(i.ty u).k_];simp
  split at h
  next O es xs u=>simp at h;subst h;obtain⟨D,len,b,e1,_⟩:=Gb c.mR (le_refl _) (zero_le _);rw[e1];obtain⟨Q,g⟩:=B D len b _ u;exact⟨_,g,.c _ _ (.dH _)⟩
  .rename_i O id es off len u;simp at h;subst h;rcases c.mL with⟨p,b,_,_,_,_,G⟩|⟨_,D,G⟩
   .rw[G];obtain⟨Q,g⟩:=B _ _ _ _ u;exact⟨_,g,.c _ _ (.dH _)⟩
   rw[G];obtain⟨Q,g⟩:=B _ _ _ _ u;exact⟨_,g,.c _ _ (.dH _)⟩
  next O u=>simp at h;subst h;obtain⟨D,G⟩:=c.tK;rw[G];obtain⟨Q,g⟩:=B _ _ _ _ u;exact⟨_,g,.c _ _ (.dH _)⟩
  next O u=>simp only[ζa]at h;subst h;have G:=c.mQ;rw[G];obtain⟨Q,g⟩:=B _ _ _ _ u;exact⟨_,g,.c _ _ (.dH _)⟩
  simp at h
 grind
def cR.one{x:V}{vs:aX WP}(h:cR I μ [x] vs):∃v,vs=[v]/\bH I μ x v:=by obtain⟨v,r,rfl,a,b⟩:=h.cons_inv;exact⟨v,by rw[b.xo],a⟩
def cR.two{x y:V}{vs:aX WP}(h:cR I μ [x,y] vs):∃u v,vs=[u,v]/\bH I μ x u/\bH I μ y v:=by obtain⟨u,r,rfl,b,a⟩:=h.cons_inv;obtain⟨v,rfl,c⟩:=a.one;grind
def cR.four{x y z t:V}{vs:aX WP}(h:cR I μ [x,y,z,t] vs):∃u v p q,vs=[u,v,p,q]/\bH I μ x u/\bH I μ y v/\bH I μ z p/\bH I μ t q:=by obtain⟨u,r,rfl,b,a⟩:=h.cons_inv;obtain⟨v,r2,rfl,c,a⟩:=a.cons_inv;obtain⟨p,q,rfl,w,B⟩:=a.two;grind
theorem tF{args:Array U'}{l:aX WP}(h:args.toList.map a.eval=l):args.map a.eval=l.toArray:=by grind
def yK:aY TK->V->aY V
 |some .str,.str s=>some (.int .i64 s.size)|some (.slice _),.fsl _ xs=>some (.int .i64 xs.length)|some (.slice _),.hsl _ _ _ len=>some (.int .i64 len)|some (.slice _),.dH=>some (.int .i64 0)|some (.slice _),.bG=>some (.int .i64 0)|_,_=>none
def W8(T:eG P E){t:W'}{x z:V}{v:WP}{ty:W'}{D:Array W'}(U:D[0]?=some t)(G:bH I μ x v)
 (h:yK (E.kindOf t) x=some z):∃u,(len_ D ty #[v]).run P w=.ok u w/\bH I μ z u:=by
 cases b:E.kindOf t with
 |none=>rw[b]at h;grind[yK]|some k=>
  rw[b]at h;have⟨d,hd,O⟩:=fQ b;have⟨c,f,Q,W⟩:=(T.ty hd).dS;rw[O]at Q
  cases k with
  |str=>
   have:=BH Q;subst this
   cases x with
   |str s=>simp only[yK,ζa]at h;subst h;rw[G.uY];refine⟨_,?_,.c _ _ (.int _ _)⟩;simp_all[len_,goInt]|_=>simp[yK]at h
  |slice e=>
   have:=jS Q;subst this;have B:∀J(len a:Nat),(len_ D ty #[.slice J len a]).run P w=.ok (.int .i64 len) w:=by simp_all[len_,goInt]
   cases x with
   |fsl es X=>simp only[yK,ζa]at h;subst h;have⟨J,len,a,e1,e2,_⟩:=Gb (L:=0) (H:=0) G.mR (le_refl _) (zero_le _);rw[e1,<-e2];exact⟨_,B _ _ _,.c _ _ (.int _ _)⟩|hsl id es off len=>
    simp only[yK,ζa]at h;subst h;rcases G.mL with⟨p,a,_,_,_,_,C⟩|⟨S,J,C⟩
    .rw[C];exact⟨_,B _ _ _,.c _ _ (.int _ _)⟩
    rw[C,S];exact⟨_,B _ _ _,.c _ _ (.int _ _)⟩
   |dH=>simp only[yK,ζa]at h;subst h;have⟨J,C⟩:=G.tK;rw[C];exact⟨_,B _ _ _,.c _ _ (.int _ _)⟩|bG=>simp only[yK,ζa]at h;subst h;rw[G.mQ];exact⟨_,B _ _ _,.c _ _ (.int _ _)⟩|_=>simp[yK]at h
  |_=>simp[yK]at h
def Xl:aY TK->V->aY V
 |some (.slice _),.bG=>some (.int .i64 0)|some (.slice _),.dH=>some (.int .i64 0)|_,_=>none
def XF(T:eG P E){t:W'}{x z:V}{v:WP}{ty:W'}{B:Array W'}(U:B[0]?=some t)(G:bH I μ x v)
 (h:Xl (E.kindOf t) x=some z):∃u,(cap_ B ty #[v]).run P w=.ok u w/\bH I μ z u:=by
 have key:∀e C,E.kindOf t=some (.slice e)->v=.slice C 0 0->(cap_ B ty #[v]).run P w=.ok (.int .i64 0) w:=λe C a c=>by have⟨d,hd,D⟩:=fQ a;have⟨b,f,J,L⟩:=(T.ty hd).dS;rw[D]at J;have:=jS J;simp_all[cap_,goInt]
 unfold Xl at h;split at h
 next _ _ e a=>cases h;exact⟨_,key _ _ a G.mQ,.c _ _ (.int _ _)⟩
 next _ _ e a=>cases h;have⟨C,q⟩:=G.tK;exact⟨_,key _ _ a q,.c _ _ (.int _ _)⟩
 cases h
theorem gq{s:Sem WP}{v:WP}{w':World}(h:s.run P w=.ok v w'):(do pure (Next.value (<-s)):Sem Next).run P w=.ok (.value v) w':=by rw[run_bind,h];rfl
def Wb(G:eG P E)(r:eD I μ n F a.tmps)(o:Oper){x:V}(h:bK E F o.op=some x):
 ∃v,(execOp a.eval o).run P w=.ok (.value v) w/\bH I μ x v:=by
 obtain⟨dst,op,ty,pos,after,M⟩:=o;simp only at h
 cases op with
 |move y=>exact⟨_,rfl,dJ r (by simp_all[bK])⟩|assign y=>exact⟨_,rfl,dJ r (by simp_all[bK])⟩|pick c y z=>
  simp only[bK]at h;simp only[execOp];split at h
  .rename_i t hc;have e:=(dJ r hc).sZ;simp only[e,asBool,run_bind,run_pure,andThen_ok]
   cases t with
   |true=>simp only[if_true]at h⊢;exact⟨_,rfl,dJ r h⟩|false=>simp only[false_eq_true,if_false]at h⊢;exact⟨_,rfl,dJ r h⟩
  simp at h
 |nilCheck y=>
  simp only[bK]at h;simp only[execOp];split at h
  next id el off D=>simp only[ζa]at h;subst h;have l:=dJ r D;obtain⟨p,_,e⟩:=l.u5;rw[e]at l⊢;simp_all
  next cs D=>simp only[ζa]at h;subst h;have l:=dJ r D;obtain⟨b,o,c,e,_⟩:=l.mZ;rw[e]at l⊢;simp_all
  next f u v D=>simp only[ζa]at h;subst h;have l:=dJ r D;obtain⟨b,c,e,_⟩:=l.kS;rw[e]at l⊢;simp_all
  simp at h
 |binOp op t y z Z=>
  simp only[bK]at h;split at h
  next u v A l=>obtain⟨q,O,H⟩:=VS (w:=w) G y z h (dJ r A) (dJ r l);exact⟨q,gq O,H⟩
  simp at h
 |unOp op t y=>
  simp only[bK]at h;simp only[execOp];split at h
  next b D=>simp only[ζa]at h;subst h;rw[(dJ r D).sZ];exact⟨_,gq (by simp_all[Op.unary]),.c _ _ (.bool _)⟩
  next k m D=>simp only[ζa]at h;subst h;rw[(dJ r D).fM];exact⟨_,gq (by simp only[Op.unary,intArith];rfl),by simpa using bH.c _ _ (.int k _)⟩
  simp at h
 |convert s d y=>obtain⟨v,g,C⟩:=MH (w:=w) G r h;exact⟨v,gq g,C⟩|fieldAddr s y f=>obtain⟨v,g,C⟩:=MR (w:=w) G r h;exact⟨v,gq g,C⟩|field s y f=>obtain⟨v,g,C⟩:=Si (w:=w) G r h;exact⟨v,gq g,C⟩|indexAddr t y i=>obtain⟨v,g,C⟩:=Oh (w:=w) G r h;exact⟨v,gq g,C⟩|index t y i=>obtain⟨v,g,C⟩:=Rg (w:=w) G r h;exact⟨v,gq g,C⟩|slice t y lo hi mx=>obtain⟨v,g,C⟩:=Sw (w:=w) G r h;exact⟨v,gq g,C⟩|build t ps=>obtain⟨v,g,C⟩:=RA (w:=w) G r h;exact⟨v,gq g,C⟩|makeFunc f u v=>
  cases f with
  |func f=>
   simp only[bK]at h;split at h
   next Q x2 g C=>simp only[ζa]at h;subst h;have r1:=oy r g;have r2:=oy r C;refine⟨.func (.func f) (u.map a.eval) (v.map a.eval),rfl,?_⟩;refine .clo f _ _ _ _ (by simpa using r1.1) (by simpa using r2.1) (λj p q s t=>r1.2 j p q s (by simpa using t)) (λj p q s t=>r2.2 j p q s (by simpa using t))
   simp at h
  |_=>simp[bK]at h
 |extract y i=>
  simp only[bK]at h;simp only[execOp];split at h
  .rename_i vs D;obtain⟨S,e,T⟩:=(dJ r D).qZ;rw[e];have U:=(ζe.1 h).1;have L:i<S.size:=by have:=T.1;grind
   refine⟨S[i],gq (by simp_all[Instr.extract]),T.2 i x _ h (by simp[L])⟩
  simp at h
 |call c=>
  obtain⟨callee,args,W⟩:=c
  cases callee with
  |builtin b=>
   simp only[bK]at h;simp only[execOp,resolve,run_bind,run_pure,andThen_ok,invoke];split at h
   .rename_i v t B J;obtain⟨u,A,H⟩:=(oy r B).one;rw[tF A];obtain⟨q,g,C⟩:=W8 (w:=w) (ty:=ty) G J H (by rw[<-h];rfl)
    grind[builtin,gq]
   .rename_i v t B J;obtain⟨u,A,H⟩:=(oy r B).one;rw[tF A];obtain⟨q,g,C⟩:=XF (w:=w) (ty:=ty) G J H (by rw[<-h];rfl)
    grind[builtin,gq]
   .rename_i k Q X x2 B;split at h
    next K=>simp only[ζa]at h;subst h;subst K;obtain⟨u,v,e,A,l⟩:=(oy r B).two;rw[tF e,A.fM,l.fM];exact⟨_,by simp_all[builtin,max_,max2],.c _ _ (.int _ _)⟩
    simp at h
   .rename_i k Q k1 x2 k2 x3 k3 x4 B;split at h
    next K=>simp only[ζa]at h;subst h;obtain⟨rfl,rfl,rfl⟩:=K;obtain⟨u,v,p,q,e,A,l,Y,O⟩:=(oy r B).four;rw[tF e,A.fM,l.fM,Y.fM,O.fM];exact⟨_,by simp_all[builtin,max_,max2,DI],.c _ _ (.int _ _)⟩
    simp at h
   .rename_i k Q X x2 B;split at h
    next K=>simp only[ζa]at h;subst h;subst K;obtain⟨u,v,e,A,l⟩:=(oy r B).two;rw[tF e,A.fM,l.fM];exact⟨_,by simp_all[builtin,min_,min2],.c _ _ (.int _ _)⟩
    simp at h
   simp at h
  |_=>simp[bK]at h
 |_=>simp[bK]at h
end
structure gM(I:cG)(μ:Mu)(p:Pl)(c:Array Value)(es:Nat)(xs:List (List V)):Prop where
 es_eq:p.es=es
 sz:c.size=p.sz
 qq:∀x∈xs,x.length=es
 one:∀x∈xs,∀y∈x,V.one y=true
 room:p.o+xs.length*es<=c.size
 rel:cR I μ xs.flatten ((c.toList.drop p.o).take (xs.length*es))
def w_(I:cG)(μ:Mu)(B:aX (V×V))(es:Array MapEntry):Prop:=B.length=es.size/\∀(j:Nat)q e,B[j]?=some q->es[j]?=some e->bH I μ q.1 e.key/\bH I μ q.2 e.val
def CA.is:CA->LoopState->Prop
 |.ready,.ready|.busy,.busy|.done,.done=>True|_,_=>False
structure xy(I:cG)(μ:Mu)(r:xw)(l:Loop):Prop where
 st:r.st.is l.state
 pend:l.pending=r.pend.bind nD
 pendOk:r.pend≠some .norm
 frame:eD I μ r.nt r.frame l.tmps
 params:l.params.toList=r.params
 assign:l.assign=r.assign
 body:l.body=r.body
def Ob.live:Ob->X'
 |.row ..|.map _|.loop _=>true|_=>false
def tV(I:cG)(μ:Mu)(w:World)(id:Nat):Ob->Prop
 |.free=>μ id=none|.dead=>True|.row es xs=>∃p c el,μ id=some p/\I p.b=none/\w.heap[p.b]?=some (.cells c el)/\gM I μ p c es xs|.frz es xs=>∃p c,μ id=some p/\I p.b=some (.cells c)/\gM I μ p c es xs|.map B=>∃p es a,μ id=some p/\I p.b=none/\w.heap[p.b]?=some (.map es a)/\w_ I μ B es|.loop r=>∃p l,μ id=some p/\I p.b=none/\w.heap[p.b]?=some (.loop l)/\xy I μ r l
structure dw(I:cG)(μ:Mu)(H:bk)(w:World):Prop where
 dom:∀id,H.length<=id->μ id=none
 imm:∀b x,I b=some x->x.at w b
 obs:∀id ob,H[id]?=some ob->tV I μ w id ob
 inj:∀id id' ob ob' p p',H[id]?=some ob->H[id']?=some ob'->ob.live=true->ob'.live=true->μ id=some p->μ id'=some p'->p.b=p'.b->id=id'
 gl:vE I
def iK(μ:Mu)(H:bk)(b:Nat):Prop:=∃id p ob,H[id]?=some ob/\ob.live=true/\μ id=some p/\p.b=b
def Obj.nf(o:Obj):Prop:=∀c t fr,o=.cells c t fr->fr=(0,0)
def ve(c:Array WP)(t:W'):Obj.nf (.cells c t):=λ_ _ _ h=>Zac
def sS{o:Obj}(h:(match o with|.cells ..=>false|_=>true)=true):Obj.nf o:=λc t fr e=>Zac
theorem Et{w w':World}{o:Obj}{b:Nat}(B:Obj.nf o)(d:w'.heap[b]?=some o)(D:∀k,k≠b->w'.heap[k]?=w.heap[k]?)(a:Addr)(h:w.frozen? a=false):w'.frozen? a=false:=by by_cases e:a.block=b;unfold frozen?;rw[e,d];split;rename_i c t lo hi u;cases u;have:=B _ _ _ rfl;grind;rfl;grind[frozen?]
structure wZ(w w':World):Prop where
 out:w'.output=w.output
 tape:w'.tape=w.tape
 dr:w.drawn<=w'.drawn
def wZ.refl(w:World):wZ w w:=⟨rfl,rfl,le_refl _⟩
def wZ.trans{w w' w'':World}(h:wZ w w')(B:wZ w' w''):wZ w w'':=⟨B.out.trans h.out,B.tape.trans h.tape,le_trans h.dr B.dr⟩
structure Step(I:cG)(μ:Mu)(H:bk)(w:World)(I':cG)(μ':Mu)(H':bk)(w':World):Prop where
 le:cG.le I I'
 mu:Mu.le μ μ'
 len:H.length<=H'.length
 size:w.heap.size<=w'.heap.size
 frame:∀b,b<w.heap.size->¬iK μ H b->w'.heap[b]?=w.heap[b]?
 terr:∀b,((I' b).isSome=true\/iK μ' H' b)->(I b).isSome=true\/iK μ H b\/w.heap.size<=b
 os:w'.os=w.os
 out:wZ w w'
 fz:∀a:Addr,a.block<w.heap.size->w.frozen? a=false->w'.frozen? a=false
section
variable{I I' I'':cG}{μ μ' μ'':Mu}{H H' H'':bk}{w w' w'':World}{P:Program}{E:Env}{n:Nat}{F:WF}{a:Act}
def IC.wV{x:IC}{b:Nat}(h:x.at w b):b<w.heap.size:=by cases x with|cells c=>have⟨_,_,h⟩:=h;grind|map es=>have⟨_,h⟩:=h;grind
def IC.tH{x:IC}{b:Nat}(h:x.at w b)(e:w'.heap[b]?=w.heap[b]?):x.at w' b:=by cases x with|cells c=>have⟨el,fr,h⟩:=h;exact⟨el,fr,Zac⟩|map es=>have⟨a,h⟩:=h;exact⟨a,Zac⟩
def Step.refl(I:cG)(μ:Mu)(H:bk)(w:World):Step I μ H w I μ H w:=⟨cG.le_refl _,Mu.le_refl _,le_refl _,le_refl _,λ_ _ _=>rfl,λ_ h=>h.elim .inl λh=>.inr (.inl h),rfl,.refl _,λ_ _ h=>h⟩
theorem gx(s:dw I μ H w){b:Nat}(h:iK μ H b):I b=none:=by obtain⟨id,p,ob,h1,C,D,rfl⟩:=h;have:=s.obs id ob h1;cases ob with|row es G=>have⟨q,c,el,u,z,_⟩:=this;grind|map B=>have⟨q,c,el,u,z,_⟩:=this;grind|loop r=>have⟨q,c,u,z,_⟩:=this;grind|_=>grind[Ob.live]
theorem oe(s:dw I μ H w){b:Nat}(h:iK μ H b):b<w.heap.size:=by obtain⟨id,p,ob,h1,D,G,rfl⟩:=h;have:=s.obs id ob h1;cases ob with|row es J=>have⟨q,c,el,u,z,B,_⟩:=this;grind|map C=>have⟨q,c,el,u,z,B,_⟩:=this;grind|loop r=>have⟨q,c,u,z,B,_⟩:=this;grind|_=>grind[Ob.live]
theorem Step.trans(D:dw I' μ' H' w')(c:Step I μ H w I' μ' H' w')(B:Step I' μ' H' w' I'' μ'' H'' w''):Step I μ H w I'' μ'' H'' w'' where
 fz:=λa u h=>B.fz a (Nat.lt_of_lt_of_le u c.size) (c.fz a u h)
 le:=cG.le_trans c.le B.le
 mu:=λid p h=>B.mu id p (c.mu id p h)
 len:=le_trans c.len B.len
 size:=le_trans c.size B.size
 frame:=by intro b u C;rw[B.frame b (Nat.lt_of_lt_of_le u c.size) ?_,c.frame b u C];intro z;rcases c.terr b (.inr z)with h|h|h;have:=gx D z;have⟨x,G⟩:=isSome_iff_exists.1 h;rw[c.le _ _ G]at this;simp_all;all_goals grind
 terr:=by intro b h;rcases B.terr b h with h|h|h;exact c.terr b (.inl h);exact c.terr b (.inr h);exact .inr (.inr (le_trans c.size h))
 os:=B.os.trans c.os
 out:=c.out.trans B.out
def gM.mono(h:cG.le I I')(B:Mu.le μ μ'){p:Pl}{c:Array WP}{es:Nat}{xs:T2}(r:gM I μ p c es xs):gM I' μ' p c es xs:=⟨r.es_eq,r.sz,r.qq,r.one,r.room,r.rel.mono h B⟩
def w_.mono(h:cG.le I I')(D:Mu.le μ μ'){B:aX (V×V)}{es:Array MapEntry}(r:w_ I μ B es):w_ I' μ' B es:=⟨r.1,λj q e a b=>⟨(r.2 j q e a b).1.mono h D,(r.2 j q e a b).2.mono h D⟩⟩
def xy.mono(h:cG.le I I')(B:Mu.le μ μ'){r:xw}{l:Loop}(x:xy I μ r l):xy I' μ' r l:=⟨x.st,x.pend,x.pendOk,x.frame.mono h B,x.params,x.assign,x.body⟩
def tV.mono(h:cG.le I I')(B:Mu.le μ μ'){id:Nat}{ob:Ob}(r:tV I μ w id ob)
 (D:∀p,μ id=some p->ob.live=true->w'.heap[p.b]?=w.heap[p.b]?/\I' p.b=none)(G:ob=.free->μ' id=none):tV I' μ' w' id ob:=by
 cases ob with
 |free=>exact G rfl|dead=>trivial|row es J=>have⟨p,c,el,a,z,C,u⟩:=r;have⟨g1,g2⟩:=D p a rfl;exact⟨p,c,el,B _ _ a,g2,Zac,u.mono h B⟩|frz es J=>have⟨p,c,a,z,u⟩:=r;exact⟨p,c,B _ _ a,h _ _ z,u.mono h B⟩|map L=>have⟨p,es,b,a,z,C,u⟩:=r;have⟨g1,g2⟩:=D p a rfl;exact⟨p,es,b,B _ _ a,g2,Zac,u.mono h B⟩|loop x=>have⟨p,l,a,z,C,u⟩:=r;have⟨g1,g2⟩:=D p a rfl;exact⟨p,l,B _ _ a,g2,Zac,u.mono h B⟩
def dw.pV(s:dw I μ H w)(e:w'.heap=w.heap):dw I μ H w' where
 dom:=s.dom
 imm:=λb x h=>IC.tH (s.imm b x h) (by rw[e])
 obs:=λid ob h=>(s.obs id ob h).mono (cG.le_refl _) (Mu.le_refl _) (λp u z=>⟨by rw[e],gx s ⟨id,p,ob,h,z,u,rfl⟩⟩) (λB=>by subst B;exact s.obs id _ h)
 inj:=s.inj
 gl:=s.gl
def Step.pV(e:w'.heap=w.heap)(c:w'.os=w.os)(B:wZ w w'):Step I μ H w I μ H w':=⟨cG.le_refl _,Mu.le_refl _,le_refl _,Zac,λ_ _ _=>by rw[e],λb h=>h.elim .inl λh=>.inr (.inl h),c,B,λa _ h=>by grind[frozen?]⟩
def Mu.gA(μ:Mu)(k:Nat)(p:Pl):Mu:=λid=>if id=k then some p else μ id
theorem Mu.gy(μ:Mu)(k:Nat)(p:Pl):μ.gA k p k=some p:=by simp[Mu.gA]
theorem Mu.jd(μ:Mu){k id:Nat}(p:Pl)(h:id≠k):μ.gA k p id=μ id:=by grind[Mu.gA]
def Mu.rZ{k:Nat}{p:Pl}(h:μ k=none):Mu.le μ (μ.gA k p):=by intro id q u;grind[Mu.jd]
theorem nH(o:Obj)(b:Nat)(h:b<w.heap.size):(w.alloc o).heap[b]?=w.heap[b]?:=by show(w.heap.push o)[b]?=_;grind
def nL(o:Obj):(w.alloc o).heap[w.heap.size]?=some o:=by show(w.heap.push o)[w.heap.size]?=_;simp
def Pq{o:Obj}(B:Obj.nf o)(a:Addr)(h:w.frozen? a=false):(w.alloc o).frozen? a=false:=
 Et B (nL o) (λk b=>by
  by_cases u:k<w.heap.size
  .grind[nH]
  show(w.heap.push o)[k]?=_
  grind) a h
def dw.place(s:dw I μ H w){k:Nat}{ob:Ob}{o:Obj}{p:Pl}(c:μ k=none)(G:H.length<=H'.length)(j:k<H'.length)
 (l:∀id,id≠k->H'[id]?=some .free\/H'[id]?=H[id]?)(T:∀id,id≠k->H'[id]?=some .free->μ id=none)(m:H'[k]?=some ob)(hp:p.b=w.heap.size)
 (n:tV I (μ.gA k p) (w.alloc o) k ob)(d:Obj.nf o):dw I (μ.gA k p) H' (w.alloc o)/\Step I μ H w I (μ.gA k p) H' (w.alloc o):=by
 have f:∀b x,I b=some x->b<w.heap.size:=λb x h=>IC.wV (s.imm b x h)
 have z:∀id u,id≠k->H'[id]?=some u->u≠.free->H[id]?=some u:=by grind
 have L:∀b,iK (μ.gA k p) H' b->iK μ H b\/b=w.heap.size:=by rintro b ⟨id,q,u,h1,O,S,rfl⟩;by_cases e:id=k;grind[Mu.gy];rw[Mu.jd _ _ e]at S;exact .inl ⟨id,q,u,z id u e h1 Zac,O,S,rfl⟩
 refine⟨⟨?_,?_,?_,?_,s.gl⟩,⟨cG.le_refl _,Mu.rZ c,G,Zab,?_,?_,rfl,⟨rfl,rfl,le_refl _⟩,λa _=>Et (b:=w.heap.size) d (nL o) (λk c=>?_) a⟩⟩
 .intro id h;rw[Mu.jd _ _ Zaa]
  exact s.dom id Zaa
 .intro b x h;exact IC.tH (s.imm b x h) (nH o b (f b x h))
 .intro id u h
  by_cases e:id=k
  .grind
  by_cases Q:u=.free
  .subst Q;show(μ.gA k p) id=none;rw[Mu.jd _ _ e];grind
  have U:=z id u e h Q;refine(s.obs id u U).mono (cG.le_refl _) (Mu.rZ c) (λq g W=>?_) (λi=>absurd i Q)
  have r:iK μ H q.b:=⟨id,q,u,U,W,g,rfl⟩
  grind[nH,oe,gx]
 .intro id B o1 o2 q X h1 O Y Z C D hb
  by_cases e:id=k<;>by_cases J:B=k
  .simp_all
  .subst e;rw[Mu.gy]at C;cases C;rw[Mu.jd _ _ J]at D;have:=oe s ⟨B,X,o2,z B o2 J O Zac,Z,D,rfl⟩
   omega
  .subst J;rw[Mu.gy]at D;cases D;rw[Mu.jd _ _ e]at C;have:=oe s ⟨id,q,o1,z id o1 e h1 Zac,Y,C,rfl⟩
   omega
  rw[Mu.jd _ _ e]at C;rw[Mu.jd _ _ J]at D;exact s.inj id B o1 o2 q X (z id o1 e h1 Zac) (z B o2 J O Zac) Y Z C D hb
 .grind[nH]
 .grind
 by_cases W:k<w.heap.size
 .grind[nH]
 show(w.heap.push o)[k]?=_;rw[Array.getElem?_eq_none (by simp;omega),Array.getElem?_eq_none Zaa]
def dw.push(s:dw I μ H w){ob:Ob}{o:Obj}{p:Pl}(hp:p.b=w.heap.size)(B:tV I (μ.gA H.length p) (w.alloc o) H.length ob)(D:Obj.nf o:=by first|exact ve _ _|exact sS rfl):
 dw I (μ.gA H.length p) (H++[ob]) (w.alloc o)/\Step I μ H w I (μ.gA H.length p) (H++[ob]) (w.alloc o):=by
 refine s.place (s.dom _ (le_refl _)) Zab Zab (λid h=>.inr ?_) (λid h z=>?_) Zab hp B D
 .grind
 by_cases u:id<H.length
 .rw[List.getElem?_append_left u]at z;exact s.obs id _ z
 grind
theorem dw.fill(s:dw I μ H w){k:Nat}{ob:Ob}{o:Obj}{p:Pl}(a:H[k]?=some .free)(hp:p.b=w.heap.size)(B:tV I (μ.gA k p) (w.alloc o) k ob)(D:Obj.nf o:=by first|exact ve _ _|exact sS rfl):
 dw I (μ.gA k p) (H.set k ob) (w.alloc o)/\Step I μ H w I (μ.gA k p) (H.set k ob) (w.alloc o):=by
 have z:=(ζe.1 a).1;refine s.place (s.obs k _ a) Zab Zac (λid h=>.inr ?_) (λid h u=>?_) Zad hp B D
 .grind
 rw[getElem?_set_ne (Ne.symm h)]at u;exact s.obs id _ u
def gN(w:World)(b:Nat)(o:Obj):World:={w with heap:=w.heap.setIfInBounds b o}
theorem iq(o:Obj){b B:Nat}(h:B≠b):(gN w b o).heap[B]?=w.heap[B]?:=by grind[gN]
def jF(o:Obj){b:Nat}(h:b<w.heap.size):(gN w b o).heap[b]?=some o:=by grind[gN]
def yf(b:Nat)(o:Obj):(gN w b o).heap.size=w.heap.size:=by simp[gN]
def Pe(b:Nat)(o B:Obj):gN (gN w b o) b B=gN w b B:=by simp[gN]
def W0{o:Obj}{b:Nat}(B:Obj.nf o)(a:Addr)(h:w.frozen? a=false):(gN w b o).frozen? a=false:=by grind[Et,gN,frozen?]
def dw.write(s:dw I μ H w){id:Nat}{ob ob':Ob}{o:Obj}{p:Pl}(B:H[id]?=some ob)(T:ob.live=true)(hp:μ id=some p)
 (Y:tV I μ (gN w p.b o) id ob')(d:Obj.nf o:=by first|exact ve _ _|exact sS rfl):dw I μ (H.set id ob') (gN w p.b o)/\Step I μ H w I μ (H.set id ob') (gN w p.b o):=by
 have C:iK μ H p.b:=⟨id,p,ob,B,T,hp,rfl⟩;have u:∀k x,(H.set id ob')[k]?=some x->∃y,H[k]?=some y/\(x.live=true->y.live=true)/\(k≠id->y=x):=by grind
 have J:∀b,iK μ (H.set id ob') b->iK μ H b:=by rintro b ⟨k,q,x,c,L,X,rfl⟩;have⟨y,O,z,_⟩:=u k x c;exact⟨k,q,y,O,z L,X,rfl⟩
 refine⟨⟨?_,?_,?_,?_,s.gl⟩,⟨cG.le_refl _,Mu.le_refl _,Zab,by rw[yf];grind,?_,?_,rfl,⟨rfl,rfl,le_refl _⟩,λa _=>Et d (jF o (oe s C)) (λk f=>iq o f) a⟩⟩
 .intro k h;exact s.dom k Zac
 .intro b x h;refine IC.tH (s.imm b x h) (iq o ?_)
  grind[gx]
 .intro k x h
  by_cases e:k=id
  .grind
  rw[getElem?_set_ne (Ne.symm e)]at h;refine(s.obs k x h).mono (cG.le_refl _) (Mu.le_refl _) (λq U D=>⟨iq o ?_,gx s ⟨k,q,x,h,D,U,rfl⟩⟩) (λZ=>by subst Z;exact s.obs k _ h)
  intro Q;exact e (s.inj k id x ob q p h B D T U hp Q)
 .intro k W x x' q q' c L l1 l2 m1 m2 Q;have⟨y,O,z,_⟩:=u k x c;have⟨g,S,G,_⟩:=u W x' L;exact s.inj k W y g q q' O S (z l1) (G l2) m1 m2 Q
 all_goals grind[iq]
def dw.kill(s:dw I μ H w){id:Nat}{ob:Ob}(B:H[id]?=some ob):dw I μ (H.set id .dead) w/\Step I μ H w I μ (H.set id .dead) w:=by
 have C:=(ζe.1 B).1;have u:∀k x,(H.set id .dead)[k]?=some x->x.live=true->H[k]?=some x/\k≠id:=by grind[Ob.live]
 refine⟨⟨?_,s.imm,?_,?_,s.gl⟩,⟨cG.le_refl _,Mu.le_refl _,Zab,le_refl _,λ_ _ _=>rfl,?_,rfl,.refl _,λ_ _ h=>h⟩⟩;intro k h;exact s.dom k Zac;intro k x h;by_cases e:k=id;subst e;rw[List.getElem?_set_self C]at h;cases h;trivial;rw[getElem?_set_ne (Ne.symm e)]at h;exact s.obs k x h;intro k D x G q O a z J L Q S T;exact s.inj k D x G q O (u k x a J).1 (u D G z L).1 J L Q S T;rintro b (h|⟨k,q,x,a,z,U,rfl⟩);grind;exact .inr (.inl ⟨k,q,x,(u k x a z).1,z,U,rfl⟩)
end
section
variable{P:Program}{E:Env}{I:cG}{μ:Mu}{H:bk}{n:Nat}{F:WF}{a:Act}{w:World}
theorem xx{b:Nat}{c:Array WP}{el:W'}{fr:Nat×Nat}(h:w.heap[b]?=some (.cells c el fr))(k:Nat):w.cell? ⟨b,k,none⟩=c[k]?:=by grind[cell?]
def Lq{b o:Nat}{c:Array WP}(d:∀k,w.cell? ⟨b,k,none⟩=c[k]?):∀(m i:Nat)(a:Array WP),o+i+m<=c.size->
 (loadCellsFrom ⟨b,o,none⟩ i m a).run P w=.ok (a++((c.toList.drop (o+i)).take m).toArray) w:=by
 intro m
 induction m with
 |zero=>simp_all[loadCellsFrom]|succ m z=>
  intro i a h;have u:o+i<c.size:=Zaa
  have e:w.cell? ⟨b,o+i,none⟩=some c[o+i]:=by rw[d];simp[u]
  simp only[loadCellsFrom,run_bind,qR,run_load,e,andThen_ok];rw[z (i+1) _ Zaa]
  simp_all[List.drop_eq_getElem_cons,add_assoc]
theorem FM{b o m:Nat}{c:Array WP}(a:∀k,w.cell? ⟨b,k,none⟩=c[k]?)(h:o+m<=c.size\/m=0):
 (loadCells ⟨b,o,none⟩ m).run P w=.ok ((c.toList.drop o).take m).toArray w:=by
 rcases h with h|h
 .have:=Lq (P:=P) a m 0 #[] (o:=o) Zaa
  grind[loadCells]
 simp_all[loadCells,loadCellsFrom]
theorem f_{es:Nat}{xs:T2}(a:∀x∈xs,x.length=es):xs.flatten.length=xs.length*es:=by induction xs with|nil=>simp|cons x xs u=>grind
def FG{es:Nat}:∀{xs:T2}(_:∀x∈xs,x.length=es){el:Nat}{cs:S'},xs[el]?=some cs->(xs.flatten.drop (el*es)).take es=cs:=by intro xs;induction xs with|nil=>grind|cons x xs u=>intro a el cs h;have w:x.length=es:=a x Zab;cases el with|zero=>grind|succ el=>have:=u (λy z=>a y (mem_cons_of_mem _ z)) (el:=el) (cs:=cs) (by simpa using h);rw[List.flatten_cons,show(el+1)*es=x.length+el*es by rw[w,add_mul];omega,<-drop_drop];grind
def JJ{es:Nat}:∀{xs:T2}(_:∀x∈xs,x.length=es){el:Nat}(cs:S'),el<xs.length->cs.length=es->
 (xs.set el cs).flatten=xs.flatten.take (el*es)++cs++xs.flatten.drop (el*es+es):=by
 intro xs
 induction xs with
 |nil=>grind|cons x xs u=>
  intro a el cs h b;have w:x.length=es:=a x Zab
  cases el with
  |zero=>simp[w]|succ el=>
   have:=u (λy z=>a y (mem_cons_of_mem _ z)) (el:=el) cs (by simpa using h) b
   grind[add_mul,List.take_append,List.drop_append,List.drop_eq_nil_of_le,Nat.add_sub_cancel_left]
def xF{es:Nat}{xs:T2}(a:∀x∈xs,x.length=es){i j:Nat}{x:S'}{y:V}(b:xs[i]?=some x)(B:x[j]?=some y):xs.flatten[i*es+j]?=some y:=by have:=FG a b;grind
def gM.elem{p:Pl}{c:Array WP}{es:Nat}{xs:T2}(r:gM I μ p c es xs){el:Nat}{cs:S'}(h:xs[el]?=some cs):
 cR I μ cs ((c.toList.drop (p.o+el*es)).take es)/\cs.length=es/\p.o+el*es+es<=c.size:=by
 have u:=(ζe.1 h).1;have z:=r.qq cs (mem_of_getElem? h);have a:=(r.rel.drop (el*es)).take es;rw[FG r.qq h]at a;have B:el*es+es<=xs.length*es:=by have:=mul_le_mul_right es (show el+1<=xs.length from u);rwa [add_mul,one_mul]at this
 have w:=r.room
 grind[drop_take,drop_drop]
def gM.span{p:Pl}{c:Array WP}{es:Nat}{xs:T2}(r:gM I μ p c es xs){off len:Nat}(h:off+len<=xs.length):
 cR I μ ((xs.drop off).take len).flatten ((c.toList.drop (p.o+off*es)).take (len*es))/\p.o+off*es+len*es<=c.size:=by
 have w:=r.room;have z:off*es+len*es<=xs.length*es:=by rw[<-add_mul];exact mul_le_mul_right _ h
 have e1:((xs.drop off).take len).flatten=(xs.flatten.drop (off*es)).take (len*es):=by have u:xs=xs.take off++((xs.drop off).take len++(xs.drop off).drop len):=(by rw[take_append_drop,take_append_drop]);have g1:(xs.take off).flatten.length=off*es:=(by rw[f_ (λx u=>r.qq x (mem_of_mem_take u))];rw[List.length_take,Nat.min_eq_left Zaa]);have g2:((xs.drop off).take len).flatten.length=len*es:=(by rw[f_ (λx u=>r.qq x (mem_of_mem_drop (mem_of_mem_take u))),List.length_take,List.length_drop,Nat.min_eq_left Zaa]);have B:=congrArg List.flatten u;grind
 have a:=(r.rel.drop (off*es)).take (len*es);rw[e1]
 grind[drop_take,drop_drop]
def J6{ob:Ob}{es:Nat}{xs:T2}(h:ob.rows=some (es,xs)):ob=.row es xs\/ob=.frz es xs:=by cases ob<;>simp_all [Ob.rows]
def dw.rows(s:dw I μ H w){id es:Nat}{xs:T2}(h:(H[id]?).bind Ob.rows=some (es,xs)):
 ∃p c,μ id=some p/\(∀k,w.cell? ⟨p.b,k,none⟩=c[k]?)/\gM I μ p c es xs:=by
 have⟨ob,a,u⟩:=ζg.1 h;have:=s.obs id ob a;rcases J6 u with rfl|rfl
 .have⟨p,c,el,g1,_,g3,g4⟩:=this
  grind[xx]
 have⟨p,c,g1,g2,g4⟩:=this;have⟨el,fr,g3⟩:=s.imm _ _ g2
 grind[xx]
def Re(s:dw I μ H w){p:V}{v:WP}(d:bH I μ p v){m:Nat}{cs:S'}(h:eN H p m=some cs):
 ∃(b o:Nat)(c:Array WP),v=.pointer (some ⟨b,o,none⟩)/\(∀k,w.cell? ⟨b,k,none⟩=c[k]?)/\(o+m<=c.size\/m=0)/\cR I μ cs ((c.toList.drop o).take m):=by
 unfold eN at h;split at h
 .rename_i z;have⟨b,o,c,e,G,S,i⟩:=d.mZ;have⟨el,fr,g⟩:=s.imm _ _ G;refine⟨b,o,c,e,xx g,?_⟩;have J:cR I μ z ((c.toList.drop o).take z.length):=by
   refine⟨by simp;omega,λj x y f L=>?_⟩
   have O:=(ζe.1 f).1;rw[getElem?_take,if_pos O,getElem?_drop]at L;exact .c _ _ (i j x y f Zac)
  rcases B0 J h with⟨g1,g2,g3⟩|⟨g1,g2⟩
  .grind
  refine⟨.inr g1,?_⟩;rw[g2,g1];exact .nil
 .rename_i id el off;split at h
  .rename_i es z u;split at h
   .rename_i Q B;have⟨p,c,g1,g2,g3⟩:=s.rows u;have⟨q,C,e⟩:=d.u5;rw[g1]at C;cases C;refine⟨_,_,c,e,g2,?_⟩;have⟨k1,k2,k3⟩:=g3.elem B;rw[g3.es_eq];rcases B0 k1 h with⟨a,D,T⟩|⟨a,D⟩
    .grind[drop_take,drop_drop]
    refine⟨.inr a,?_⟩;rw[D,a];exact .nil
   simp at h
  simp at h
 simp at h
def DP(D:eG P E)(s:dw I μ H w){t:W'}{d:TD}(hd:E.tt t=some d){p x:V}{v:WP}(a:bH I μ p v)(h:(eN H p d.size).bind (mk d.agg)=some x):
 ∃u,(loadAt t v).run P w=.ok u w/\bH I μ x u/\∃G,v=.pointer (some G)/\(loadVar t G).run P w=.ok u w:=by
 have⟨cs,f,B⟩:=ζg.1 h;have⟨b,o,c,e,g1,g2,g3⟩:=Re s a f;have key:∃u,(loadVar t ⟨b,o,none⟩).run P w=.ok u w/\bH I μ x u:=by unfold loadVar;simp only[run_bind,(D.ty hd).MV,andThen_ok];cases z:d.agg with|true=>rw[z]at B;refine⟨.agg ((c.toList.drop o).take d.size).toArray,?_,OO B Zac⟩;simp only[if_true,run_bind,(D.ty hd).k_,andThen_ok,FM g1 g2,run_pure]|false=>rw[z]at B;have⟨u,g,J⟩:=mk_one B g3;refine⟨u,?_,J⟩;have L:d.size≠0:=(by grind);have C:c[o]?=some u:=(by have:=congrArg (·[0]?) g;grind);simp_all
 grind[loadAt,sureAddr]
def dw.Kd(s:dw I μ H w){b:Nat}{x:IC}(h:I b=some x):b<w.heap.size:=IC.wV (s.imm b x h)
def V7{b es:Nat}{c:Array WP}{xs:T2}(h:cR I μ xs.flatten c.toList)(a:∀x∈xs,x.length=es)(B:∀x∈xs,∀y∈x,V.one y=true):
 gM I μ ⟨b,0,es,c.size⟩ c es xs:=by
 have u:xs.length*es=c.size:=by rw[<-f_ a,h.1];simp
 exact⟨rfl,rfl,a,B,by simp[u],by grind[List.take_of_length_le]⟩
structure Uc(I:cG)(μ:Mu)(w:World)(ob:Ob)(m:Mk)(o:Obj)(p:Pl)(u:Value):Prop where
 b:p.b=w.heap.size
 live:ob.live=true
 nf:Obj.nf o
 len:∀es xs,ob=.row es xs->p.sz=xs.length*es
 rel:∀k,μ k=none->tV I (μ.gA k p) (w.alloc o) k ob/\bH I (μ.gA k p) (m.val k) u
def dw.zP(s:dw I μ H w):I w.heap.size=none:=by cases h:I w.heap.size with|none=>rfl|some x=>have:=s.Kd h;omega
def yA(s:dw I μ H w){es:Nat}{xs:T2}{c:Array WP}{el:W'}{m:Mk}{u:WP}(h:cR I μ xs.flatten c.toList)(a:∀x∈xs,x.length=es)
 (B:∀x∈xs,∀y∈x,V.one y=true)(d:∀k,bH I (μ.gA k ⟨w.heap.size,0,es,c.size⟩) (m.val k) u):Uc I μ w (.row es xs) m (.cells c el) ⟨w.heap.size,0,es,c.size⟩ u where
 nf:=ve _ _
 b:=rfl
 live:=rfl
 len:=λz C e=>by cases e;rw[<-f_ a,h.1];simp
 rel:=λk f=>⟨⟨_,c,el,Mu.gy _ _ _,s.zP,nL _,(V7 h a B).mono (cG.le_refl _) (Mu.rZ f)⟩,d k⟩
def L7(t:W')(v:WP):(newVar t v).run P w=.ok ⟨w.heap.size,0,none⟩ (w.alloc (.cells v.cells t)):=by simp[newVar,newRow]
def yp{z:S'}{B:Array WP}(h:cR I μ z B.toList)(m:Nat):
 cR I μ (replicate m z).flatten (((Array.range (m*B.size)).map (λi=>B[i % B.size]!)).toList):=by
 have C:z.length=B.size:=by simpa using h.1
 have c:∀x∈replicate m z,x.length=z.length:=λx J=>by rw[eq_of_mem_replicate J]
 have w:=f_ c;simp only[List.length_replicate]at w;refine⟨by rw[w,C];simp,λj x y a L=>?_⟩
 have G:=(ζe.1 a).1;rw[w]at G;have u:0<z.length:=by grind
 have hi:j / z.length<m:=(Nat.div_lt_iff_lt_mul u).2 G;have b:j % z.length<z.length:=mod_lt _ u;have e1:=xF c (i:=j / z.length) (j:=j % z.length) (x:=z) (y:=z[j % z.length]) (by simp[hi]) (by simp[b])
 rw[Nat.mul_comm,Nat.div_add_mod]at e1;rw[e1]at a;cases a;have D:j % B.size<B.size:=by rw[<-C];exact b
 have e2:y=B[j % B.size]:=by grind
 rw[e2];exact h.2 (j % z.length) _ _ (by simp[b]) (by rw[C];simp[D])
def HQ{es:Nat}:∀(vs:aX (Nat×V))(xs ys:T2),(∀x∈xs,x.length=es)->(∀x∈xs,∀y∈x,V.one y=true)->fK es xs vs=some ys->
 vB (λi=>some (i*es,es)) xs.flatten vs=some ys.flatten/\(∀x∈ys,x.length=es)/\(∀x∈ys,∀y∈x,V.one y=true)/\ys.length=xs.length:=by
 intro vs
 induction vs with
 |nil=>intro xs ys a z h;simp only[fK,ζa]at h;subst h;exact⟨rfl,a,z,rfl⟩|cons v vs C=>
  intro xs ys a z h;have⟨i,v⟩:=v;simp only[fK]at h;split at h
  .rename_i hc;have⟨b,B,I⟩:=hc;have u:∀x∈xs.set i v.cells,x.length=es:=λx D=>by
    grind
   have w:∀x∈xs.set i v.cells,∀y∈x,V.one y=true:=λx D=>by grind
   have⟨g1,g2,g3,g4⟩:=C _ ys u w h;refine⟨?_,g2,g3,Zac⟩
   rw[JJ a _ B b]at g1;have J:i*es+es<=xs.length*es:=by have:=mul_le_mul_right es (show i+1<=xs.length from B);rwa [add_mul,one_mul]at this
   have G:=f_ a
   grind[vB]
  simp at h
def Dv(J:eG P E)(r:eD I μ n F a.tmps)(s:dw I μ H w)(o:Oper){ob:Ob}{m:Mk}(h:eX E F o.op=some (ob,m)):
 ∃x p u,(execOp a.eval o).run P w=.ok (.value u) (w.alloc x)/\Uc I μ w ob m x p u:=by
 have⟨dst,op,ty,pos,after,j⟩:=o;simp only at h
 cases op with
 |alloc t=>
  simp only[eX,ζf,ζc]at h;obtain⟨d,hd,rfl,rfl⟩:=h;have⟨z,M,b,T,Z⟩:=(J.ty hd).Ep;refine⟨.cells z.cells t,_,.pointer (some ⟨w.heap.size,0,none⟩),?_,yA s Zac (by simp[T]) Zac (λk=>?_)⟩
  .simp_all[execOp,Instr.alloc,L7]
  have:=bH.hptr (I:=I) k 0 0 _ (Mu.gy μ k ⟨w.heap.size,0,d.size,z.cells.size⟩);simp only[zero_mul,add_zero]at this;exact this
 |box t x=>
  simp only[eX]at h;split at h
  .rename_i v hv;split at h
   .rename_i Z;simp only[ζa,ζc]at h;obtain⟨rfl,rfl⟩:=h;have b:=dJ r hv;refine⟨.cells (a.eval x).cells t,_,.pointer (some ⟨w.heap.size,0,none⟩),?_,yA s (by simpa using b.cells) Zab Zac (λk=>?_)⟩
    .simp_all[execOp,Instr.box,L7]
    have:=bH.hptr (I:=I) k 0 0 _ (Mu.gy μ k ⟨w.heap.size,0,v.cells.length,(a.eval x).cells.size⟩);simp only[zero_mul,add_zero]at this;exact this
   simp at h
  simp at h
 |makeSlice t l c=>
  simp only[eX]at h;split at h
  .rename_i e k1 ln k2 B g T hc;have⟨d,hd,L⟩:=fQ g;have⟨f,V,U,q⟩:=(J.ty hd).dS;rw[L]at U;have:=jS U;subst this;split at h
   .rename_i D C;split at h
    .rename_i O;obtain⟨rfl,rfl,am,an,hm,ao⟩:=O;simp only[ζa,ζc]at h;obtain⟨rfl,rfl⟩:=h;have⟨z,M,b,Q,Z⟩:=(J.ty C).Ep;have⟨i,_,hi,aj,ap,_⟩:=(J.ty C).info;have G:z.cells.size=D.size:=by have:=(b I μ).1;grind
     have ak:(0:Int)<=B:=Zaa
     have w1:i64.wrap ln=ln:=by grind[wrap,IntKind.bits]
     have w2:i64.wrap B=B:=by grind[wrap,IntKind.bits]
     have al:∀y:Int,0<=y->y<=2147483648->((i.bytes:Int)*y>2 ^ 48)=False:=by
      intro y aa hy;simp only[eq_iff_iff,iff_false,Int.not_lt,gt_iff_lt];have ab:(i.bytes:Int)<=4096:=Zaa
      calc (i.bytes:Int)*y<=4096*2147483648:=Int.mul_le_mul ab hy aa Zaa
       _<=2 ^ 48:=by decide
     have W:(Instr.makeSlice t (.int .i64 ln) (.int .i64 B)).run P w=
      .ok (.slice (some ⟨w.heap.size,0,none⟩) ln.toNat B.toNat) (w.alloc (.cells ((Array.range (B.toNat*z.cells.size)).map (λi=>z.cells[i % z.cells.size]!)) e)):=by
      unfold Instr.makeSlice;have t1:(decide (B<0)||decide ((i.bytes:Int)*B>2 ^ 48))=false:=by
       rw[Bool.or_eq_false_iff]
       grind
      have q1:(((decide (B<0)||decide ((i.bytes:Int)*B>2 ^ 48))||decide (ln<0))||decide (ln>B))=false:=by rw[t1];simp;omega
      simp only[run_bind,q,andThen_ok,asInt,mI,run_pure,pK hi,w1,w2,q1,false_eq_true,if_false,run_askRoom,(J.ty C).k_];rw[G]
      by_cases Y:B.toNat*D.size=0
      .have K:Array.range 0=(#[]:Array Nat):=rfl;simp[Y,newRow,K]
      simp_all[newRow]
     refine⟨.cells ((Array.range (B.toNat*z.cells.size)).map (λi=>z.cells[i % z.cells.size]!)) e,_,.slice (some ⟨w.heap.size,0,none⟩) ln.toNat B.toNat,?_,yA s (yp (b I μ) B.toNat) (λx S=>by rw[eq_of_mem_replicate S,Q]) (λx S=>by rw[eq_of_mem_replicate S];grind) (λk=>?_)⟩
     .simp only[execOp];refine gq ?_;rw[(dJ r T).fM,(dJ r hc).fM];exact W
     have:=bH.hsl (I:=I) (μ:=μ.gA k ⟨w.heap.size,0,D.size,((Array.range (B.toNat*z.cells.size)).map (λi=>z.cells[i % z.cells.size]!)).size⟩) k 0 ln.toNat B.toNat _ (Mu.gy _ _ _) Zaa (by simp[G])
     grind[Mk.val]
    simp at h
   simp at h
  simp at h
 |buildSlice t len ps=>
  simp only[eX]at h;split at h
  .rename_i e vs g ad;have⟨d,hd,L⟩:=fQ g;have⟨f,V,U,q⟩:=(J.ty hd).dS;rw[L]at U;have:=jS U;subst this;split at h
   .rename_i D C;split at h
    .rename_i ae;simp only[ζf,ζc]at h;obtain⟨ys,af,rfl,rfl⟩:=h;have⟨z,M,b,Q,Z⟩:=(J.ty C).Ep;have G:z.cells.size=D.size:=by have:=(b I μ).1;grind
     have⟨T,ah⟩:=Hf r ad;have⟨g1,g2,g3,g4⟩:=HQ vs _ ys (λx S=>by rw[eq_of_mem_replicate S,Q]) (λx S=>by rw[eq_of_mem_replicate S];grind) af
     have⟨A,N,R⟩:=C_ (place':=λi=>some (i*D.size,D.size)) (λi p hp=>hp) vs _ _ _ ((Array.range (len*z.cells.size)).map (λi=>z.cells[i % z.cells.size]!)) T ah (yp (b I μ) len) g1
     have X:A.size=len*D.size:=by
      have e1:=R.1;rw[f_ g2,g4]at e1
      grind
     refine⟨.cells A e,_,.slice (some ⟨w.heap.size,0,none⟩) len len,?_,yA s R g2 g3 (λk=>?_)⟩
     .simp only[execOp];refine gq ?_;unfold Instr.buildSlice;have ai:¬(len*D.size>2 ^ 24):=by omega
      simp only[run_bind,q,andThen_ok,(J.ty C).k_,if_neg ai]
      by_cases Y:len*D.size=0
      .have e0:(Array.range (len*z.cells.size)).map (λi=>z.cells[i % z.cells.size]!)=#[]:=by rw[G,Y];simp
       rw[e0]at N;have K:Array.range 0=(#[]:Array Nat):=rfl;simp only[Y,if_true,run_pure,andThen_ok,K,Array.map_empty];rw[N];simp[newRow]
      simp_all[newRow]
     have:=bH.hsl (I:=I) (μ:=μ.gA k ⟨w.heap.size,0,D.size,A.size⟩) k 0 len len _ (Mu.gy _ _ _) (le_refl _) (by simp[X])
     grind[Mk.val]
    simp at h
   simp at h
  simp at h
 |makeMap t r=>
  cases r with
  |none=>
   simp only[eX,ζa,ζc]at h;obtain⟨rfl,rfl⟩:=h;refine⟨.map #[] 0,⟨w.heap.size,0,0,0⟩,.map (some w.heap.size),?_,⟨rfl,rfl,sS rfl,λ_ _ e=>(nomatch e),λk g=>⟨⟨_,#[],0,Mu.gy _ _ _,s.zP,nL _,rfl,Zab⟩,?_⟩⟩⟩
   .simp_all[execOp,Instr.makeMap]
   exact bH.hmap (I:=I) k ⟨w.heap.size,0,0,0⟩ (Mu.gy _ _ _)
  |some x=>grind[eX]
 |_=>simp[eX]at h
end
section
variable{P:Program}{E:Env}{I:cG}{μ:Mu}{H H':bk}{n:Nat}{F:WF}{a:Act}{w:World}
def bH.one{x:V}{v:WP}(h:bH I μ x v)(B:x.one=true):v.oneCell'=true:=by
 cases h with
 |c _ _ h=>cases h<;>first|rfl|grind[V.one]
 |agg=>grind[V.one]|tup=>grind[V.one]|_=>rfl
def cR.SN{xs:S'}{vs:aX WP}(h:cR I μ xs vs)(B:∀x∈xs,V.one x=true):∀v∈vs,v.oneCell'=true:=by
 intro v a;obtain⟨j,w,rfl⟩:=List.mem_iff_getElem.1 a;have u:j<xs.length:=by rw[h.1];exact w
 exact(h.2 j xs[j] vs[j] (by simp[u]) (by simp[w])).one (B _ (List.getElem_mem u))
def P5{b:Nat}{o:Obj}(h:w.heap[b]?=some o):gN w b o=w:=by
 unfold gN;have:w.heap.setIfInBounds b o=w.heap:=by grind
 rw[this]
def Je{b o:Nat}{c:Array WP}{el:W'}{v:WP}(h:w.heap[b]?=some (.cells c el)):
 w.setCell ⟨b,o,none⟩ v=gN w b (.cells (c.setIfInBounds o v) el):=by
 unfold World.setCell gN
 congr 1
 grind
def wI{b o:Nat}{el:W'}:∀(vs:aX WP)(i:Nat)(w:World)(c:Array WP),w.heap[b]?=some (.cells c el)->(∀v∈vs,v.oneCell'=true)->o+i+vs.length<=c.size->
 ∃c',(storeCells ⟨b,o,none⟩ vs i).run P w=.ok () (gN w b (.cells c' el))/\c'.toList=c.toList.take (o+i)++vs++c.toList.drop (o+i+vs.length):=by
 intro vs
 induction vs with
 |nil=>simp_all[storeCells,P5]|cons v vs D=>
  intro i w c h C G;simp only[List.length_cons]at G;have z:o+i<c.size:=Zaa
  have u:w.cell? ⟨b,o+i,none⟩=some c[o+i]:=by rw[xx h];simp[z]
  have B:w.frozen? ⟨b,o+i,none⟩=false:=by grind[frozen?]
  have I:=(Array.getElem?_eq_some_iff.1 h).1;have⟨c',g1,g2⟩:=D (i+1) (gN w b (.cells (c.setIfInBounds (o+i) v) el)) (c.setIfInBounds (o+i) v) (jF _ I) (λx J=>C x (mem_cons_of_mem _ J)) (by simp;omega)
  refine⟨c',?_,?_⟩
  .simp only[storeCells,run_bind,qR,run_store P w _ v _ (C v Zab),u,B,false_eq_true,if_false,andThen_ok,Je h]
   rw[g1,Pe]
  grind[List.take_succ_eq_append_getElem,List.take_set_of_le,List.drop_set_of_lt]
structure DD(P:Program)(I:cG)(μ:Mu)(H:bk)(w:World)(s:Sem Next)(x:V)(H':bk):Prop where
 run:∃nx u w' μ',s.run P w=.ok nx w'/\(nx=.value u\/(nx=.skip/\u=undef))/\bH I μ' x u/\dw I μ' H' w'/\Step I μ H w I μ' H' w'
def CC{α:Type}(L vs:aX α)(o m k:Nat)(D:o+m<=L.length)(a:k+vs.length<=m):
 ((L.take (o+k)++vs++L.drop (o+k+vs.length)).drop o).take m=((L.drop o).take m).take k++vs++((L.drop o).take m).drop (k+vs.length):=by
 obtain⟨A,B,C,rfl,u,w⟩:∃A B C:aX α,L=A++(B++C)/\A.length=o/\B.length=m:=⟨L.take o,(L.drop o).take m,(L.drop o).drop m,by rw[take_append_drop,take_append_drop],by simp;omega,by simp;omega⟩
 subst u;subst w;have e1:(A++(B++C)).take (A.length+k)=A++B.take k:=by rw[List.take_append,List.take_of_length_le Zaa,Nat.add_sub_cancel_left,List.take_append_of_le_length Zaa]
 have e2:(A++(B++C)).drop (A.length+k+vs.length)=B.drop (k+vs.length)++C:=by rw[List.drop_append,List.drop_eq_nil_of_le Zaa,List.nil_append,List.drop_append_of_le_length Zaa];grind
 have e3:((A++(B++C)).drop A.length).take B.length=B:=Zab
 rw[e1,e2,e3];simp only[List.append_assoc,List.drop_left];have z:(B.take k++(vs++B.drop (k+vs.length))).length=B.length:=by simp;omega
 grind
def gM.splice{p:Pl}{c c':Array WP}{es el off:Nat}{xs:T2}{cs ys:S'}{vs:aX WP}(r:gM I μ p c es xs)(B:xs[el]?=some cs)(T:cR I μ ys vs)
 (W:∀y∈ys,V.one y=true)(Y:off+ys.length<=cs.length)(a:c'.toList=c.toList.take (p.o+el*es+off)++vs++c.toList.drop (p.o+el*es+off+vs.length)):
 gM I μ p c' es (xs.set el (cs.take off++ys++cs.drop (off+ys.length))):=by
 have⟨k1,k2,k3⟩:=r.elem B;have z:=(ζe.1 B).1;have J:=T.1;have L:=r.room;have X:el*es+es<=xs.length*es:=by have:=mul_le_mul_right es (show el+1<=xs.length from z);rwa [add_mul,one_mul]at this
 have C:c'.size=c.size:=by have:=congrArg length a;grind
 have O:(cs.take off++ys++cs.drop (off+ys.length)).length=es:=by simp;omega
 have u:∀x∈xs.set el (cs.take off++ys++cs.drop (off+ys.length)),x∈xs\/x=cs.take off++ys++cs.drop (off+ys.length):=λx D=>List.mem_or_eq_of_mem_set D
 refine⟨r.es_eq,by rw[C];exact r.sz,?_,?_,by rw[C];grind,?_⟩
 .intro x D;rcases u x D with h|h
  .exact r.qq x h
  grind
 .intro x D y G;rcases u x D with h|h
  .exact r.one x h y G
  rw[h]at G;have S:=r.one cs (mem_of_getElem? B)
  grind
 rw[JJ r.qq _ z O,a,List.length_set];have w:=r.rel;have Q:=FG r.qq B;have e:List.take (xs.length*es) (List.drop p.o (List.take (p.o+el*es+off) c.toList++vs++List.drop (p.o+el*es+off+vs.length) c.toList))=
  (((c.toList.drop p.o).take (xs.length*es)).take (el*es+off))++vs++(((c.toList.drop p.o).take (xs.length*es)).drop (el*es+off+vs.length)):=by
  have:=CC c.toList vs p.o (xs.length*es) (el*es+off) Zac Zaa
  grind
 rw[e];have e2:xs.flatten.take (el*es)++(cs.take off++ys++cs.drop (off+ys.length))++xs.flatten.drop (el*es+es)=
  xs.flatten.take (el*es+off)++ys++xs.flatten.drop (el*es+off+ys.length):=by
  have U:=f_ r.qq;have b:xs.flatten.take (el*es+off)=xs.flatten.take (el*es)++cs.take off:=by rw[<-Q,List.take_add,List.take_take,Nat.min_eq_left Zaa]
  grind[drop_take,drop_drop,take_append_drop]
 rw[e2,<-J];exact((w.take _).append T).append (w.drop _)
def Sc(T:eG P E)(r:eD I μ n F a.tmps)(s:dw I μ H w){t:W'}{p q:U'}{x:V}(h:cK E F H (.store t p q)=some (x,H')):
 DD P I μ H w (do storeAt t (a.eval p) (a.eval q);pure .skip) x H':=by
 simp only[cK]at h;split at h
 .rename_i d id el off v hd Q S;split at h
  .rename_i es J z;split at h
   .rename_i cs B;split at h
    .rename_i hc;have⟨U,W,X⟩:=hc;simp only[ζa,ζc]at h;obtain⟨rfl,rfl⟩:=h;have⟨pl,c,ty,g1,g2,g3,g4⟩:=s.obs id _ z;have⟨Y,L,e⟩:=(dJ r Q).u5;rw[g1]at L;cases L;have u:=(dJ r S).cells;have O:∀y∈v.cells,V.one y=true:=by grind
     have⟨k1,k2,k3⟩:=g4.elem B;have Z:=u.1;have b:pl.o+el*es+off+0+(a.eval q).cells.toList.length<=c.size:=Zaa
     have⟨c',f,j⟩:=wI (P:=P) (o:=pl.o+el*es+off) (a.eval q).cells.toList 0 w c g3 (u.SN O) b;have C:gM I μ pl c' es (J.set el (cs.take off++v.cells++cs.drop (off+v.cells.length))):=g4.splice B u O Zaa Zac
     have D:=(Array.getElem?_eq_some_iff.1 g3).1;have⟨g,i⟩:=s.write (ob':=.row es (J.set el (cs.take off++v.cells++cs.drop (off+v.cells.length)))) (o:=.cells c' ty) z rfl g1
      ⟨pl,c',ty,g1,g2,jF _ D,C⟩
     refine⟨.skip,undef,_,μ,?_,.inr ⟨rfl,rfl⟩,.undef I μ,g,i⟩;rw[e];have G:¬((a.eval q).cells.size≠d.size):=Zac
     rw[g4.es_eq];unfold storeAt storeVar;simp only[run_bind,sureAddr,run_pure,andThen_ok,(T.ty hd).k_,if_neg G,f]
    simp at h
   simp at h
  simp at h
 simp at h
def A9(s:dw I μ H w){x:V}{v:WP}(T:bH I μ x v){es:Nat}{ys:T2}(h:dM H es x=some ys):
 ∃B a arr,v=.slice B ys.length a/\ys.length<=a/\(∀G:World,G.heap=w.heap->(firstCells es ys.length v).run P G=.ok arr G)/\cR I μ ys.flatten arr.toList/\(∀y∈ys,y.length=es)/\
  (∀y∈ys,∀z∈y,V.one z=true):=by
 have C:∀(B:aY Addr)(a:Nat)(G:World),G.heap=w.heap->(firstCells es 0 (.slice B 0 a)).run P G=.ok #[] G:=by intro B a G _;cases B with|none=>rfl|some B=>simp[firstCells,loadCells,loadCellsFrom]
 cases x with
 |dH=>simp only[dM,ζa]at h;subst h;obtain⟨B,rfl⟩:=T.tK;exact⟨B,0,#[],rfl,le_refl _,C B 0,.nil,Zab,Zab⟩|bG=>simp only[dM,ζa]at h;subst h;rw[T.mQ];exact⟨none,0,#[],rfl,le_refl _,C none 0,.nil,Zab,Zab⟩|fsl u L=>
  simp only[dM]at h;split at h
  .rename_i S;simp only[ζa]at h;subst h;subst S;have k:=T.mR
   cases k with
   |fsl0 _ B a=>exact⟨some B,a,#[],rfl,zero_le _,C (some B) a,.nil,Zab,Zab⟩|fsl _ _ b o a c hI g hu ho n hr=>
    have⟨el,fr,t⟩:=s.imm _ _ hI;refine⟨_,a,((c.toList.drop o).take (L.length*u)).toArray,rfl,g,?_,?_,hu,ho⟩
    .grind[firstCells,FM,xx]
    have U:=f_ hu;refine⟨Zac,λj p q d l=>?_⟩
    have W:=(ζe.1 d).1;rw[U]at W;have D:0<u:=by grind
    have hi:j / u<L.length:=(Nat.div_lt_iff_lt_mul D).2 W;have X:j % u<u:=mod_lt _ D;have A:=hu _ (List.getElem_mem hi);have e1:=xF hu (i:=j / u) (j:=j % u) (x:=L[j / u]) (y:=(L[j / u])[j % u]) (by simp[hi]) Zac
    have f:j / u*u+j % u=j:=by rw[Nat.mul_comm,Nat.div_add_mod]
    rw[f,d]at e1;cases e1;simp only[getElem?_take,if_pos W,getElem?_drop]at l;refine .c _ _ (hr (j / u) (j % u) L[j / u] _ q (by simp[hi]) Zac ?_)
    rw[add_assoc,f]
    grind
  simp at h
 |hsl id u off len=>
  simp only[dM]at h;split at h
  .rename_i S;subst S;split at h
   .rename_i O L Q;split at h
    .rename_i Y;simp only[ζa]at h;subst h;have⟨p,c,g1,g2,g3⟩:=s.rows Q;have J:((L.drop off).take len).length=len:=by simp;omega
     rcases T.mL with⟨q,a,X,m,g,n,e⟩|⟨r,B,e⟩
     .rw[g1]at X;cases X;have D:O=u:=by rw[<-g3.es_eq,m]
      subst D;have⟨k1,k2⟩:=g3.span Y;refine⟨_,a,((c.toList.drop (p.o+off*O)).take (len*O)).toArray,by rw[e,J],Zaa,?_,Zac,?_,?_⟩
      .grind[firstCells,FM,cell?]
      .exact λy Z=>g3.qq y (mem_of_mem_drop (mem_of_mem_take Z))
      exactλy Z=>g3.one y (mem_of_mem_drop (mem_of_mem_take Z))
     subst r;simp only[List.take_zero]at J⊢;exact⟨_,0,#[],by rw[e];rfl,le_refl _,by rw[e];grind,.nil,Zab,Zab⟩
    simp at h
   simp at h
  simp at h
 |_=>simp[dM]at h
def rC(z:Array WP)(k:Nat):(zeroCells z k).size=k*z.size:=by simp[zeroCells]
def dw.drew(s:dw I μ H w):dw I μ H w.drew:=s.pV rfl
def Cc(s:dw I μ H w){es B:Nat}{xs ys:T2}{old new rest:Array WP}{el:W'}(U:cR I μ xs.flatten old.toList)(W:cR I μ ys.flatten new.toList)
 (J:∀x∈xs,x.length=es)(T:∀x∈ys,x.length=es)(Y:∀x∈xs,∀y∈x,V.one y=true)(b:∀x∈ys,∀y∈x,V.one y=true)
 (D:xs.length+ys.length<=B)(a:rest.size=(B-(xs.length+ys.length))*es):
 ∃μ',bH I μ' (.hsl H.length es 0 (xs.length+ys.length)) (.slice (some ⟨w.heap.size,0,none⟩) (xs.length+ys.length) B)/\dw I μ' (H++[.row es (xs++ys)]) (w.alloc (.cells (old++new++rest) el))/\
  Step I μ H w I μ' (H++[.row es (xs++ys)]) (w.alloc (.cells (old++new++rest) el)):=by
 have L:=f_ J;have O:=f_ T;have u:=U.1;have z:=W.1;simp only[Array.length_toList]at u z;have Q:(old++new++rest).size=B*es:=by simp only[Array.size_append];rw[<-u,<-z,L,O,a,<-add_mul,<-add_mul];grind
 have C:(xs.length+ys.length)*es<=B*es:=mul_le_mul_right _ D;rw[add_mul]at C;have G:gM I μ ⟨w.heap.size,0,es,(old++new++rest).size⟩ (old++new++rest) es (xs++ys):=by refine⟨rfl,rfl,?_,?_,?_,?_⟩;grind;grind;rw[Q];simp_all[add_mul];have e:((old++new++rest).toList.drop 0).take ((xs++ys).length*es)=old.toList++new.toList:=(by grind[add_mul]);rw[e,flatten_append];exact U.append W
 have⟨S,X⟩:=s.push (ob:=.row es (xs++ys)) (o:=.cells (old++new++rest) el) (p:=⟨w.heap.size,0,es,(old++new++rest).size⟩) rfl
  ⟨_,_,el,Mu.gy _ _ _,s.zP,nL _,G.mono (cG.le_refl _) (Mu.rZ (s.dom _ (le_refl _)))⟩
 refine⟨_,?_,S,X⟩;have:=bH.hsl (I:=I) H.length 0 (xs.length+ys.length) B _ (Mu.gy μ H.length ⟨w.heap.size,0,es,(old++new++rest).size⟩) D Zac
 grind
def N3(s:dw I μ H w){id:Nat}{ob ob':Ob}{p p':Pl}{o:Obj}(B:H[id]?=some ob)(T:ob.live=true)(hp:μ id=some p)(i:p'.b=p.b)
 (W:tV I (μ.gA H.length p') (gN w p.b o) H.length ob')(l:Obj.nf o:=by first|exact ve _ _|exact sS rfl):dw I (μ.gA H.length p') (H.set id .dead++[ob']) (gN w p.b o)/\Step I μ H w I (μ.gA H.length p') (H.set id .dead++[ob']) (gN w p.b o):=by
 have n:=(ζe.1 B).1;have G:iK μ H p.b:=⟨id,p,ob,B,T,hp,rfl⟩;have c:=s.dom H.length (le_refl _);have u:∀k x,(H.set id .dead++[ob'])[k]?=some x->(k=H.length/\x=ob')\/(k≠H.length/\k=id/\x=.dead)\/(k≠H.length/\k≠id/\H[k]?=some x):=by grind
 have L:∀b,iK (μ.gA H.length p') (H.set id .dead++[ob']) b->iK μ H b:=by rintro b ⟨k,q,x,d,O,X,rfl⟩;rcases u k x d with⟨rfl,rfl⟩|⟨_,_,rfl⟩|⟨e,Q,h⟩;rw[Mu.gy]at X;grind;grind[Ob.live];rw[Mu.jd _ _ e]at X;exact⟨k,q,x,h,O,X,rfl⟩
 refine⟨⟨?_,?_,?_,?_,s.gl⟩,⟨cG.le_refl _,Mu.rZ c,Zab,by rw[yf];grind,?_,?_,rfl,⟨rfl,rfl,le_refl _⟩,λa _=>Et (b:=p.b) l (jF o (oe s G)) (λk c=>iq o c) a⟩⟩
 .intro k h;simp at h;rw[Mu.jd _ _ Zaa]
  exact s.dom k Zaa
 .intro b x h;refine IC.tH (s.imm b x h) (iq o ?_)
  grind[gx]
 .intro k x h;rcases u k x h with⟨rfl,rfl⟩|⟨_,_,rfl⟩|⟨e,Q,h⟩
  .exact W
  .trivial
  refine(s.obs k x h).mono (cG.le_refl _) (Mu.rZ c) (λq Z J=>⟨iq o ?_,gx s ⟨k,q,x,h,J,Z,rfl⟩⟩) (λm=>?_)
  .intro Y;exact Q (s.inj k id x ob q p h B J T Z hp Y)
  subst m;rw[Mu.jd _ _ e];exact s.obs k _ h
 .intro k S x U q q' d O l1 l2 C D z;rcases u k x d with⟨rfl,rfl⟩|⟨_,_,rfl⟩|⟨e,Q,h⟩
  .rcases u S U O with⟨rfl,rfl⟩|⟨_,_,rfl⟩|⟨f,j,g⟩
   .rfl
   .grind[Ob.live]
   rw[Mu.gy]at C;cases C;rw[Mu.jd _ _ f]at D;exact absurd (s.inj S id U ob q' p g B l2 T D hp (by rw[<-z,i])) j
  .grind[Ob.live]
  rcases u S U O with⟨rfl,rfl⟩|⟨_,_,rfl⟩|⟨f,j,g⟩
  .rw[Mu.gy]at D;cases D;rw[Mu.jd _ _ e]at C;exact absurd (s.inj k id x ob q p h B l1 T C hp (by rw[z,i])) Q
  .grind[Ob.live]
  rw[Mu.jd _ _ e]at C;rw[Mu.jd _ _ f]at D;exact s.inj k S x U q q' h g l1 l2 C D z
 .intro b _ hn;refine iq o ?_
  grind
 grind
def DV(f:eG P E){t g e:W'}{d:TD}{D:TypeDesc}(h:P.underlying t=some (.slice e))(W:P.underlying g=some D)(Y:∃j,D=.slice j)(hd:E.tt e=some d)
 (U J:aY Addr)(sl sc B c:Nat)(new:Array WP)(k:(firstCells d.size B (.slice J B c)).run P w=.ok new w)(ty:W'):
 (sl+B<=sc->∀w',(match U with|some b=>(storeCells (b.add (sl*d.size)) new.toList).run P w=.ok () w'|none=>w'=w)->
  (append_ #[t,g] ty #[.slice U sl sc,.slice J B c]).run P w=.ok (.slice U (sl+B) sc) w')/\
 (sc<sl+B->sl+B<=2147483648->d.bytes<=4096->0<d.bytes->∀old,(∀T,T.heap=w.heap->(firstCells d.size sl (.slice U sl sc)).run P T=.ok old T)->
  (∀T,T.heap=w.heap->(firstCells d.size B (.slice J B c)).run P T=.ok new T)->
  ∃G rest,sl+B<=G/\rest.size=(G-(sl+B))*d.size/\
   (append_ #[t,g] ty #[.slice U sl sc,.slice J B c]).run P w=.ok (.slice (some ⟨w.heap.size,0,none⟩) (sl+B) G) (w.drew.alloc (.cells (old++new++rest) e))):=by
 have⟨i,z,hi,Z,m,n,L,o,_⟩:=(f.ty hd).info;have u:∀w,(zeroValue e).run P w=.ok z w:=λw=>by simp_all[zeroValue,pK]
 have O:z.cells.size=d.size:=by have:=(L (λ_=>none) (λ_=>none)).1;grind
 obtain⟨j,rfl⟩:=Y;constructor
 .intro Q w' ai;unfold append_;simp only[run_bind,List.getElem?_toArray,List.getElem?_cons_zero,List.getElem?_cons_succ,dS h,dS W,andThen_ok,(f.ty hd).k_,run_pure,lenOf,false_eq_true,if_false,Bool.not_false,if_true,if_pos Q,k]
  cases U with
  |none=>simp_all|some b=>simp_all
 intro S p q r old a C;have X:=nextslicecap_le S;have l:¬(nextslicecap (sl+B) sc*i.bytes>2 ^ 48):=by have:nextslicecap (sl+B) sc*i.bytes<=(2*2147483648)*4096:=mul_le_mul Zaa Zaa;omega
 have I:¬(sl+B<=sc):=Zaa
 refine⟨(appendCap (sl+B) sc e).cut (w.tape w.drawn (appendCap (sl+B) sc e)),zeroCells z.cells (((appendCap (sl+B) sc e).cut (w.tape w.drawn (appendCap (sl+B) sc e)))-(sl+B)),?_,?_,?_⟩
 .simp[Question.cut]
 .rw[rC,O]
 unfold append_;simp only[run_bind,List.getElem?_toArray,List.getElem?_cons_zero,List.getElem?_cons_succ,dS h,dS W,andThen_ok,(f.ty hd).k_,run_pure,lenOf,false_eq_true,if_false,Bool.not_false,if_true,if_neg I,pK hi];rw[if_neg Zac]
 simp only[run_bind,pK hi,if_neg l,run_choose,forced,false_eq_true,if_false,andThen_ok,run_askRoom,u,newRow,run_newObj,run_pure];rw[a {w with drawn:=w.drawn+1} rfl];simp only[andThen_ok];rw[C {w with drawn:=w.drawn+1} rfl];rfl
def wrap_small{m:Nat}(h:m<=2147483648):i64.wrap (m:Int)=m:=by grind[wrap,IntKind.bits]
def GL(T:eG P E){t U e:W'}{d:TD}{kk k:T'}(Y:P.underlying t=some (.slice e))(G:P.underlying U=some (.int kk))(hd:E.tt e=some d)(ty:W')(m:Nat)(D:m<=2147483648):
 (m=0->(append_ #[t,U] ty #[.slice none 0 0,.int k m]).run P w=.ok (.slice none 0 0) w)/\
 (0<m->d.bytes<=4096->0<d.bytes->∃B z rest,m<=B/\rest.size=(B-m)*d.size/\cR I μ d.zero z.toList/\
  (append_ #[t,U] ty #[.slice none 0 0,.int k m]).run P w=.ok (.slice (some ⟨w.heap.size,0,none⟩) m B) (w.drew.alloc (.cells (#[]++zeroCells z m++rest) e))):=by
 have⟨i,z,hi,X,g,j,C,l,_⟩:=(T.ty hd).info;have u:∀w,(zeroValue e).run P w=.ok z w:=λw=>by simp_all[zeroValue,pK]
 have O:z.cells.size=d.size:=by have:=(C (λ_=>none) (λ_=>none)).1;grind
 have a:=wrap_small D;constructor
 .rintro rfl;unfold append_;have Q:i64.wrap 0=0:=by omega
  simp[dS Y,dS G,(T.ty hd).k_,asInt,pK hi,mI,Q]
 intro Z n o;have S:nextslicecap (0+m) 0<=2*(0+m):=nextslicecap_le Zaa
 have b:¬(nextslicecap (0+m) 0*i.bytes>2 ^ 48):=by have:nextslicecap (0+m) 0*i.bytes<=(2*2147483648)*4096:=mul_le_mul Zaa Zaa;omega
 have c:¬(m*(i.bytes:Int)>2 ^ 48):=by have p:m*i.bytes<=2147483648*4096:=mul_le_mul D Zaa;grind
 have f:¬((0+m:Nat)>i64.max):=by have:i64.max=9223372036854775807:=(by rfl);omega
 have J:¬(0+m<=0):=Zaa
 have L:¬((m:Int)<0):=Zaa
 refine⟨(appendCap (0+m) 0 e).cut (w.tape w.drawn (appendCap (0+m) 0 e)),z.cells,zeroCells z.cells (((appendCap (0+m) 0 e).cut (w.tape w.drawn (appendCap (0+m) 0 e)))-(0+m)),?_,?_,C _ _,?_⟩
 .simp[Question.cut]
 .rw[rC,O,Nat.zero_add]
 unfold append_;have W:(if m*d.size=0 then pure #[]else do pure (zeroCells (<-zeroValue e).cells m))=(do pure (zeroCells (<-zeroValue e).cells m))\/(m*d.size=0/\zeroCells z.cells m=#[]):=by by_cases h:m*d.size=0;all_goals simp_all[Array.eq_empty_of_size_eq_zero,rC]
 simp only[run_bind,List.getElem?_toArray,List.getElem?_cons_zero,List.getElem?_cons_succ,dS Y,dS G,andThen_ok,(T.ty hd).k_,run_pure,if_true,asInt,mI,a,if_neg L,pK hi,if_neg c,Int.toNat_natCast,if_neg J,if_false];rw[if_neg (λh=>f h.1)]
 simp only[run_bind,pK hi,if_neg b,run_choose,forced,andThen_ok,u,newRow,firstCells];rcases W with h|⟨h,q⟩
 all_goals simp_all
def Pb(g:eG P E)(r:eD I μ n F a.tmps)(s:dw I μ H w){args:Array U'}{T:Array W'}{x:V}{ty:W'}
 (h:cK E F H (.call {callee:=.builtin .append,args,argTypes:=T})=some (x,H')):
 DD P I μ H w (do let d<-resolve a.eval {callee:=.builtin .append,args,argTypes:=T} ty;invoke d.target d.args) x H':=by
 simp[cK]at h;split at h
 .rename_i t t' vs vx aQ ae;obtain⟨us,ux,Q,i,j⟩:=(oy r ae).two;split at h
  .rename_i e e' hk af;obtain⟨d0,ah,ai⟩:=fQ hk;obtain⟨N,R,h2,h3⟩:=(g.ty ah).dS;rw[ai]at h2;have:=jS h2;subst this;obtain⟨d1,jE,S⟩:=fQ af;obtain⟨aj,g1,g2,g3⟩:=(g.ty jE).dS;rw[S]at g2;have:=jS g2;subst this;have C:∀v w',(append_ #[t,t'] ty #[us,ux]).run P w=.ok v w'->
    (do let d<-resolve a.eval {callee:=.builtin .append,args,argTypes:=T} ty;invoke d.target d.args).run P w=.ok (.value v) w':=by
    simp[resolve,run_bind,run_pure,andThen_ok,invoke,builtin];rw[tF Q];have ea:T=#[t,t']:=Zac
    simp_all
   split at h
   .rename_i d hd;split at h
    .
     rename_i xs B ak;obtain⟨ad,f,arr,e1,e2,e3,e4,_⟩:=A9 (P:=P) s i B;obtain⟨al,U,D,M,f2,A,l,_⟩:=A9 s j ak;simp at M A;have aR:D=#[]:=by have:=l.1;grind
     have A:=A w rfl;rw[M]at A;have key:=(DV g R g1 ⟨_,rfl⟩ hd ad al xs.length f 0 U D A ty).1 Zaa w
      (by
       cases ad with
       |none=>rfl|some b=>simp_all[storeCells])
     rw[<-M,<-e1,add_zero,<-e1]at key;have am:x=vs/\H'=H:=by grind
     obtain⟨rfl,rfl⟩:=am;exact⟨_,us,w,μ,C _ _ key,.inl rfl,i,s,.refl _ _ _ _⟩
    .rename_i xs ys aT B ak;obtain⟨ad,f,arr,e1,e2,e3,e4,e5,e6⟩:=A9 s i B;obtain⟨al,U,D,M,f2,A,l,f5,f6⟩:=A9 s j ak;split at h
     .rename_i hc;obtain⟨av,an,ao⟩:=hc;have aD:0<ys.length:=by
       grind
      have key:=DV g R g1 ⟨_,rfl⟩ hd ad al xs.length f ys.length U D (by rw[<-M];exact A w rfl) ty
      rw[<-M,<-e1]at key;have L:f<xs.length+ys.length->∃G rest,xs.length+ys.length<=G/\rest.size=(G-(xs.length+ys.length))*d.size/\
       (append_ #[t,t'] ty #[us,ux]).run P w=.ok (.slice (some ⟨w.heap.size,0,none⟩) (xs.length+ys.length) G) (w.drew.alloc (.cells (arr++D++rest) e)):=by
       intro ap;refine key.2 ap av an ao arr ?_ ?_
       .intro w2 aE;exact e3 w2 aE
       grind
      simp at h;obtain⟨H1,J,rfl,rfl⟩:=h
      cases vs with
      |dH=>
       simp[gH]at J;subst J;simp[dM]at B;subst B;obtain⟨aF,q⟩:=i.tK;have aw:f=0:=by rw[q]at e1;cases e1;rfl
       obtain⟨G,rest,k1,k2,k3⟩:=L (by simp;omega)
       obtain⟨μ',m1,o,K⟩:=Cc s.drew e4 l e5 f5 e6 f6 k1 k2;refine⟨_,_,_,μ',C _ _ k3,.inl rfl,m1,o,?_⟩;exact Step.trans s.drew (Step.pV rfl rfl ⟨rfl,rfl,le_succ _⟩) K
      |bG=>
       simp[gH]at J;subst J;simp[dM]at B;subst B;have q:=i.mQ;have aw:f=0:=by rw[q]at e1;cases e1;rfl
       obtain⟨G,rest,k1,k2,k3⟩:=L (by simp;omega)
       obtain⟨μ',m1,o,K⟩:=Cc s.drew e4 l e5 f5 e6 f6 k1 k2;refine⟨_,_,_,μ',C _ _ k3,.inl rfl,m1,o,?_⟩;exact Step.trans s.drew (Step.pV rfl rfl ⟨rfl,rfl,le_succ _⟩) K
      |hsl id es off len=>
       simp[gH]at J;split at J
       .rename_i u aG Z;simp at J;subst J;have ax:(H[id]?).bind Ob.rows=some (u,aG):=by rw[Z];rfl
        have aS:=B;simp only[dM]at B;split at B
        .rename_i aH;rw[ax]at B;simp only at B;split at B
         .rename_i aI;simp at B;obtain⟨p,c,ay,q1,q2,q3,q4⟩:=s.obs id _ Z;have W:xs.length=len:=by rw[<-B];simp;omega
          have aq:f<xs.length+ys.length->DD P I μ H w (do let d<-resolve a.eval {callee:=.builtin .append,args,argTypes:=T} ty;invoke d.target d.args)
           (.hsl H.length d.size 0 (xs.length+ys.length)) (H.set id .dead++[.row d.size (xs++ys)]):=by
           intro ap;obtain⟨G,rest,k1,k2,k3⟩:=L ap;obtain⟨s1,s2⟩:=s.drew.kill Z;obtain⟨μ',m1,o,K⟩:=Cc s1 e4 l e5 f5 e6 f6 k1 k2;rw[List.length_set]at m1;exact⟨_,_,_,μ',C _ _ k3,.inl rfl,m1,o,Step.trans s.drew (Step.pV rfl rfl ⟨rfl,rfl,le_succ _⟩) (Step.trans s1 s2 K)⟩
          rcases i.mL with⟨p',O,hm,aJ,aU,aK,ee⟩|⟨h0,aF,ee⟩
          .rw[q1]at hm;cases hm;have ar:O=f/\ad=some ⟨p.b,p.o+off*es,none⟩:=by rw[ee]at e1;grind
           obtain⟨rfl,rfl⟩:=ar
           by_cases ab:xs.length+ys.length<=O
           .have aA:u=es:=by rw[<-q4.es_eq,aJ]
            subst aA;have X:=aH;obtain⟨r1,r2⟩:=q4.span aI;rw[B]at r1;have aa:=l.1;simp only[Array.length_toList]at aa;rw[f_ f5]at aa;have aL:(len+ys.length)*u<=O*u:=mul_le_mul_right _ Zaa
            rw[add_mul]at aL;rw[add_mul]at aK;have aM:=q4.sz;rw[<-X]at aa;have au:p.o+off*u+len*u+0+D.toList.length<=c.size:=by simp;omega
            obtain⟨c',u1,u2⟩:=wI D.toList 0 w c q3 (l.SN (λx j=>by
             grind[mem_flatten])) au
            have aB:c'.size=c.size:=by have:=congrArg length u2;grind
            have aC:=key.1 ab (gN w p.b (.cells c' ay)) (by
             simp[qR,W];rw[<-X];exact u1)
            have Y:gM I μ ⟨p.b,p.o+off*u,u,p.sz⟩ c' u (xs++ys):=by refine⟨rfl,by rw[aB];exact aM,?_,?_,?_,?_⟩;grind;grind;rw[aB,ζi,W,add_mul];grind;have e:(c'.toList.drop (p.o+off*u)).take ((xs++ys).length*u)=(c.toList.drop (p.o+off*u)).take (len*u)++D.toList:=(by rw[u2,ζi,W,add_mul,aa];simp only[add_zero];have aN:(List.take (p.o+off*u+len*u) c.toList).length=p.o+off*u+len*u:=(by simp;omega);rw[List.append_assoc,List.drop_append_of_le_length (by rw[aN];omega),drop_take,show p.o+off*u+len*u-(p.o+off*u)=len*u by omega];grind[List.take_left']);rw[e,flatten_append];exact r1.append l
            obtain⟨s1,s2⟩:=N3 (ob':=.row u (xs++ys)) (p':=⟨p.b,p.o+off*u,u,p.sz⟩) s Z rfl q1 rfl
             ⟨_,c',ay,Mu.gy _ _ _,q2,jF _ (Array.getElem?_eq_some_iff.1 q3).1,Y.mono (cG.le_refl _) (Mu.rZ (s.dom _ (le_refl _)))⟩
            rw[<-X];refine⟨_,_,_,_,C _ _ aC,.inl rfl,?_,s1,s2⟩;have:=bH.hsl (I:=I) H.length 0 (xs.length+ys.length) O _ (Mu.gy μ H.length ⟨p.b,p.o+off*u,u,p.sz⟩) ab (by simp;omega)
            grind
           grind
          grind
         grind
        grind
       grind
      |_=>simp[gH]at J
     grind
    grind
   grind
  .
   rename_i e kk hk af;obtain⟨d0,ah,ai⟩:=fQ hk;obtain⟨N,R,h2,h3⟩:=(g.ty ah).dS;rw[ai]at h2;have:=jS h2;subst this;obtain⟨d1,jE,S⟩:=fQ af;obtain⟨aj,g1,g2,g3⟩:=(g.ty jE).dS;rw[S]at g2;have:=Fp g2;subst this;have C:∀v w',(append_ #[t,t'] ty #[us,ux]).run P w=.ok v w'->
    (do let d<-resolve a.eval {callee:=.builtin .append,args,argTypes:=T} ty;invoke d.target d.args).run P w=.ok (.value v) w':=by
    intro v w' hv;simp[resolve,run_bind,run_pure,andThen_ok,invoke,builtin];rw[tF Q];have ea:T=#[t,t']:=Zac
    rw[ea,hv];rfl
   split at h
   .rename_i d hd;unfold mkApp at h;split at h
    .rename_i k m;have q:=i.mQ;subst q;have q:=j.fM;subst q;split at h
     .rename_i h0;subst h0;cases h;have key:=(GL (μ:=μ) (I:=I) (w:=w) (k:=k) g R g1 hd ty 0 Zaa).1 rfl
      exact⟨_,_,w,μ,C _ _ key,.inl rfl,i,s,.refl _ _ _ _⟩
     split at h
     .rename_i hc;obtain⟨aO,av,an,ao⟩:=hc;cases h;obtain⟨m,rfl⟩:=Int.eq_ofNat_of_zero_le (Int.le_of_lt aO);obtain⟨G,z,rest,k1,k2,k3,k4⟩:=(GL g R g1 hd ty m Zaa).2 Zaa an ao
      have aP:=(g.ty hd).info.choose_spec.choose_spec.2.2.2.2.2.1;have aV:=(g.ty hd).info.choose_spec.choose_spec.2.2.2.2.2.2.1;have hu:∀x∈replicate m d.zero,x.length=d.size:=λx j=>by rw[eq_of_mem_replicate j];exact aP
      have ho:∀x∈replicate m d.zero,∀y∈x,V.one y=true:=λx j y hy=>by rw[eq_of_mem_replicate j]at hy;grind
      obtain⟨μ',m1,o,K⟩:=Cc (xs:=[]) (ys:=replicate m d.zero) (old:=#[]) (new:=zeroCells z m) (rest:=rest) s.drew .nil (yp k3 m) Zab hu Zab ho (by simpa using k1) Zac
      simp at m1 o K;refine⟨_,_,_,μ',C _ _ k4,.inl rfl,Zac,by simpa using o,?_⟩
      exact Step.trans s.drew (Step.pV rfl rfl ⟨rfl,rfl,le_succ _⟩) Zac
     cases h
    cases h
   cases h
  grind
 grind
def AT{es:Nat}{xs:T2}(a:∀x∈xs,x.length=es)(k:Nat)(b:k<=xs.length):(xs.take k).flatten=xs.flatten.take (k*es)/\(xs.drop k).flatten=xs.flatten.drop (k*es):=by grind[take_append_drop,f_]
def R6(k:eG P E)(r:eD I μ n F a.tmps)(s:dw I μ H w){args:Array U'}{D:Array W'}{x:V}{ty:W'}
 (h:cK E F H (.call {callee:=.builtin .clear,args,argTypes:=D})=some (x,H')):
 DD P I μ H w (do let d<-resolve a.eval {callee:=.builtin .clear,args,argTypes:=D} ty;invoke d.target d.args) x H':=by
 simp[cK]at h;split at h
 .rename_i t v ab L;have⟨u,hu,g⟩:=(oy r L).one;split at h
  .rename_i e hk;have⟨d0,M,N⟩:=fQ hk;have⟨l,h1,m,R⟩:=(k.ty M).dS;rw[N]at m;have:=jS m;split at h
   .rename_i d hd;have⟨i,z,hi,an,ap,hz,S,ah,aq,_⟩:=(k.ty hd).info;have ai:∀w,(zeroValue e).run P w=.ok z w:=λw=>by simp_all[zeroValue,pK]
    have aj:z.cells.size=d.size:=by have:=(S (λ_=>none) (λ_=>none)).1;grind
    have J:∀v w',(clear_ D ty #[u]).run P w=.ok v w'->
     (do let d<-resolve a.eval {callee:=.builtin .clear,args,argTypes:=D} ty;invoke d.target d.args).run P w=.ok (.value v) w':=by
     grind[resolve,run_bind,run_pure,andThen_ok,invoke,builtin,tF]
    have T:∀U f,u=.slice U 0 f->DD P I μ H w (do let d<-resolve a.eval {callee:=.builtin .clear,args,argTypes:=D} ty;invoke d.target d.args) .undef H:=λU f q=>by subst q;refine⟨_,.tuple #[],w,μ,J (.tuple #[]) w ?_,.inl rfl,bH.undef _ _,s,.refl _ _ _ _⟩;unfold clear_;cases U<;>simp[ab,R]
    unfold Eg at h;split at h
    .cases h;exact T _ _ g.mQ
    .have⟨U,q⟩:=g.tK;grind
    .rename_i id es off len;split at h
     .rename_i O;subst O;split at h
      .rcases g.mL with⟨p,f,_,_,_,_,q⟩|⟨_,U,q⟩
       all_goals grind
      rename_i len;split at h
      .rename_i ak Q W;split at h
       .rename_i X;cases h;have⟨p,c,el,hp,hI,C,B⟩:=s.obs id _ W;rcases g.mL with⟨q,f,A,al,ao,am,rfl⟩|⟨h0,_⟩
        .rw[hp]at A;cases A;have O:ak=d.size:=by rw[<-B.es_eq,al]
         subst O;have ar:(zeroCells z.cells (len+1)).size=(len+1)*d.size:=by rw[rC,aj]
         have au:=B.room;have Y:(off+(len+1))*d.size<=Q.length*d.size:=mul_le_mul_right _ X;rw[add_mul]at Y;have G:=yp (S I μ) (len+1);have av:∀x∈replicate (len+1) d.zero,x.length=d.size:=λx b=>by rw[eq_of_mem_replicate b];exact ah
         have aw:∀x∈replicate (len+1) d.zero,∀y∈x,V.one y=true:=λx b y hy=>by rw[eq_of_mem_replicate b]at hy;grind
         have⟨c',u1,j⟩:=wI (P:=P) (o:=p.o+off*d.size) (zeroCells z.cells (len+1)).toList 0 w c C (cR.SN G (λx b=>by
          grind[mem_flatten])) Zac
         rw[add_zero]at j;have Z:c'.size=c.size:=by have:=congrArg length j;grind
         have⟨s2,st2⟩:=s.write (ob':=.row d.size (Q.take off++replicate (len+1) d.zero++Q.drop (off+(len+1)))) W rfl hp
          ⟨p,c',el,hp,hI,jF _ (Array.getElem?_eq_some_iff.1 C).1,by
           have K:(Q.take off++replicate (len+1) d.zero++Q.drop (off+(len+1))).length=Q.length:=by simp;omega
           refine⟨B.es_eq,by rw[Z];exact B.sz,?_,?_,by rw[K,Z];grind,?_⟩
           .intro x b;rcases mem_append.1 b with b|b
            .rcases mem_append.1 b with b|b
             .exact B.qq x (mem_of_mem_take b)
             grind
            exact B.qq x (mem_of_mem_drop b)
           .intro x b;rcases mem_append.1 b with b|b
            .rcases mem_append.1 b with b|b
             .exact B.one x (mem_of_mem_take b)
             grind
            exact B.one x (mem_of_mem_drop b)
           rw[K,j];have hL:=CC c.toList (zeroCells z.cells (len+1)).toList p.o (Q.length*d.size) (off*d.size) (by simp;omega) Zac
           rw[hL,flatten_append,flatten_append,(AT B.qq off Zaa).1,(AT B.qq _ X).2]
           have e:off*d.size+(zeroCells z.cells (len+1)).toList.length=(off+(len+1))*d.size:=Zac
           rw[e];exact((B.rel.take _).append G).append (B.rel.drop _)⟩
         refine⟨_,.tuple #[],_,μ,J (.tuple #[]) (gN w p.b (.cells c' el)) ?_,.inl rfl,bH.undef _ _,s2,st2⟩;simp_all[clear_]
        simp_all
       simp_all
      simp_all
     simp_all
    simp_all
   simp_all
  simp_all
 simp_all
theorem YZ(s t:V')(h:(s==t)=true):s=t:=by
 cases s with|mk a=>cases t with|mk b=>
 have u:(a==b)=true:=h;grind
inductive AE(P:Program)(E:Env)(t:TypeId):V->Value->Prop
 |int(k:IntKind)(m:Int)(h:P.underlying t=some (.int k)):AE P E t (.int k m) (.int k m)|str(s:ByteArray)(h:P.underlying t=some .string):AE P E t (.str s) (.string s)|agg(m:Nat)(cs:List V)(l:List Int)(h:x6 P t m)(hl:l.length=m)(hi:iL cs=some l):AE P E t (.agg cs) (.agg (ic l))
def Pp(B:eG P E){t:W'}{k:V}{v:WP}(h:Ce E t k=true)(b:bH I μ k v):AE P E t k v:=by
 unfold Ce at h;split at h;rename_i k1 k2 m c;have⟨d,hd,u⟩:=fQ c;have⟨a,f,w,D⟩:=(B.ty hd).dS;rw[u]at w;have:=Fp w;subst this;have e:k1=k2:=by grind
 subst e;rw[b.fM];exact .int _ _ f;next s c=>have⟨d,hd,u⟩:=fQ c;have⟨a,f,w,D⟩:=(B.ty hd).dS;rw[u]at w;have:=BH w;subst this;rw[b.uY];exact .str _ f
 rename_i cs _;split at h;next m z=>simp[isSome_iff_exists]at h;have⟨G,l,hi⟩:=h;obtain⟨J,rfl,C⟩:=b.iZ;obtain⟨rfl,e⟩:=rj hi C;exact .agg m cs l (B.eqN _ _ z) Zaa hi
 grind;grind
theorem OW(d:Nat)(e:X'){t:W'}{k:T'}{m:Int}(h:P.underlying t=some (.int k)):(checkKey e (d+1) t (.int k m)).run P w=.ok () w:=by simp[checkKey,run_bind,dS h,andThen_ok,run_pure]
theorem P7(d:Nat)(e:X'){t:W'}{m:V'}(h:P.underlying t=some .string):(checkKey e (d+1) t (.string m)).run P w=.ok () w:=by simp[checkKey,run_bind,dS h,andThen_ok,run_pure]
def Ar{t:W'}{k:V}{v:WP}(h:AE P E t k v)(e:X'):(checkKey e 10000 t v).run P w=.ok () w:=by cases h with|int k m h=>grind[OW]|str s h=>grind[P7]|agg m cs l h u hi=>exact h.check w e l u
def mP(I:cG)(μ:Mu)(es:aX MapEntry)(i:Nat):aY (Nat×V)->aY (Nat×WP)->Prop
 |none,none=>True|some (j,x),some (B,v)=>j=B/\bH I μ x v/\i<=j/\∃e,es[j-i]?=some e/\e.val=v|_,_=>False
def D_{d:TypeDesc}{k:V}{v:WP}(hd:(∃kk m,d=.int kk/\k=.int kk m/\v=.int kk m)\/(∃s,d=.string/\k=.str s/\v=.string s)):
 ∀(B:aX (V×V))(es:aX MapEntry)(i:Nat)(r:aY (Nat×V)),B.length=es.length->(∀(j:Nat)q e,B[j]?=some q->es[j]?=some e->bH I μ q.1 e.key/\bH I μ q.2 e.val)->
 i_ k B i=some r->∃D,findNow d v es i=some D/\mP I μ es i r D/\∀j x,r=some (j,x)->∃e,es[j-i]?=some e/\e.key=v:=by
 intro B
 induction B with
 |nil=>
  intro es i r O _ h
  cases es with
  |nil=>simp only[i_,ζa]at h;subst h;exact⟨none,rfl,trivial,Zab⟩|cons _ _=>simp_all
 |cons q B Q=>
  intro es i r O c h
  cases es with
  |nil=>simp_all|cons e es=>
   have⟨C,S⟩:=q;have⟨g1,g2⟩:=c 0 (C,S) e rfl rfl;simp only[i_]at h;have u:∀b,yB k C=some b->sameNow d v e.key=some b/\(b=true->e.key=v):=by
    intro b w;rcases hd with⟨kk,m,rfl,rfl,rfl⟩|⟨s,rfl,rfl,rfl⟩
    .cases C<;>simp only[yB]at w<;>(try grind);rename_i k2 Y;split at w;rename_i G;simp only[ζa]at w;subst w;subst G;rw[g1.fM];grind[sameNow];grind
    cases C<;>simp only[yB]at w<;>(try (simp at w;done));simp only[ζa]at w;subst w;rw[g1.uY];grind[sameNow,YZ]
   split at h
   .rename_i hk;have⟨f,Z⟩:=u true hk;simp only[ζa]at h;subst h;refine⟨some (i,e.val),by grind[findNow],⟨rfl,g2,le_refl _,e,Zab,rfl⟩,?_⟩
    grind
   .rename_i hk;have⟨f,_⟩:=u false hk;have⟨D,p1,p2,p3⟩:=Q es (i+1) r Zac (λj a b x y=>c (j+1) a b (by simpa using x) (by simpa using y)) h
    refine⟨D,by grind[findNow],?_,?_⟩
    .cases r with
     |none=>all_goals grind[mP]|some z=>
      cases D with
      |none=>grind[mP]|some T=>have⟨U,W,g,J,l,X⟩:=p2;exact⟨U,W,Zaa,J,by rw[show z.1-i=(z.1-(i+1))+1 by omega];grind,X⟩
    intro j x L;have⟨J,n,o⟩:=p3 j x L;subst L;have:i+1<=j:=by cases D with|none=>grind[mP]|some T=>exact p2.2.2.1
    grind
   grind
def N5{t:W'}{m:Nat}(T:x6 P t m){cs:S'}{l:SW}(U:l.length=m)(hi:iL cs=some l):
 ∀(B:aX (V×V))(es:aX MapEntry)(i:Nat)(r:aY (Nat×V)),B.length=es.length->(∀(j:Nat)q e,B[j]?=some q->es[j]?=some e->bH I μ q.1 e.key/\bH I μ q.2 e.val)->
 i_ (.agg cs) B i=some r->∃D,(findAsking t (.agg (ic l)) es i).run P w=.ok D w/\mP I μ es i r D/\∀j x,r=some (j,x)->∃e,es[j-i]?=some e/\e.key=.agg (ic l):=by
 intro B
 induction B with
 |nil=>
  intro es i r C _ h
  cases es with
  |nil=>simp[i_]at h;subst h;exact⟨none,rfl,trivial,Zab⟩|cons _ _=>simp_all
 |cons q B W=>
  intro es i r C c h
  cases es with
  |nil=>simp_all|cons e es=>
   have⟨G,X⟩:=q;have⟨g1,g2⟩:=c 0 (G,X) e rfl rfl;simp[i_]at h;have u:∀b,yB (.agg cs) G=some b->(equal t (.agg (ic l)) e.key).run P w=.ok b w/\(b=true->e.key=.agg (ic l)):=by intro b J;cases G<;>simp[yB]at J<;>(try (simp at J));obtain⟨n,Y,O,x2,o,rfl⟩:=yL J;rw[hi]at O;cases O;have⟨p,ev,L⟩:=g1.iZ;obtain⟨rfl,e2⟩:=rj x2 L;rw[ev];refine⟨T.key w l Y U Zaa,?_⟩;grind
   split at h
   .rename_i hk;have⟨d,s⟩:=u true hk;simp at h;subst h;refine⟨some (i,e.val),by simp[findAsking,d],⟨rfl,g2,le_refl _,e,Zab,rfl⟩,?_⟩
    grind
   .rename_i hk;have⟨d,_⟩:=u false hk;have⟨D,p1,p2,p3⟩:=W es (i+1) r Zac (λj a b x y=>c (j+1) a b Zac (by simpa using y)) h
    refine⟨D,by simp_all[findAsking],?_,?_⟩
    .cases r with
     |none=>all_goals grind[mP]|some z=>
      cases D with
      |none=>grind[mP]|some Z=>have⟨f,g,v,Q,A,k⟩:=p2;exact⟨f,g,Zaa,Q,by rw[show z.1-i=(z.1-(i+1))+1 by omega];grind,k⟩
    intro j x S;have⟨Q,E,F⟩:=p3 j x S;subst S;have:=by cases D with|none=>grind[mP]|some Z=>exact p2.2.2.1
    grind
   grind
def wN{t:W'}{k:V}{v:WP}(h:AE P E t k v){B:aX (V×V)}{es:Array MapEntry}(a:w_ I μ B es){r:aY (Nat×V)}(G:i_ k B 0=some r):
 ∃D,(findKey t v es.toList).run P w=.ok D w/\mP I μ es.toList 0 r D/\∀j x,r=some (j,x)->∃e,es[j]?=some e/\e.key=v:=by
 have u:=by simpa using a.1
 have z:∀(j:Nat)q e,B[j]?=some q->es.toList[j]?=some e->bH I μ q.1 e.key/\bH I μ q.2 e.val:=λj q e x y=>a.2 j q e x Zac
 have fin:∀(D:aY (Nat×WP)),(∀j x,r=some (j,x)->∃e,es.toList[j-0]?=some e/\e.key=v)->∀j x,r=some (j,x)->∃e,es[j]?=some e/\e.key=v:=by grind
 cases h with
 |int kk m h=>have⟨D,g1,g2,g3⟩:=D_ (.inl ⟨kk,m,rfl,rfl,rfl⟩) B es.toList 0 r u z G;simp_all[findKey,dS]|str s h=>have⟨D,g1,g2,g3⟩:=D_ (.inr ⟨s,rfl,rfl,rfl⟩) B es.toList 0 r u z G;simp_all[findKey,dS]|agg m cs l h J hi=>
  have⟨D,g1,g2,g3⟩:=N5 (w:=w) h J hi B es.toList 0 r u z G;have⟨d,hd,L⟩:=h.kind;refine⟨D,?_,g2,fin D g3⟩;simp[findKey,run_bind,dS hd,andThen_ok]
  cases C:es.toList with
  |nil=>
   rw[C]at g1
   grind[findNow,findAsking]
  |cons e rest=>simp_all[findNow,sameNow]
def Bg{b:Nat}{o:Obj}(h:w.heap[b]?=some o)(B:∀c e f,o≠.cells c e f):(getObj b).run P w=.ok o w:=by grind[getObj,Sem.run]
def SH(s:dw I μ H w){m:V}{v:WP}(d:bH I μ m v){B:aX (V×V)}(h:nO H m=some B):
 (v=.map none/\B=[])\/∃b es a,v=.map (some b)/\w.heap[b]?=some (.map es a)/\w_ I μ B es:=by
 cases m with
 |gR=>simp only[nO,ζa]at h;exact .inl ⟨d.SJ,h.symm⟩|fmap k=>
  simp[nO]at h;subst h
  cases d with
  |c _ _ d=>cases d with
   |fmap _ b es C D hk u=>have⟨f,g⟩:=s.imm _ _ C;exact .inr ⟨b,es,f,rfl,g,D,λj q e x y=>⟨.c _ _ (hk j q e x y),.c _ _ (u j q e x y)⟩⟩
 |hmap id=>
  simp[nO]at h;split at h
  .rename_i G z;simp at h;have⟨p,es,f,g1,g2,g3,g4⟩:=s.obs id _ z;have⟨q,J,e⟩:=d.C2
   grind
  grind
 |_=>simp[nO]at h
def PB(T:eG P E)(r:eD I μ n F a.tmps)(s:dw I μ H w){t:W'}{m k:U'}{ok:X'}{x:V}(h:d_ E F H (.lookup t m k ok)=some x):
 ∃v,(Instr.lookup t (a.eval m) (a.eval k) ok).run P w=.ok v w/\bH I μ x v:=by
 simp[d_]at h;split at h
 .rename_i kt et mv kv hk hm O;obtain⟨d,hd,Q⟩:=fQ hk;obtain⟨c,l,Z,e⟩:=(T.ty hd).dS;rw[Q]at Z;have:=Bi Z;subst this;split at h
  .rename_i de S U J;split at h
   .rename_i W;have D:=Pp T W (dJ r O);obtain⟨z,f,X⟩:=(T.ty U).VD;obtain⟨es,L,G⟩:∃es:Array MapEntry,w_ I μ S es/\∀u,(findKey kt (a.eval k) es.toList).run P w=.ok u w->(Instr.lookup t (a.eval m) (a.eval k) ok).run P w=
     .ok (if ok then .tuple #[(u.map (·.2)).getD z,.bool u.isSome]else(u.map (·.2)).getD z) w:=by
     rcases SH s (dJ r hm) J with⟨e1,rfl⟩|⟨b,es,o,e1,e2,e3⟩
     .refine⟨#[],⟨rfl,Zab⟩,λu C=>?_⟩
      unfold Instr.lookup;rw[e1];simp[run_bind,e,andThen_ok,run_pure,Ar D,C];cases u<;>cases ok<;>simp[f]
     refine⟨es,e3,λu C=>?_⟩
     unfold Instr.lookup;rw[e1];simp[run_bind,e,andThen_ok,run_pure,Bg e2 Zab,Ar D,C]
     cases u<;>cases ok<;>simp[f]
    split at h
    .rename_i j y _ B;simp at h;obtain⟨u,Y,g,_⟩:=wN D L B
     cases u with
     |none=>grind[mP]|some q=>
      obtain⟨_,i,_⟩:=g;refine⟨_,G _ Y,?_⟩;subst h
      cases ok with
      |true=>exact .Uh (.cons i (.cons (.c _ _ (.bool _)) .nil))|false=>exact i
    .rename_i y B hy;simp at h;obtain⟨u,Y,g,_⟩:=wN D L B
     cases u with
     |some q=>grind[mP]|none=>
      refine⟨_,G _ Y,?_⟩;subst h
      cases ok with
      |true=>exact .Uh (.cons (X _ _ _ hy) (.cons (.c _ _ (.bool _)) .nil))|false=>grind
    grind
   grind
  grind
 grind
theorem Lx(l:SW)(d:Nat):sameBits (d+2) (.agg (ic l)) (.agg (ic l))=true:=by simp only[sameBits,beq_self_eq_true,Bool.true_and,all_eq_true];intro p u;obtain⟨j,w,rfl⟩:=List.mem_iff_getElem.1 u;simp[ic,sameBits]
def R7{t:W'}{k:V}{v:WP}(h:AE P E t k v):(Instr.keyThatStays v v).run P w=.ok v w:=by
 have:sameBits 10000 v v=true:=by cases h with|int k m h=>simp[sameBits]|str s h=>simp[sameBits];exact(by cases s;exact beq_self_eq_true (α:=Array UInt8) _)|agg m cs l h u hi=>grind[Lx]
 simp_all[Instr.keyThatStays]
def Hp{b:Nat}{es:Array MapEntry}{a:Nat}(o:Obj)(h:w.heap[b]?=some (.map es a)):(setObj b o).run P w=.ok () (gN w b o):=by simp only[setObj,Sem.run,h];rfl
def Bq(A:eG P E)(r:eD I μ n F a.tmps)(s:dw I μ H w){t:W'}{m k y:U'}{x:V}(h:cK E F H (.mapUpdate t m k y)=some (x,H')):
 DD P I μ H w (do Instr.mapUpdate t (a.eval m) (a.eval k) (a.eval y);pure .skip) x H':=by
 simp only[cK]at h;split at h
 .rename_i kt et id X Y hk hm T hy;have⟨d,hd,Z⟩:=fQ hk;have⟨K,b,D,M⟩:=(A.ty hd).dS;rw[Z]at D;have:=Bi D;subst this;split at h
  .rename_i C S;split at h
   .rename_i aa;simp only[ζf,ζc]at h;obtain⟨af,u,rfl,rfl⟩:=h;have G:=Pp A aa (dJ r T);have⟨p,es,c,g1,g2,g3,g4⟩:=s.obs id _ S;have⟨q,N,R⟩:=(dJ r hm).C2;rw[g1]at N;cases N;have Q:=(Array.getElem?_eq_some_iff.1 g3).1;have ah:∀(f:Unit->Sem Next),True:=λ_=>trivial
    unfold qJ at u;have ab:=dJ r T;have ad:=dJ r hy;split at u
    .rename_i j z B;simp only[ζa]at u;subst u;have⟨J,g,q2,q3⟩:=wN (w:=w) G g4 B
     cases J with
     |none=>grind[mP]|some J=>
      have⟨j',zv⟩:=J;obtain⟨rfl,_,_,e',ai,_⟩:=q2;have⟨e2,U,aj⟩:=q3 j z rfl;have hj:=(Array.getElem?_eq_some_iff.1 U).1;have L:w_ I μ (C.set j (X,Y)) (es.modify j λe=>{e with key:=a.eval k,val:=a.eval y}):=by refine⟨by simpa using g4.1,λi q e b D=>?_⟩;by_cases O:i=j;grind;rw[getElem?_set_ne (Ne.symm O)]at b;rw[Array.getElem?_modify]at D;rw[if_neg (Ne.symm O)]at D;exact g4.2 i q e b D
      have⟨l,v⟩:=s.write (ob':=.map (C.set j (X,Y))) (o:=.map (es.modify j λe=>{e with key:=a.eval k,val:=a.eval y}) c) S rfl g1
       ⟨p,_,c,g1,g2,jF _ Q,L⟩
      refine⟨.skip,undef,_,μ,?_,.inr ⟨rfl,rfl⟩,.undef I μ,l,v⟩;unfold Instr.mapUpdate;rw[R];have W:((es[j]?).map (·.key)).getD (a.eval k)=a.eval k:=by rw[U];grind
      simp only[run_bind,M,andThen_ok,Bg g3 Zab,Ar G,g,W,R7 G,Hp _ g3,run_pure]
    .rename_i B;simp only[ζa]at u;subst u;have⟨J,g,q2,q3⟩:=wN (w:=w) G g4 B
     cases J with
     |some q=>grind[mP]|none=>
      have L:w_ I μ (C++[(X,Y)]) (es.push {key:=a.eval k,val:=a.eval y,born:=c}):=by refine⟨by simp[g4.1],λi q e b D=>?_⟩;by_cases O:i<C.length;rw[List.getElem?_append_left O]at b;rw[Array.getElem?_push]at D;rw[if_neg (by rw[<-g4.1];omega)]at D;exact g4.2 i q e b D;have ae:=(ζe.1 b).1;simp at ae;have:i=C.length:=Zaa;subst this;simp at b;subst b;rw[Array.getElem?_push,if_pos g4.1]at D;grind
      have⟨l,v⟩:=s.write (ob':=.map (C++[(X,Y)])) (o:=.map (es.push {key:=a.eval k,val:=a.eval y,born:=c}) (c+1)) S rfl g1
       ⟨p,_,_,g1,g2,jF _ Q,L⟩
      refine⟨.skip,undef,_,μ,?_,.inr ⟨rfl,rfl⟩,.undef I μ,l,v⟩;unfold Instr.mapUpdate;rw[R];simp only[run_bind,M,andThen_ok,Bg g3 Zab,Ar G,g,Hp _ g3,run_pure]
    grind
   simp at h
  simp at h
 simp at h
theorem V2(B:eG P E)(r:eD I μ n F a.tmps)(s:dw I μ H w)(o:Oper){x:V}(h:d_ E F H o.op=some x):
 ∃v,(execOp a.eval o).run P w=.ok (.value v) w/\bH I μ x v:=by
 have⟨dst,op,ty,pos,after,b⟩:=o;simp only at h
 cases op with
 |load t p=>
  simp only[d_]at h;split at h
  next d D hd C=>have⟨u,c,z,_⟩:=DP B s hd (dJ r C) h;exact⟨u,gq c,z⟩
  simp at h
 |lookup t m k ok=>have⟨u,c,z⟩:=PB B r s h;exact⟨u,gq c,z⟩|_=>simp[d_]at h
def We(B:eG P E)(r:eD I μ n F a.tmps)(s:dw I μ H w)(o:Oper){x:V}(h:cK E F H o.op=some (x,H')):DD P I μ H w (execOp a.eval o) x H':=by
 have⟨dst,op,ty,pos,after,d⟩:=o;simp only at h
 cases op with
 |store t p q=>exact Sc B r s h|mapUpdate t m k y=>exact Bq B r s h|insert t m k y=>exact Bq (t:=t) (m:=m) (k:=k) (y:=y) B r s h|call c=>
  have⟨callee,args,u⟩:=c
  cases callee with
  |builtin b=>cases b with|append=>exact Pb B r s h|clear=>exact R6 B r s h|_=>simp[cK]at h
  |_=>grind[cK]
 |_=>simp[cK]at h
end
def vn{xs:S'}(h:V.iG xs=true):∀x∈xs,V.closed x=true:=by induction xs with|nil=>simp|cons x r u=>grind[V.iG]
def vC{xs:S'}(h:V.c7 xs=true):∀x∈xs,V.scalar x=true:=by induction xs with|nil=>simp|cons x r u=>grind[V.c7]
section
variable{I I':cG}{μ:Mu}{H H':bk}{w:World}
def bH.closed{x:V}{v:WP}(h:bH I μ x v)(d:x.closed=true):eF I x v:=by induction h with|c x v h=>omega|hsl id off len cap p w h1 O=>grind[V.closed]|hsl0 id es off a=>grind[V.closed]|hptr id el off p w=>grind[V.closed]|yld id p w=>grind[V.closed]|hmap id p w=>grind[V.closed]|clo f x y u v J L _ _ z B=>simp[V.closed]at d;exact .clo f x y u v J L (λj a b p q=>z j a b p q (vn d.1 a (mem_of_getElem? p))) (λj a b p q=>B j a b p q (vn d.2 a (mem_of_getElem? p)))|agg cs C D _ G=>exact .agg cs C D λj a b p q=>G j a b p q (vn d a (mem_of_getElem? p))|tup cs C D _ G=>exact .tup cs C D λj a b p q=>G j a b p q (vn d a (mem_of_getElem? p))
def eF.scalar{x:V}{v:WP}(h:eF I x v)(B:x.scalar=true):eF I' x v:=by induction h with|bool b=>exact .bool b|int k n=>exact .int k n|str s=>exact .str s|dH a=>exact .dH a|bG=>exact .bG|iF=>exact .iF|gR=>exact .gR|tI=>exact .tI|agg cs u w _ z=>exact .agg cs u w λj a b p q=>z j a b p q (vC B a (mem_of_getElem? p))|tup cs u w _ z=>exact .tup cs u w λj a b p q=>z j a b p q (vC B a (mem_of_getElem? p))|_=>grind[V.scalar]
def jr{f:V->aY V}:∀{xs ys:S'},iU f xs=some ys->ys.length=xs.length/\∀(j:Nat)y,ys[j]?=some y->∃x,xs[j]?=some x/\f x=some y:=by intro xs;induction xs with|nil=>grind[iU]|cons x xs u=>grind[iU]
def MF{f:V->aY V}:∀{xs ys:T2},mF f xs=some ys->ys.length=xs.length/\∀(j:Nat)y,ys[j]?=some y->∃x,xs[j]?=some x/\iU f x=some y:=by intro xs;induction xs with|nil=>grind[mF]|cons x xs u=>grind[mF]
def Od{f:V->aY V}:∀{xs ys:aX (V×V)},mw f xs=some ys->ys.length=xs.length/\∀(j:Nat)y,ys[j]?=some y->∃x,xs[j]?=some x/\f x.1=some y.1/\f x.2=some y.2:=by intro xs;induction xs with|nil=>grind[mw]|cons x xs u=>grind[mw]
def Obj.ic:Obj->aY IC
 |.cells c _ _=>some (.cells c)|.map es _=>some (.map es)|_=>none
def BY(μ:Mu)(H:bk)(T:So)(b:Nat):Prop:=∃id p ob,id∈T/\H[id]?=some ob/\ob.live=true/\μ id=some p/\p.b=b
open Classical in
noncomputable def plus(I:cG)(μ:Mu)(H:bk)(w:World)(T:So):cG:=λb=>
 match I b with
 |some x=>some x|none=>if BY μ H T b then(w.heap[b]?).bind Obj.ic else none
def p8(I:cG)(μ:Mu)(H:bk)(w:World)(T:So):cG.le I (plus I μ H w T):=by intro b x h;grind[plus]
theorem uV(s:dw I μ H w)(T:So):∀b x,plus I μ H w T b=some x->x.at w b:=by
 intro b x h;unfold plus at h;split at h;next y B=>cases h;exact s.imm b _ B
 split at h;have⟨o,z,u⟩:=ζg.1 h;cases o<;>simp[Obj.ic]at u;subst u;exact⟨_,_,z⟩;subst u;exact⟨_,z⟩;grind
theorem Ap{T:So}{b:Nat}(h:(plus I μ H w T b).isSome=true):(I b).isSome=true\/BY μ H T b:=by grind[plus]
theorem CP{T:So}{b:Nat}(h:BY μ H T b):iK μ H b:=by have⟨id,p,ob,_,h1,u,w,z⟩:=h;exact⟨id,p,ob,h1,u,w,z⟩
def Dm(s:dw I μ H w){T:So}{id es:Nat}{xs:T2}(B:id∈T)(h:(H[id]?).bind Ob.rows=some (es,xs)):
 ∃p c,μ id=some p/\plus I μ H w T p.b=some (.cells c)/\gM I μ p c es xs:=by
 have⟨ob,a,z⟩:=ζg.1 h;have u:=s.obs id ob a;rcases J6 z with rfl|rfl
 .have⟨p,c,el,g1,g2,g3,g4⟩:=u;refine⟨p,c,g1,?_,g4⟩;have C:BY μ H T p.b:=⟨id,p,_,B,a,rfl,g1,rfl⟩
  grind[plus,Obj.ic]
 have⟨p,c,g1,g2,g4⟩:=u;exact⟨p,c,g1,p8 _ _ _ _ _ _ _ g2,g4⟩
def gM.idx{p:Pl}{c:Array WP}{es:Nat}{xs:T2}(r:gM I μ p c es xs){i j:Nat}{x:S'}{y:V}{v:WP}(a:xs[i]?=some x)(B:x[j]?=some y)
 (D:c[p.o+i*es+j]?=some v):bH I μ y v:=by
 have w:=xF r.qq a B;refine r.rel.2 (i*es+j) y v w ?_;have u:=(ζe.1 w).1;rw[f_ r.qq]at u
 grind
def kU{f:V->So}{xs:S'}{x:V}{k:Nat}(B:x∈xs)(a:k∈f x):k∈dh f xs:=by induction xs with|nil=>simp_all|cons y r u=>grind[dh]
theorem jK(n:Nat)(H:bk){x:V}(h:x.closed=true):borrow n H x=some x:=by cases n<;>simp[borrow,h]
def wm(s:dw I μ H w)(T:So):∀(n:Nat)(x y:V)(v:WP),borrow n H x=some y->(∀k∈ct n H x,k∈T)->bH I μ x v->
 eF (plus I μ H w T) y v/\(x.one=true->y.one=true):=by
 intro n
 induction n with
 |zero=>
  intro x y v h _ g;simp only[borrow]at h;split at h
  next A=>simp at h;subst h;exact⟨(g.closed A).mono (p8 _ _ _ _ _),id⟩
  grind
 |succ n ih=>
  intro x y v h O g;simp[borrow]at h;split at h
  next A=>simp at h;subst h;exact⟨(g.closed A).mono (p8 _ _ _ _ _),id⟩
  rename_i al;simp[ct,if_neg al]at O;split at h
  .
   rename_i id es off len;split at h
   .rename_i B xs J;split at h
    .rename_i A;obtain⟨rfl,am⟩:=A;simp only[J]at O;simp at h;obtain⟨U,l,rfl⟩:=h;have⟨P,W⟩:=MF l;refine⟨?_,λ_=>rfl⟩
     have aj:U.length=len:=Zac
     rcases g.mL with⟨p,E,r,hp,ar,R,rfl⟩|⟨h0,a,rfl⟩
     .have⟨p',c,g1,g2,g3⟩:=Dm s (O id Zab) J
      rw[r]at g1;cases g1;have X:∀i z,U[i]?=some z->∃Q,xs[off+i]?=some Q/\iU (borrow n H) Q=some z:=by grind
      have ak:∀i Q,i<len->xs[off+i]?=some Q->∀q∈Q,∀k∈ct n H q,k∈T:=by intro i Q hi an q F k d;refine O k ?_;refine mem_cons_of_mem _ (kU (mem_flatten.2 ⟨Q,mem_of_getElem? (i:=i) ?_,F⟩) d);rw[getElem?_take,if_pos hi,getElem?_drop];exact an
      have au:eF (plus I μ H w T) (.fsl B U) (.slice (some ⟨p.b,p.o+off*B,none⟩) U.length E):=by refine .fsl B U p.b (p.o+off*B) E c g2 Zaa ?_ ?_ ?_ ?_;intro z af;have⟨i,hi⟩:=List.mem_iff_getElem?.1 af;have⟨Q,G,Y⟩:=X i z hi;rw[(jr Y).1];exact g3.qq Q (mem_of_getElem? G);intro z af q F;have⟨i,hi⟩:=List.mem_iff_getElem?.1 af;have⟨Q,G,Y⟩:=X i z hi;have⟨j,m⟩:=List.mem_iff_getElem?.1 F;have⟨L,D,Z⟩:=(jr Y).2 j q m;have ad:=mem_of_getElem? G;have ae:=mem_of_getElem? D;have ao:=g3.room;have aw:=g3.qq Q ad;have ax:=(ζe.1 D).1;have ap:=(ζe.1 G).1;have av:(off+i)*B+B<=xs.length*B:=(by have:=mul_le_mul_right B (ap);grind);have aq:=Zaa;have K:=g3.idx G D (v:=c[p.o+(off+i)*B+j]) (by simp[aq]);exact(ih L q _ Z (ak i Q (by have:=(ζe.1 hi).1;omega) G L ae) K).2 (g3.one Q ad L ae);have t:=(g3.span am).2;grind;intro i j z q u hi m hu;have⟨Q,G,Y⟩:=X i z hi;have⟨L,D,Z⟩:=(jr Y).2 j q m;have K:=g3.idx G D (v:=u) Zac;exact(ih L q u Z (ak i Q (by have:=(ζe.1 hi).1;omega) G L (mem_of_getElem? D)) K).1
      grind
     subst h0;have:=List.eq_nil_of_length_eq_zero aj;subst this;exact .fsl0 B _ _
    grind
   grind
  .
   rename_i id el off;split at h
   .rename_i B xs J;split at h
    .rename_i cs ah;split at h
     .simp only[J]at O;simp at h;obtain⟨U,l,rfl⟩:=h;have⟨P,W⟩:=jr l;refine⟨?_,λ_=>rfl⟩
      obtain⟨p,r,rfl⟩:=g.u5;have⟨p',c,g1,g2,g3⟩:=Dm s (O id Zab) J
      rw[r]at g1;cases g1;have⟨k1,k2,k3⟩:=g3.elem ah;rw[g3.es_eq];refine .fptr U p.b _ c g2 ?_ ?_
      .rw[P,List.length_drop];omega
      intro j q u m hu;have⟨L,D,Z⟩:=W j q m;rw[getElem?_drop]at D;have K:=g3.idx ah D (by rw[<-add_assoc];exact hu)
      refine(ih L q u Z (λk d=>O k ?_) K).1
      exact mem_cons_of_mem _ (kU (mem_of_getElem? (i:=j) (by rw[ah,getD_some,getElem?_drop];exact D)) d)
     simp at h
    simp at h
   simp at h
  .
   rename_i id;split at h
   .rename_i ay ai;simp at h;obtain⟨U,l,rfl⟩:=h;simp only[ai]at O;have⟨P,W⟩:=Od l;refine⟨?_,λ_=>rfl⟩
    obtain⟨p,r,rfl⟩:=g.C2;have⟨p',es,cl,g1,g2,g3,g4⟩:=s.obs id _ ai;rw[r]at g1;cases g1;have ht:BY μ H T p.b:=⟨id,p,_,O id Zab,ai,rfl,r,rfl⟩
    have hI:plus I μ H w T p.b=some (.map es):=by grind[plus,Obj.ic]
    refine .fmap U p.b es hI (by rw[P];exact g4.1) ?_ ?_
    .intro j q e m he;have⟨L,t,h2,h3⟩:=W j q m;refine(ih L.1 q.1 e.key h2 (λk d=>O k ?_) (g4.2 j L e t he).1).1
     exact mem_cons_of_mem _ (mem_append.2 (.inl (kU (mem_map.2 ⟨L,mem_of_getElem? t,rfl⟩) d)))
    intro j q e m he;have⟨L,t,h2,h3⟩:=W j q m;refine(ih L.2 q.2 e.val h3 (λk d=>O k ?_) (g4.2 j L e t he).2).1
    exact mem_cons_of_mem _ (mem_append.2 (.inr (kU (mem_map.2 ⟨L,mem_of_getElem? t,rfl⟩) d)))
   simp at h
  .rename_i f p q;split at h
   .rename_i p' q' hp F;simp at h;subst h;obtain⟨M,u2,rfl,r1,r2⟩:=g.kS;have⟨N,m1⟩:=jr hp;have⟨l2,m2⟩:=jr F;refine⟨.clo f p' q' M u2 (by rw[N];simpa using r1.1) (by rw[l2];simpa using r2.1) ?_ ?_,λ_=>rfl⟩
    .intro j a b o R;have⟨a0,C,S⟩:=m1 j a o;exact(ih a0 a b S (λk d=>O k (mem_append.2 (.inl (kU (mem_of_getElem? C) d)))) (r1.2 j a0 b C Zac)).1
    intro j a b o R;have⟨a0,C,S⟩:=m2 j a o;exact(ih a0 a b S (λk d=>O k (mem_append.2 (.inr (kU (mem_of_getElem? C) d)))) (r2.2 j a0 b C Zac)).1
   simp at h
  .rename_i cs;simp at h;obtain⟨U,l,rfl⟩:=h;have⟨N,m1⟩:=jr l;obtain⟨M,rfl,r1⟩:=g.iZ;refine⟨.agg U M (by rw[N];simpa using r1.1) ?_,λh=>by grind[V.one]⟩
   intro j a b o R;have⟨a0,C,S⟩:=m1 j a o;exact(ih a0 a b S (λk d=>O k (kU (mem_of_getElem? C) d)) (r1.2 j a0 b C Zac)).1
  .rename_i cs;simp at h;obtain⟨U,l,rfl⟩:=h;have⟨N,m1⟩:=jr l;obtain⟨M,rfl,r1⟩:=g.qZ;refine⟨.tup U M (by rw[N];simpa using r1.1) ?_,λh=>by grind[V.one]⟩
   intro j a b o R;have⟨a0,C,S⟩:=m1 j a o;exact(ih a0 a b S (λk d=>O k (kU (mem_of_getElem? C) d)) (r1.2 j a0 b C Zac)).1
  grind
end
def fr(ro:aY Nat):Fence:={fn:=λ_=>True,depth:=none,alive:=false,round:=ro}
def zf(I:cG)(μ:Mu)(H:bk)(w:World)(r:V)(H':bk):Ending->World->Prop:=λe w'=>∃u I' μ',e=.returned u/\bH I' μ' r u/\dw I' μ' H' w'/\Step I μ H w I' μ' H' w'
def Ay(P:Program)(f:Y'):Prop:=∃fn,P.funcs[f]?=some fn/\fn.body.isSome=true/\(fn.name== "runtime.NumGoroutine")=false
structure lK(P:Program)(call:dP):Prop where
 fn:∀f args H r H',call (.fn f) args H=some (r,H')->Ay P f/\∀I μ w vs,dw I μ H w->cR I μ args vs->CallsIn (fr none) 0 P f vs.toArray w (zf I μ H w r H')
 yld:∀id args H r H',call (.yld id) args H=some (r,H')->∀I μ w vs p,dw I μ H w->cR I μ args vs->μ id=some p->
  ∃l f tmps assign body,(Instr.yield p.b vs.toArray).run P w=.ok (.round l f tmps assign body) w/\RoundIn (fr none) 0 P l f tmps assign body w (zf I μ H w r H')
def tT:Ob->Ob
 |.row es xs=>.frz es xs|.map _=>.dead|o=>o
theorem HX(H:bk)(k id:Nat):(vS H k)[id]?=(H[id]?).map λob=>if id=k then tT ob else ob:=by
 unfold vS;by_cases e:id=k;subst e;cases h:H[id]?with|none=>simp[h]|some ob=>have u:=(ζe.1 h).1;cases ob<;>simp[tT,u]<;>exact(ζe.1 h).2
 grind
theorem K_(o:Ob):tT (tT o)=tT o:=by cases o<;>rfl
theorem ja:∀(T:So)(H:bk)(id:Nat),(cZ H T)[id]?=(H[id]?).map λob=>if id∈T then tT ob else ob:=by intro T;induction T with|nil=>simp[cZ]|cons k T u=>intro H id;have:=u (vS H k) id;grind[cZ,HX,K_]
theorem mj(T:So)(H:bk):(cZ H T).length=H.length:=by induction T generalizing H with|nil=>rfl|cons k T u=>simp[cZ]at u⊢;rw[u];grind[vS]
section
variable{P:Program}{I I':cG}{μ μ':Mu}{H H':bk}{w w':World}
def dw.kept(s:dw I μ H w)(a:∀b,b<w.heap.size->w'.heap[b]?=w.heap[b]?):dw I μ H w' where
 dom:=s.dom
 imm:=λb x h=>IC.tH (s.imm b x h) (a b (s.Kd h))
 obs:=λid ob h=>(s.obs id ob h).mono (cG.le_refl _) (Mu.le_refl _) (λp u z=>by
  have C:iK μ H p.b:=⟨id,p,ob,h,z,u,rfl⟩
  grind[oe,gx]) (λB=>by subst B;exact s.obs id _ h)
 inj:=s.inj
 gl:=s.gl
theorem sx(μ:Mu)(b:Nat):¬iK μ [] b:=by rintro⟨id,p,ob,h,_⟩;simp_all
def Ew{call:dP}(M:lK P call){f:Y'}{args:S'}{y:V}(h:b8 call f args H=some y)(s:dw I μ H w){vs:aX WP}(n:cR I μ args vs):
 Ay P f/\CallsIn (fr none) 0 P f vs.toArray w (zf I μ H w y (if y.scalar then H else cZ H (dh (ct call.lv H) args))):=by
 unfold b8 at h;split at h
 .rename_i az has;split at h
  .rename_i r H1 S;split at h
   .rename_i y' hy;split at h
    .rename_i aa;simp at h;subst h;generalize N:dh (ct call.lv H) args=T;obtain⟨R,D⟩:=jr has;have s0:dw (plus I μ H w T) (λ_=>none) [] w:=⟨λ_ _=>rfl,uV s T,Zab,Zab,s.gl.mono (p8 I μ H w T)⟩
     have U:cR (plus I μ H w T) (λ_=>none) az vs:=by refine⟨R.trans n.1,λj a b d z=>?_⟩;obtain⟨x,Y,af⟩:=D j a d;refine .c _ _ (wm s T call.lv x a b af (λk o=>?_) (n.2 j x b Y z)).1;rw[<-N];exact kU (mem_of_getElem? Y) o
     obtain⟨hf,L⟩:=M.fn f az [] r H1 S;refine⟨hf,(L _ _ w vs s0 U).mono ?_⟩;rintro e w' ⟨u,I1,t,rfl,hr,v,st⟩;have B:=λb D=>st.frame b D (sx _ _)
     generalize ak:ct call.lv H1 r=T1;have A:=(wm v T1 call.lv r y' u hy (λk o=>Zac) hr).1
     cases ah:y'.scalar with
     |true=>exact⟨u,I,μ,rfl,.c _ _ (A.scalar ah),s.kept B,⟨cG.le_refl _,Mu.le_refl _,le_refl _,st.size,λb D _=>B b D,λ_ h=>h.elim .inl λh=>.inr (.inl h),st.os,st.out,st.fz⟩⟩|false=>
      simp only[false_eq_true,if_false]
      let I2:=plus I1 t H1 w' T1
      have G:cG.le I I2:=cG.le_trans (p8 I μ H w T) (cG.le_trans st.le (p8 _ _ _ _ _));have W:∀b,(I2 b).isSome=true->(I b).isSome=true\/BY μ H T b\/w.heap.size<=b:=by intro b D;have d:(I1 b).isSome=true\/iK t H1 b:=(by rcases Ap D with h|h;all_goals grind[CP]);rcases st.terr b d with h|h|h;all_goals grind[Ap,sx]
      have X:∀id ob p,H[id]?=some ob->ob.live=true->id∉T->μ id=some p->I2 p.b=none:=by intro id ob p d z h3 h4;cases E:I2 p.b with|none=>rfl|some x=>have F:iK μ H p.b:=⟨id,p,ob,d,z,h4,rfl⟩;rcases W p.b Zac with h|⟨O,p',ai,g0,g1,g2,g3,g4⟩|h;rw[gx s F]at h;cases h;have:=s.inj O id ai ob p' p g1 d g2 z g3 h4 g4;simp_all;have:=oe s F;omega
      have Q:∀id x,(cZ H T)[id]?=some x->∃ob,H[id]?=some ob/\x=(if id∈T then tT ob else ob):=by grind[ja]
      have C:∀id x,(cZ H T)[id]?=some x->x.live=true->H[id]?=some x/\(id∉T\/∃r,x=.loop r):=by intro id x Y g;obtain⟨ob,d,z⟩:=Q id x Y;by_cases Z:id∈T;rw[if_pos Z]at z;cases ob<;>simp[tT]at z<;>subst z<;>simp[Ob.live]at g;grind;grind
      refine⟨u,I2,μ,rfl,.c _ _ A,⟨?_,?_,?_,?_,s.gl.mono G⟩,⟨G,Mu.le_refl _,by rw[mj];grind,st.size,λb D _=>B b D,?_,st.os,st.out,st.fz⟩⟩
      .intro id h;rw[mj]at h;exact s.dom id h
      .grind[uV]
      .intro id x Y;obtain⟨ob,d,z⟩:=Q id x Y;have J:=s.obs id ob d
       by_cases Z:id∈T
       .rw[if_pos Z]at z
        cases ob with
        |row es xs=>
         subst z;obtain⟨p,c,g1,g2,g3⟩:=Dm s Z (by rw[d];rfl)
         exact⟨p,c,g1,p8 _ _ _ _ _ _ _ (st.le _ _ g2),g3.mono G (Mu.le_refl _)⟩
        |frz es xs=>subst z;exact J.mono G (Mu.le_refl _) (λp _ g=>by grind[Ob.live]) (λi=>by cases i)|map al=>subst z;trivial|free=>simp[tT]at z;subst z;exact J|dead=>subst z;trivial|loop r=>
         simp[tT]at z;subst z;obtain⟨p,l,g1,g2,g3,g4⟩:=J;refine⟨p,l,g1,?_,?_,g4.mono G (Mu.le_refl _)⟩
         .
          cases E:I2 p.b with
          |none=>rfl|some x=>
           have K:=uV v T1 p.b x E;have aj:=(Array.getElem?_eq_some_iff.1 g3).1;have m:=B p.b aj;rw[g3]at m
           cases x with
           |cells c=>obtain⟨_,_,q⟩:=K;rw[m]at q;cases q|map es=>obtain⟨_,q⟩:=K;rw[m]at q;cases q
         grind
       rw[if_neg Z]at z;subst z;refine J.mono G (Mu.le_refl _) (λp hp g=>⟨B _ (oe s ⟨id,p,x,d,g,hp,rfl⟩),X id x p d g Z hp⟩) (λi=>by subst i;exact J)
      .intro id O o1 o2 p p' d z l1 l2 m1 m2 D;exact s.inj id O o1 o2 p p' (C id o1 d l1).1 (C O o2 z l2).1 l1 l2 m1 m2 D
      intro b D;rcases D with h|⟨id,p,x,d,z,h3,rfl⟩
      .grind[CP]
      exact .inr (.inl ⟨id,p,x,(C id x d z).1,z,h3,rfl⟩)
    grind
   grind
  grind
 grind
def bH.scalar{x:V}{v:WP}(h:bH I μ x v)(B:x.scalar=true):bH I' μ' x v:=by
 have key:∀(l:S')(u:aX WP),(∀x∈l,∀v,bH I μ x v->x.scalar=true->bH I' μ' x v)->V.c7 l=true->(∀(j:Nat)a b,l[j]?=some a->u[j]?=some b->bH I μ a b)->
  ∀(j:Nat)a b,l[j]?=some a->u[j]?=some b->bH I' μ' a b:=by
  intro l
  induction l with
  |nil=>grind|cons x l z=>
   intro u f J L j a b C D;simp only[V.c7,ζh]at J
   cases j with
   |zero=>grind|succ j=>
    cases u with
    |nil=>simp at D|cons v u=>exact z u (λy w=>f y (mem_cons_of_mem _ w)) J.2 (λj a b p q=>L (j+1) a b Zac Zac) j a b Zac Zac
 have d:∀(k:Nat)(x:V)(v:WP),SizeOf.sizeOf x<k->bH I μ x v->x.scalar=true->bH I' μ' x v:=by intro k;induction k with|zero=>grind|succ k z=>intro x v g h B;cases h with|c _ _ h=>exact .c _ _ (h.scalar B)|agg cs u G h=>refine .agg cs u G (λj a b C D=>key cs u.toList (λy w v e B=>z y v ?_ e B) B (λj a b p q=>h j a b p (by simpa using q)) j a b C Zac);have:=List.sizeOf_lt_of_mem w;grind|tup cs u G h=>refine .tup cs u G (λj a b C D=>key cs u.toList (λy w v e B=>z y v ?_ e B) B (λj a b p q=>h j a b p (by simpa using q)) j a b C Zac);have:=List.sizeOf_lt_of_mem w;grind|_=>grind[V.scalar]
 exact d (SizeOf.sizeOf x+1) x v Zaa h B
def dw.N3(s:dw I μ H w){ob:Ob}{p:Pl}(T:ob≠.free)(Y:I p.b=none)(G:¬iK μ H p.b)(U:tV I (μ.gA H.length p) w H.length ob):
 dw I (μ.gA H.length p) (H++[ob]) w:=by
 have a:=s.dom _ (le_refl _);have u:∀id x,(H++[ob])[id]?=some x->(id≠H.length/\H[id]?=some x)\/(id=H.length/\x=ob):=by grind
 refine⟨?_,s.imm,?_,?_,s.gl⟩
 .intro id h;simp at h;rw[Mu.jd _ _ Zaa];exact s.dom id Zaa
 .intro id x h;rcases u id x h with⟨e,h⟩|⟨rfl,rfl⟩
  .refine(s.obs id x h).mono (cG.le_refl _) (Mu.rZ a) (λq Q S=>?_) (λW=>by subst W;rw[Mu.jd _ _ e];exact s.obs id _ h)
   exact⟨rfl,gx s ⟨id,q,x,h,S,Q,rfl⟩⟩
  grind
 intro id z o1 o2 q J h1 X L O B C D;rcases u id o1 h1 with⟨e1,k1⟩|⟨a1,Z⟩<;>rcases u z o2 X with⟨e2,k2⟩|⟨a2,b⟩
 .rw[Mu.jd _ _ e1]at B;rw[Mu.jd _ _ e2]at C;exact s.inj id z o1 o2 q J k1 k2 L O B C D
 .subst a2;rw[Mu.jd _ _ e1]at B;rw[Mu.gy]at C;cases C;exact absurd ⟨id,q,o1,k1,L,B,D⟩ G
 .subst a1;rw[Mu.jd _ _ e2]at C;rw[Mu.gy]at B;cases B;exact absurd ⟨z,J,o2,k2,O,C,D.symm⟩ G
 grind
theorem Xe{call:dP}(hc:lK P call){f:Y'}{args:S'}{y:V}(h:mK call f args H=some (y,H'))(s:dw I μ H w){vs:aX WP}(F:cR I μ args vs):
 Ay P f/\CallsIn (fr none) 0 P f vs.toArray w (zf I μ H w y H'):=by
 unfold mK at h;split at h
 .rename_i az has;split at h
  .rename_i r H1 L;generalize hT:dh (ct call.lv H) args=T;have⟨W,D⟩:=jr has;have s0:dw (plus I μ H w T) (λ_=>none) [] w:=⟨λ_ _=>rfl,uV s T,Zab,Zab,s.gl.mono (p8 I μ H w T)⟩
   have O:cR (plus I μ H w T) (λ_=>none) az vs:=by refine⟨W.trans F.1,λj a b d m=>?_⟩;have⟨x,U,aa⟩:=D j a d;refine .c _ _ (wm s T call.lv x a b aa (λk hk=>?_) (F.2 j x b U m)).1;rw[<-hT];exact kU (mem_of_getElem? U) hk
   have⟨hf,G⟩:=hc.fn f az [] r H1 L;refine⟨hf,(G _ _ w vs s0 O).mono ?_⟩;rintro e w' ⟨u,I1,μ1,rfl,n,s1,st⟩;have z:∀b,b<w.heap.size->w'.heap[b]?=w.heap[b]?:=λb D=>st.frame b D (sx _ _)
   have K:dw I μ H w':=s.kept z;have ab:Step I μ H w I μ H w':=⟨cG.le_refl _,Mu.le_refl _,le_refl _,st.size,λb D _=>z b D,λ_ h=>h.elim .inl λh=>.inr (.inl h),st.os,st.out,st.fz⟩
   split at h
   next ae=>simp only[ζa,ζc]at h;obtain⟨rfl,rfl⟩:=h;exact⟨u,I,μ,rfl,n.scalar ae,K,ab⟩

   have key:∀(id es off len:Nat)(v:V)(ob:Ob)(u:WP),uh H.length H1 id es off len=some (v,ob)->bH I1 μ1 (.hsl id es off len) u->
    ∃p,bH I (μ.gA H.length p) v u/\dw I (μ.gA H.length p) (H++[ob]) w'/\Step I μ H w I (μ.gA H.length p) (H++[ob]) w':=by
    intro id es off len v ob u B hu;unfold uh at B;split at B
    .rename_i X xs J;split at B
     .rename_i Q;obtain⟨rfl,am⟩:=Q;obtain⟨rfl,rfl⟩:=B;have⟨p,c,el,g1,g2,g3,g4⟩:=s1.obs id _ J;have an:w.heap.size<=p.b:=by
       rcases st.terr p.b (.inr ⟨id,p,_,J,rfl,g1,rfl⟩)with h|h|h
       .have⟨x,U⟩:=isSome_iff_exists.1 h;have:=st.le _ _ U
        grind
       all_goals grind[sx]
      have M:I p.b=none:=by cases U:I p.b with|none=>rfl|some x=>have:=s.Kd U;omega
      have hn:¬iK μ H p.b:=λho=>by have:=oe s ho;omega
      have af:gM I (μ.gA H.length p) p c X xs:=by refine⟨g4.es_eq,g4.sz,g4.qq,g4.one,g4.room,g4.rel.1,λj a b B D=>(g4.rel.2 j a b B D).scalar ?_⟩;have g:=mem_of_getElem? B;rw[mem_flatten]at g;grind
      have sa:=K.N3 (ob:=.row X xs) Zab M hn ⟨p,c,el,Mu.gy _ _ _,M,g3,af⟩
      refine⟨p,?_,sa,⟨cG.le_refl _,Mu.rZ (s.dom _ (le_refl _)),Zab,st.size,λb D _=>z b D,?_,st.os,st.out,st.fz⟩⟩
      .rcases hu.mL with⟨p',o,g,ah,ai,aj,t⟩|⟨h0,ad,t⟩
       .rw[g1]at g;cases g;rw[t];subst ah;exact .hsl _ off len o p (Mu.gy _ _ _) ai aj
       rw[t,h0];exact .hsl0 _ _ _ _
      rintro b (h|⟨k,q,x,d,m,N,rfl⟩)
      .exact .inl h
      by_cases e:k=H.length
      .grind[Mu.gy]
      rw[Mu.jd _ _ e]at N;have ak:k<H.length:=by have:=(ζe.1 d).1;grind
      rw[List.getElem?_append_left ak]at d;exact .inr (.inl ⟨k,q,x,d,m,N,rfl⟩)
     grind
    grind
   split at h
   next id es off len _=>simp only[ζf]at h;obtain⟨⟨v,ob⟩,B,rfl,rfl⟩:=h;have⟨p,k1,k2,k3⟩:=key id es off len v ob u B n;exact⟨u,I,_,rfl,k1,k2,k3⟩
   .rename_i id es off len rest _;split at h
    .rename_i S;simp only[ζf,ζc]at h;obtain⟨⟨v,ob⟩,B,rfl,rfl⟩:=h;obtain⟨A,rfl,C⟩:=n.qZ;have Y:0<A.toList.length:=by have:=C.1;grind
     obtain⟨i,E,Z⟩:∃i E,A.toList=i::E:=by cases hl:A.toList with|nil=>rw[hl]at Y;simp at Y|cons a b=>grind
     rw[Z]at C;have⟨p,k1,k2,k3⟩:=key id es off len v ob i B (C.2 0 _ _ rfl rfl);refine⟨_,I,_,rfl,.tup _ _ ?_ ?_,k2,k3⟩
     .have:=C.1;grind
     intro j a b R D;have al:(i::E)[j]?=some b:=by rw[<-Z];grind
     cases j with
     |zero=>grind|succ j=>
      simp at R al;refine(C.2 (j+1) a b Zac Zac).scalar ?_
      have:∀(l:S'),V.c7 l=true->∀x∈l,x.scalar=true:=by intro l;induction l with|nil=>grind|cons y l ih=>simp_all[V.c7]
      exact this rest S a (mem_of_getElem? R)
    simp at h
   grind
  grind
 grind
def X5{E:Env}{call:dP}(a:lK P call){f:Y'}{args:S'}{y:V}(h:gG E call f args H=some (y,H'))(s:dw I μ H w){vs:aX WP}(b:cR I μ args vs):
 Ay P f/\CallsIn (fr none) 0 P f vs.toArray w (zf I μ H w y H'):=by
 unfold gG at h;split at h
 .grind[Xe]
 have⟨k1,k2⟩:=a.fn f args H y H' h
 grind
end
def Ob.mp:Ob->aY (aX (V×V))
 |.map B=>some B|_=>none
def nV(H H2:bk):Prop:=∀id:Nat,(H[id]?).bind Ob.rows=(H2[id]?).bind Ob.rows/\(H[id]?).bind Ob.mp=(H2[id]?).bind Ob.mp
def nV.refl(H:bk):nV H H:=λ_=>⟨rfl,rfl⟩
def nV.symm{H H2:bk}(h:nV H H2):nV H2 H:=λid=>⟨(h id).1.symm,(h id).2.symm⟩
def nV.trans{H H2 B:bk}(h:nV H H2)(k:nV H2 B):nV H B:=λid=>⟨(h id).1.trans (k id).1,(h id).2.trans (k id).2⟩
theorem nV.of_eq{H H2:bk}(h:H=H2):nV H H2:=by subst h;exact .refl _
theorem Lf{H H2:bk}(h:nV H H2):∀n,borrow n H=borrow n H2:=by
 intro n
 induction n with
 |zero=>funext x;rfl|succ n u=>
  funext x
  cases x with
  |hsl id es off len=>simp only[borrow,(h id).1,u]|hptr id el off=>simp only[borrow,(h id).1,u]|hmap id=>have:=(h id).2;simp only[borrow,u];split;rfl;cases a:H[id]?with|none=>grind[Ob.mp]|some o=>cases w:H2[id]?with|none=>rw[a,w]at this;all_goals grind[Ob.mp]|some o2=>rw[a,w]at this;cases o<;>cases o2<;>simp[Ob.mp]at this<;>first|rfl|grind
  |_=>simp only[borrow,u]
theorem NZ{H H2:bk}(h:nV H H2):∀n,ct n H=ct n H2:=by
 intro n
 induction n with
 |zero=>funext x;rfl|succ n u=>
  funext x
  cases x with
  |hsl id es off len=>simp only[ct,(h id).1,u]|hptr id el off=>simp only[ct,(h id).1,u]|hmap id=>have:=(h id).2;simp only[ct,u];split;rfl;cases a:H[id]?with|none=>grind[Ob.mp]|some o=>cases w:H2[id]?with|none=>rw[a,w]at this;all_goals grind[Ob.mp]|some o2=>rw[a,w]at this;cases o<;>cases o2<;>simp[Ob.mp]at this<;>first|rfl|grind
  |_=>simp only[ct,u]
theorem A0{H H2:bk}(h:nV H H2)(call:dP)(f:Y')(args:S'):b8 call f args H=b8 call f args H2:=by grind[b8,borrows,Lf]
def Jw{H H2:bk}(h:nV H H2)(p:V)(n:Nat):eN H p n=eN H2 p n:=by cases p with|hptr id el off=>simp only[eN,(h id).1]|_=>rfl
def Of{H H2:bk}(h:nV H H2)(p:V):nO H p=nO H2 p:=by
 cases p with
 |hmap id=>have:=(h id).2;simp only[nO];cases a:H[id]?with|none=>grind[Ob.mp]|some o=>cases u:H2[id]?with|none=>rw[a,u]at this;all_goals grind[Ob.mp]|some o2=>rw[a,u]at this;cases o<;>cases o2<;>simp[Ob.mp]at this<;>first|rfl|grind
 |_=>rfl
theorem AL{E:Env}{F:WF}{H H2:bk}(h:nV H H2)(op:Op):d_ E F H op=d_ E F H2 op:=by cases op<;>simp only[d_,Jw h,Of h]
theorem wH{H H2:bk}(h:nV H H2)(T:So):jl H T=jl H2 T:=by unfold jl;congr 1;funext id;rw[(h id).1]
def Bd{H:bk}{T:So}(h:jl H T=true){id:Nat}(hi:id∈T):∃es xs,H[id]?=some (.row es xs)\/H[id]?=some (.frz es xs):=by unfold jl at h;rw[all_eq_true]at h;have:=h id hi;cases a:H[id]?with|none=>rw[a]at this;simp at this|some o=>rw[a]at this;cases o<;>simp[Ob.rows]at this<;>exact⟨_,_,by first|exact .inl rfl|exact .inr rfl⟩
def yG{H:bk}{b id:Nat}:(H.take b)[id]?=if id<b then H[id]?else none:=by rw[getElem?_take]
def su{H:bk}{T:So}{b:Nat}(h:jl (H.take b) T=true):nV (cZ H T) H:=by intro id;rw[ja];by_cases hi:id∈T;have⟨es,w,u⟩:=Bd h hi;rw[yG]at u;grind[tT,Ob.rows,Ob.mp];grind
def nV.take{H H2:bk}(h:nV H H2)(b:Nat):nV (H.take b) (H2.take b):=by intro id;rw[yG,yG];by_cases u:id<b;rw[if_pos u,if_pos u];exact h id;grind
def A7{H:bk}{T:So}{b:Nat}(h:jl (H.take b) T=true){id:Nat}(hi:id∈T):id<b:=by have⟨es,w,u⟩:=Bd h hi;rw[yG]at u;grind
def Fb{H:bk}{T:So}{k:Nat}{ob:Ob}(h:k∉T):cZ (H.set k ob) T=(cZ H T).set k ob:=by apply List.ext_getElem?;intro i;rw[ja];by_cases e:i=k;grind[mj];simp_all[Ne.symm,ja]
def K8(H:bk)(T B:So):cZ (cZ H T) B=cZ (cZ H B) T:=by apply List.ext_getElem?;grind[ja]
def Nw{H:bk}{b:Nat}:∀(n:Nat)(x:V),(∀id∈ct n (H.take b) x,id<b)->ct n H x=ct n (H.take b) x:=by intro n;induction n with|zero=>intro x _;rfl|succ n z=>have u:∀l:S',(∀id∈dh (ct n (H.take b)) l,id<b)->dh (ct n H) l=dh (ct n (H.take b)) l:=(by intro l;induction l with|nil=>intro _;rfl|cons x r w=>grind[dh]);intro x h;simp only[ct]at h⊢;split;all_goals grind
def vr{H:bk}{b n:Nat}:∀(l:S'),(∀id∈dh (ct n (H.take b)) l,id<b)->dh (ct n H) l=dh (ct n (H.take b)) l
 |[],_=>rfl|x::r,h=>by simp only[dh,mem_append]at h⊢;rw[Nw n x λid hi=>h id (.inl hi),vr r λid hi=>h id (.inr hi)]
def HB{H:bk}{b id es:Nat}{xs:T2}(h:((H.take b)[id]?).bind Ob.rows=some (es,xs)):(H[id]?).bind Ob.rows=some (es,xs):=by grind
theorem JF{H:bk}{b:Nat}{p:V}{n:Nat}{cs:S'}(h:eN (H.take b) p n=some cs):eN H p n=some cs:=by unfold eN at h⊢;grind
theorem MS{H:bk}{b:Nat}{m:V}{B:aX (V×V)}(h:nO (H.take b) m=some B):nO H m=some B:=by unfold nO at h⊢;grind
def AK{E:Env}{F:WF}{H:bk}{b:Nat}{op:Op}{x:V}(h:d_ E F (H.take b) op=some x):d_ E F H op=some x:=by cases op with|load t a=>grind[d_,ζg,JF]|lookup t m k ok=>grind[d_,MS]|_=>simp[d_]at h
theorem tW{f g:V->aY V}(B:∀x y,f x=some y->g x=some y):∀{xs ys:S'},iU f xs=some ys->iU g xs=some ys:=by intro xs;induction xs with|nil=>intro ys h;exact h|cons x xs u=>grind[iU]
theorem Lm{f g:V->aY V}(B:∀x y,f x=some y->g x=some y):∀{xs ys:T2},mF f xs=some ys->mF g xs=some ys:=by intro xs;induction xs with|nil=>intro ys h;exact h|cons x xs u=>grind[mF,tW]
theorem Lw{f g:V->aY V}(B:∀x y,f x=some y->g x=some y):∀{xs ys:aX (V×V)},mw f xs=some ys->mw g xs=some ys:=by intro xs;induction xs with|nil=>intro ys h;exact h|cons x xs u=>grind[mw]
theorem CO{H:bk}{b:Nat}:∀(n:Nat)(x y:V),borrow n (H.take b) x=some y->borrow n H x=some y:=by intro n;induction n with|zero=>intro x y h;exact h|succ n z=>intro x y h;simp[borrow]at h⊢;split at h;grind;rename_i c;rw[if_neg c];split at h;split at h;rename_i a;simp only[HB a];split at h;rename_i u;rw[if_pos u];grind[ζf,Lm];grind;grind;split at h;rename_i a;simp[HB a];split at h;split at h;rename_i w;rw[if_pos w];grind[ζf,tW];grind;grind;grind;all_goals grind[ζf,Lw,tW]
theorem qI{call:dP}{f:Y'}{args:S'}{H:bk}{b:Nat}{y:V}(h:b8 call f args (H.take b)=some y):b8 call f args H=some y:=by grind[b8,borrows,tW,CO]
theorem Bm(n:Nat)(H:bk){x:V}(h:x.closed=true):ct n H x=[]:=by cases n with|zero=>rfl|succ n=>simp[ct,h]
def HU(n:Nat)(H:bk){xs:S'}(h:V.iG xs=true):dh (ct n H) xs=[]:=by induction xs with|nil=>rfl|cons x r u=>grind[V.iG,dh,Bm]
section
variable{P:Program}{E:Env}{I I':cG}{μ μ':Mu}{H H':bk}{n:Nat}{F:WF}{a:Act}{w w':World}
def yR{f:Y'}(h:Ay P f)(args:Array WP):(callFunc f args).run P w=.ok (.enter f args) w:=by have⟨fn,a,B,u⟩:=h;unfold callFunc;have z:fn.body.isNone=false:=Zad;simp only[run_bind,run_program,andThen_ok,a,u,z,false_eq_true,if_false,run_pure]
theorem Ef{o:Oper}{ro:aY Nat}{K:Act->World->Prop}{Q:Exit->Act->World->Prop}{f:Y'}{args:Array WP}{r:V}
 (B:CallsIn (fr none) 0 P f args w (zf I μ H w r H'))(D:∀u I' μ' w',bH I' μ' r u->dw I' μ' H' w'->Step I μ H w I' μ' H' w'->K (a.put o.dst u) w'):
 o.uponIn (fr ro) 0 P a K Q (.ok (.enter f args) w):=by
 refine⟨λh=>by grind[fr],?_⟩
 have z:=B;refine z.mono ?_;rintro e w' ⟨u,I',μ',rfl,b,z,C⟩
 grind
def HN{x:V}(h:x.scalar=true){I:cG}{μ:Mu}{v:WP}(r:bH I μ x v):eF I x v:=by induction r with|c x v B=>omega|agg cs u w _ z=>exact .agg cs u w λj a b p q=>z j a b p q (vC h a (mem_of_getElem? p))|tup cs u w _ z=>exact .tup cs u w λj a b p q=>z j a b p q (vC h a (mem_of_getElem? p))|_=>grind[V.scalar]
theorem Vn(m:eG P E)(r:eD I μ n F a.tmps)(s:dw I μ H w)(o:Oper){x:V}(h:qg E F o.op=some x):
 ∃u I' w',(execOp a.eval o).run P w=.ok (.value u) w'/\bH I' μ x u/\dw I' μ H w'/\Step I μ H w I' μ H w':=by
 unfold qg at h;split at h
 rotate_left
 .cases h
 rename_i es C B n Y;split at h
 rotate_left
 .cases h
 rename_i t;obtain⟨rfl,rfl,Z⟩:=t;have⟨obj,p,u,A,W⟩:=Dv m r s o Y;have K:=W.len _ _ rfl;have⟨⟨q,c,el,g1,g2,g3,g4⟩,f⟩:=W.rel _ (s.dom _ (le_refl _));rw[Mu.gy]at g1;cases g1;have O:=W.b;have Q:obj=.cells c el:=by rw[O,nL]at g3;cases g3;rfl
 subst Q
 let I':cG:=λb=>if b=w.heap.size then some (.cells c)else I b
 have D:cG.le I I':=λb y L=>by grind
 have G:I' p.b=some (.cells c):=Zac
 have M:∀y∈C,∀z∈y,z.scalar=true:=λy L z N=>all_eq_true.1 (all_eq_true.1 Z y L) z N
 have g:∀b,b<w.heap.size->(w.alloc (.cells c el)).heap[b]?=w.heap[b]?:=λb S=>nH _ b S
 have af:∀b,b<w.heap.size->I' b=I b:=λb S=>Zac
 refine⟨u,I',_,A,?_,⟨s.dom,?_,?_,s.inj,s.gl.mono D⟩,⟨D,Mu.le_refl _,le_refl _,Zab,λb S _=>g b S,?_,rfl,⟨rfl,rfl,le_refl _⟩,λa S=>Pq W.nf a⟩⟩
 .refine .c _ _ ?_;have ah:∀d,C.length<=d->p.o+(0+d)*B<=p.sz->u=.slice (some ⟨p.b,p.o+0*B,none⟩) C.length d->eF I' x u:=by
   rintro d k1 k2 rfl;rw[zero_mul,add_zero];have hf:eF I' (.fsl B C) (.slice (some ⟨p.b,p.o,none⟩) C.length d):=.fsl B C p.b p.o d c G k1 g4.qq g4.one g4.room λi j y z v m1 l R=>eF.mono D (HN (M y (mem_of_getElem? m1) z (mem_of_getElem? l)) (g4.idx m1 l R))
   split at h
   .split at h
    .rename_i X;split at h
     rotate_left
     .cases h
     rename_i T;simp only[ζa]at h;subst h;simp only[List.isEmpty_iff,bne_iff_ne,ne_eq]at X T;subst X;have:d=0:=by simp only[List.length_nil,zero_mul]at K;rcases Nat.eq_zero_or_pos d with k|k;exact k;have:=Nat.mul_pos k (Nat.pos_of_ne_zero T);rw[Nat.zero_add]at k2;omega
     subst this;exact .dH _
    grind
   grind
  have hp:p.es=B:=g4.es_eq;change bH I _ (.hsl H.length B 0 C.length) u at f;generalize ad:C.length=ln at f
  cases f with
  |c _ _ ae=>cases ae|hsl id off len d p' hm k1 k2=>rw[Mu.gy]at hm;grind|hsl0 id es off a=>
   have X:C=[]:=List.length_eq_zero_iff.1 ad;subst X;split at h
   .split at h
    .split at h
     .simp only[ζa]at h;subst h;exact .dH _
     cases h
    grind
   simp only[ζa]at h;subst h;exact .fsl0 _ _ _
 .intro b y L
  by_cases e:b=w.heap.size
  .subst e;have:y=.cells c:=by have:=G;rw[O]at this;rw[this]at L;cases L;rfl
   subst this;exact⟨el,_,nL _⟩
  have U:I b=some y:=by have:(if b=w.heap.size then some (IC.cells c)else I b)=some y:=L;rw[if_neg e]at this;exact this
  exact IC.tH (s.imm b y U) (g b (IC.wV (s.imm b y U)))
 .intro id ob J;refine(s.obs id ob J).mono D (Mu.le_refl _) (λq hq hl=>?_) (λe=>by subst e;exact s.obs id _ J)
  have ho:iK μ H q.b:=⟨id,q,ob,J,hl,hq,rfl⟩;have ai:=oe s ho
  grind[gx]
 grind
def GV:∀{ys:T2}{l:SW},mm ys=some l->ys.flatten=l.map (V.int .u8)/\l.length=ys.length
 |[],l,h=>by cases h;grind|x::r,l,h=>by unfold mm at h;split at h;grind;rename_i n B e;cases e;obtain⟨k,a,rfl⟩:=ζf.1 h;have⟨u,w⟩:=GV a;grind;cases h
def Vf(T:eG P E)(r:eD I μ n F a.tmps)(s:dw I μ H w)(o:Oper){x:V}(h:evalConv E F H o.op=some x):∃u,(execOp a.eval o).run P w=.ok (.value u) w/\bH I μ x u:=by
 unfold evalConv at h;split at h;rename_i st O y B;split at h;rename_i e v Q hd f;split at h;rename_i S;obtain⟨D,g,U⟩:=ζg.1 h;obtain⟨l,W,rfl⟩:=ζf.1 U;obtain⟨X,i⟩:=GV W;have C:∀{t:W'}{k:TK},E.kindOf t=some k->∃d b,E.tt t=some d/\P.underlying t=some b/\mW b=k:=λ{t k}hk=>by unfold Env.kindOf at hk;obtain⟨d,g1,g2⟩:=ζf.1 hk;obtain⟨b,G,J,_⟩:=(T.ty g1).dS;grind
 obtain⟨_,m,_,p1,G⟩:=C Q;obtain⟨_,p,_,p2,J⟩:=C hd;obtain⟨_,A,_,p3,Y⟩:=C S;rw[jS G]at p1;rw[BH J]at p2;rw[Fp Y]at p3;obtain⟨L,c,arr,e1,_,e2,e3,_⟩:=A9 s (dJ r f) g;have z:arr=(l.map (Value.int .u8)).toArray:=by apply Array.ext';rw[X]at e3;refine List.ext_getElem (by simpa using e3.1.symm) λj g1 g2=>?_;have g3:j<l.length:=Zac;have:=e3.2 j (V.int .u8 l[j]) arr.toList[j] (by simp[g3]) (ζd g1);rw[this.fM];simp
 refine⟨.string (rT l),?_,.c _ _ (.str _)⟩;rw[show execOp a.eval o=_ from by unfold execOp;rw[B]];refine gq ?_;rw[e1];rw[run_convert_bytes_string w st O e L D.length c p1 p3 p2];cases L with|none=>have:=e2 w rfl;rw[e1]at this;simp only[firstCells,run_pure]at this;cases this;have Z:l=[]:=(by have:=congrArg Array.size z;grind);subst Z;rfl|some q=>have:=e2 w rfl;rw[e1]at this;simp only[firstCells,Nat.mul_one]at this;rw[z]at this;exact run_bytesToString w q D.length c l this
 cases h;cases h;cases h
def Tn(Y:eG P E){call:dP}(k:lK P call){ops:Rd}{place:aY (Nat×Nat)}{o:Oper}{x:V}(h:c_ E call ops place F H o.op=some (x,H'))
 (r:eD I μ n F a.tmps)(s:dw I μ H w)(ro:aY Nat){K:Act->World->Prop}{Q:Exit->Act->World->Prop}
 (t:∀u I' μ' w',bH I' μ' x u->dw I' μ' H' w'->Step I μ H w I' μ' H' w'->K (a.put o.dst u) w'):o.wpIn (fr ro) 0 P a w K Q:=by
 refine⟨λ_ _=>trivial,?_⟩
 have aa:∀c,o.op≠.defer c:=by intro c ab;rw[ab]at h;simp[c_,cT,uw,bK]at h;all_goals grind[evalConv]
 show o.uponIn (fr ro) 0 P a K Q ((o.semAt ro a.eval).run P w);rw[Oper.semAt_eq ro a.eval o aa];have ae:∀v,(execOp a.eval o).run P w=.ok (.value v) w->bH I μ x v->H'=H->o.uponIn (fr ro) 0 P a K Q ((execOp a.eval o).run P w):=by intro v e j hH;rw[e,Oper.uponIn_value];subst hH;exact t v I μ w j s (.refl _ _ _ _)
 unfold c_ at h;split at h
 .
  simp at h;obtain⟨v,j,rfl,rfl⟩:=h;unfold uw at j;split at j
  .rename_i hp;cases j;have⟨u,d,B⟩:=Wb (w:=w) Y r o hp
   grind
  split at j
  .have⟨u,d,B⟩:=Vf Y r s o j
   grind
  cases j
 .
  have hr:d_ E F H o.op=some x/\H'=H:=by split at h;simp at h;grind;split at h;split at h;(next v j=>obtain⟨rfl,rfl⟩:=h;exact⟨AK j,rfl⟩);split at h;simp at h;grind;grind;grind
  grind[V2]
 .
  by_cases G:ot E ops place=true
  .rw[if_pos G]at h
   grind[ζf,Vn,Oper.uponIn_value]
  rw[if_neg G]at h;split at h
  .rename_i ob m T;have⟨obj,p,u,d,B⟩:=Dv Y r s o T;rw[d,Oper.uponIn_value];have⟨g1,g2⟩:=B.rel _ (s.dom _ (le_refl _));have⟨s1,s2⟩:=s.push B.b g1 B.nf
   grind
  .rename_i ob m b i T;split at h
   .rename_i J;have⟨obj,p,u,d,B⟩:=Dv Y r s o T;rw[d,Oper.uponIn_value];have⟨g1,g2⟩:=B.rel _ (s.obs _ _ J);have⟨s1,s2⟩:=s.fill J B.b g1 B.nf
    grind
   grind
  grind
 .
  have hl:cK E F H o.op=some (x,H'):=by grind
  have⟨nx,u,w',μ',d,B,Z,A,R⟩:=(We Y r s o hl).run;rw[d];rcases B with rfl|⟨rfl,rfl⟩
  .exact t u I μ' w' Z A R
  exact t _ I μ' w' Z A R

 have z:∀c args,kL F o.op=some (c,args)->∃O:aX WP,cR I μ args O/\
  (∀f,c=.fn f->Ay P f->(execOp a.eval o).run P w=.ok (.enter f O.toArray) w)/\
  (∀id,c=.yld id->∃p,μ id=some p/\(execOp a.eval o).run P w=(Instr.yield p.b O.toArray).run P w):=by
  intro c args C;have⟨dst,op,ty,pos,after,M⟩:=o
  cases op with
  |call cl=>
   have⟨callee,L,ai⟩:=cl
   cases callee with
   |value f=>
    simp only[kL]at C;split at C
    .rename_i g p q O hf U;obtain⟨rfl,rfl⟩:=C;have⟨u,v,ef,hu,j⟩:=(dJ r hf).kS;have D:=oy r U;refine⟨u.toList++L.toList.map a.eval++v.toList,(hu.append D).append j,?_,Zab⟩
     simp_all[execOp,resolve,Deferred.ofValue,invoke,yR]
    .rename_i id O hf U;simp at C;obtain⟨rfl,rfl⟩:=C;have⟨p,N,ef⟩:=(dJ r hf).Vp;have D:=oy r U;refine⟨L.toList.map a.eval,D,Zab,?_⟩
     intro aj X;cases X;refine⟨p,N,?_⟩;simp[execOp,resolve,run_bind];rw[ef];simp[Deferred.ofValue,run_pure,andThen_ok,invoke]
     congr 1
     congr 1
     grind
    grind
   |_=>grind[kL]
  |_=>simp[kL]at C
 have S:∀f args y,kL F o.op=some (.fn f,args)->b8 call f args H=some y->x=y->H'=(if y.scalar then H else cZ H (dh (ct call.lv H) args))->
  o.uponIn (fr ro) 0 P a K Q ((execOp a.eval o).run P w):=by
  intro f args y d B Z A;have⟨O,g1,g2,_⟩:=z _ _ d;have⟨k1,k2⟩:=Ew k B s g1;rw[g2 f rfl k1]
  grind[Ef]
 have af:∀f args,kL F o.op=some (.fn f,args)->gG E call f args H=some (x,H')->o.uponIn (fr ro) 0 P a K Q ((execOp a.eval o).run P w):=by intro f args d B;have⟨O,g1,g2,_⟩:=z _ _ d;have⟨k1,k2⟩:=X5 k B s g1;rw[g2 f rfl k1];grind[Ef]
 have ah:∀id args,kL F o.op=some (.yld id,args)->call (.yld id) args H=some (x,H')->o.uponIn (fr ro) 0 P a K Q ((execOp a.eval o).run P w):=by intro id args d B;have⟨O,g1,_,g3⟩:=z _ _ d;have⟨p,N,e⟩:=g3 id rfl;have⟨l,f,tmps,assign,body,k1,k2⟩:=k.yld id args H x H' B I μ w O p s g1 N;rw[e,k1,Oper.uponIn_round];refine⟨λh=>by grind[fr],?_⟩;have B:=k2;refine B.mono ?_;rintro e w' ⟨u,I',μ',rfl,d,B,Z⟩;grind
 split at h
 .rename_i f args C;split at h
  rotate_left
  .cases h
  unfold eu at h;split at h
  .grind
  split at h
  .grind
  split at h
  .rename_i y hy;split at h
   next W=>simp at h;refine S f args y C (qI hy) h.1.symm ?_;rw[<-h.2,if_pos W]
   rename_i W;split at h
   next ad=>simp at h;refine S f args y C (qI hy) h.1.symm ?_;rw[<-h.2,if_neg W,vr _ λid hi=>A7 ad hi]
   simp at h
  grind
 all_goals grind
end
structure kR(B:Nat)(ds:List Deferred)(w:World):Prop where
 all:∀d∈ds,∃r,d.target=.collected r/\B<=r/\w.heap[r]?=some (.deferred (some []))
 apart:ds.Pairwise λd d'=>∀r,d.target=.collected r->d'.target≠.collected r
section
variable{P:Program}{E:Env}{I I' I'':cG}{μ μ' μ'':Mu}{H H' H'':bk}{n B:Nat}{F F':WF}{a:Act}{w w' w'':World}
def vW(s:dw I μ H w){r:Nat}{c:aY (aX Deferred)}(h:w.heap[r]?=some (.deferred c)):¬iK μ H r:=by rintro⟨id,p,ob,h1,D,z,rfl⟩;have:=s.obs id ob h1;cases ob with|row es G=>have⟨q,c,el,u,_,B,_⟩:=this;rw[z]at u;grind|map C=>have⟨q,c,el,u,_,B,_⟩:=this;rw[z]at u;grind|loop x=>have⟨q,c,u,_,B,_⟩:=this;rw[z]at u;grind|_=>grind[Ob.live]
def kR.step{ds:aX Deferred}(h:kR B ds w)(s:dw I μ H w)(st:Step I μ H w I' μ' H' w'):kR B ds w' where
 all:=by intro d hd;have⟨r,a,z,u⟩:=h.all d hd;refine⟨r,a,z,?_⟩;rw[st.frame r (Array.getElem?_eq_some_iff.1 u).1 (vW s u)];exact u
 apart:=h.apart
def QC(r:eD I μ n F a.tmps)(ops:Array Oper)(o:Oper):gj ops.toList F o=Region.wanted o (yielded ops a.tmps):=by
 unfold gj Region.wanted;cases i:o.guard with|none=>rfl|some g=>
  have⟨j,b⟩:=g;simp only;unfold yielded;have e:ops.toList[j]?=ops[j]?:=Zab;rw[e];cases hd:(ops[j]?).bind (·.dst)with|none=>simp|some d=>
   simp only[ζb];have f:=r.2 d;by_cases w:d<a.tmps.size
   .have u:a.tmps[d]?=some a.tmps[d]:=(by simp[w]);have z:a.tmps.getD d undef=a.tmps[d]:=(by simp[w]);rw[z]at f;rw[u];cases B:get F d with|bool c=>rw[B]at f;rw[f.sZ];all_goals grind|_=>cases h:a.tmps[d]with|bool c=>rw[h]at f;have:=f.of_bool;rw[B]at this;cases this|_=>rfl
   have u:a.tmps[d]?=none:=Array.getElem?_eq_none (Nat.le_of_not_lt w);have z:a.tmps.getD d undef=undef:=by simp[w]
   rw[z]at f;rw[u];cases B:get F d with|bool c=>rw[B]at f;have:=f.sZ;grind[undef]|_=>rfl
def DT(T:eG P E){call:dP}(b:lK P call){ops:Array Oper}{place:aY (Nat×Nat)}{o:Oper}(h:gQ E call n ops.toList place o F H=some (F',H'))
 (r:eD I μ n F a.tmps)(s:dw I μ H w)(ro:aY Nat){K:Act->World->Prop}{Q:Exit->Act->World->Prop}
 (J:∀a' I' μ' w',eD I' μ' n F' a'.tmps->a'.defers=a.defers->dw I' μ' H' w'->Step I μ H w I' μ' H' w'->K a' w'):
 if Region.wanted o (yielded ops a.tmps)then o.wpIn (fr ro) 0 P a w K Q else(∀f,o.about P w a.eval=some f->(fr ro).fn f)/\K (a.put o.dst undef) w:=by
 unfold gQ at h;rw[<-QC r];have z:∀v,(a.put o.dst v).defers=a.defers:=λv=>by cases o.dst<;>rfl
 split at h
 .rename_i C;rw[if_pos C];split at h
  .rename_i x H2 D;simp only[ζf,ζc]at h;obtain⟨L,G,rfl,rfl⟩:=h;refine Tn T b D r s ro (λu I' μ' w' O S B=>?_)
   exact J _ I' μ' w' ((r.mono B.le B.mu).put O G) (z u) S B
  simp at h
 rename_i C;rw[if_neg C];simp only[ζf,ζc]at h;obtain⟨L,G,rfl,rfl⟩:=h;exact⟨λ_ _=>trivial,J _ I μ w (r.put (.undef I μ) G) (z _) s (.refl _ _ _ _)⟩
def Qu(D:eG P E){call:dP}(b:lK P call){ops:Array Oper}(ro:aY Nat){Q:Exit->Act->World->Prop}:∀(rest:Rd)(k:Nat)(I:cG)(μ:Mu)(F:WF)(H:bk)(a:Act)(w:World),
 (∀j,rest[j]?=ops[k+j]?)->mU E call n ops.toList rest F H=some (F',H')->eD I μ n F a.tmps->dw I μ H w->
 (∀a' I' μ' w',eD I' μ' n F' a'.tmps->a'.defers=a.defers->dw I' μ' H' w'->Step I μ H w I' μ' H' w'->Q .normal a' w')->
 wpOpsIn (fr ro) 0 P ops Q (List.range' k rest.length) a w:=by
 intro rest
 induction rest with
 |nil=>intro k I μ F H a w _ h r s B;simp only[mU,ζa,ζc]at h;obtain⟨rfl,rfl⟩:=h;exact B a I μ w r rfl s (.refl _ _ _ _)|cons o rest C=>
  intro k I μ F H a w u h r s B;simp only[mU]at h;split at h
  .rename_i F1 H1 z;have G:ops[k]?=some o:=by simpa using(u 0).symm
   simp only[List.length_cons,List.range'_succ,wpOpsIn,G];refine DT D b z r s ro (λa' I' μ' w' c hd J L=>?_)
   refine C (k+1) I' μ' F1 H1 a' w' (λj=>by have:=u (j+1);grind) h c J ?_
   grind[Step.trans]
  simp at h
end
def oC(F F':WF)(op:Op):Prop:=∀x∈op.operands,ev F x=ev F' x
def tN{F F':WF}:∀{l:aX U'},(∀x∈l,ev F x=ev F' x)->fC F l=fC F' l:=by intro l;induction l with|nil=>intro _;rfl|cons x l u=>grind[fC]
def Bh{F F':WF}:∀{l:aX (Nat×U')},(∀x∈l,ev F x.2=ev F' x.2)->mY F l=mY F' l:=by intro l;induction l with|nil=>intro _;rfl|cons x l u=>grind[mY]
def yO{F F':WF}{o:aY U'}(h:∀x∈o.toArray,ev F x=ev F' x):kB F o=kB F' o:=by cases o with|none=>rfl|some x=>grind[kB]
def F_{E:Env}{F F':WF}{op:Op}(h:oC F F' op):bK E F op=bK E F' op:=by
 cases op with
 |move x=>exact h x (by simp[operands])|assign x=>exact h x (by simp[operands])|pick c a b=>simp[bK];rw[h c (by simp[operands]),h a (by simp[operands]),h b (by simp[operands])]|nilCheck x=>simp[bK];rw[h x (by simp[operands])]|binOp op t x y B=>simp[bK];rw[h x (by simp[operands]),h y (by simp[operands])]|unOp op t x=>simp[bK];rw[h x (by simp[operands])]|convert s d x=>simp[bK];rw[h x (by simp[operands])]|fieldAddr s x f=>simp[bK];rw[h x (by simp[operands])]|field s x f=>simp[bK];rw[h x (by simp[operands])]|indexAddr t x i=>simp[bK];rw[h x (by simp[operands]),h i (by simp[operands])]|index t x i=>simp[bK];rw[h x (by simp[operands]),h i (by simp[operands])]|slice t x lo hi C=>
  simp[bK];rw[h x (by simp[operands]),yO (λy w=>h y (by grind[operands])),yO (λy w=>h y (by grind[operands])),
   yO (λy w=>h y (by grind[operands]))]
 |build t ps=>simp[bK];rw[Bh (λx u=>h x.2 (by grind[operands]))]|makeFunc f a b=>cases f with|func f=>simp[bK];rw[tN (λx u=>h x (by grind[operands])),tN (λx u=>h x (by grind[operands]))]|_=>rfl
 |extract x i=>simp[bK];rw[h x (by simp[operands])]|call c=>have⟨callee,args,z⟩:=c;cases callee with|builtin b=>simp[bK];rw[tN (λx u=>h x (by grind[operands,Call.operands]))]|_=>rfl
 |_=>rfl
def zG{E:Env}{F F':WF}{H:bk}{op:Op}(h:oC F F' op):d_ E F H op=d_ E F' H op:=by cases op with|load t x=>simp[d_];rw[h x (by simp[operands])]|lookup t m k ok=>simp[d_];rw[h m (by simp[operands]),h k (by simp[operands])]|_=>rfl
theorem yg{E:Env}{F F':WF}{op:Op}(h:oC F F' op):eX E F op=eX E F' op:=by cases op with|alloc t=>rfl|box t x=>simp[eX];rw[h x (by simp[operands])]|makeSlice t l c=>simp[eX];rw[h l (by simp[operands]),h c (by simp[operands])]|buildSlice t len ps=>simp[eX];rw[Bh (λx u=>h x.2 (by grind[operands]))]|makeMap t r=>cases r<;>rfl|_=>rfl
def Fy{E:Env}{F F':WF}{H:bk}{op:Op}(h:oC F F' op):cK E F H op=cK E F' H op:=by
 cases op with
 |store t p x=>simp[cK];rw[h p (by simp[operands]),h x (by simp[operands])]|mapUpdate t m k x=>simp[cK];rw[h m (by simp[operands]),h k (by simp[operands]),h x (by simp[operands])]|insert t m k x=>simp[cK];rw[h m (by simp[operands]),h k (by simp[operands]),h x (by simp[operands])]|call c=>
  have⟨callee,args,u⟩:=c
  cases callee with
  |builtin b=>cases b with|append=>simp[cK];rw[tN (λx w=>h x (by grind[operands,Call.operands]))]|clear=>simp[cK];rw[tN (λx w=>h x (by grind[operands,Call.operands]))]|_=>rfl
  |_=>rfl
 |_=>rfl
def Fz{F F':WF}{op:Op}(h:oC F F' op):kL F op=kL F' op:=by
 cases op with
 |call c=>have⟨callee,args,u⟩:=c;cases callee with|value f=>simp[kL];rw[h f (by simp[operands,Call.operands]),tN (λx w=>h x (by grind[operands,Call.operands]))]|_=>rfl
 |_=>rfl
def Lg{E:Env}{F F':WF}{op:Op}(h:oC F F' op):qg E F op=qg E F' op:=by grind[qg,yg]
def M5{F F':WF}{ops:Rd}{i b:Nat}{H:bk}{op:Op}(h:oC F F' op):Bl ops i b F H op=Bl ops i b F' H op:=by
 have:qQ F op=qQ F' op:=by
  unfold qQ;split;rename_i args _;split;rename_i x r u;rw[h x (by
   have:x∈args.toList:=by rw[u];simp
   grind[operands,Call.operands])]
  rfl;rfl
 grind[Bl]
def Ln{E:Env}{place:aY (Nat×Nat)}{F F':WF}{H:bk}{op:Op}(h:oC F F' op):uw E F H place op=uw E F' H place op:=by
 unfold uw;rw[F_ h];have:evalConv E F H op=evalConv E F' H op:=by unfold evalConv;split;rw[h _ (by simp[operands])];rfl
 rw[this]
def E8{E:Env}{b:Nat×Nat}{F:WF}{H:bk}{op:Op}:uw E F H (some b) op=bK E F op:=by grind[uw]
def D6{E:Env}{call:dP}{ops:Rd}{place:aY (Nat×Nat)}{F F':WF}{H:bk}{op:Op}(h:oC F F' op)(B:∀b i,place=some (b,i)->qU ops i F=qU ops i F'/\ta ops b i F=ta ops b i F'/\oV ops i F op=oV ops i F' op):c_ E call ops place F H op=c_ E call ops place F' H op:=by
 unfold c_;rw[Ln h,yg h,Fy h,Fz h,zG (H:=H) h,Lg h];split<;>(try rfl)
 .split<;>(try rfl);rename_i i;rw[zG h,(B _ i rfl).2.2]
 split<;>(try rfl);rename_i b i;rw[(B _ i rfl).1,(B _ i rfl).2.1,M5 h]
section
variable{E:Env}{call:dP}{n:Nat}{ops:Rd}{base:Nat}
def Nn{o:Oper}{t:Nat}(h:.tmp t∈o.op.operands):t∈tmpsOf o ops:=by refine mem_append.2 (.inl (List.mem_filterMap.2 ⟨.tmp t,Zac,rfl⟩))
def GQ{F F':WF}{o:Oper}{dst:aY Nat}{v:V}(hp:kJ n F dst v=some F')(h:∀d,dst=some d->d∉tmpsOf o ops):oC F' F o.op:=by
 intro x u
 cases x with
 |tmp t=>cases dst with|none=>grind[kJ]|some d=>simp only[kJ]at hp;split at hp;simp at hp;subst hp;have w:d≠t:=λe=>h d rfl (by rw[e];exact Nn u);grind[ev,jG];grind
 |const v=>rfl|func f=>rfl|global g=>rfl
def CT{F F':WF}{o:Oper}{dst:aY Nat}{v:V}(hp:kJ n F dst v=some F')(h:∀d,dst=some d->d∉tmpsOf o ops):gj ops F' o=gj ops F o:=by unfold gj;cases a:o.guard with|none=>rfl|some g=>have⟨j,b⟩:=g;simp only;cases hd:(ops[j]?).bind (·.dst)with|none=>rfl|some t=>simp only;cases dst with|none=>grind[kJ]|some d=>simp only[kJ]at hp;split at hp;simp at hp;subst hp;have u:d≠t:=λe=>h d rfl (by grind[tmpsOf]);rw[jG _ _ u];grind
def O_{F F1 G:WF}{d D:aY Nat}{u v:V}(a:kJ n F d u=some F1)(T:kJ n F1 D v=some G)(J:∀x,d=some x->D≠some x):
 ∃B,kJ n F D v=some B/\kJ n B d u=some G:=by
 cases d with
 |none=>simp_all[kJ]|some x=>
  cases D with
  |none=>simp_all[kJ]|some y=>simp_all[kJ,JK]
def Lc{i k:Nat}{B ok:Oper}(h:dR ops i=true)(hi:ops[i]?=some B)(a:ops[k]?=some ok)(D:k≠i):cT ok.op=.pure\/(if k<i then before ops i k else before ops k i)=true\/(isApp B.op=true/\cT ok.op=.alloc/\i<k):=by grind[dR]
theorem G5{H:bk}{j es:Nat}{ob:Ob}{x:V}{xs:T2}(B:H[j]?=some .free)(h:dM H es x=some xs):dM (H.set j ob) es x=some xs:=by unfold dM at h⊢;all_goals grind[Ob.rows]
def S5{H H1:bk}{j:Nat}{ob:Ob}{x:V}(h:gH H x=some H1):H1.length=H.length/\(H1[j]?=some .free->H[j]?=some .free)/\(H[j]?=some .free->gH (H.set j ob) x=some (H1.set j ob)):=by unfold gH at h⊢;split at h;grind;grind;rename_i id a b c;split at h;rename_i d;cases h;refine⟨Zab,λh=>?_,λh=>?_⟩;grind;have e:id≠j:=λe=>Zac;rw[getElem?_set_ne (Ne.symm e),d];rw[set_comm _ _ e];simp_all;simp_all
def Sk{H:bk}{o:Ob}{j:Nat}(B:o≠.free)(h:(H++[o])[j]?=some .free):j<H.length/\H[j]?=some .free:=by grind
def VG{F:WF}{H H1:bk}{op:Op}{v:V}{j:Nat}{ob:Ob}(B:isApp op=true)(h:cK E F H op=some (v,H1))(D:H1[j]?=some .free):H[j]?=some .free/\cK E F (H.set j ob) op=some (v,H1.set j ob):=by unfold isApp at B;split at B;simp only[cK]at h⊢;split at h;split at h;rename_i e _ u w;split at h;rename_i d hd;split at h;simp_all[G5];rename_i L O C Q S;split at h;obtain⟨H0,a,G⟩:=ζf.1 h;obtain⟨rfl,rfl⟩:=G;obtain⟨I,z⟩:=Sk Zab D;obtain⟨g1,g2,g3⟩:=S5 (ob:=ob) a;have J:=g2 z;grind[G5];simp_all;simp_all;simp_all;rename_i e _ u w;split at h;rename_i d hd;unfold mkApp at h;split at h;split at h;simp_all[mkApp];split at h;obtain⟨rfl,rfl⟩:=h;grind[mkApp];simp_all;simp_all;simp_all;simp_all;simp_all;simp_all
def vt{i:Nat}{F:WF}{H H':bk}{op:Op}{v:V}(h:c_ E call ops (some (base,i)) F H op=some (v,H'))(U:dR ops i=false)(B:cT op≠.loud):
 (H'=H/\∀H2:bk,nV (H2.take base) (H.take base)->c_ E call ops (some (base,i)) F H2 op=some (v,H2))\/
 (∃ob,H[base+i]?=some .free/\H'=H.set (base+i) ob/\∀H2:bk,H2[base+i]?=some .free->c_ E call ops (some (base,i)) F H2 op=some (v,H2.set (base+i) ob))\/
 (∃T,jl (H.take base) T=true/\H'=cZ H T/\∀H2:bk,nV (H2.take base) (H.take base)->c_ E call ops (some (base,i)) F H2 op=some (v,cZ H2 T)):=by
 unfold c_ at h;split at h
 next O=>simp at h;obtain⟨x,L,rfl,rfl⟩:=h;simp_all[E8,c_]
 .rename_i B;simp only at h;split at h
  .rename_i Q;split at h
   .rename_i x L;obtain⟨rfl,rfl⟩:=h;refine .inl ⟨rfl,λH2 D=>?_⟩
    grind[c_,AL]
   grind
  grind
 .split at h
  .have⟨x,L,e⟩:=ζf.1 h;simp_all[c_]
  split at h
  .grind
  .rename_i ob m W X S G;obtain⟨rfl,rfl⟩:=G;split at h
   .rename_i w;obtain⟨rfl,rfl⟩:=h;refine .inr (.inl ⟨ob,w,rfl,λH2 D=>?_⟩)
    grind[c_]
   grind
  grind
 .grind
 rename_i B;split at h
 .rename_i f args z;split at h
  rotate_left
  .cases h
  rename_i C;unfold eu at h;split at h
  .grind
  rename_i u;simp only at h;split at h
  .rename_i y Y;split at h
   .rename_i I;obtain⟨rfl,rfl⟩:=h;refine .inl ⟨rfl,λH2 D=>?_⟩
    unfold c_ eu;rw[B];simp only[z,if_pos C];rw[if_neg u]
    grind[A0]
   split at h
   .rename_i J;obtain⟨rfl,rfl⟩:=h;refine .inr (.inr ⟨_,J,rfl,λH2 D=>?_⟩)
    unfold c_ eu;rw[B];simp only[z,if_pos C];rw[if_neg u]
    grind[A0,NZ,wH]
   grind
  grind
 all_goals grind
def GZ{g:X'}{i:Nat}:∀{r l:So},Du g ops i r=some l->∀k∈r,∃a,Ii g ops i k=some a/\∀s∈a,s∈l
 |[],l,h,k,c=>Zad|q::r,l,h,k,c=>by simp[Du]at h;split at h;rename_i a b d B;simp at h;rcases mem_cons.1 c with rfl|c;grind;have⟨a',g1,g2⟩:=GZ B k c;exact⟨a',g1,λs u=>Zac⟩;grind
def JD{g:X'}{i:Nat}:∀{r l:So},Du g ops i r=some l->∀s∈l,s∉dstsOf ops
 |[],l,h,s,c=>by grind[Du]|q::r,l,h,s,c=>by simp[Du]at h;split at h;rename_i a b d B;simp at h;subst h;rcases mem_append.1 c with c|c;grind[Ii];exact JD B s c;grind
def qF{g:X'}{i a:Nat}{l:So}{B:Oper}(hi:ops[i]?=some B)(h:sU g ops i=some (a,l)):(∃t x,B.op=.store t (.tmp a) x)/\a∉dstsOf ops/\(∀s∈l,s∉dstsOf ops)/\
 ∀k ok,ops[k]?=some ok->k≠i->cT ok.op=.pure\/(if k<i then before ops i k else before ops k i)=true\/(∃D a',ok.op=.load D (.tmp a')/\(a'∈l\/a'∈dstsOf ops))\/(g=true/\(cT ok.op=.alloc\/cT ok.op=.call)):=by
 unfold sU at h;rw[hi]at h;simp at h;split at h
 .rename_i t a0 x w;simp at w;split at h
  .simp_all
  have⟨G,z,e⟩:=ζf.1 h;obtain⟨rfl,rfl⟩:=e;refine⟨⟨t,x,w⟩,Zac,JD z,λk ok d C=>?_⟩
  have⟨b,c,I⟩:=GZ z k (List.mem_range.2 (ζe.1 d).1);unfold Ii at c;rw[d]at c;simp only at c;split at c
  .rename_i u;simp at u;rcases u with(u|u)|u
   .grind
   .grind
   exact .inr (.inl u)
  grind
 grind
def JR{F F':WF}{dst:aY Nat}{v:V}{s:Nat}(hp:kJ n F dst v=some F')(h:∀d,dst=some d->s≠d):get F' s=get F s:=by unfold kJ at hp;split at hp;grind;rename_i d;split at hp;simp at hp;subst hp;simp_all[jG,Ne.symm];grind
def Ip{k d:Nat}{ok:Oper}(a:ops[k]?=some ok)(hd:ok.dst=some d):d∈dstsOf ops:=List.mem_filterMap.2 ⟨ok,mem_of_getElem? a,hd⟩
def AB{F F':WF}{k i:Nat}{ok B:Oper}{v:V}(c:ops[k]?=some ok)(hi:ops[i]?=some B)(hp:kJ n F ok.dst v=some F'):qU ops i F'=qU ops i F/\∀b,ta ops b i F'=ta ops b i F:=by
 have f:∀s,s∉dstsOf ops->get F' s=get F s:=λs z=>JR hp λd hd e=>z (e▸Ip c hd);refine⟨?_,λb=>?_⟩;unfold qU;cases u:sU false ops i with|none=>rfl|some w=>have⟨a,l⟩:=w;have⟨_,C,D,_⟩:=qF hi u;grind
 unfold ta;cases u:sU true ops i with|none=>rfl|some w=>have⟨a,l⟩:=w;have⟨_,C,D,_⟩:=qF hi u;grind
def Pz{i k a a':Nat}{t:W'}{x:U'}{B:Oper}(hi:ops[i]?=some B)(e1:B.op=.store t (.tmp a) x)(b:a'∈dstsOf ops)(D:a∉dstsOf ops)(G:s7 ops i k=false):a∈qu ops k a':=by grind[qu]
theorem Ej{k a' s:Nat}(h:s∈qu ops k a'):s∉dstsOf ops/\∃i B t x,ops[i]?=some B/\B.op=.store t (.tmp s) x/\s7 ops i k=false:=by grind[qu]
def Hw{F F':WF}{k i:Nat}{ok:Oper}{op:Op}{v:V}(a:ops[k]?=some ok)(hp:kJ n F ok.dst v=some F')(B:oC F' F op):oV ops i F' op=oV ops i F op:=by
 have b:∀s,s∉dstsOf ops->get F' s=get F s:=λs h=>JR hp λd hd e=>h (e▸Ip a hd);unfold oV;split;rename_i t u;have w:=by have:=B (.tmp u) (by simp[operands]);simpa[ev]using this
 rw[w,Bool.eq_iff_iff];grind[Ej];rfl
def D3{k a':Nat}{ok:Oper}{t:W'}(a:ops[k]?=some ok)(e:ok.op=.load t (.tmp a'))(h:dR ops k=true):qu ops k a'=[]:=by refine List.eq_nil_iff_forall_not_mem.2 λs w=>?_;have⟨_,i,B,C,x,b,z,D⟩:=Ej w;have u:i≠k:=λe2=>Zac;rcases Lc h a b u with g|g|g;rw[z]at g;cases g;all_goals grind[s7,isApp]
def yN{F:WF}{H H':bk}{t:W'}{a:Nat}{x:U'}{id el off:Nat}{u:V}(B:get F a=.hptr id el off)(h:cK E F H (.store t (.tmp a) x)=some (u,H')):∃r,H'=H.set id r:=by grind[cK,ev]
theorem NA{F:WF}{H:bk}{t:W'}{a id b:Nat}{r:Ob}(B:oL id (get F a)=true):d_ E F ((H.set id r).take b) (.load t (.tmp a))=d_ E F (H.take b) (.load t (.tmp a)):=by
 have:∀m,eN ((H.set id r).take b) (get F a) m=eN (H.take b) (get F a) m:=λm=>by unfold oL at B;grind[eN]
 grind[d_,ev]
def GW{i:Nat}{B:Oper}(hi:ops[i]?=some B)(U:cT B.op=.loud)(W:dR ops i=false)(J:isApp B.op=false){F:WF}{T G:bk}{u:V}(D:c_ E call ops (some (base,i)) F T B.op=some (u,G)):
 ∃g a l id el off t x,sU g ops i=some (a,l)/\B.op=.store t (.tmp a) x/\get F a=.hptr id el off/\(∀s∈l,oL id (get F s)=true)/\(g=true->id<base)/\cK E F T B.op=some (u,G)/\∀H,c_ E call ops (some (base,i)) F H B.op=cK E F H B.op:=by
 have key:(qU ops i F||ta ops base i F)=true/\cK E F T B.op=some (u,G)/\∀H,c_ E call ops (some (base,i)) F H B.op=cK E F H B.op:=by have J:∀F b H,Bl ops i b F H B.op=false:=λF b H=>(by grind[Bl]);(have e:∀H,c_ E call ops (some (base,i)) F H B.op=if qU ops i F||ta ops base i F then cK E F H B.op else none:=λH=>by unfold c_;rw[U];simp only[W,Bool.false_or,J,Bool.or_false]);rw[e]at D;split at D;(next d=>exact⟨d,D,λH=>by rw[e,if_pos d]⟩);cases D
 have⟨f,C,I⟩:=key;rcases Bool.or_eq_true_iff.1 f with c|c
 .unfold qU at c;split at c
  .rename_i a l w;split at c
   next id el off hg=>obtain⟨⟨t,x,z⟩,-⟩:=qF hi w;exact⟨false,a,l,id,el,off,t,x,w,z,hg,λs D=>all_eq_true.1 c s D,λh=>(by cases h),C,I⟩
   cases c
  cases c
 unfold ta at c;split at c
 .rename_i a l w;split at c
  next id el off hg=>obtain⟨⟨t,x,z⟩,-⟩:=qF hi w;simp only[ζh,decide_eq_true_eq]at c;exact⟨true,a,l,id,el,off,t,x,w,z,hg,λs D=>all_eq_true.1 c.2 s D,λ_=>c.1,C,I⟩
  cases c
 cases c
def JX{g:X'}{k i a a' id el off:Nat}{l:So}{ok T:Oper}{t U:W'}{x:U'}(d:ops[k]?=some ok)(hi:ops[i]?=some T)(Y:(if k<i then before ops i k else before ops k i)=false)(lk:dR ops k=false)
 (G:sU g ops i=some (a,l))(J:T.op=.store t (.tmp a) x){F:WF}(e:get F a=.hptr id el off)(W:∀s∈l,oL id (get F s)=true)(D:ok.op=.load U (.tmp a'))(b:a'∈l\/a'∈dstsOf ops)
 {H0 H1:bk}{v:V}(B:c_ E call ops (some (base,k)) F H0 ok.op=some (v,H1)):
 H1=H0/\(∀(H:bk)(r:Ob),d_ E F ((H.set id r).take base) ok.op=d_ E F (H.take base) ok.op)/\cT ok.op=.read/\d_ E F (H0.take base) ok.op=some v/\oV ops k F ok.op=true:=by
 obtain⟨-,z,-,-⟩:=qF hi G;unfold c_ at B;rw[D]at B;simp only[cT]at B;split at B
 rotate_left
 .simp at B
 rename_i u;have C:oL id (get F a')=true:=by rcases b with b|b;exact W a' b;have w:s7 ops i k=false:=(by grind[s7]);have I:=Pz hi J b z w;grind[oV]
 split at B
 next L c=>simp only[ζa,ζc]at B;obtain⟨rfl,rfl⟩:=B;exact⟨rfl,λH r=>by rw[D];grind[NA],by rw[D];rfl,by rw[D];exact c,by rw[D];exact u⟩
 grind
def HF{F:WF}{H:bk}{t:W'}{a:Nat}{x:U'}{id el off j:Nat}{ob:Ob}(D:get F a=.hptr id el off)(B:id≠j):cK E F (H.set j ob) (.store t (.tmp a) x)=(cK E F H (.store t (.tmp a) x)).map λp=>(p.1,p.2.set j ob):=by
 have b:(H.set j ob)[id]?=H[id]?:=getElem?_set_ne (Ne.symm B);have c:∀r,(H.set j ob).set id r=(H.set id r).set j ob:=λr=>set_comm _ _ (Ne.symm B);simp only[cK,ev,D];split
 .rename_i h1 u w;cases u;rw[b];(repeat' split)<;>first|rfl|simp only[c,map_some]
 rfl
def CZ{i:Nat}{F:WF}{H H':bk}{op:Op}{v:V}(B:cT op=.alloc)(D:ot E ops (some (base,i))=false)(h:c_ E call ops (some (base,i)) F H op=some (v,H')):
 ∃ob,H[base+i]?=some .free/\H'=H.set (base+i) ob/\∀H2:bk,H2[base+i]?=some .free->c_ E call ops (some (base,i)) F H2 op=some (v,H2.set (base+i) ob):=by
 unfold c_ at h;rw[B]at h;simp only[D,false_eq_true,if_false]at h;split at h
 .grind
 .rename_i ob m G I w z;obtain⟨rfl,rfl⟩:=z;split at h
  .rename_i u;obtain⟨rfl,rfl⟩:=h;refine⟨ob,u,rfl,λH2 C=>?_⟩
   unfold c_;rw[B];simp only[D,false_eq_true,if_false,w,C]
  cases h
 cases h
def uO(n:Nat)(H:bk):∀{l:S'},V.iG l=true->borrows n H l=some l
 |[],_=>rfl|x::r,h=>by simp only[V.iG,ζh]at h;have:=uO n H h.2;unfold borrows at this⊢;simp only[iU,jK n H h.1,this]
def Ei{k i:Nat}{a:Nat}{l:So}{F:WF}{H H':bk}{op:Op}{v:V}(B:cT op=.call)(lk:dR ops k=false)(D:sU true ops i=some (a,l))(G:i<ops.length)(T:s7 ops i k=false)(h:c_ E call ops (some (base,k)) F H op=some (v,H')):
 H'=H/\∀H2:bk,c_ E call ops (some (base,k)) F H2 op=some (v,H2):=by
 have z:I6 ops k=true:=by unfold I6;rw[List.any_eq_true];exact⟨i,List.mem_range.2 G,by simp[T,D]⟩
 unfold c_ at h;rw[B]at h;simp only at h;split at h
 .rename_i f args C;split at h
  .rename_i u;have b:V.iG args=true:=by
    unfold xP at u;simpa[z]using u
   have w:∀H2,b8 call f args H2=b8 call f args []:=λH2=>by unfold b8;rw[uO _ _ b,uO _ _ b]
   have I:∀n H2,dh (ct n H2) args=[]:=λn H2=>HU n H2 b
   have e:∀H2,c_ E call ops (some (base,k)) F H2 op=eu E call ops (some (base,k)) f args H2:=λH2=>by unfold c_;rw[B];simp only[C,if_pos u]
   have J:∀H2:bk,cZ H2 []=H2:=λ_=>rfl
   have L:lI E ops (some (base,k)) f=false:=by cases c:lI E ops (some (base,k)) f with|false=>rfl|true=>unfold eu at h;rw[if_pos c]at h;simp only[lk,false_eq_true,if_false]at h;cases h
   have e2:∀H2,eu E call ops (some (base,k)) f args H2=(b8 call f args []).map λy=>(y,H2):=λH2=>by unfold eu;simp only[L,false_eq_true,if_false,w,I,J,lk];cases b8 call f args []with|none=>rfl|some y=>simp[jl]
   rw[e2]at h;have⟨y,O,e3⟩:=ζf.1 h;cases e3;exact⟨rfl,λH2=>by rw[e,e2,O];rfl⟩
  cases h
 .simp only[lk,false_eq_true,if_false]at h;cases h
 cases h
def Fa{place:Nat×Nat}{F:WF}{H H':bk}{op:Op}{v:V}(B:cT op=.pure\/cT op=.alloc/\ot E ops (some place)=true)(h:c_ E call ops (some place) F H op=some (v,H')):
 H'=H/\∀H2:bk,c_ E call ops (some place) F H2 op=some (v,H2):=by
 rcases B with B|⟨B,u⟩
 rotate_left
 .unfold c_ at h;rw[B]at h;simp only[u]at h;have⟨x,w,e⟩:=ζf.1 h;simp_all[c_]
 unfold c_ at h;rw[B]at h;simp at h;obtain⟨x,w,rfl,rfl⟩:=h;simp_all[E8,c_]
theorem take_set_of_le{H:bk}{b k:Nat}{x:Ob}(h:b<=k):(H.set k x).take b=H.take b:=List.take_set_of_le h
def apart_spec{a b:Oper}(h:zi ops a b=true):(∀d,a.dst=some d->d∉tmpsOf b ops/\b.dst≠some d)/\(∀d,b.dst=some d->d∉tmpsOf a ops):=by grind[zi]
def El{i k:Nat}{ok:Oper}(h:yj ops i=true)(a:ops[k]?=some ok)(B:k≠i)(D:s7 ops i k=false):cT ok.op=.pure\/cT ok.op=.read\/cT ok.op=.alloc/\(Cp ops k=true\/i<k):=by grind[yj]
def A5{op:Op}(h:isApp op=true):cT op=.loud:=by unfold isApp at h;split at h;rfl;cases h
theorem Kx{F:WF}{H H1:bk}{op:Op}{v:V}{b:Nat}(B:isApp op=true)(D:qQ F op=true)(G:b<=H.length)(h:cK E F H op=some (v,H1)):H1.take b=H.take b:=by
 unfold isApp at B;split at B;rotate_left;cases B;rename_i args u;simp only[cK]at h;split at h;rotate_left;cases h;rename_i t I s x w z;have C:s=.dH\/s=.bG:=by grind[qQ,fC]
 have a:∀H2,gH H s=some H2->H2=H:=λH2 h=>by rcases C with rfl|rfl<;>(grind[gH])
 split at h;grind[ζf];split at h;unfold mkApp at h;grind;cases h;cases h
def FH{i:Nat}{F:WF}{H H':bk}{op:Op}{u:V}(D:isApp op=true)(G:dR ops i=false)(hi:(ops[i]?).map Oper.op=some op)(h:c_ E call ops (some (base,i)) F H op=some (u,H')):
 yj ops i=true/\qQ F op=true/\base<=H.length/\cK E F H op=some (u,H'):=by
 unfold c_ at h;rw[A5 D]at h;have w:∀g,sU g ops i=none:=λg=>by unfold sU;rw[hi];grind[isApp]
 have z:qU ops i F=false:=by unfold qU;rw[w]
 have B:ta ops base i F=false:=by unfold ta;rw[w]
 simp only[G,z,B,Bool.false_or]at h
 grind[Bl]
theorem O1{i:Nat}{F:WF}{H H':bk}{op:Op}{u:V}(B:isApp op=true)(h:cK E F H op=some (u,H'))(a:dR ops i=true\/yj ops i=true/\qQ F op=true/\base<=H.length):c_ E call ops (some (base,i)) F H op=some (u,H'):=by unfold c_;rw[A5 B];grind[Bl]
def Em{i:Nat}{F:WF}{H H':bk}{op:Op}{v:V}(B:cT op=.read)(D:dR ops i=false)(h:c_ E call ops (some (base,i)) F H op=some (v,H')):
 H'=H/\∀H2:bk,nV (H2.take base) (H.take base)->c_ E call ops (some (base,i)) F H2 op=some (v,H2):=by
 unfold c_ at h;rw[B]at h;simp only at h;split at h
 .rename_i u;split at h
  .rename_i x w;simp only[ζa,ζc]at h;obtain⟨rfl,rfl⟩:=h;refine⟨rfl,λH2 z=>?_⟩
   unfold c_;rw[B];simp only[AL z,w,u,if_true]
  grind
 simp at h
def swap{k i:Nat}{ok G:Oper}(p:ops[k]?=some ok)(hi:ops[i]?=some G)(ae:k<i)(U:before ops i k=false)(J:zi ops ok G=true){F F1 R:WF}{H H1 H2:bk}
 (N:gQ E call n ops (some (base,k)) ok F H=some (F1,H1))(y:gQ E call n ops (some (base,i)) G F1 H1=some (R,H2)):
 ∃B D,gQ E call n ops (some (base,i)) G F H=some (B,D)/\gQ E call n ops (some (base,k)) ok B D=some (R,H2):=by
 obtain⟨a1,a2⟩:=apart_spec J;have af:∃v,kJ n F ok.dst v=some F1/\((gj ops F ok=true/\c_ E call ops (some (base,k)) F H ok.op=some (v,H1))\/(gj ops F ok=false/\v=.undef/\H1=H)):=by unfold gQ at N;split at N;rename_i hw;split at N;rename_i v H' hd;simp only[ζf,ζc]at N;grind;simp at N;rename_i hw;simp only[ζf,ζc]at N;grind
 have ah:∃v,kJ n F1 G.dst v=some R/\((gj ops F1 G=true/\c_ E call ops (some (base,i)) F1 H1 G.op=some (v,H2))\/(gj ops F1 G=false/\v=.undef/\H2=H1)):=by unfold gQ at y;split at y;rename_i hw;split at y;rename_i v H' hd;simp only[ζf,ζc]at y;grind;simp at y;rename_i hw;simp only[ζf,ζc]at y;grind
 obtain⟨v,Q,jE⟩:=af;obtain⟨u,ax,an⟩:=ah;have ay:gj ops F1 G=gj ops F G:=CT Q λd hd=>(a1 d hd).1
 have ao:oC F1 F G.op:=GQ Q λd hd=>(a1 d hd).1
 have aA:∀(b j:Nat),(some (base,i):aY (Nat×Nat))=some (b,j)->qU ops j F1=qU ops j F/\ta ops b j F1=ta ops b j F/\oV ops j F1 G.op=oV ops j F G.op:=λb j e=>by cases e;exact⟨(AB p hi Q).1,(AB p hi Q).2 _,Hw p Q ao⟩
 rw[ay,D6 ao aA]at an;obtain⟨B,S,aB⟩:=O_ Q ax λx hx=>(a1 x hx).2
 have aC:gj ops B ok=gj ops F ok:=CT S λd hd=>a2 d hd
 have ap:oC B F ok.op:=GQ S λd hd=>a2 d hd
 have aD:∀(b j:Nat),(some (base,k):aY (Nat×Nat))=some (b,j)->qU ops j B=qU ops j F/\ta ops b j B=ta ops b j F/\oV ops j B ok.op=oV ops j F ok.op:=λb j e=>by cases e;exact⟨(AB hi p S).1,(AB hi p S).2 _,Hw hi S ap⟩
 have fin:∀D,((gj ops F G=true/\c_ E call ops (some (base,i)) F H G.op=some (u,D))\/(gj ops F G=false/\u=.undef/\D=H))->
  ((gj ops F ok=true/\c_ E call ops (some (base,k)) F D ok.op=some (v,H2))\/(gj ops F ok=false/\v=.undef/\H2=D))->
  ∃B D,gQ E call n ops (some (base,i)) G F H=some (B,D)/\gQ E call n ops (some (base,k)) ok B D=some (R,H2):=by
  intro D e1 e2;refine⟨B,D,?_,?_⟩
  .grind[gQ]
  unfold gQ;rw[aC];rcases e2 with⟨x1,x2⟩|⟨x1,x2,x3⟩
  .rw[if_pos x1,D6 ap aD,x2];simp[aB]
  grind
 rcases jE with⟨I,s⟩|⟨I,rfl,rfl⟩
 .rcases an with⟨L,f⟩|⟨L,rfl,rfl⟩
  .by_cases pk:cT ok.op=.pure\/cT ok.op=.alloc/\ot E ops (some (base,k))=true
   .obtain⟨rfl,q⟩:=Fa pk s
    grind
   by_cases pi:cT G.op=.pure\/cT G.op=.alloc/\ot E ops (some (base,i))=true
   .obtain⟨rfl,q⟩:=Fa pi f
    grind
   by_cases J:isApp ok.op=true/\cT G.op=.alloc
   .
    obtain⟨J,aE⟩:=J;have aH:=A5 J;have aq:(dR ops k=true\/yj ops k=true/\qQ F ok.op=true/\base<=H.length)/\cK E F H ok.op=some (v,H1):=by cases hl:dR ops k with|true=>simp_all[c_]|false=>obtain⟨a,b,c,d⟩:=FH J hl (by rw[p];rfl) s;grind
    obtain⟨aq,e1⟩:=aq;have V:ot E ops (some (base,i))=false:=by grind
    have e2:∃ob m,eX E F G.op=some (ob,m)/\H1[base+i]?=some .free/\u=m.val (base+i)/\H2=H1.set (base+i) ob:=by unfold c_ at f;rw[aE]at f;grind
    obtain⟨ob,m,aI,ai,rfl,rfl⟩:=e2;obtain⟨f0,P⟩:=VG (ob:=ob) J e1 ai;refine fin (H.set (base+i) ob) (.inl ⟨L,?_⟩) (.inl ⟨I,?_⟩)
    .grind[c_]
    grind[O1]
   have lk:dR ops k=false:=by grind[dR]
   have K:dR ops i=false:=by grind[dR]
   by_cases ar:isApp G.op=true
   .obtain⟨g1,g2,g3,g4⟩:=FH ar K (by rw[hi];rfl) f
    rcases El g1 p Zaa (by grind[s7])with h|h|⟨h,y⟩
    .grind
    .obtain⟨rfl,q⟩:=Em h lk s
     grind[nV.of_eq,Kx]
    rcases y with y|y
    .exact absurd (.inr ⟨h,show(Cp ops k||TC E ops k)=true by rw[y];rfl⟩) pk
    omega
   by_cases au:isApp ok.op=true
   .obtain⟨g1,g2,g3,g4⟩:=FH au lk (by rw[p];rfl) s
    rcases El g1 hi Zaa (by grind[s7])with h|h|⟨h,y⟩
    .grind
    .obtain⟨rfl,q⟩:=Em h K f
     grind[nV.of_eq,Kx]
    grind
   by_cases O:cT G.op=.loud
   .obtain⟨g,a,l,id,el,off,t,x,C,w,hg,W,aj,he,ak⟩:=GW hi O K (by simpa using ar) f
    obtain⟨r,hr⟩:=yN hg (by rw[<-w];exact he)
    obtain⟨-,-,-,h4⟩:=qF hi C;rcases h4 k ok p Zaa with h|h|⟨t',a',al,Y⟩|⟨rfl,h|h⟩
    .exact absurd (.inl h) pk
    .rw[if_pos ae,U]at h;cases h
    .obtain⟨rfl,q1,q3,q4,q5⟩:=JX p hi (by rw[if_pos ae];exact U) lk C w hg W al Y s
     refine fin H2 (.inl ⟨L,f⟩) (.inl ⟨I,?_⟩);unfold c_;rw[q3];subst hr;simp only[q1,q4,q5,if_true]
    .have V:ot E ops (some (base,k))=false:=by
      cases hc:ot E ops (some (base,k))with
      |false=>rfl|true=>exact absurd (.inr ⟨h,hc⟩) pk
     obtain⟨ob,P,rfl,A⟩:=CZ h V s;have aF:=aj rfl;rw[w,HF hg (show id≠base+k by omega)]at he
     obtain⟨⟨u',H'⟩,e1,e2⟩:=ζf.1 he;cases e2;obtain⟨r',rfl⟩:=yN hg e1;exact fin (H.set id r') (.inl ⟨L,by rw[ak,w];exact e1⟩) (.inl ⟨I,A _ (by rw[getElem?_set_ne Zaa];exact P)⟩)
    obtain⟨rfl,A⟩:=Ei h lk C (ζe.1 hi).1 (by unfold s7;rw[if_pos ae];exact U) s
    exact fin H2 (.inl ⟨L,f⟩) (.inl ⟨I,A H2⟩)
   by_cases ad:cT ok.op=.loud
   .obtain⟨g,a,l,id,el,off,t,x,C,w,hg,W,aj,he,ak⟩:=GW p ad lk (by simpa using au) s
    obtain⟨r,hr⟩:=yN hg (by rw[<-w];exact he)
    obtain⟨-,-,-,h4⟩:=qF p C;rcases h4 i G hi Zaa with h|h|⟨t',a',al,Y⟩|⟨rfl,h|h⟩
    .exact absurd (.inl h) pi
    .rw[if_neg Zaa,U]at h;cases h
    .obtain⟨rfl,q1,q3,q4,q5⟩:=JX hi p (by rw[if_neg Zaa];exact U) K C w hg W al Y f
     refine fin H (.inl ⟨L,?_⟩) (.inl ⟨I,s⟩);unfold c_;rw[q3];subst hr;rw[q1]at q4;simp only[q4,q5,if_true]
    .have V:ot E ops (some (base,i))=false:=by
      cases hc:ot E ops (some (base,i))with
      |false=>rfl|true=>exact absurd (.inr ⟨h,hc⟩) pi
     obtain⟨ob,P,rfl,z⟩:=CZ h V f;have aF:=aj rfl;subst hr;rw[getElem?_set_ne Zaa]at P
     refine fin (H.set (base+i) ob) (.inl ⟨L,z H P⟩) (.inl ⟨I,?_⟩);rw[ak,w,HF hg (show id≠base+i by omega),<-w,he];rfl
    obtain⟨rfl,z⟩:=Ei h K C (ζe.1 p).1 (by unfold s7;rw[if_neg Zaa];exact U) f
    exact fin H (.inl ⟨L,z H⟩) (.inl ⟨I,s⟩)
   have tk:∀(X:bk)(k:Nat)(o:Ob),nV ((X.set (base+k) o).take base) (X.take base):=λX k o=>nV.of_eq (take_set_of_le Zaa)
   rcases vt s lk ad with⟨rfl,A⟩|⟨ob,fk,rfl,A⟩|⟨T,tr,rfl,A⟩
   .rcases vt f K O with⟨rfl,z⟩|⟨am,fi,rfl,z⟩|⟨M,Z,rfl,z⟩
    .grind
    .grind
    exact fin _ (.inl ⟨L,f⟩) (.inl ⟨I,A _ ((su Z).take base)⟩)
   .rcases vt f K O with⟨rfl,z⟩|⟨am,fi,rfl,z⟩|⟨M,Z,rfl,z⟩
    .refine fin H (.inl ⟨L,z H (tk _ _ _).symm⟩) (.inl ⟨I,s⟩)
    .grind[set_comm]
    have aa:jl (H.take base) M=true:=by rw[<-wH (tk H k ob)];exact Z
    have av:base+k∉M:=λhm=>absurd (A7 aa hm) Zaa
    refine fin (cZ H M) (.inl ⟨L,z H (tk _ _ _).symm⟩) (.inl ⟨I,?_⟩);rw[A _ (by rw[ja,fk];simp[av]),Fb av]
   rcases vt f K O with⟨rfl,z⟩|⟨am,fi,rfl,z⟩|⟨M,Z,rfl,z⟩
   .refine fin H (.inl ⟨L,z H ((su tr).take base).symm⟩) (.inl ⟨I,s⟩)
   .have aw:base+i∉T:=λhm=>absurd (A7 tr hm) Zaa
    have aG:H[base+i]?=some .free:=by rw[ja]at fi;obtain⟨o,ho,hf⟩:=ζf.1 fi;rw[if_neg aw]at hf;rw[ho,hf]
    refine fin (H.set (base+i) am) (.inl ⟨L,z H aG⟩) (.inl ⟨I,?_⟩);rw[A _ (tk _ _ _),Fb aw]
   have aa:jl (H.take base) M=true:=by rw[<-wH ((su tr).take base)];exact Z
   refine fin (cZ H M) (.inl ⟨L,z H ((su tr).take base).symm⟩) (.inl ⟨I,?_⟩);rw[A _ ((su aa).take base),K8]
  grind
 grind
theorem K4(h:xK ops=true){k i:Nat}{ok B:Oper}(a:ops[k]?=some ok)(hi:ops[i]?=some B)(D:k<i):Fs B k=true\/zi ops ok B=true:=by unfold xK at h;simp at h;grind
def Rt(hd:xK ops=true){i:Nat}{B:Oper}(hi:ops[i]?=some B):∀(l r:So),(∀k∈l,k<i/\Fs B k=false/\before ops i k=false)->∀{F F':WF}{H H':bk},
 kF E call n ops base (l++i::r) F H=some (F',H')->kF E call n ops base (i::(l++r)) F H=some (F',H'):=by
 intro l
 induction l with
 |nil=>grind|cons k l D=>
  intro r C F F' H H' h;have⟨u,G,w⟩:=C k Zab
  simp[kF]at h;split at h
  .rename_i ok hk;split at h
   .rename_i F1 H1 h1;have:=D r (λx I=>C x (mem_cons_of_mem _ I)) h
    simp[kF,hi]at this;split at this
    .rename_i Q H2 J;have z:zi ops ok B=true:=by
      grind[K4]
     have⟨L,O,g1,g2⟩:=swap hk hi u w z h1 J
     grind[kF]
    grind
   grind
  grind
inductive Reach(ops:List Oper):Nat->Nat->Prop
 |one(i k:Nat)(o:Oper)(e:Edge)(hi:ops[i]?=some o)(he:e∈o.after)(hb:mg e=true)(hk:e.on=k):Reach ops i k|more(i j k:Nat)(o:Oper)(e:Edge)(hi:ops[i]?=some o)(he:e∈o.after)(hb:mg e=true)(hk:e.on=j)(h:Reach ops j k):Reach ops i k
def Ez:∀(B l:So)(k:Nat),k∈B.foldl (λl k=>if l.contains k then l else k::l) l->k∈B\/k∈l
 |[],_,_,h=>.inr h|x::B,l,k,h=>by rcases Ez B _ k h with h|h;all_goals grind
def Nz{a:aX So}{o:Oper}{k:Nat}(h:k∈IG a o):∃e∈o.after,mg e=true/\(k=e.on\/∃S,a[e.on]?=some S/\k∈S):=by
 have key:∀(es:aX Edge)(l:So),k∈es.foldl (λl e=>(e.on::(a[e.on]?).getD []).foldl (λl k=>if l.contains k then l else k::l) l) l->k∈l\/∃e∈es,k=e.on\/∃S,a[e.on]?=some S/\k∈S:=by
  intro es;induction es with|nil=>grind|cons e es u=>
   intro l h;rcases u _ h with h|⟨z,b,w⟩
   .rcases Ez _ _ _ h with h|h;all_goals grind
   grind
 rcases key _ _ h with h|⟨e,b,w⟩;all_goals grind
def zB(ops:Rd):∀(l:Rd)(a:aX So)(pre:Rd),ops=pre++l->a.length=pre.length->(∀(i:Nat)S,a[i]?=some S->∀k∈S,Reach ops i k)->
 ∀(i:Nat)S,(l.foldl (λa o=>a++[IG a o]) a)[i]?=some S->∀k∈S,Reach ops i k
 |[],_,_,_,_,h=>h|o::l,a,pre,D,G,h=>by refine zB ops l _ (pre++[o]) Zad Zad ?_;intro i S c k b;by_cases hi:i<a.length;grind;rw[List.getElem?_append_right Zaa]at c;have B:i=a.length:=(by grind);subst B;simp at c;subst c;have u:ops[a.length]?=some o:=Zac;have⟨e,w,z,b⟩:=Nz b;rcases b with b|⟨S,c,b⟩;exact .one _ _ o e u w z b.symm;exact .more _ e.on _ o e u w z rfl (h _ S c k b)
def Iq{i k:Nat}(h:before ops i k=true):Reach ops i k:=by unfold before at h;cases a:(Kb ops)[i]?with|none=>grind|some S=>exact zB ops ops [] [] rfl rfl Zab i S a k Zac
end
section
variable{P:Program}{E:Env}{I I':cG}{μ μ':Mu}{H H':bk}{n B:Nat}{F F':WF}{a:Act}{w w':World}
def Hr(e:Edge):Region.binds .any e=mg e:=by unfold Region.binds mg;grind
def todo(ops:Array Oper)(a:Array X'):So:=(range ops.size).filter λi=> !a.getD i true
def yQ(ops:Array Oper)(a:Array X'):(todo ops a).Pairwise (·<·):=List.pairwise_lt_range.filter _
def Ti{ops:Array Oper}{a:Array X'}{i:Nat}(G:a.size=ops.size)(hi:i<ops.size){B D:So}(h:todo ops a=B++i::D):
 todo ops (a.setIfInBounds i true)=B++D:=by
 have I:∀j∈range ops.size,(!(a.setIfInBounds i true).getD j true)=((!a.getD j true)&&(j != i)):=by intro j _;by_cases e:j=i;simp_all;have:(a.setIfInBounds i true).getD j true=a.getD j true:=(by simp[Array.getElem?_setIfInBounds_ne (Ne.symm e)]);grind
 have:todo ops (a.setIfInBounds i true)=(todo ops a).filter (· != i):=by unfold todo;rw[List.filter_filter];grind
 rw[this,h];have u:=yQ ops a;rw[h]at u;rw[List.pairwise_append]at u;have⟨_,z,C⟩:=u;rw[List.pairwise_cons]at z;rw[List.filter_append,List.filter_cons];simp;rw[List.filter_eq_self.2 (λx w=>by have:=C x w i Zab;simp;omega),List.filter_eq_self.2 (λx w=>Zac)]
def Down(ops:Array Oper)(a:Array X'):Prop:=∀j o,a.getD j false=true->ops[j]?=some o->∀e∈o.after,mg e=true->a.getD e.on false=true
def Oc{ops:Array Oper}{a:Array X'}(hd:Down ops a){i k:Nat}(h:Reach ops.toList i k)(hi:∀o,ops[i]?=some o->∀e∈o.after,mg e=true->a.getD e.on false=true):a.getD k false=true:=by induction h with|one i k o e B w z hk=>grind|more i j k o e B w z hk _ C=>subst hk;exact C λD u=>hd _ _ (hi o Zac e w z) u
def Hx(hE:eG P E){call:dP}(hc:lK P call){ops:Array Oper}(hd:xK ops.toList=true)(p:Bt ops.toList=true)(ro:aY Nat){Q:Exit->Act->World->Prop}(base:Nat):
 ∀(D:Nat)(b:Array X')(I:cG)(μ:Mu)(F:WF)(H:bk)(a:Act)(w:World),b.size=ops.size->Down ops b->(todo ops b).length=D->
 kF E call n ops.toList base (todo ops b) F H=some (F',H')->eD I μ n F a.tmps->dw I μ H w->
 (∀a' I' μ' w',eD I' μ' n F' a'.tmps->a'.defers=a.defers->dw I' μ' H' w'->Step I μ H w I' μ' H' w'->Q .normal a' w')->
 wpAnyIn (fr ro) 0 P .any ops Q D b a w:=by
 intro D
 induction D with
 |zero=>
  intro b I μ F H a w O L c h r s q;have S:todo ops b=[]:=List.eq_nil_of_length_eq_zero c;rw[S]at h;obtain⟨rfl,rfl⟩:=h;refine⟨?_,q a I μ w r rfl s (.refl _ _ _ _)⟩;unfold Region.ready;rw[List.filter_eq_nil_iff];intro i hi;have:i∉todo ops b:=Zac
  unfold todo at this
  grind
 |succ D ih=>
  intro b I μ F H a w O L c h r s q;have W:∀i,i∈Region.ready .any ops b->i<ops.size/\i∈todo ops b/\∃o,ops[i]?=some o/\∀e∈o.after,mg e=true->b.getD e.on false=true:=by intro i hi;unfold Region.ready at hi;rw[mem_filter]at hi;have⟨t,h2⟩:=hi;simp only[ζh]at h2;have G:i<ops.size:=Zac;refine⟨G,by unfold todo;grind,ops[i],Zad,?_⟩;have K:(ops[i].after.all λe=> !Region.binds .any e||b.getD e.on false)=true:=(by grind);rw[Array.all_eq_true_iff_forall_mem]at K;intro e U X;have:=K e U;rw[Hr,X]at this;grind
  refine⟨?_,?_⟩
  .
   intro S
   cases Y:todo ops b with
   |nil=>rw[Y]at c;simp at c|cons Z rest=>
    have z:Z∈todo ops b:=by rw[Y];simp
    have f:=yQ ops b;rw[Y,List.pairwise_cons]at f;unfold todo at z;rw[mem_filter]at z;have G:Z<ops.size:=by simpa using z.1
    have:Z∈Region.ready .any ops b:=by unfold Region.ready;rw[mem_filter];refine⟨z.1,?_⟩;simp only[ζh];refine⟨z.2,?_⟩;have e0:ops[Z]?=some ops[Z]:=(by simp[G]);rw[e0];simp only[map_some,getD_some];rw[Array.all_eq_true_iff_forall_mem];intro e U;rw[Hr];cases am:mg e with|false=>simp|true=>simp only[Bool.not_true];have an:e.on<Z:=(by unfold Bt at p;simp only[all_eq_true]at p;have:=p Z (by simpa using G);have e1:ops.toList[Z]?=some ops[Z]:=(by simp[G]);rw[e1]at this;simp only[Array.all_eq_true_iff_forall_mem]at this;have:=this e U;rw[am]at this;simpa using this);cases ao:b.getD e.on false with|true=>rfl|false=>exfalso;have M:e.on∈todo ops b:=(by unfold todo;rw[mem_filter];refine⟨by simp;omega,?_⟩;have aj:e.on<b.size:=Zaa;have:b.getD e.on true=b.getD e.on false:=(by simp[aj]);rw[this,ao];rfl);rw[Y]at M;rcases mem_cons.1 M with h|h;omega;have:=f.1 _ h;omega
    rw[S]at this;simp at this
  intro i hi;have⟨G,z,o,g,C⟩:=W i hi;have⟨N,l2,u⟩:=List.append_of_mem z;have J:=yQ ops b;rw[u,List.pairwise_append]at J;have aa:∀k∈N,k<i/\Fs o k=false/\before ops.toList i k=false:=by intro k v;have ap:b.getD k false=false:=(by have B:k∈todo ops b:=(by rw[u];simp[v]);unfold todo at B;rw[mem_filter]at B;have x:k<b.size:=(by rw[O];simpa using B.1);have:b.getD k true=b.getD k false:=(by simp[x]);rw[this]at B;simpa using B.2);refine⟨J.2.2 k v i Zab,?_,?_⟩;rotate_left;(cases aq:before ops.toList i k with|false=>rfl|true=>have:=Oc L (Iq aq) (λo' l=>by rw[g]at l;cases l;exact C);rw[ap]at this;cases this);cases U:Fs o k with|false=>rfl|true=>exfalso;unfold Fs at U;rw[Array.any_eq_true]at U;have⟨ix,ar,m⟩:=U;have R:o.after[ix]∈o.after:=Array.getElem_mem ar;generalize o.after[ix]=e at R m;simp only[ζh,beq_iff_eq]at m;have t:=C e R m.2;rw[m.1]at t;have B:k∈todo ops b:=(by rw[u];simp[v]);unfold todo at B;rw[mem_filter]at B;have x:k<b.size:=(by rw[O];simpa using B.1);have:b.getD k true=b.getD k false:=(by simp[x]);rw[this,t]at B;simp at B
  rw[u]at h;have d:=Rt hd (by simpa using g) N l2 aa h
  simp only[kF]at d;have l:ops.toList[i]?=some o:=by simpa using g
  rw[l]at d;simp only at d;split at d
  .rename_i F1 H1 af;unfold wpOpIn;rw[g];simp only;refine DT hE hc af r s ro (λa' I' μ' w' hr au f av=>?_)
   have V:=Ti O G u;refine ih (b.setIfInBounds i true) I' μ' F1 H1 a' w' (by simpa using O) ?_ ?_ (by rw[V];exact d) hr f ?_
   .have T:∀j,b.getD j false=true->(b.setIfInBounds i true).getD j false=true:=by
     intro j y
     by_cases e:i=j
     .subst e;simp[O,G]
     simpa[Array.getD_eq_getD_getElem?,Array.getElem?_setIfInBounds_ne e]using y
    intro j oj y A e U X
    by_cases e':i=j
    .subst e';rw[g]at A;cases A;exact T _ (C e U X)
    refine T _ (L j oj ?_ A e U X);simpa[Array.getD_eq_getD_getElem?,Array.getElem?_setIfInBounds_ne e']using y
   .rw[V];rw[u]at c;simp at c⊢;omega
   intro a2 I2 μ2 w2 aw ax ay al;exact q a2 I2 μ2 w2 aw (ax.trans au) ay (Step.trans f av al)
  simp at d
def dw.H_(s:dw I μ H w)(k:Nat):dw I μ (H++replicate k .free) w:=by
 have u:∀id ob,(H++replicate k Ob.free)[id]?=some ob->H[id]?=some ob\/(ob=.free/\H.length<=id):=by grind
 refine⟨λid h=>s.dom id Zac,s.imm,?_,?_,s.gl⟩;intro id ob h;rcases u id ob h with h|⟨rfl,z⟩;exact s.obs id ob h;exact s.dom id z;intro id B ob C p J a z D G;rcases u id ob a with a|⟨rfl,_⟩;rcases u B C z with z|⟨rfl,_⟩;exact s.inj id B ob C p J a z D G;simp[Ob.live]at G;simp[Ob.live]at D
def Lz(k:Nat)(b:Nat):iK μ (H++replicate k .free) b↔iK μ H b:=by constructor;rintro⟨id,p,ob,h1,u,w,z⟩;by_cases B:id<H.length;rw[List.getElem?_append_left B]at h1;exact⟨id,p,ob,h1,u,w,z⟩;rw[List.getElem?_append_right Zaa,List.getElem?_replicate]at h1;split at h1;simp at h1;subst h1;simp[Ob.live]at u;grind;rintro⟨id,p,ob,h1,u,w,z⟩;exact⟨id,p,ob,Zac,u,w,z⟩
def Step.H_(k:Nat):Step I μ H w I μ (H++replicate k .free) w:=⟨cG.le_refl _,Mu.le_refl _,Zab,le_refl _,λ_ _ _=>rfl,λb h=>h.elim .inl λh=>.inr (.inl ((Lz k b).1 h)),rfl,.refl _,λ_ _ h=>h⟩
def Kg(D:eG P E)(T:P.follows .mixedOrders=true){call:dP}(b:lK P call){id:Nat}{ops:Array Oper}{B:X'}(ro:aY Nat){Q:Exit->Act->World->Prop}
 (h:j8 E call n ops.toList B F H=some (F',H'))(r:eD I μ n F a.tmps)(s:dw I μ H w)
 (G:∀a' I' μ' w',eD I' μ' n F' a'.tmps->a'.defers=a.defers->dw I' μ' H' w'->Step I μ H w I' μ' H' w'->Q .normal a' w'):
 (Code.region id ops B).wpIn (fr ro) 0 P Q a w:=by
 unfold j8 at h
 cases B with
 |false=>refine wpIn_region ?_;rw[List.range_eq_range',<-Array.length_toList];exact Qu D b ro ops.toList 0 I μ F H a w Zab h r s G|true=>
  simp only[if_true]at h;split at h
  .rename_i u;simp at u;refine wpIn_region_draw λt=>?_
   simp[Region.schedule,T];have s0:dw I μ H {w with drawn:=w.drawn+1}:=s.pV rfl;have st0:Step I μ H w I μ H {w with drawn:=w.drawn+1}:=Step.pV rfl rfl ⟨rfl,rfl,le_succ _⟩;have z:todo ops (Array.replicate ops.size false)=range ops.toList.length:=by unfold todo;simp_all
   have C:Down ops (Array.replicate ops.size false):=by intro j o S;simp[Array.getElem?_replicate]at S;grind
   refine wpAnyIn_sound ops.size t _ a _ ?_;split at h
   .refine Hx D b u.1 u.2 ro H.length ops.size _ I μ F (H++replicate ops.toList.length .free) a _ Zab C Zac (by rw[z];omega) r (s0.H_ _) ?_
    intro a' I' μ' w' c J L O;exact G a' I' μ' w' c J L (Step.trans s0 st0 (Step.trans (s0.H_ _) (Step.H_ _) O))
   refine Hx D b u.1 u.2 ro H.length ops.size _ I μ F H a _ Zab C Zac (by rw[z];omega) r s0 ?_
   intro a' I' μ' w' c J L O;exact G a' I' μ' w' c J L (Step.trans s0 st0 O)
  grind
end
def Out.Jf:Out->Exit
 |.norm=>.normal|.exit id=>.exit id|.ret=>.ret
def exists_least(p:Nat->Prop):∀k,p k->∃m,p m/\∀j,p j->m<=j:=by intro k;induction k using Nat.strongRecOn with|_ k u=>grind
open Classical in
noncomputable def least(p:Nat->Prop):Nat:=if h:∃m,p m/\∀j,p j->m<=j then h.choose else 0
def Ol(p:Nat->Prop){k:Nat}(a:p k):p (least p)/\least p<=k:=by have h:=exists_least p k a;grind[least]
section
variable{P:Program}{E:Env}{I I':cG}{μ μ':Mu}{H H':bk}{n B:Nat}{F F':WF}{a:Act}{w w':World}
def Post(B n:Nat)(I:cG)(μ:Mu)(H:bk)(w:World)(o:Out)(F':WF)(H':bk):Exit->Act->World->Prop:=λe u w'=>e=o.Jf/\(∃I' μ',eD I' μ' n F' u.tmps/\dw I' μ' H' w'/\Step I μ H w I' μ' H' w')/\kR B u.defers w'
theorem Post.mono{I1:cG}{D:Mu}{H1:bk}{G:World}{o:Out}(J:dw I1 D H1 G)(st:Step I μ H w I1 D H1 G){e:Exit}{a':Act}{w':World}(h:Post B n I1 D H1 G o F' H' e a' w'):
 Post B n I μ H w o F' H' e a' w':=by
 have⟨a,⟨I',μ',u,z,C⟩,L⟩:=h;exact⟨a,⟨I',μ',u,z,Step.trans J st C⟩,L⟩
def dw.Cy(s:dw I μ H w){b:Nat}(o:Obj)(D:I b=none)(G:¬iK μ H b):dw I μ H (gN w b o)where
 dom:=s.dom
 imm:=λu x h=>IC.tH (s.imm u x h) (iq o Zac)
 obs:=λid ob h=>(s.obs id ob h).mono (cG.le_refl _) (Mu.le_refl _) (λp z B=>by
  have J:iK μ H p.b:=⟨id,p,ob,h,B,z,rfl⟩
  grind[iq,gx]) (λC=>by subst C;exact s.obs id _ h)
 inj:=s.inj
 gl:=s.gl
def Vr(s:dw I μ H w){b:Nat}{o:Obj}(h:w.heap[b]?=some o)(a:∀c e f,o≠.cells c e f)(B:∀es c,o≠.map es c):I b=none:=by cases u:I b with|none=>rfl|some x=>have:=s.imm b x u;cases x with|cells c=>have⟨_,_,q⟩:=this;rw[h]at q;grind|map es=>have⟨_,q⟩:=this;rw[h]at q;grind
def Step.kept(c:∀b,b<w.heap.size->w'.heap[b]?=w.heap[b]?)(B:w.heap.size<=w'.heap.size)(d:w'.os=w.os)(D:wZ w w')(G:∀a:Addr,a.block<w.heap.size->w.frozen? a=false->w'.frozen? a=false):Step I μ H w I μ H w':=⟨cG.le_refl _,Mu.le_refl _,le_refl _,B,λb u _=>c b u,λ_ h=>h.elim .inl λh=>.inr (.inl h),d,D,G⟩
def Step.after(st:Step I μ H w I' μ' H' w'){b:Nat}(o:Obj)(B:w.heap.size<=b)(D:Obj.nf o:=by first|exact ve _ _|exact sS rfl):Step I μ H w I' μ' H' (gN w' b o):=⟨st.le,st.mu,st.len,by rw[yf];exact st.size,λz u C=>by rw[iq o Zaa];exact st.frame z u C,st.terr,st.os,⟨st.out.out,st.out.tape,st.out.dr⟩,λa B G=>W0 D a (st.fz a B G)⟩
def kR.Cy{ds:aX Deferred}(h:kR B ds w){b:Nat}{o:Obj}(D:∀r,w.heap[r]?=some (.deferred (some []))->r≠b):kR B ds (gN w b o):=
 ⟨λd hd=>by
  have⟨r,a,u,z⟩:=h.all d hd
  grind[iq],h.apart⟩
def N0{step:WF->bk->aY (Out×WF×bk)}{c:Code}{ro:aY Nat}{o:Out}
 (D:∀I μ F H a w o F' H',step F H=some (o,F',H')->eD I μ n F a.tmps->dw I μ H w->kR B a.defers w->B<=w.heap.size->c.wpIn (fr ro) 0 P (Post B n I μ H w o F' H') a w)
 {k:Nat}(h:lF step k F H=some (o,F',H'))(r:eD I μ n F a.tmps)(s:dw I μ H w)(m:kR B a.defers w)(f:B<=w.heap.size):
 (Code.loop c).wpIn (fr ro) 0 P (Post B n I μ H w o F' H') a w:=by
 let b:Nat->Act->World->Prop:=λk u w'=>∃I1 J F1 H1,lF step k F1 H1=some (o,F',H')/\eD I1 J n F1 u.tmps/\dw I1 J H1 w'/\Step I μ H w I1 J H1 w'/\kR B u.defers w'/\B<=w'.heap.size
 let M:Act->World->Nat:=λu w'=>least (λk=>b k u w')
 have d:∀k u w',b k u w'->b (M u w') u w'/\M u w'<=k:=λk u w' hi=>Ol (λk=>b k u w') hi
 refine wpIn_loop (λu w'=>∃k,b k u w') M ⟨k,I,μ,F,H,h,r,s,.refl _ _ _ _,m,f⟩ ?_
 rintro a1 Q ⟨k1,T⟩;have⟨hi,_⟩:=d k1 a1 Q T;generalize l:M a1 Q=kk at hi;have⟨I1,J,F1,H1,S,r1,L,C,W,G⟩:=hi
 cases kk with
 |zero=>grind[lF]|succ kk=>
  simp only[lF]at S;split at S
  next X H2 U=>refine wpIn_mono (D I1 J F1 H1 a1 Q .norm X H2 U r1 L W G) ?_;rintro e a2 O ⟨rfl,⟨I2,g,r2,i,st2⟩,j⟩;show(∃k,b k a2 O)/\M a2 O<kk+1;have z:b kk a2 O:=⟨I2,g,X,H2,S,r2,i,Step.trans L C st2,j,le_trans G st2.size⟩;exact⟨⟨kk,z⟩,Nat.lt_succ_of_le (d kk a2 O z).2⟩
  rename_i p;refine wpIn_mono (D I1 J F1 H1 a1 Q o F' H' S r1 L W G) ?_;intro e a2 O hp;have q:o≠.norm:=by simp_all
  obtain⟨rfl,Y,Z⟩:=hp
  cases o with
  |norm=>grind|exit id=>exact Post.mono L C ⟨rfl,Y,Z⟩|ret=>exact Post.mono L C ⟨rfl,Y,Z⟩
def Cd(s:dw I μ H w){id:Nat}{r:xw}(h:H[id]?=some (.loop r)):∃p l,μ id=some p/\I p.b=none/\w.heap[p.b]?=some (.loop l)/\xy I μ r l:=s.obs id _ h
def JP{p:aY Out}(hp:p≠some .norm):(p.bind nD=none->p.getD .norm=.norm)/\(∀c,p.bind nD=some c->(c=.ret/\p.getD .norm=.ret)\/∃id,c=.exit id/\p.getD .norm=.exit id):=by cases p with|none=>grind|some o=>cases o with|norm=>grind|ret=>grind[nD]|exit id=>grind[nD]
theorem Lj{call:dP}(hc:lK P call){g:U'}{ps:Array Tmp}{assign body:Code}{o:Out}{lf:Nat}
 (h:exec E call lf false n (.rangeFunc g ps assign body) F H=some (o,F',H'))(r:eD I μ n F a.tmps)(s:dw I μ H w)(m:kR B a.defers w)(hB:B<=w.heap.size):
 (Code.rangeFunc g ps assign body).wpIn (fr none) 0 P (Post B n I μ H w o F' H') a w:=by
 cases K:ev F g with
 |none=>simp_all[exec]|some gv=>
 cases gv with
 |clo f x y=>
  simp[exec,K]at h;split at h
  .rename_i ak H2 L;split at h
   .rename_i r2 O;have W:r2.st≠.busy/\r2.pend.getD .norm=o/\F=F'/\H2.set H.length .dead=H':=by
     grind
    obtain⟨W,rfl,rfl,rfl⟩:=W;have⟨u,v,eg,hu,hv⟩:=(dJ r K).kS;refine wpIn_rangeFunc λC _=>?_
    have X:∀b,b<w.heap.size->(w.alloc (.deferred (some []))).heap[b]?=w.heap[b]?:=λb hb=>nH _ b hb
    have j:=s.kept X;have ab:Step I μ H w I μ H (w.alloc (.deferred (some []))):=Step.kept X Zab rfl ⟨rfl,rfl,le_refl _⟩ (λa _=>Pq (sS rfl) a)
    have ad:xy I μ ⟨.ready,none,F,n,ps.toList,assign,body⟩ {state:=.ready,pending:=none,fn:=C,tmps:=a.tmps,params:=ps,assign,body,defers:=w.heap.size}:=⟨trivial,rfl,Zab,r,rfl,rfl,rfl⟩
    have⟨M,st2⟩:=j.push (ob:=.loop ⟨.ready,none,F,n,ps.toList,assign,body⟩)
     (o:=.loop {state:=.ready,pending:=none,fn:=C,tmps:=a.tmps,params:=ps,assign,body,defers:=w.heap.size}) (p:=⟨w.heap.size+1,0,0,0⟩) Zab
     ⟨_,_,Mu.gy _ _ _,by have:=j.zP;simp_all,by have:=nL (w:=w.alloc (.deferred (some []))) (.loop {state:=.ready,pending:=none,fn:=C,tmps:=a.tmps,params:=ps,assign,body,defers:=w.heap.size});simp_all,
      ad.mono (cG.le_refl _) (Mu.rZ (j.dom _ (le_refl _)))⟩
    have Q:=(hu.mono (cG.le_refl _) st2.mu).append (.cons (.yld H.length ⟨w.heap.size+1,0,0,0⟩ (Mu.gy _ _ _)) (hv.mono (cG.le_refl _) st2.mu))
    have⟨hf,G⟩:=hc.fn f _ _ _ _ L;refine⟨w.heap.size+1,[{target:=.collected w.heap.size,args:=#[]}],((w.alloc (.deferred (some []))).alloc (.loop {state:=.ready,pending:=none,fn:=C,tmps:=a.tmps,params:=ps,assign,body,defers:=w.heap.size})),{target:=.fn (.func f) v,args:=u++#[.func (.yield (w.heap.size+1)) #[] #[]]},((w.alloc (.deferred (some []))).alloc (.loop {state:=.ready,pending:=none,fn:=C,tmps:=a.tmps,params:=ps,assign,body,defers:=w.heap.size})),f,u++#[.func (.yield (w.heap.size+1)) #[] #[]]++v,((w.alloc (.deferred (some []))).alloc (.loop {state:=.ready,pending:=none,fn:=C,tmps:=a.tmps,params:=ps,assign,body,defers:=w.heap.size})),
     run_enterLoop_outer C a.tmps ps assign body,?_,λ_ _=>trivial,?_,λh=>by grind[fr],?_⟩
    .simp_all[resolve,Deferred.ofValue,Act.eval]
    .exact yR hf _
    have Y:=G _ _ _ _ M Q;have S:(u.toList++.func (.yield (w.heap.size+1)) #[] #[]::v.toList).toArray=u++#[.func (.yield (w.heap.size+1)) #[] #[]]++v:=Zac
    rw[S]at Y;refine Y.mono ?_;rintro e Z ⟨aj,N,k,rfl,_,t,T⟩;have⟨p,l,g1,g2,g3,g4⟩:=Cd t O;have hp:p=⟨w.heap.size+1,0,0,0⟩:=by have:=T.mu _ _ (Mu.gy μ H.length ⟨w.heap.size+1,0,0,0⟩);grind
    subst hp;have J:l.state≠.busy:=by intro he;have:=g4.st;rw[he]at this;all_goals grind[CA.is]
    refine⟨l.pending,_,run_endLoop g3 J,?_⟩;have⟨s4,ae⟩:=t.kill O;have U:¬iK k (H2.set H.length .dead) (w.heap.size+1):=by rintro⟨id,q,ob,A,R,i,h4⟩;by_cases e:id=H.length;grind[Ob.live];rw[getElem?_set_ne (Ne.symm e)]at A;exact e (t.inj id H.length ob _ q _ A O R rfl i g1 h4)
    have s5:dw N k (H2.set H.length .dead) (gN Z (w.heap.size+1) (.loop {l with state:=.exhausted})):=s4.Cy _ g2 U;have st:=Step.trans j ab (Step.trans M st2 (Step.trans t T ae));have af:Step I μ H w N k (H2.set H.length .dead) (gN Z (w.heap.size+1) (.loop {l with state:=.exhausted})):=st.after _ Zaa
    have m2:kR B ({target:=.collected w.heap.size,args:=#[]}::a.defers) ((w.alloc (.deferred (some []))).alloc (.loop {state:=.ready,pending:=none,fn:=C,tmps:=a.tmps,params:=ps,assign,body,defers:=w.heap.size})):=by refine⟨?_,?_⟩;intro d hd;rcases mem_cons.1 hd with rfl|hd;refine⟨w.heap.size,rfl,hB,?_⟩;rw[nH _ _ Zab];exact nL _;have⟨q,A,R,i⟩:=m.all d hd;have hq:=(Array.getElem?_eq_some_iff.1 i).1;grind[nH];refine List.Pairwise.cons ?_ m.apart;intro d hd q hq al;have⟨q2,A,R,i⟩:=m.all d hd;have:=(Array.getElem?_eq_some_iff.1 i).1;grind
    have m3:=m2.step M T;have m5:kR B ({target:=.collected w.heap.size,args:=#[]}::a.defers) (gN Z (w.heap.size+1) (.loop {l with state:=.exhausted})):=m3.Cy (λq hq e=>Zac)
    have ah:=st.le;have ai:=st.mu;have z:∀D:Out,r2.pend.getD .norm=D->Post B n I μ H w D F (H2.set H.length .dead) D.Jf {a with defers:=[{target:=.collected w.heap.size,args:=#[]}]++a.defers} (gN Z (w.heap.size+1) (.loop {l with state:=.exhausted})):=λD _=>⟨rfl,⟨N,k,r.mono ah ai,s5,af⟩,m5⟩
    obtain⟨V,aa⟩:∃V,Z.putObj (w.heap.size+1) (.loop {l with state:=.exhausted})=V:=⟨_,rfl⟩;have z:∀D:Out,r2.pend.getD .norm=D->Post B n I μ H w D F (H2.set H.length .dead) D.Jf {a with defers:=[{target:=.collected w.heap.size,args:=#[]}]++a.defers} V:=by intro D ho;rw[<-aa];exact z D ho
    rw[aa];have⟨k1,k2⟩:=JP g4.pendOk;rw[g4.pend]
    cases hj:r2.pend.bind nD with
    |none=>rw[k1 hj];exact z .norm (k1 hj)|some c=>
     rcases k2 c hj with⟨rfl,e⟩|⟨id,rfl,e⟩
     .rw[e];exact wpIn_ret (z .ret e)
     rw[e];exact wpIn_exit (z (.exit id) e)
   grind
  grind
 |_=>simp[exec,K]at h
def zU(Y:eG P E)(d:P.follows .mixedOrders=true){call:dP}(f:lK P call)(lf:Nat)(ro:aY Nat)(T:X')(j:T=ro.isSome)(n:Nat):
 ∀(c:Code)(I:cG)(μ:Mu)(F:WF)(H:bk)(a:Act)(w:World)(o:Out)(F':WF)(H':bk),exec E call lf T n c F H=some (o,F',H')->eD I μ n F a.tmps->dw I μ H w->
  kR B a.defers w->B<=w.heap.size->c.wpIn (fr ro) 0 P (Post B n I μ H w o F' H') a w:=by
 intro c
 induction c with
 |skip=>intro I μ F H a w o F' H' h r s m _;obtain⟨rfl,rfl,rfl⟩:=h;exact wpIn_skip ⟨rfl,⟨I,μ,r,s,.refl _ _ _ _⟩,m⟩|label l=>intro I μ F H a w o F' H' h r s m _;obtain⟨rfl,rfl,rfl⟩:=h;exact wpIn_label ⟨rfl,⟨I,μ,r,s,.refl _ _ _ _⟩,m⟩|region id ops W=>
  intro I μ F H a w o F' H' h r s m _;simp only[exec,ζf]at h;obtain⟨⟨k,H2⟩,h,rfl,rfl,rfl⟩:=h;refine Kg Y d f ro h r s (λa' I' μ' w' b z C X=>⟨rfl,⟨I',μ',b,C,X⟩,?_⟩)
  rw[z];exact m.step s X
 |seq x y D G=>
  intro I μ F H a w o F' H' h r s m u;simp[exec]at h;refine wpIn_seq ?_;split at h
  .rename_i F1 H1 b;refine wpIn_mono (D I μ F H a w _ F1 H1 b r s m u) ?_;rintro e a1 J ⟨rfl,⟨I1,Z,r1,i,Q⟩,m1⟩;refine wpIn_mono (G I1 Z F1 H1 a1 J o F' H' h r1 i m1 (le_trans u Q.size)) ?_
   grind[Post.mono]
  refine wpIn_mono (D I μ F H a w o F' H' h r s m u) ?_;rintro e a1 J ⟨rfl,z,C⟩
  cases o with
  |norm=>grind|exit id=>exact⟨rfl,z,C⟩|ret=>exact⟨rfl,z,C⟩
 |cond c x y D G=>
  intro I μ F H a w o F' H' h r s m u;simp[exec]at h;split at h
  .rename_i t S;have p:=(dJ r S).sZ
   grind[wpIn_cond]
  grind
 |block id c O=>
  intro I μ F H a w o F' H' h r s m u;simp[exec]at h;refine wpIn_block ?_;split at h
  .rename_i L F1 H1 b;refine wpIn_mono (O I μ F H a w _ F1 H1 b r s m u) ?_;rintro e a1 J ⟨rfl,z,C⟩;show Exit.inBlock id _ (.exit L) a1 J;unfold Exit.inBlock;split at h
   next U=>obtain⟨rfl,rfl,rfl⟩:=h;simp[U];exact⟨rfl,z,C⟩
   rename_i U;obtain⟨rfl,rfl,rfl⟩:=h;simp[U];exact⟨rfl,z,C⟩
  refine wpIn_mono (O I μ F H a w o F' H' h r s m u) ?_;rintro e a1 J ⟨rfl,z,C⟩
  cases o with
  |norm=>exact⟨rfl,z,C⟩|exit L=>grind|ret=>exact⟨rfl,z,C⟩
 |loop c O=>intro I μ F H a w o F' H' h r s m u;exact N0 (λI μ F H a w o F' H' h r s m u=>O I μ F H a w o F' H' h r s m u) h r s m u|rangeFunc g ps assign body _ _=>
  intro I μ F H a w o F' H' h r s m u
  cases T with
  |true=>simp[exec]at h|false=>
   cases ro with
   |none=>grind[Lj]|some l=>simp_all
 |exit id=>intro I μ F H a w o F' H' h r s m _;obtain⟨rfl,rfl,rfl⟩:=h;exact wpIn_exit ⟨rfl,⟨I,μ,r,s,.refl _ _ _ _⟩,m⟩|ret=>intro I μ F H a w o F' H' h r s m _;obtain⟨rfl,rfl,rfl⟩:=h;exact wpIn_ret ⟨rfl,⟨I,μ,r,s,.refl _ _ _ _⟩,m⟩|scope body _=>simp_all[exec]|goto l=>simp_all[exec]|refuse ad=>simp_all[exec]
end
end Go.VE
