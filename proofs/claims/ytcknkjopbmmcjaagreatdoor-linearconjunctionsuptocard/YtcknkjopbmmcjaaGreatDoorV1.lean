/-
 The engine: operations of the loaded code on values without a heap; a run of it is a run of the program.
-/
import Derived.RangeFuncLeaves
import Derived.Sort.Defs
import Derived.Lib.BitFns
import Derived.Laws.Sem
import Derived.Laws.World
import Derived.Laws.Append
import Derived.Laws.BytesString
import Derived.OrdersIn
set_option linter.all false
open BitVec(ofInt)
open Go.IntKind(i64 signed wrap)
open Go.Op(bytesLess equal equalIn intArith intBits intCmp operands)
open List(all_eq_true append_assoc drop_drop drop_take eq_of_mem_replicate finRange flatten_append flatten_cons getElem?_append_left getElem?_cons_zero getElem?_drop getElem?_set_ne getElem?_set_self getElem?_take length length_cons length_set length_take mem_append mem_cons mem_cons_of_mem mem_cons_self mem_filter mem_flatten mem_map mem_of_getElem? mem_of_mem_drop mem_of_mem_take range replicate set_comm take take_append_drop take_take)
open Array(ext' getD_eq_getD_getElem? getElem?_eq_none length_toList)
open Go.Instr(checkKey fieldAt fill findAsking findKey findNow indexAt loadAt sameBits sameNow sliceAt sliceBound sliceBounds storeAt sureAddr)
open Go.Sem(run_bind run_ite run_pure)
open Go.Result(andThen andThen_ok)
open Bool(false_eq_true)
open Option(getD_some isSome_iff_exists map_some)
open Nat(add_assoc add_mul add_zero eq_zero_or_pos le_refl le_succ le_trans min_eq_left mod_lt mul_le_mul mul_le_mul_right one_mul zero_add zero_le zero_mul)
open Go.Builtin(append_ cap_ clear_ firstCells lenOf len_ max2 max_ min2 min_ nextslicecap zeroCells)
open Go.World(cell? frozen?)
open Go.Question(appendCap forced)
namespace Go.VE
abbrev T2:=IntKind
abbrev UV:=Operand
abbrev U':=ByteArray
abbrev V':=Value
abbrev W':=TypeId
abbrev X':=Bool
abbrev Y':=FuncId
def Zaa{p:Prop}(h:p:=by omega):p:=h
def Zab{p:Prop}(h:p:=by simp):p:=h
def Zac{p:Prop}(h:p:=by grind):p:=h
def Zad{p:Prop}(h:p:=by simp_all):p:=h
def ζa{α:Type _}(a b:α):(some a=some b)=(a=b):=Option.some.injEq a b
def ζb{α β:Type _}(a:α)(f:α->Option β):(some a).bind f=f a:=rfl
def ζc{α β:Type _}(a:α)(b:β)(c:α)(d:β):((a,b)=(c,d))=(a=c/\b=d):=Prod.mk.injEq a b c d
def ζd{α:Type _}{l:List α}{i:Nat}(h:i<l.length):l[i]?=some l[i]:=List.getElem?_eq_getElem h
def ζe{α:Type _}{l:List α}{i:Nat}{a:α}:l[i]?=some a↔∃h:i<l.length,l[i]=a:=List.getElem?_eq_some_iff
def ζf{α β:Type _}{b:β}{x:Option α}{f:α->β}:x.map f=some b↔∃a,x=some a/\f a=b:=Option.map_eq_some_iff
def ζg{α β:Type _}{b:β}{x:Option α}{f:α->Option β}:x.bind f=some b↔∃a,x=some a/\f a=some b:=Option.bind_eq_some_iff
def ζh(a b:X'):((a&&b)=true)=(a=true/\b=true):=Bool.and_eq_true a b
def ζi{α:Type _}{a b:List α}:(a++b).length=a.length+b.length:=List.length_append
abbrev aZ:=@List
abbrev R0:=aZ Oper
abbrev R':=aZ Int
abbrev ST:=aZ Nat
abbrev a_:=@Option
abbrev Pi:=a_ Int
inductive V where
 |bool(b:Bool)|int(k:IntKind)(n:Int)|str(s:ByteArray)|dX|bM|fsl(es:Nat)(xs:List (List V))|hsl(id es off len:Nat)|ja|fptr(cs:List V)|hptr(id el off:Nat)|clo(f:FuncId)(first cap:List V)|yld(id:Nat)|hG|ug|fmap(kvs:List (V×V))|hmap(id:Nat)|agg(cs:List V)|tup(vs:List V)
 deriving Inhabited
abbrev So:=aZ V
abbrev S':=aZ (aZ V)
def V.undef:V:=.tup []
def V.one:V->X'
 |.agg _|.tup _=>false|_=>true
def V.cells:V->So
 |.agg cs=>cs|v=>[v]
mutual
def V.scalar:V->X'
 |.bool _|.int ..|.str _|.ja|.hG|.ug|.dX|.bM=>true|.agg cs=>V.c9 cs|.tup cs=>V.c9 cs|_=>false
def V.c9:So->X'
 |[]=>true|v::r=>V.scalar v&&V.c9 r
end
mutual
def V.closed:V->X'
 |.hsl ..|.hptr ..|.yld ..|.hmap ..=>false|.clo _ a b=>V.mL a&&V.mL b|.agg cs=>V.mL cs|.tup cs=>V.mL cs|_=>true
def V.mL:So->X'
 |[]=>true|v::r=>V.closed v&&V.mL r
end
inductive TK where
 |bool|int (k:IntKind)|str|ptr (e:TypeId)|slice (e:TypeId)|struct(fs:List (Nat×TypeId))|array (n:Nat) (e:TypeId)|map (k e:TypeId)|other
 deriving Inhabited
structure TD where
 size:Nat
 bytes:Nat
 zero:List V
 kind:TK
 deriving Inhabited
def TD.agg(d:TD):X':=match d.kind with|.struct _|.array _ _=>true|_=>false
abbrev Frame:=aZ V
abbrev WP:=Frame
def get:WP->Nat->V
 |[],_=>.undef|x::_,0=>x|_::r,i+1=>get r i
def set:WP->Nat->V->WP
 |[],0,v=>[v]|[],i+1,v=>.undef::set [] i v|_::r,0,v=>v::r|x::r,i+1,v=>x::set r i v
inductive Dy where
 |ready|busy|done
inductive Out where
 |norm|exit(id:Nat)|ret
 deriving DecidableEq,Inhabited
structure xS where
 st:Dy
 pend:Option Out
 frame:Frame
 nt:Nat
 params:List Nat
 assign:Code
 body:Code
inductive Ob where
 |free|dead|row(es:Nat)(xs:List (List V))|frz(es:Nat)(xs:List (List V))|map(kvs:List (V×V))|loop(r:xS)
def Ob.rows:Ob->a_ (Nat×S')
 |.row es xs|.frz es xs=>some (es,xs)|_=>none
abbrev bp:=aZ Ob
structure FI where
 ntmps:Nat
 results:List ResultVar
 body:Code
structure Env where
 tt:TypeId->Option TD
 ft:FuncId->Option FI
 keep:FuncId->Bool
 own:FuncId->Bool
 eqN:TypeId->Option Nat
 sort:FuncId->Bool
 known:FuncId->List V->Option V:=λ_ _=>none
def Env.kindOf(E:Env)(t:W'):a_ TK:=(E.tt t).map TD.kind
def ofValue:Nat->V'->a_ V
 |0,_=>none|n+1,v=>
  match v with
  |.bool b=>some (.bool b)|.int k n=>some (.int k n)|.string s=>some (.str s)|.pointer none=>some .ja|.slice none 0 0=>some .bM|.map none=>some .hG|.nilFunc=>some .ug|.agg cs=>(cs.toList.mapM (ofValue n)).map .agg|_=>none
class b_ where
 gl:Nat->Option (List V)
 sc:∀g cs,gl g=some cs->∃(k:IntKind)(l:List Int),cs=l.map (V.int k)
variable[b_]
def ev(F:WP):UV->a_ V
 |.tmp t=>some (get F t)|.const v=>ofValue 4 v|.func f=>some (.clo f [] [])|.global g=>(b_.gl g).map .fptr
def gj(F:WP):aZ UV->a_ So
 |[]=>some []|x::r=>match ev F x,gj F r with
  |some v,some vs=>some (v::vs)|_,_=>none
def mk(agg:X')(cs:So):a_ V:=if agg then some (.agg cs)else match cs with|[v]=>some v|_=>none
def cut(cs:So)(off n:Nat):a_ So:=
 let r:=(cs.drop off).take n
 if r.length=n then some r else none
def jr:So->a_ R'
 |[]=>some []|.int .i64 a::r=>(jr r).map (a::·)|_=>none
def mA(az B:So):a_ X':=
 match jr az,jr B with
 |some a,some b=>if a.length=b.length then some (a==b)else none|_,_=>none
def pU(op:BinOp)(x y:Int):a_ X':=
 match op with
 |.eql=>some (x==y)|.neq=>some (x != y)|.lss=>some (decide (x<y))|.leq=>some (decide (x<=y))|.gtr=>some (decide (x>y))|.geq=>some (decide (x>=y))|_=>none
def wC(k:TK)(x y:V):a_ X':=
 match k,x,y with
 |.slice _,.bM,.bM=>some true|.slice _,.fsl ..,.bM=>some false|.slice _,.hsl ..,.bM=>some false|.ptr _,.ja,.ja=>some true|.ptr _,.fptr _,.ja=>some false|.ptr _,.hptr ..,.ja=>some false|.map ..,.hG,.hG=>some true|.map ..,.fmap _,.hG=>some false|.map ..,.hmap _,.hG=>some false|_,_,_=>none
def KW(E:Env)(op:BinOp)(t:W')(x y:V):a_ V:=
 match x,y with
 |.int k a,.int u b=>
  match op with
  |.shl=>if b<0 then none else some (.int k (k.wrap (a*2 ^ (min b.toNat k.bits))))|.shr=>if b<0 then none else some (.int k (a.fdiv (2 ^ (min b.toNat k.bits))))|_=>if k=u then
   match op with
   |.add=>some (.int k (k.wrap (a+b)))|.sub=>some (.int k (k.wrap (a-b)))|.mul=>some (.int k (k.wrap (a*b)))|.quo=>if b=0 then none else some (.int k (k.wrap (a.tdiv b)))|.rem=>if b=0 then none else some (.int k (a.tmod b))|.and=>some (.int k (k.wrap (ofInt k.bits a &&& ofInt k.bits b).toNat))|.or=>some (.int k (k.wrap (ofInt k.bits a ||| ofInt k.bits b).toNat))|.xor=>some (.int k (k.wrap (ofInt k.bits a ^^^ ofInt k.bits b).toNat))|.andNot=>some (.int k (k.wrap (ofInt k.bits a &&& ~~~ ofInt k.bits b).toNat))|op=>(pU op a b).map .bool
   else none
 |.str a,.str b=>
  match op with
  |.add=>if((a.size+b.size:Nat):Int)>i64.max then none else some (.str (a++b))|.eql=>some (.bool (a.toList==b.toList))|.neq=>some (.bool !(a.toList==b.toList))|.lss=>some (.bool (bytesLess a.toList b.toList))|.leq=>some (.bool (bytesLess a.toList b.toList||a.toList==b.toList))|.gtr=>some (.bool !(bytesLess a.toList b.toList||a.toList==b.toList))|.geq=>some (.bool !(bytesLess a.toList b.toList))|_=>none
 |.bool a,.bool b=>
  match E.kindOf t,op with
  |some .bool,.eql=>some (.bool (a==b))|some .bool,.neq=>some (.bool !(a==b))|_,_=>none
 |.agg a,.agg b=>
  match E.eqN t,op with
  |some n,.eql=>if a.length=n then(mA a b).map .bool else none|some n,.neq=>if a.length=n then(mA a b).map (λt=>.bool !t)else none|_,_=>none
 |x,y=>
  match E.kindOf t,op with
  |some k,.eql=>(wC k x y).map .bool|some k,.neq=>(wC k x y).map λt=>.bool !t|_,_=>none
def vX(place:Nat->a_ (Nat×Nat))(cells:So):aZ (Nat×V)->a_ So
 |[]=>some cells|(i,v)::rest=>
  match place i with
  |none=>none|some (off,size)=>
   if v.cells.length≠size||off+v.cells.length>cells.length then none
   else vX place (cells.take off++v.cells++cells.drop (off+v.cells.length)) rest
def nZ(F:WP):aZ (Nat×UV)->a_ (aZ (Nat×V))
 |[]=>some []|(i,x)::r=>match ev F x,nZ F r with
  |some v,some vs=>some ((i,v)::vs)|_,_=>none
def oW(E:Env):aZ (Nat×W')->a_ (aZ (Nat×Nat))
 |[]=>some []|(off,t)::r=>match E.tt t,oW E r with
  |some d,some ps=>some ((off,d.size)::ps)|_,_=>none
def lz(F:WP):a_ UV->a_ Pi
 |none=>some none|some x=>match ev F x with
  |some (.int _ n)=>some (some n)|_=>none
def eD(len:Nat)(lo hi:Pi):a_ (Nat×Nat):=
 let h:=hi.getD len
 let l:=lo.getD 0
 if 0<=h/\h<=len/\0<=l/\l<=h then some (l.toNat,h.toNat)else none
def D2(a b:Int):Int:=if b>a then b else a
def bU(E:Env)(F:WP)(op:Op):a_ V:=
 match op with
 |.move x|.assign x=>ev F x|.pick c a b=>match ev F c with
  |some (.bool t)=>if t then ev F a else ev F b|_=>none
 |.nilCheck x=>match ev F x with
  |some (.hptr id el off)=>some (.hptr id el off)|some (.fptr cs)=>some (.fptr cs)|some (.clo f a b)=>some (.clo f a b)|_=>none
 |.binOp op t x y _=>match ev F x,ev F y with
  |some a,some b=>KW E op t a b|_,_=>none
 |.unOp op _ x=>match op,ev F x with
  |.not,some (.bool b)=>some (.bool !b)|.neg,some (.int k n)=>some (.int k (k.wrap (0-n)))|_,_=>none
 |.convert s d x=>match E.tt s,E.tt d,ev F x with
  |some _,some C,some (.int _ n)=>match C.kind with
   |.int k=>some (.int k (k.wrap n))|_=>none
  |_,_,_=>none
 |.fieldAddr s x f=>match E.kindOf s,ev F x with
  |some (.struct fs),some p=>match fs[f]?with
   |some (off,t)=>match E.tt t with
    |some d=>if d.size=0 then none else match p with
     |.fptr cs=>if off<=cs.length then some (.fptr (cs.drop off))else none|.hptr id el o=>some (.hptr id el (o+off))|_=>none
    |none=>none
   |none=>none
  |_,_=>none
 |.field s x f=>match E.kindOf s,ev F x with
  |some (.struct fs),some (.agg cs)=>match fs[f]?with
   |some (off,t)=>match E.tt t with
    |some d=>(cut cs off d.size).bind (mk d.agg)|none=>none
   |none=>none
  |_,_=>none
 |.indexAddr t x i=>match E.kindOf t,ev F x,ev F i with
  |some (.slice e),some s,some (.int _ n)=>match E.tt e with
   |some d=>if n<0 then none else match s with
    |.fsl es u=>if es=d.size then(u[n.toNat]?).map .fptr else none|.hsl id es off len=>if es=d.size/\n.toNat<len then some (.hptr id (off+n.toNat) 0)else none|_=>none
   |none=>none
  |some (.array len e),some p,some (.int _ n)=>match E.tt e with
   |some d=>if 0<=n/\n<len then match p with
    |.fptr cs=>if n.toNat*d.size<=cs.length then some (.fptr (cs.drop (n.toNat*d.size)))else none|.hptr id el o=>some (.hptr id el (o+n.toNat*d.size))|_=>none
    else none
   |none=>none
  |_,_,_=>none
 |.index t x i=>match E.kindOf t,ev F x,ev F i with
  |some .str,some (.str s),some (.int _ n)=>if 0<=n then(s[n.toNat]?).map (λb=>.int .u8 b.toNat)else none|some (.array len e),some (.agg cs),some (.int _ n)=>match E.tt e with
   |some d=>if 0<=n/\n<len then(cut cs (n.toNat*d.size) d.size).bind (mk d.agg)else none|none=>none
  |_,_,_=>none
 |.slice t x lo hi D=>match E.kindOf t,ev F x,lz F lo,lz F hi,lz F D with
  |some .str,some (.str s),some l,some h,some none=>(eD s.size l h).map λ(l,h)=>.str (s.extract l h)|some (.slice e),some v,some l,some h,some none=>match E.tt e with
   |some d=>match v with
    |.fsl es u=>if es=d.size then(eD u.length l h).map λ(l,h)=>.fsl es ((u.take h).drop l)else none|.hsl id es off len=>if es=d.size then(eD len l h).map λ(l,h)=>.hsl id es (off+l) (h-l)else none|.dX=>(eD 0 l h).map λ_=>.dX|.bM=>(eD 0 l h).map λ_=>.bM|_=>none
   |none=>none
  |some (.slice e),some v,some none,some (some 0),some (some 0)=>match E.tt e,v with
   |some _,.fsl ..|some _,.hsl ..|some _,.dX|some _,.bM=>some .dX|_,_=>none
  |_,_,_,_,_=>none
 |.build t ps=>match E.tt t,nZ F ps.toList with
  |some d,some w=>match d.kind with
   |.struct fs=>match oW E fs with
    |some pl=>(vX (λi=>pl[i]?) d.zero w).map .agg|none=>none
   |.array _ e=>match E.tt e with
    |some B=>(vX (λi=>some (i*B.size,B.size)) d.zero w).map .agg|none=>none
   |_=>none
  |_,_=>none
 |.makeFunc (.func f) a b=>match gj F a.toList,gj F b.toList with
  |some a,some b=>some (.clo f a b)|_,_=>none
 |.extract x i=>match ev F x with
  |some (.tup w)=>w[i]?|_=>none
 |.call {callee:=.builtin b,args,argTypes}=>match b,gj F args.toList,argTypes[0]?with
  |.len,some [v],some t=>match E.kindOf t,v with
   |some .str,.str s=>some (.int .i64 s.size)|some (.slice _),.fsl _ u=>some (.int .i64 u.length)|some (.slice _),.hsl _ _ _ len=>some (.int .i64 len)|some (.slice _),.dX=>some (.int .i64 0)|some (.slice _),.bM=>some (.int .i64 0)|_,_=>none
  |.cap,some [v],some t=>match E.kindOf t,v with
   |some (.slice _),.bM=>some (.int .i64 0)|some (.slice _),.dX=>some (.int .i64 0)|_,_=>none
  |.max,some [.int k a,.int z b],_=>if k=z then some (.int k (if b>a then b else a))else none|.max,some [.int k a,.int k1 b,.int k2 c,.int k3 d],_=>if k=k1/\k=k2/\k=k3 then some (.int k (D2 (D2 (D2 a b) c) d))else none|.min,some [.int k a,.int z b],_=>if k=z then some (.int k (if b<a then b else a))else none|_,_,_=>none
 |_=>none
def eU(H:bp)(p:V)(n:Nat):a_ So:=
 match p with
 |.fptr cs=>cut cs 0 n|.hptr id el off=>match(H[id]?).bind Ob.rows with
  |some (_,u)=>match u[el]?with
   |some cs=>cut cs off n|none=>none
  |none=>none
 |_=>none
def yT:V->V->a_ X'
 |.int k a,.int B b=>if k=B then some (a==b)else none|.str a,.str b=>some (a==b)|.agg a,.agg b=>mA a b|_,_=>none
def jd(k:V):aZ (V×V)->Nat->a_ (a_ (Nat×V))
 |[],_=>some none|(B,v)::r,i=>match yT k B with
  |some true=>some (some (i,v))|some false=>jd k r (i+1)|none=>none
def Dc(E:Env)(t:W')(k:V):X':=
 match E.kindOf t,k with
 |some (.int k),.int u _=>k==u|some .str,.str _=>true|some _,.agg cs=>match E.eqN t with|some n=>cs.length==n&&(jr cs).isSome|none=>false
 |_,_=>false
def og(H:bp):V->a_ (aZ (V×V))
 |.hG=>some []|.fmap B=>some B|.hmap id=>match H[id]?with
  |some (.map B)=>some B|_=>none
 |_=>none
def eG(E:Env)(F:WP)(H:bp)(op:Op):a_ V:=
 match op with
 |.load t a=>match E.tt t,ev F a with
  |some d,some p=>(eU H p d.size).bind (mk d.agg)|_,_=>none
 |.lookup t m k ok=>match E.kindOf t,ev F m,ev F k with
  |some (.map w B),some m,some k=>match E.tt B,og H m with
   |some d,some u=>if Dc E w k then match jd k u 0,mk d.agg d.zero with
    |some (some (_,v)),_=>some (if ok then .tup [v,.bool true]else v)|some none,some z=>some (if ok then .tup [z,.bool false]else z)|_,_=>none
    else none
   |_,_=>none
  |_,_,_=>none
 |_=>none
inductive Mk where
 |ptr|sl (es len:Nat)|map
def Mk.val(id:Nat):Mk->V
 |.ptr=>.hptr id 0 0|.sl es len=>.hsl id es 0 len|.map=>.hmap id
def fW(es:Nat)(xs:S'):aZ (Nat×V)->a_ S'
 |[]=>some xs|(i,v)::r=>if v.cells.length=es/\i<xs.length/\v.cells.all V.one=true then fW es (xs.set i v.cells) r else none
def fH(E:Env)(F:WP)(op:Op):a_ (Ob×Mk):=
 match op with
 |.alloc t=>(E.tt t).map λd=>(.row d.size [d.zero],.ptr)|.box _ x=>match ev F x with
  |some v=>if v.cells.all V.one then some (.row v.cells.length [v.cells],.ptr)else none|none=>none
 |.makeSlice t l c=>match E.kindOf t,ev F l,ev F c with
  |some (.slice e),some (.int k n),some (.int u m)=>match E.tt e with
   |some d=>if k=.i64/\u=.i64/\0<=n/\n<=m/\m<=2147483648/\d.bytes<=4096 then some (.row d.size (replicate m.toNat d.zero),.sl d.size n.toNat)else none|none=>none
  |_,_,_=>none
 |.buildSlice t len ps=>match E.kindOf t,nZ F ps.toList with
  |some (.slice e),some w=>match E.tt e with
   |some d=>if len*d.size<=16777216 then(fW d.size (replicate len d.zero) w).map λz=>(.row d.size z,.sl d.size len)else none|none=>none
  |_,_=>none
 |.makeMap _ none=>some (.map [],.map)|_=>none
def qW(E:Env)(F:WP)(op:Op):a_ V:=
 match fH E F op with
 |some (.row es u,.sl w n)=>if w=es/\n=u.length/\(u.all λx=>x.all V.scalar)=true then match op with
  |.buildSlice ..=>if u.isEmpty then(if es != 0 then some .dX else none)else some (.fsl es u)|_=>some (.fsl es u)
  else none
 |_=>none
def dY(H:bp)(es:Nat):V->a_ S'
 |.dX=>some []|.bM=>some []|.fsl B xs=>if B=es then some xs else none|.hsl id B off len=>if B=es then match(H[id]?).bind Ob.rows with
  |some (_,xs)=>if off+len<=xs.length then some ((xs.drop off).take len)else none|none=>none
  else none
 |_=>none
def rI(k v:V)(B:aZ (V×V)):a_ (aZ (V×V)):=
 match jd k B 0 with
 |some (some (j,_))=>some (B.set j (k,v))|some none=>some (B++[(k,v)])|none=>none
def iK(H:bp):V->a_ bp
 |.dX=>some H|.bM=>some H|.hsl id _ _ _=>match H[id]?with
  |some (.row _ _)=>some (H.set id .dead)|_=>none
 |_=>none
def mkApp(H:bp)(size bytes:Nat)(zero:So)(s x:V):a_ (V×bp):=
 match s,x with
 |.bM,.int _ n=>if n=0 then some (.bM,H)else if 0<n/\n<=2147483648/\bytes<=4096/\0<bytes then some (.hsl H.length size 0 n.toNat,H++[.row size (replicate n.toNat zero)])else none|_,_=>none
def EL(H:bp)(size:Nat)(zero:So):V->a_ (V×bp)
 |.bM|.dX=>some (.undef,H)|.hsl id es off len=>if es=size then match len with
  |0=>some (.undef,H)|len+1=>match H[id]?with
   |some (.row B xs)=>if off+(len+1)<=xs.length then some (.undef,H.set id (.row B (xs.take off++replicate (len+1) zero++xs.drop (off+(len+1)))))else none|_=>none
  else none
 |_=>none
def dB(E:Env)(F:WP)(H:bp)(op:Op):a_ (V×bp):=
 match op with
 |.store t a x=>match E.tt t,ev F a,ev F x with
  |some d,some (.hptr id el off),some v=>match H[id]?with
   |some (.row es w)=>match w[el]?with
    |some cs=>if v.cells.length=d.size/\off+d.size<=cs.length/\v.cells.all V.one=true then
     some (.undef,H.set id (.row es (w.set el (cs.take off++v.cells++cs.drop (off+v.cells.length)))))else none
    |none=>none
   |_=>none
  |_,_,_=>none
 |.mapUpdate t m k x|.insert t m k x=>match E.kindOf t,ev F m,ev F k,ev F x with
  |some (.map B _),some (.hmap id),some k,some v=>match H[id]?with
   |some (.map u)=>if Dc E B k then(rI k v u).map λu=>(.undef,H.set id (.map u))else none|_=>none
  |_,_,_,_=>none
 |.call {callee:=.builtin .append,args,argTypes}=>match argTypes.toList,gj F args.toList with
  |[t,C],some [s,x]=>match E.kindOf t,E.kindOf C with
   |some (.slice e),some (.slice _)=>match E.tt e with
    |some d=>match dY H d.size s,dY H d.size x with
     |some _,some []=>some (s,H)|some w,some z=>
      if w.length+z.length<=2147483648/\d.bytes<=4096/\0<d.bytes then
       (iK H s).map λH1=>(.hsl H.length d.size 0 (w.length+z.length),H1++[.row d.size (w++z)])
      else none
     |_,_=>none
    |none=>none
   |some (.slice e),some (.int _)=>match E.tt e with
    |some d=>mkApp H d.size d.bytes d.zero s x|none=>none
   |_,_=>none
  |_,_=>none
 |.call {callee:=.builtin .clear,args,argTypes}=>match argTypes[0]?,gj F args.toList with
  |some t,some [v]=>match E.kindOf t with
   |some (.slice e)=>match E.tt e with
    |some d=>EL H d.size d.zero v|none=>none
   |_=>none
  |_,_=>none
 |_=>none
def mX:S'->a_ R'
 |[]=>some []|[.int .u8 n]::r=>(mX r).map (n::·)|_=>none
def mc(l:R'):U':=l.foldl (λr n=>r.push (UInt8.ofNat n.toNat)) ByteArray.empty
def evalConv(E:Env)(F:WP)(H:bp)(op:Op):a_ V:=
 match op with
 |.convert s d x=>match E.kindOf s,E.kindOf d,ev F x with
  |some (.slice e),some .str,some v=>match E.kindOf e with
   |some (.int .u8)=>(dY H 1 v).bind λu=>(mX u).map λl=>.str (mc l)|_=>none
  |_,_,_=>none
 |_=>none
def uL(E:Env)(F:WP)(H:bp)(place:a_ (Nat×Nat))(op:Op):a_ V:=
 match bU E F op with
 |some v=>some v|none=>match place with
  |none=>evalConv E F H op|some _=>none
inductive Callee where
 |fn(f:FuncId)|yld(id:Nat)
def kW(F:WP)(op:Op):a_ (Callee×So):=
 match op with
 |.call {callee:=.value f,args,..}=>match ev F f,gj F args.toList with
  |some (.clo g a b),some u=>some (.fn g,a++u++b)|some (.yld id),some u=>some (.yld id,u)|_,_=>none
 |_=>none
inductive XF where
 |pure|read|alloc|loud|call
 deriving DecidableEq
def dF:Op->XF
 |.load ..|.lookup ..=>.read|.alloc ..|.box ..|.makeSlice ..|.buildSlice ..|.makeMap ..=>.alloc|.store ..|.mapUpdate ..|.insert ..=>.loud|.call {callee:=.builtin .append,..}=>.loud|.call {callee:=.builtin .clear,..}=>.loud|.call {callee:=.value _,..}=>.call|_=>.pure
def jm(f:V->a_ V):So->a_ So
 |[]=>some []|x::r=>match f x,jm f r with
  |some y,some s=>some (y::s)|_,_=>none
def nv(f:V->a_ V):S'->a_ S'
 |[]=>some []|x::r=>match jm f x,nv f r with
  |some y,some s=>some (y::s)|_,_=>none
def m_(f:V->a_ V):aZ (V×V)->a_ (aZ (V×V))
 |[]=>some []|(k,x)::r=>match f k,f x,m_ f r with
  |some k,some y,some s=>some ((k,y)::s)|_,_,_=>none
def borrow:Nat->bp->V->a_ V
 |0,_,x=>if x.closed then some x else none|n+1,H,x=>
  if x.closed then some x else
  match x with
  |.hsl id es off len=>match(H[id]?).bind Ob.rows with
   |some (B,xs)=>if B=es/\off+len<=xs.length then(nv (borrow n H) ((xs.drop off).take len)).map (.fsl es)else none|none=>none
  |.hptr id el off=>match(H[id]?).bind Ob.rows with
   |some (_,xs)=>match xs[el]?with
    |some cs=>if off<=cs.length then(jm (borrow n H) (cs.drop off)).map .fptr else none|none=>none
   |none=>none
  |.hmap id=>match H[id]?with
   |some (.map D)=>(m_ (borrow n H) D).map .fmap|_=>none
  |.clo f a b=>match jm (borrow n H) a,jm (borrow n H) b with
   |some a,some b=>some (.clo f a b)|_,_=>none
  |.agg cs=>(jm (borrow n H) cs).map .agg|.tup cs=>(jm (borrow n H) cs).map .tup|_=>none
def borrows(n:Nat)(H:bp)(l:So):a_ So:=jm (borrow n H) l
def c_(f:V->ST):So->ST
 |[]=>[]|x::r=>f x++c_ f r
def cA:Nat->bp->V->ST
 |0,_,_=>[]|n+1,H,x=>
  if x.closed then[]else
  match x with
  |.hsl id _ off len=>id::(match(H[id]?).bind Ob.rows with|some (_,xs)=>c_ (cA n H) ((xs.drop off).take len).flatten|none=>[])|.hptr id el off=>id::(match(H[id]?).bind Ob.rows with|some (_,xs)=>c_ (cA n H) (((xs[el]?).getD []).drop off)|none=>[])|.hmap id=>id::(match H[id]?with|some (.map B)=>c_ (cA n H) (B.map (·.1))++c_ (cA n H) (B.map (·.2))|_=>[])|.clo _ a b=>c_ (cA n H) a++c_ (cA n H) b|.agg cs=>c_ (cA n H) cs|.tup cs=>c_ (cA n H) cs|_=>[]
def wB(H:bp)(id:Nat):bp:=
 match H[id]?with
 |some (.row es u)=>H.set id (.frz es u)|some (.map _)=>H.set id .dead|_=>H
def cT(H:bp)(l:ST):bp:=l.foldl wB H
structure dQ where
 lv:Nat
 go:Callee->List V->bp->Option (V×bp)
instance:CoeFun dQ λ_=>Callee->So->bp->a_ (V×bp):=⟨dQ.go⟩
def jM(H:bp)(T:ST):X':=T.all λid=>((H[id]?).bind Ob.rows).isSome
def cw(call:dQ)(f:Y')(args:So)(H:bp):a_ V:=
 match borrows call.lv H args with
 |some az=>match call (.fn f) az []with
  |some (r,H1)=>match borrow call.lv H1 r with
   |some y=>if y.closed then some y else none|none=>none
  |none=>none
 |none=>none
def s6(k:Nat)(H1:bp)(id es off len:Nat):a_ (V×Ob):=
 match H1[id]?with
 |some (.row u w)=>if u=es/\(w.all λx=>x.all V.scalar)=true then some (.hsl k es off len,.row es w)else none|_=>none
def mj(call:dQ)(f:Y')(args:So)(H:bp):a_ (V×bp):=
 match borrows call.lv H args with
 |some az=>match call (.fn f) az []with
  |some (r,H1)=>
   if r.scalar then some (r,H)else
   match r with
   |.hsl id es off len=>(s6 H.length H1 id es off len).map λ(v,ob)=>(v,H++[ob])|.tup (.hsl id es off len::rest)=>if V.c9 rest then(s6 H.length H1 id es off len).map λ(v,ob)=>(.tup (v::rest),H++[ob])else none|_=>none
  |none=>none
 |none=>none
def fM(E:Env)(call:dQ)(f:Y')(args:So)(H:bp):a_ (V×bp):=if E.own f then mj call f args H else call (.fn f) args H
def mR(e:Edge):X':=match e.ground with|.textOnly _|.gcOnly _=>false|_=>true
def G4(o:Oper)(i:Nat):X':=o.after.any λe=>e.on==i&&mR e
def KZ(a:aZ ST)(o:Oper):ST:=(o.after.toList.filter mR).foldl (λl e=>(e.on::(a[e.on]?).getD []).foldl (λl k=>if l.contains k then l else k::l) l) []
def JG(ops:R0):aZ ST:=ops.foldl (λa o=>a++[KZ a o]) []
def before(ops:R0)(i k:Nat):X':=(((JG ops)[i]?).getD []).contains k
def isApp:Op->X'
 |.call {callee:=.builtin .append,..}=>true|_=>false
def dV(ops:R0)(i:Nat):X':=
 match ops[i]?with
 |some o=>(range ops.length).all λk=>match ops[k]?with
  |some p=>k==i||dF p.op==.pure||(if k<i then before ops i k else before ops k i)||(isApp o.op&&dF p.op==.alloc&&decide (i<k))|none=>true
 |none=>false
def dstsOf(ops:R0):ST:=ops.filterMap (·.dst)
def yC(ops:R0)(i k:Nat):X':=if k<i then before ops i k else before ops k i
def Jh(ops:R0)(i k:Nat):a_ ST:=
 match ops[k]?with
 |some p=>
  if k==i||dF p.op==.pure||yC ops i k then some []else
  match p.op with
  |.load _ (.tmp a)=>if(dstsOf ops).contains a then some []else some [a]|_=>none
 |none=>some []
def Ea(ops:R0)(i:Nat):ST->a_ ST
 |[]=>some []|k::r=>match Jh ops i k,Ea ops i r with
  |some a,some b=>some (a++b)|_,_=>none
def CB(ops:R0)(i:Nat):a_ (Nat×ST):=
 match(ops[i]?).map Oper.op with
 |some (.store _ (.tmp a) _)=>if(dstsOf ops).contains a then none else(Ea ops i (range ops.length)).map λl=>(a,l)|_=>none
def sV(id:Nat):V->X'
 |.hptr B _ _=>B != id|.fptr _=>true|_=>false
def tR(ops:R0)(i:Nat)(F:WP):X':=
 match CB ops i with
 |some (a,l)=>match get F a with
  |.hptr id _ _=>l.all λs=>sV id (get F s)|_=>false
 |none=>false
def rm(ops:R0)(k a':Nat):ST:=
 if(dstsOf ops).contains a' then(range ops.length).filterMap λi=>match(ops[i]?).map Oper.op with
  |some (.store _ (.tmp a) _)=>if yC ops i k||(dstsOf ops).contains a then none else some a|_=>none
 else[]
def qa(ops:R0)(k:Nat)(F:WP)(op:Op):X':=
 match op with
 |.load _ (.tmp u)=>(rm ops k u).all λa=>match get F a with
  |.hptr id _ _=>sV id (get F u)|_=>true
 |_=>true
def CN(d:Nat)(op:Op):X':=op.operands.any λx=>match x with|.tmp t=>t==d|_=>false
def T8(d:Nat):Op->X'
 |.call {callee:=.builtin .append,args,..}=>match args.toList with
  |.tmp t::r=>t==d&&r.all λx=>match x with|.tmp t=>t != d|_=>true
  |_=>false
 |_=>false
def CV(ops:R0)(i:Nat):X':=
 match ops[i]?with
 |some o=>match o.op,o.dst with
  |.makeSlice ..,some d=>(ops.any λp=>CN d p.op)&&ops.all λp=> !CN d p.op||dF p.op==.call|.buildSlice _ len ps,some d=>len==0&&ps.size==0&&((range ops.length).any λk=>match ops[k]?with|some p=>CN d p.op&& !dV ops k|none=>false)&&ops.all λp=> !CN d p.op||T8 d p.op|_,_=>false
 |none=>false
def VN(E:Env)(ops:R0)(i:Nat):X':=
 match ops[i]?with
 |some o=>match o.op,o.dst with
  |.buildSlice t len _,some d=>decide (0<len)&&(match E.kindOf t with
   |some (.slice e)=>(match E.kindOf e with|some .bool|some (.int _)|some .str=>true|_=>false)|_=>false)&&(ops.any λp=>CN d p.op)&&ops.all λp=> !CN d p.op||dF p.op==.call
  |_,_=>false
 |none=>false
def EU(E:Env)(ops:R0)(i:Nat):X':=CV ops i||VN E ops i
def tw(E:Env)(ops:R0):a_ (Nat×Nat)->X'
 |some (_,i)=>EU E ops i|none=>false
def mY(E:Env)(ops:R0)(place:a_ (Nat×Nat))(f:Y'):X':=E.keep f&&(match place with|none=>true|some (_,i)=>dV ops i|| !E.own f)
def za(ops:R0)(i:Nat):X':=
 match ops[i]?with
 |some o=>isApp o.op&&(range ops.length).all λk=>match ops[k]?with
  |some p=>k==i||dF p.op==.pure||yC ops i k||dF p.op==.read||(dF p.op==.alloc&&(CV ops k||decide (i<k)))|none=>true
 |none=>false
def rB(F:WP):Op->X'
 |.call {callee:=.builtin .append,args,..}=>match args.toList with
  |x::_=>match ev F x with|some .dX|some .bM=>true|_=>false
  |_=>false
 |_=>false
def AF(ops:R0)(i b:Nat)(F:WP)(H:bp)(op:Op):X':=za ops i&&(isApp op&&rB F op&&decide (b<=H.length))
def dN(E:Env)(call:dQ)(ops:R0)(place:a_ (Nat×Nat))(F:WP)(H:bp)(op:Op):a_ (V×bp):=
 match dF op with
 |.pure=>(uL E F H place op).map λv=>(v,H)|.read=>match place with
  |none=>(eG E F H op).map λv=>(v,H)|some (b,i)=>if qa ops i F op then match eG E F (H.take b) op with
   |some v=>some (v,H)|none=>if dV ops i then(eG E F H op).map λv=>(v,H)else none
   else none
 |.alloc=>if tw E ops place then(qW E F op).map λv=>(v,H)else match fH E F op,place with
  |some (ob,m),none=>some (m.val H.length,H++[ob])|some (ob,m),some (b,i)=>match H[b+i]?with
   |some .free=>some (m.val (b+i),H.set (b+i) ob)|_=>none
  |none,_=>none
 |.loud=>match place with
  |none=>dB E F H op|some (b,i)=>if dV ops i||tR ops i F||AF ops i b F H op then dB E F H op else none
 |.call=>match kW F op with
  |some (.fn f,args)=>
   if mY E ops place f then
    match place with
    |none=>fM E call f args H|some (_,i)=>if dV ops i then fM E call f args H else none
   else match place with
    |none=>match cw call f args H with
     |some y=>some (y,if y.scalar then H else cT H (c_ (cA call.lv H) args))|none=>none
    |some (b,i)=>match cw call f args (H.take b)with
     |some y=>if y.scalar then some (y,H)else if jM (H.take b) (c_ (cA call.lv (H.take b)) args)then some (y,cT H (c_ (cA call.lv (H.take b)) args))else none|none=>if dV ops i then match cw call f args H with
      |some y=>some (y,if y.scalar then H else cT H (c_ (cA call.lv H) args))|none=>none
      else none
  |some (.yld id,args)=>match place with
   |none=>call (.yld id) args H|some (_,i)=>if dV ops i then call (.yld id) args H else none
  |none=>none
def kX(n:Nat)(F:WP)(dst:a_ Nat)(v:V):a_ WP:=
 match dst with
 |none=>some F|some d=>if d<n then some (set F d v)else none
def gO(ops:R0)(F:WP)(o:Oper):X':=
 match o.guard with
 |none=>true|some (j,b)=>match(ops[j]?).bind (·.dst)with
  |some d=>match get F d with
   |.bool c=>c==b|_=>false
  |none=>false
def iu(E:Env)(call:dQ)(n:Nat)(ops:R0)(place:a_ (Nat×Nat))(o:Oper)(F:WP)(H:bp):a_ (WP×bp):=
 if gO ops F o then
  match dN E call ops place F H o.op with
  |some (v,H')=>(kX n F o.dst v).map λF'=>(F',H')|none=>none
 else(kX n F o.dst .undef).map λF'=>(F',H)
def n_(E:Env)(call:dQ)(n:Nat)(ops:R0):R0->WP->bp->a_ (WP×bp)
 |[],F,H=>some (F,H)|o::r,F,H=>match iu E call n ops none o F H with
  |some (F',H')=>n_ E call n ops r F' H'|none=>none
def lu(E:Env)(call:dQ)(n:Nat)(ops:R0)(base:Nat):ST->WP->bp->a_ (WP×bp)
 |[],F,H=>some (F,H)|i::r,F,H=>match ops[i]?with
  |some o=>match iu E call n ops (some (base,i)) o F H with
   |some (F',H')=>lu E call n ops base r F' H'|none=>none
  |none=>none
def tmpsOf(o:Oper)(ops:R0):ST:=
 (o.op.operands.toList.filterMap λ|.tmp t=>some t|_=>none)++
 (match o.guard with|some (g,_)=>((ops[g]?).bind (·.dst)).toList|none=>[])
def Aq(ops:R0)(a b:Oper):X':=
 (match a.dst with|some d=> !(tmpsOf b ops).contains d&&b.dst != some d|none=>true)&&
 (match b.dst with|some d=> !(tmpsOf a ops).contains d|none=>true)
def yg(ops:R0):X':=
 (range ops.length).all λj=>(range j).all λi=>
  match ops[i]?,ops[j]?with
  |some a,some b=>G4 b i||Aq ops a b|_,_=>false
def By(ops:R0):X':=
 (range ops.length).all λj=>match ops[j]?with
  |some o=>o.after.all λe=> !mR e||decide (e.on<j)|none=>true
def tK(ops:R0):X':=ops.any λo=>dF o.op==.alloc
def kK(E:Env)(call:dQ)(n:Nat)(ops:R0)(B:X')(F:WP)(H:bp):a_ (WP×bp):=if B then if yg ops&&By ops then lu E call n ops H.length (range ops.length) F (if tK ops then H++replicate ops.length .free else H)else none else n_ E call n ops ops F H
def mo(step:WP->bp->a_ (Out×WP×bp)):Nat->WP->bp->a_ (Out×WP×bp)
 |0,_,_=>none|k+1,F,H=>match step F H with
  |some (.norm,F',H')=>mo step k F' H'|r=>r
def mO:Out->a_ Code
 |.norm=>none|.ret=>some .ret|.exit id=>some (.exit id)
def exec(E:Env)(call:dQ)(lf:Nat)(ro:X')(n:Nat):Code->WP->bp->a_ (Out×WP×bp)
 |.skip,F,H=>some (.norm,F,H)|.label _,F,H=>some (.norm,F,H)|.region _ ops B,F,H=>(kK E call n ops.toList B F H).map λ(F',H')=>(.norm,F',H')|.seq a b,F,H=>match exec E call lf ro n a F H with
  |some (.norm,F',H')=>exec E call lf ro n b F' H'|r=>r
 |.cond c x y,F,H=>match ev F c with
  |some (.bool t)=>if t then exec E call lf ro n x F H else exec E call lf ro n y F H|_=>none
 |.block id c,F,H=>match exec E call lf ro n c F H with
  |some (.exit D,F',H')=>if D=id then some (.norm,F',H')else some (.exit D,F',H')|r=>r
 |.loop c,F,H=>mo (exec E call lf ro n c) lf F H|.rangeFunc g ps assign body,F,H=>match ro,ev F g with
  |false,some (.clo f a b)=>
   match call (.fn f) (a++.yld H.length::b) (H++[.loop ⟨.ready,none,F,n,ps.toList,assign,body⟩])with
   |some (_,H')=>match H'[H.length]?with
    |some (.loop r)=>match r.st with
     |.busy=>none|_=>some (r.pend.getD .norm,F,H'.set H.length .dead)
    |_=>none
   |none=>none
  |_,_=>none
 |.exit id,F,H=>some (.exit id,F,H)|.ret,F,H=>some (.ret,F,H)|_,_,_=>none
def js(E:Env)(F:WP)(H:bp):aZ ResultVar->a_ So
 |[]=>some []|.tmp t::r=>(js E F H r).map (get F t::·)|.cell a t::r=>match E.tt t,js E F H r with
  |some d,some vs=>((eU H (get F a) d.size).bind (mk d.agg)).map (·::vs)|_,_=>none
def result:So->V
 |[v]=>v|vs=>.tup vs
def z_:ST->So->WP->WP
 |t::B,v::vs,F=>z_ B vs (set F t v)|_,_,F=>F
def Lx{α:Type}[Inhabited α](lt:α->α->X'):Nat->Nat->Array α->Array α
 |0,_,d=>d|k+1,i,d=>Lx lt k (i+1) (Sort.insInner lt 0 i d)
def sJ(n:Nat)(lt:Fin (n+1)->Fin (n+1)->X'):Array (Fin (n+1)):=if n<12 then Lx lt n 1 (finRange (n+1)).toArray else Sort.pdq lt (finRange (n+1)).toArray 0 (n+1) (Lib.bitLen (n+1)) true true
def jS(call:dQ)(g:Y')(D B:So)(n:Nat)(i j:Fin (n+1)):Pi:=
 match D[i.1]?,D[j.1]?with
 |some a,some b=>match cw call g (a::b::B) []with
  |some (.int .i64 c)=>some c|_=>none
 |_,_=>none
def qY{n:Nat}(t:Fin (n+1)->Fin (n+1)->Pi)(i j:Fin (n+1)):X':=decide ((t i j).getD 0<0)
def De{n:Nat}(t:Fin (n+1)->Fin (n+1)->Pi):X':=
 let l:=finRange (n+1)
 l.all λi=> !qY t i i&&l.all λj=>(t i j).isSome&&l.all λk=>(!(qY t i j&&qY t j k)||qY t i k)&&((qY t i j||qY t j k)|| !qY t i k)
def tC(xs:S')(off n:Nat)(l:aZ (Fin (n+1))):S':=xs.take off++l.map (λi=>(xs[off+i.1]?).getD [])++xs.drop (off+(n+1))
def sC(keep:Y'->X')(call:dQ)(args:So)(H:bp):a_ (V×bp):=
 match args with
 |[s,c]=>match s with
  |.bM|.dX=>some (.undef,H)|.hsl id es off len=>match len,c with
   |0,_=>some (.undef,H)|n+1,.clo g [] cb=>match H[id]?with
    |some (.row w z)=>if es=1/\w=1/\off+(n+1)<=z.length/\n<2147483648/\keep g=false then
     match borrows call.lv (H.set id .dead) ((z.drop off).take (n+1)).flatten,borrows call.lv (H.set id .dead) cb with
     |some B,some u=>if De (jS call g B u n)then some (.undef,H.set id (.row 1 (tC z off n (sJ n (qY (jS call g B u n))).toList)))else none|_,_=>none
     else none
    |_=>none
   |_,_=>none
  |_=>none
 |_=>none
def lg(E:Env)(c:dQ)(n:Nat):Callee->So->bp->a_ (V×bp)
 |.fn f,args,H=>match E.ft f with
  |some fi=>if args.length<=fi.ntmps then
   match exec E c n false fi.ntmps fi.body args H with
   |some (.exit _,_,_)=>none|some (_,F',H')=>(js E F' H' fi.results).map λvs=>(result vs,H')|none=>none
   else none
  |none=>if E.sort f then sC E.keep c args H else(E.known f args).map λy=>(y,H)
 |.yld id,args,H=>match H[id]?with
  |some (.loop r)=>match r.st with
   |.ready=>if args.length=r.params.length/\r.params.all (·<r.nt)then
    match exec E c n true r.nt r.assign (z_ r.params args r.frame) H with
    |some (.norm,D,H2)=>match H2[id]?with
     |some (.loop r2)=>match r2.st with
      |.ready=>match exec E c n true r.nt r.body D (H2.set id (.loop {r2 with st:=.busy}))with
       |some (o,_,B)=>match B[id]?with
        |some (.loop r4)=>some (.bool (o==.norm),B.set id (.loop {r4 with st:=(if o==.norm then .ready else .done),pend:=(if o==.norm then none else some o)}))|_=>none
       |none=>none
      |_=>none
     |_=>none
    |_=>none
    else none
   |_=>none
  |_=>none
def run(E:Env):Nat->dQ
 |0=>⟨0,λ_ _ _=>none⟩|n+1=>⟨n+1,lg E (run E n) n⟩
def Jr{E:Env}{n:Nat}{x:Callee}{a:So}{H:bp}:run E (n+1) x a H=lg E (run E n) n x a H:=rfl
end Go.VE
namespace Go.VE
variable[b_]
@[simp] def get_nil(i:Nat):get [] i=.undef:=by cases i<;>rfl
@[simp] def uK(F:WP)(i:Nat)(v:V):get (set F i v) i=v:=by
 induction F generalizing i with
 |nil=>induction i with
  |zero=>rfl|succ i u=>simpa[set,get]using u
 |cons x r u=>cases i with
  |zero=>rfl|succ i=>simpa[set,get]using u i
def kA(F:WP){i j:Nat}(v:V)(h:i≠j):get (set F i v) j=get F j:=by
 induction F generalizing i j with
 |nil=>
  induction i generalizing j with
  |zero=>cases j with
   |zero=>grind|succ j=>simp[set,get]
  |succ i u=>cases j with
   |zero=>simp[set,get]|succ j=>simpa[set,get]using u Zaa
 |cons x r u=>cases i with
  |zero=>cases j with
   |zero=>grind|succ j=>simp[set,get]
  |succ i=>cases j with
   |zero=>simp[set,get]|succ j=>simpa[set,get]using u Zaa
def Ku(F:WP){i j:Nat}(u v:V)(h:i≠j):set (set F i u) j v=set (set F j v) i u:=by
 induction F generalizing i j with
 |nil=>
  induction i generalizing j with
  |zero=>cases j with
   |zero=>grind|succ j=>simp[set]
  |succ i w=>cases j with
   |zero=>simp[set]|succ j=>simpa[set]using w Zaa
 |cons x r w=>cases i with
  |zero=>cases j with
   |zero=>grind|succ j=>simp[set]
  |succ i=>cases j with
   |zero=>simp[set]|succ j=>simpa[set]using w Zaa
inductive IC where
 |cells(c:Array Value)|map(es:Array MapEntry)
abbrev cG:=Nat->a_ IC
def IC.at(x:IC)(w:World)(b:Nat):Prop:=
 match x with
 |.cells c=>∃el fr,w.heap[b]?=some (.cells c el fr)|.map es=>∃a,w.heap[b]?=some (.map es a)
def cG.le(I I':cG):Prop:=∀b x,I b=some x->I' b=some x
def cG.le_refl(I:cG):cG.le I I:=λ_ _ h=>h
def cG.le_trans{I J K:cG}(h:cG.le I J)(B:cG.le J K):cG.le I K:=λb x e=>B b x (h b x e)
inductive e9(I:cG):V->Value->Prop
 |bool(b:Bool):e9 I (.bool b) (.bool b)|int(k:IntKind)(n:Int):e9 I (.int k n) (.int k n)|str(s:ByteArray):e9 I (.str s) (.string s)|dX(a:Option Addr):e9 I .dX (.slice a 0 0)|bM:e9 I .bM (.slice none 0 0)|fsl0(es:Nat)(a:Addr)(cap:Nat):e9 I (.fsl es []) (.slice (some a) 0 cap)|fsl(es:Nat)(xs:List (List V))(b o cap:Nat)(c:Array Value)(hI:I b=some (.cells c))(hc:xs.length<=cap)
  (hu:∀x∈xs,x.length=es) (ho:∀x∈xs,∀y∈x,V.one y=true) (hb:o+xs.length*es<=c.size)
  (hr:∀(i j:Nat)x y v,xs[i]?=some x->x[j]?=some y->c[o+i*es+j]?=some v->e9 I y v):
  e9 I (.fsl es xs) (.slice (some ⟨b,o,none⟩) xs.length cap)
 |ja:e9 I .ja (.pointer none)|fptr(cs:List V)(b o:Nat)(c:Array Value)(hI:I b=some (.cells c))(hb:o+cs.length<=c.size)
  (hr:∀(j:Nat)y v,cs[j]?=some y->c[o+j]?=some v->e9 I y v):e9 I (.fptr cs) (.pointer (some ⟨b,o,none⟩))
 |clo(f:FuncId)(x y:List V)(u v:Array Value)(hx:x.length=u.size)(hy:y.length=v.size)
  (h1:∀(j:Nat)a b,x[j]?=some a->u[j]?=some b->e9 I a b) (h2:∀(j:Nat)a b,y[j]?=some a->v[j]?=some b->e9 I a b):
  e9 I (.clo f x y) (.func (.func f) u v)
 |hG:e9 I .hG (.map none)|ug:e9 I .ug .nilFunc|fmap(kvs:List (V×V))(b:Nat)(es:Array MapEntry)(hI:I b=some (.map es))(hl:kvs.length=es.size)
  (hk:∀(j:Nat)p e,kvs[j]?=some p->es[j]?=some e->e9 I p.1 e.key)
  (hv:∀(j:Nat)p e,kvs[j]?=some p->es[j]?=some e->e9 I p.2 e.val):e9 I (.fmap kvs) (.map (some b))
 |agg(cs:List V)(vs:Array Value)(hl:cs.length=vs.size)(h:∀(j:Nat)a b,cs[j]?=some a->vs[j]?=some b->e9 I a b):
  e9 I (.agg cs) (.agg vs)
 |tup(cs:List V)(vs:Array Value)(hl:cs.length=vs.size)(h:∀(j:Nat)a b,cs[j]?=some a->vs[j]?=some b->e9 I a b):
  e9 I (.tup cs) (.tuple vs)
structure Pl where
 b:Nat
 o:Nat
 es:Nat
 sz:Nat
abbrev Mu:=Nat->a_ Pl
inductive bO(I:cG)(μ:Mu):V->Value->Prop
 |c(x:V)(v:Value)(h:e9 I x v):bO I μ x v|hsl(id off len cap:Nat)(p:Pl)(hm:μ id=some p)(hc:len<=cap)(hb:p.o+(off+cap)*p.es<=p.sz):
  bO I μ (.hsl id p.es off len) (.slice (some ⟨p.b,p.o+off*p.es,none⟩) len cap)
 |hsl0(id es off:Nat)(a:Addr):bO I μ (.hsl id es off 0) (.slice (some a) 0 0)|hptr(id el off:Nat)(p:Pl)(hm:μ id=some p):bO I μ (.hptr id el off) (.pointer (some ⟨p.b,p.o+el*p.es+off,none⟩))|yld(id:Nat)(p:Pl)(hm:μ id=some p):bO I μ (.yld id) (.func (.yield p.b) #[] #[])|hmap(id:Nat)(p:Pl)(hm:μ id=some p):bO I μ (.hmap id) (.map (some p.b))|clo(f:FuncId)(x y:List V)(u v:Array Value)(hx:x.length=u.size)(hy:y.length=v.size)
  (h1:∀(j:Nat)a b,x[j]?=some a->u[j]?=some b->bO I μ a b) (h2:∀(j:Nat)a b,y[j]?=some a->v[j]?=some b->bO I μ a b):
  bO I μ (.clo f x y) (.func (.func f) u v)
 |agg(cs:List V)(vs:Array Value)(hl:cs.length=vs.size)(h:∀(j:Nat)a b,cs[j]?=some a->vs[j]?=some b->bO I μ a b):
  bO I μ (.agg cs) (.agg vs)
 |tup(cs:List V)(vs:Array Value)(hl:cs.length=vs.size)(h:∀(j:Nat)a b,cs[j]?=some a->vs[j]?=some b->bO I μ a b):
  bO I μ (.tup cs) (.tuple vs)
def Mu.le(μ μ':Mu):Prop:=∀id p,μ id=some p->μ' id=some p
def Mu.le_refl(μ:Mu):Mu.le μ μ:=λ_ _ h=>h
def e9.mono{I I':cG}(h:cG.le I I'){x:V}{v:V'}(r:e9 I x v):e9 I' x v:=by induction r with|bool b=>exact .bool b|int k n=>exact .int k n|str s=>exact .str s|dX a=>exact .dX a|bM=>exact .bM|fsl0 es a cap=>exact .fsl0 es a cap|fsl es O b o cap c C hc hu Q G _ w=>exact .fsl es O b o cap c (h _ _ C) hc hu Q G w|ja=>exact .ja|fptr cs b o c C G _ w=>exact .fptr cs b o c (h _ _ C) G w|clo f x y u v S T _ _ z B=>exact .clo f x y u v S T z B|hG=>exact .hG|ug=>exact .ug|fmap J b es C D _ _ z B=>exact .fmap J b es (h _ _ C) D z B|agg cs L D _ w=>exact .agg cs L D w|tup cs L D _ w=>exact .tup cs L D w
def bO.mono{I I':cG}{μ μ':Mu}(h:cG.le I I')(B:Mu.le μ μ'){x:V}{v:V'}(r:bO I μ x v):bO I' μ' x v:=by induction r with|c x v r=>exact .c _ _ (r.mono h)|hsl id off len cap p w hc L=>exact .hsl id off len cap p (B _ _ w) hc L|hsl0 id es off a=>exact .hsl0 id es off a|hptr id el off p w=>exact .hptr id el off p (B _ _ w)|yld id p w=>exact .yld id p (B _ _ w)|hmap id p w=>exact .hmap id p (B _ _ w)|clo f x y u v O Q _ _ z C=>exact .clo f x y u v O Q z C|agg cs D G _ J=>exact .agg cs D G J|tup cs D G _ J=>exact .tup cs D G J
def c6(I:cG)(μ:Mu)(xs:So)(vs:aZ V'):Prop:=xs.length=vs.length/\∀(j:Nat)a b,xs[j]?=some a->vs[j]?=some b->bO I μ a b
def c6.nil{I:cG}{μ:Mu}:c6 I μ [] []:=⟨rfl,Zab⟩
def c6.cons{I:cG}{μ:Mu}{x:V}{v:V'}{xs:So}{vs:aZ V'}(h:bO I μ x v)(r:c6 I μ xs vs):c6 I μ (x::xs) (v::vs):=by refine⟨by simp[r.1],?_⟩;intro j a b c u;cases j with|zero=>grind|succ j=>exact r.2 j a b Zac Zac
def c6.cons_inv{I:cG}{μ:Mu}{x:V}{xs:So}{B:aZ V'}(r:c6 I μ (x::xs) B):∃v vs,B=v::vs/\bO I μ x v/\c6 I μ xs vs:=by have⟨u,h⟩:=r;cases B with|nil=>simp_all|cons v vs=>refine⟨v,vs,rfl,h 0 x v Zab Zab,Zac,?_⟩;intro j a b c w;exact h (j+1) a b Zac Zac
def c6.xT{I:cG}{μ:Mu}{B:aZ V'}(r:c6 I μ [] B):B=[]:=by have:=r.1;grind
def c6.append{I:cG}{μ:Mu}{xs ys:So}{B vs:aZ V'}(h:c6 I μ xs B)(D:c6 I μ ys vs):c6 I μ (xs++ys) (B++vs):=by induction xs generalizing B with|nil=>rw[c6.xT h];exact D|cons x xs u=>obtain⟨v,B,rfl,a,b⟩:=h.cons_inv;exact .cons a (u b)
def c6.mono{I I':cG}{μ μ':Mu}(h:cG.le I I')(B:Mu.le μ μ'){xs:So}{vs:aZ V'}(r:c6 I μ xs vs):c6 I' μ' xs vs:=⟨r.1,λj a b c u=>(r.2 j a b c u).mono h B⟩
def c6.take{I:cG}{μ:Mu}{xs:So}{vs:aZ V'}(r:c6 I μ xs vs)(n:Nat):c6 I μ (xs.take n) (vs.take n):=by refine⟨by simp[r.1],λj a b c u=>?_⟩;rw[getElem?_take]at c u;split at c<;>simp_all;exact r.2 j a b c u
def c6.drop{I:cG}{μ:Mu}{xs:So}{vs:aZ V'}(r:c6 I μ xs vs)(n:Nat):c6 I μ (xs.drop n) (vs.drop n):=by refine⟨by simp[r.1],λj a b c u=>?_⟩;rw[getElem?_drop]at c u;exact r.2 _ a b c u
def bO.cells{I:cG}{μ:Mu}{x:V}{v:V'}(r:bO I μ x v):c6 I μ x.cells v.cells.toList:=by
 cases r with
 |c x v h=>cases h with|agg cs C w h=>exact⟨by simpa[V.cells,Value.cells]using w,λj a b d z=>.c _ _ (h j a b d (by simpa[Value.cells]using z))⟩|bool b=>exact .cons (.c _ _ (.bool b)) .nil|int k n=>exact .cons (.c _ _ (.int k n)) .nil|str s=>exact .cons (.c _ _ (.str s)) .nil|dX a=>exact .cons (.c _ _ (.dX a)) .nil|bM=>exact .cons (.c _ _ .bM) .nil|fsl0 es a cap=>exact .cons (.c _ _ (.fsl0 es a cap)) .nil|fsl es Q b o cap c D hc hu S G hr=>exact .cons (.c _ _ (.fsl es Q b o cap c D hc hu S G hr)) .nil|ja=>exact .cons (.c _ _ .ja) .nil|fptr cs b o c D G hr=>exact .cons (.c _ _ (.fptr cs b o c D G hr)) .nil|clo f x y u v J L d z=>exact .cons (.c _ _ (.clo f x y u v J L d z)) .nil|hG=>exact .cons (.c _ _ .hG) .nil|ug=>exact .cons (.c _ _ .ug) .nil|fmap O b es D w hk hv=>exact .cons (.c _ _ (.fmap O b es D w hk hv)) .nil|tup cs C w h=>exact .cons (.c _ _ (.tup cs C w h)) .nil
 |hsl id off len cap p B hc G=>exact .cons (.hsl id off len cap p B hc G) .nil|hsl0 id es off a=>exact .cons (.hsl0 id es off a) .nil|hptr id el off p B=>exact .cons (.hptr id el off p B) .nil|yld id p B=>exact .cons (.yld id p B) .nil|hmap id p B=>exact .cons (.hmap id p B) .nil|clo f x y u v J L d z=>exact .cons (.clo f x y u v J L d z) .nil|agg cs C w h=>exact⟨by simpa[V.cells,Value.cells]using w,λj a b d z=>h j a b d (by simpa[Value.cells]using z)⟩|tup cs C w h=>exact .cons (.tup cs C w h) .nil
def bO.Js{I:cG}{μ:Mu}{cs:So}{vs:Array V'}(h:c6 I μ cs vs.toList):bO I μ (.agg cs) (.agg vs):=.agg cs vs (by simpa using h.1) λj a b c u=>h.2 j a b c Zac
def bO.UL{I:cG}{μ:Mu}{cs:So}{vs:Array V'}(h:c6 I μ cs vs.toList):bO I μ (.tup cs) (.tuple vs):=.tup cs vs (by simpa using h.1) λj a b c u=>h.2 j a b c Zac
section inv
variable{I:cG}{μ:Mu}
def bO.tV{b:X'}{v:V'}(h:bO I μ (.bool b) v):v=.bool b:=by cases h with|c _ _ h=>cases h;rfl
def bO.gD{k:T2}{n:Int}{v:V'}(h:bO I μ (.int k n) v):v=.int k n:=by cases h with|c _ _ h=>cases h;rfl
def bO.vu{s:U'}{v:V'}(h:bO I μ (.str s) v):v=.string s:=by cases h with|c _ _ h=>cases h;rfl
def bO.ue{v:V'}(h:bO I μ .dX v):∃a,v=.slice a 0 0:=by cases h with|c _ _ h=>cases h;grind
def bO.nU{es:Nat}{xs:S'}{v:V'}(h:bO I μ (.fsl es xs) v):e9 I (.fsl es xs) v:=by cases h with|c _ _ h=>omega
def bO.nW{cs:So}{v:V'}(h:bO I μ (.fptr cs) v):∃b o c,v=.pointer (some ⟨b,o,none⟩)/\I b=some (.cells c)/\o+cs.length<=c.size/\
 (∀(j:Nat)y u,cs[j]?=some y->c[o+j]?=some u->e9 I y u):=by
 cases h with|c _ _ h=>cases h with|fptr cs b o c w z hr=>grind
def bO.nP{v:V'}(h:bO I μ .bM v):v=.slice none 0 0:=by cases h with|c _ _ h=>cases h;rfl
def bO.Ux{v:V'}(h:bO I μ .hG v):v=.map none:=by cases h with|c _ _ h=>cases h;rfl
def bO.vh{id el off:Nat}{v:V'}(h:bO I μ (.hptr id el off) v):∃p,μ id=some p/\v=.pointer (some ⟨p.b,p.o+el*p.es+off,none⟩):=by cases h with|c _ _ h=>cases h|hptr _ _ _ p u=>grind
def bO.WM{id:Nat}{v:V'}(h:bO I μ (.yld id) v):∃p,μ id=some p/\v=.func (.yield p.b) #[] #[]:=by cases h with|c _ _ h=>cases h|yld _ p u=>grind
def bO.D5{id:Nat}{v:V'}(h:bO I μ (.hmap id) v):∃p,μ id=some p/\v=.map (some p.b):=by cases h with|c _ _ h=>cases h|hmap _ p u=>grind
def bO.nN{id es off len:Nat}{v:V'}(h:bO I μ (.hsl id es off len) v):
 (∃p b,μ id=some p/\p.es=es/\len<=b/\p.o+(off+b)*es<=p.sz/\v=.slice (some ⟨p.b,p.o+off*es,none⟩) len b)\/(len=0/\∃a,v=.slice (some a) 0 0):=by
 cases h with
 |c _ _ h=>cases h|hsl _ _ _ b p u hc w=>simp_all|hsl0 _ _ _ a=>grind
def bO.jB{cs:So}{v:V'}(h:bO I μ (.agg cs) v):∃vs,v=.agg vs/\c6 I μ cs vs.toList:=by
 cases h with
 |c _ _ h=>cases h with|agg _ vs u h=>exact⟨vs,rfl,Zac,λj a b d w=>.c _ _ (h j a b d Zac)⟩
 |agg _ vs u h=>exact⟨vs,rfl,Zac,λj a b d w=>h j a b d Zac⟩
def bO.sj{cs:So}{v:V'}(h:bO I μ (.tup cs) v):∃vs,v=.tuple vs/\c6 I μ cs vs.toList:=by
 cases h with
 |c _ _ h=>cases h with|tup _ vs u h=>exact⟨vs,rfl,Zac,λj a b d w=>.c _ _ (h j a b d Zac)⟩
 |tup _ vs u h=>exact⟨vs,rfl,Zac,λj a b d w=>h j a b d Zac⟩
def bO.lG{f:Y'}{x y:So}{v:V'}(h:bO I μ (.clo f x y) v):∃a b,v=.func (.func f) a b/\c6 I μ x a.toList/\c6 I μ y b.toList:=by
 cases h with
 |c _ _ h=>cases h with
  |clo _ _ _ u v z B h1 w=>exact⟨u,v,rfl,⟨Zac,λj a b p q=>.c _ _ (h1 j a b p Zac)⟩,⟨Zac,λj a b p q=>.c _ _ (w j a b p Zac)⟩⟩
 |clo _ _ _ u v z B h1 w=>exact⟨u,v,rfl,⟨Zac,λj a b p q=>h1 j a b p Zac⟩,⟨Zac,λj a b p q=>w j a b p Zac⟩⟩
def bO.of_bool{x:V}{b:X'}(h:bO I μ x (.bool b)):x=.bool b:=by cases h with|c _ _ h=>cases h;rfl
end inv
def wh(I:cG):Prop:=∀g cs,b_.gl g=some cs->e9 I (.fptr cs) (.pointer (some ⟨g,0,none⟩))
def wh.mono{I I':cG}(h:cG.le I I')(r:wh I):wh I':=λg cs a=>(r g cs a).mono h
structure fe(I:cG)(μ:Mu)(n:Nat)(F:Frame)(tmps:Array Value):Prop where
 size:tmps.size=n
 rel:∀t,bO I μ (get F t) (tmps.getD t undef)
 gl:wh I
def bO.undef(I:cG)(μ:Mu):bO I μ .undef Go.undef:=.c _ _ (.tup [] #[] rfl Zab)
def fe.mono{I I':cG}{μ μ':Mu}{n:Nat}{F:WP}{tmps:Array V'}(h:cG.le I I')(B:Mu.le μ μ')(r:fe I μ n F tmps):fe I' μ' n F tmps:=⟨r.1,λt=>(r.2 t).mono h B,r.gl.mono h⟩
def fe.put{I:cG}{μ:Mu}{n:Nat}{F F':WP}{a:Act}{dst:a_ Nat}{x:V}{v:V'}(r:fe I μ n F a.tmps)(h:bO I μ x v)
 (hp:kX n F dst x=some F'):fe I μ n F' (a.put dst v).tmps:=by
 cases dst with
 |none=>simp[kX]at hp;subst hp;exact r|some d=>
  simp only[kX]at hp;split at hp
  .simp at hp;subst hp;refine⟨by simp[Act.put,r.1],λt=>?_,r.gl⟩
   by_cases u:d=t
   .subst u;have:d<a.tmps.size:=by rw[r.1];omega
    simpa[Act.put,getD_eq_getD_getElem?,Array.getElem?_setIfInBounds,this]using h
   have:=r.2 t;rw[kA _ _ u];simpa[Act.put,getD_eq_getD_getElem?,Array.getElem?_setIfInBounds,u]using this
  grind
def Dq{I:cG}:∀(n:Nat)(v:V')(x:V),ofValue n v=some x->e9 I x v:=by intro n;induction n with|zero=>intro v x h;simp[ofValue]at h|succ n B=>intro v x h;unfold ofValue at h;split at h<;>(try (simp at h;subst h;constructor))<;>(try grind);simp at h;obtain⟨C,w,rfl⟩:=h;have key:∀(l:aZ V')(u:So),l.mapM (ofValue n)=some u->u.length=l.length/\∀(j:Nat)a b,u[j]?=some a->l[j]?=some b->e9 I a b:=(by intro l;induction l with|nil=>grind|cons v l z=>intro u h;simp[ζg]at h;grind);have⟨D,c⟩:=key _ _ w;exact .agg _ _ Zac λj a b d G=>c j a b d Zac
def dR{I:cG}{μ:Mu}{n:Nat}{F:WP}{a:Act}(r:fe I μ n F a.tmps){o:UV}{x:V}(h:ev F o=some x):bO I μ x (a.eval o):=by cases o with|tmp t=>simp[ev]at h;subst h;exact r.2 t|const v=>exact .c _ _ (Dq 4 _ _ h)|func f=>simp[ev]at h;subst h;exact .c _ _ (.clo f [] [] #[] #[] rfl rfl Zab Zab)|global g=>obtain⟨cs,b,rfl⟩:=ζf.1 h;exact .c _ _ (r.gl g cs b)
def p_{I:cG}{μ:Mu}{n:Nat}{F:WP}{a:Act}(r:fe I μ n F a.tmps):∀{l:aZ UV}{xs:So},gj F l=some xs->c6 I μ xs (l.map a.eval):=by intro l;induction l with|nil=>intro xs h;simp[gj]at h;subst h;exact .nil|cons o l u=>intro xs h;simp[gj]at h;split at h;(next v z b w=>simp at h;subst h;exact .cons (dR r b) (u w));grind
def N1{I:cG}{μ:Mu}{n:Nat}{F:WP}{a:Act}(r:fe I μ n F a.tmps):∀{l:aZ (Nat×UV)}{xs:aZ (Nat×V)},nZ F l=some xs->
 xs.length=l.length/\∀(j:Nat)x y,xs[j]?=some x->l[j]?=some y->x.1=y.1/\bO I μ x.2 (a.eval y.2):=by
 intro l
 induction l with
 |nil=>intro xs h;simp[nZ]at h;grind|cons o l z=>
  intro xs h;simp[nZ]at h;split at h
  .rename_i v D h1 B;simp at h;subst h;have⟨C,b⟩:=z B;refine⟨by simp[C],λj x y u w=>?_⟩
   cases j with
   |zero=>simp at u w;subst u;subst w;exact⟨rfl,dR r h1⟩|succ j=>grind
  grind
def nY:TypeDesc->TK
 |.bool=>.bool|.int k=>.int k|.string=>.str|.pointer e=>.ptr e|.slice e=>.slice e|.struct fs=>.struct (fs.toList.map λf=>(f.offset,f.type))|.array n e=>.array n e|.map k e=>.map k e|_=>.other
def Fb:V'->X'
 |.agg _=>true|_=>false
def ya(P:Program)(t:W'):a_ TD:=
 match P.info? t,P.underlying t with
 |some i,some d=>match i.zero with
  |some z=>match z.cells.toList.mapM (ofValue 4)with
   |some cs=>if cs.length=i.size/\cs.all V.one=true/\Fb z=(TD.mk i.size i.bytes cs (nY d)).agg then some ⟨i.size,i.bytes,cs,nY d⟩else none|none=>none
  |none=>none
 |_,_=>none
def ic(a:R'):Array V':=(a.map (Value.int .i64)).toArray
structure yG(P:Program)(t:TypeId)(n:Nat):Prop where
 eq:∀(w:World)(x y:Operand)(a b:List Int),a.length=n->b.length=n->
  (do eqGuard .eql t x y (.agg (ic a)) (.agg (ic b));binOp .eql t (.agg (ic a)) (.agg (ic b))).run P w=.ok (.bool (a==b)) w
 ne:∀(w:World)(x y:Operand)(a b:List Int),a.length=n->b.length=n->
  (do eqGuard .neq t x y (.agg (ic a)) (.agg (ic b));binOp .neq t (.agg (ic a)) (.agg (ic b))).run P w=.ok (.bool !(a==b)) w
 key:∀(w:World)(a b:List Int),a.length=n->b.length=n->(equal t (.agg (ic a)) (.agg (ic b))).run P w=.ok (a==b) w
 check:∀(w:World)(e:Bool)(a:List Int),a.length=n->(checkKey e 10000 t (.agg (ic a))).run P w=.ok () w
 kind:∃d,P.underlying t=some d/\((∃n e,d=.array n e)\/(∃fs,d=.struct fs))
structure fq(P:Program)(E:Env):Prop where
 tt:∀t d,E.tt t=some d->ya P t=some d
 ft:∀f fi,E.ft f=some fi->∃fn,P.funcs[f]?=some fn/\fn.body=some fi.body/\fn.ntmps=fi.ntmps/\fn.results.toList=fi.results/\(fn.name== "runtime.NumGoroutine")=false
 eqN:∀t n,E.eqN t=some n->yG P t n
structure rq(P:Program)(t:TypeId)(d:TD):Prop where
 info:∃i z,P.info? t=some i/\i.size=d.size/\i.bytes=d.bytes/\i.zero=some z/\(∀I μ,c6 I μ d.zero z.cells.toList)/\d.zero.length=d.size/\d.zero.all V.one=true/\Fb z=d.agg
 und:∃desc,P.underlying t=some desc/\nY desc=d.kind
def SC{I:cG}{μ:Mu}:∀(l:aZ V')(ys:So),l.mapM (ofValue 4)=some ys->c6 I μ ys l:=by intro l;induction l with|nil=>intro ys h;simp at h;subst h;exact .nil|cons v l u=>intro ys h;simp only[List.mapM_cons,Option.pure_def,Option.bind_eq_bind,ζg,ζa]at h;obtain⟨y,w,z,B,rfl⟩:=h;exact .cons (.c _ _ (Dq 4 _ _ w)) (u z B)
def fq.ty{P:Program}{E:Env}(h:fq P E){t:W'}{d:TD}(B:E.tt t=some d):rq P t d:=by
 have:=h.tt t d B;unfold ya at this;split at this;rename_i i a hi hd;split at this;rename_i z u;split at this;rename_i cs b;split at this;next w=>simp only[ζa]at this;subst this;exact⟨⟨i,z,hi,rfl,rfl,u,λI μ=>SC _ _ b,w⟩,⟨a,hd,rfl⟩⟩
 simp at this;simp at this;simp at this;simp at this
section runs
variable{P:Program}{w:World}{t:W'}{d:TD}
def d_{a:TypeDesc}(h:P.underlying t=some a):(underlying t).run P w=.ok a w:=by simp[underlying,h]
def qv{i:TypeInfo}(h:P.info? t=some i):(typeInfo t).run P w=.ok i w:=by simp[typeInfo,h]
def rq.l8(h:rq P t d):(sizeOf t).run P w=.ok d.size w:=by have⟨i,z,hi,u,_⟩:=h.info;simp[sizeOf,qv hi,u]
def rq.d_(h:rq P t d):∃a,P.underlying t=some a/\nY a=d.kind/\∀w,(underlying t).run P w=.ok a w:=by have⟨a,b,u⟩:=h.und;exact⟨a,b,u,λw=>VE.d_ b⟩
def rq.Pr(h:rq P t d):(isAgg t).run P w=.ok d.agg w:=by have⟨a,b,u⟩:=h.und;unfold isAgg;simp only[run_bind,VE.d_ b,andThen_ok];cases a<;>simp[TD.agg,<-u,nY]
def rq.Gd(h:rq P t d):∃z,(∀w,(zeroValue t).run P w=.ok z w)/\(∀I μ,c6 I μ d.zero z.cells.toList)/\d.zero.length=d.size/\d.zero.all V.one=true:=by have⟨i,z,hi,_,_,u,a,B,b,_⟩:=h.info;exact⟨z,λw=>by simp[zeroValue,qv hi,u],a,B,b⟩
end runs
def rq.WK{P:Program}{t:W'}{d:TD}(h:rq P t d):∃z,(∀w,(zeroValue t).run P w=.ok z w)/\∀I μ x,VE.mk d.agg d.zero=some x->bO I μ x z:=by
 have⟨i,z,hi,_,_,D,a,G,b,u⟩:=h.info;refine⟨z,λw=>by simp[zeroValue,qv hi,D],λI μ x C=>?_⟩;have B:=a I μ;cases hd:d.agg with|true=>rw[hd]at C u;cases z<;>simp[Fb]at u;simp only[VE.mk,if_true,ζa]at C;subst C;exact .Js (by simpa[Value.cells]using B)|false=>
  rw[hd]at C u;simp only[VE.mk,false_eq_true,if_false]at C;split at C
  .rename_i v hv;simp only[ζa]at C;subst C;rw[hv]at B;have e:z.cells.toList=[z]:=(by cases z<;>first|rfl|simp[Fb]at u);rw[e]at B;exact B.2 0 _ _ rfl rfl
  simp at C
def gE{E:Env}{t:W'}{k:TK}(h:E.kindOf t=some k):∃d,E.tt t=some d/\d.kind=k:=by unfold Env.kindOf at h;simpa[ζf]using h
def Ft{d:TypeDesc}{k:T2}(h:nY d=.int k):d=.int k:=by cases d<;>simp_all [nY]
def MP{d:TypeDesc}(h:nY d=.bool):d=.bool:=by cases d<;>simp_all [nY]
def Cq{d:TypeDesc}(h:nY d=.str):d=.string:=by cases d<;>simp_all [nY]
def kE{d:TypeDesc}{e:W'}(h:nY d=.slice e):d=.slice e:=by cases d<;>simp_all [nY]
def El{d:TypeDesc}{n:Nat}{e:W'}(h:nY d=.array n e):d=.array n e:=by cases d<;>simp_all [nY]
def B_{d:TypeDesc}{k e:W'}(h:nY d=.map k e):d=.map k e:=by cases d<;>simp_all [nY]
def BI{d:TypeDesc}{fs:aZ (Nat×W')}(h:nY d=.struct fs):∃B,d=.struct B/\fs=B.toList.map λf=>(f.offset,f.type):=by cases d<;>simp_all [nY]
def C4{I:cG}{μ:Mu}{cs r:So}{vs:aZ V'}{off n:Nat}(h:c6 I μ cs vs)(a:cut cs off n=some r):
 c6 I μ r ((vs.drop off).take n)/\r.length=n/\off+n<=cs.length\/(n=0/\r=[]):=by
 unfold cut at a;simp only at a;split at a
 .rename_i u;simp only[ζa]at a;subst a
  by_cases w:n=0
  .right;subst w;simp
  left;refine⟨(h.drop off).take n,u,?_⟩;simp at u;omega
 simp at a
def Qh{I:cG}{μ:Mu}{cs:So}{x:V}{vs:Array V'}(h:mk true cs=some x)(r:c6 I μ cs vs.toList):bO I μ x (.agg vs):=by simp only[mk,if_true,ζa]at h;subst h;exact .Js r
def mk_one{I:cG}{μ:Mu}{cs:So}{x:V}{vs:aZ V'}(h:mk false cs=some x)(r:c6 I μ cs vs):∃v,vs=[v]/\bO I μ x v:=by simp only[mk,false_eq_true,if_false]at h;split at h;simp only[ζa]at h;subst h;obtain⟨v,u,rfl,a,b⟩:=r.cons_inv;exact⟨v,by rw[b.xT],a⟩;simp at h
def KH{P:Program}{w:World}{I:cG}{μ:Mu}{t:W'}{d:TD}{cs r:So}{vs:Array V'}{x:V}{off:Nat}(D:rq P t d)(h:c6 I μ cs vs.toList)
 (b:cut cs off d.size=some r)(B:mk d.agg r=some x):∃u,(part t vs off).run P w=.ok u w/\bO I μ x u:=by
 unfold part;simp only[run_bind,D.Pr,andThen_ok]
 cases z:d.agg with
 |true=>
  rw[z]at B;refine⟨.agg (vs.extract off (off+d.size)),by simp[D.l8],?_⟩
  refine Qh B ?_;have e:(vs.extract off (off+d.size)).toList=(vs.toList.drop off).take d.size:=Zab
  rw[e];rcases C4 h b with⟨a,_⟩|⟨c,rfl⟩
  .exact a
  rw[c];exact .nil
 |false=>
  rw[z]at B;rcases C4 h b with⟨a,G,_⟩|⟨c,rfl⟩
  .have⟨v,hv,C⟩:=mk_one B a;refine⟨v,?_,C⟩;have hd:d.size=1:=by
    have:=a.1;rw[hv]at this;simp at this;omega
   rw[hd]at hv;have:vs[off]?=some v:=by have:=congrArg (·[0]?) hv;simpa[getElem?_take,getElem?_drop]using this
   simp[this]
  simp[mk]at B
def Oj{I:cG}{μ:Mu}:∀(az:So)(a:R')(B:aZ V'),jr az=some a->c6 I μ az B->B=a.map (Value.int .i64)/\a.length=az.length:=by intro az;induction az with|nil=>intro a B h u;simp only[jr,ζa]at h;subst h;rw[u.xT];simp|cons x az w=>intro a B h u;obtain⟨v,B,rfl,c,d⟩:=u.cons_inv;have z:∃y,x=.int .i64 y:=(by cases x with|int k y=>cases k<;>simp[jr]at h⊢|_=>simp[jr]at h);obtain⟨y,rfl⟩:=z;simp only[jr,ζf]at h;obtain⟨b,C,rfl⟩:=h;have⟨g1,g2⟩:=w _ _ C d;have:=c.gD;subst this;exact⟨by simp[g1],by simp[g2]⟩
def sE{I:cG}{μ:Mu}{az:So}{a:R'}{B:Array V'}(h:jr az=some a)(D:c6 I μ az B.toList):B=ic a/\a.length=az.length:=by have⟨b,u⟩:=Oj _ _ _ h D;refine⟨?_,u⟩;have:=congrArg List.toArray b;simpa[ic]using this
def zz{az B:So}{r:X'}(h:mA az B=some r):∃a b,jr az=some a/\jr B=some b/\a.length=b.length/\r=(a==b):=by
 unfold mA at h;split at h;rename_i a b c u;split at h;next w=>simp only[ζa]at h;exact⟨a,b,c,u,w,h.symm⟩
 simp at h;simp at h
section
variable{P:Program}{E:Env}{I:cG}{μ:Mu}{n:Nat}{F:WP}{a:Act}{w:World}
def PZ(f:BinOp)(t:W')(p q:UV)(k B:T2)(m m':Int):(eqGuard f t p q (.int k m) (.int B m')).run P w=.ok () w:=by unfold eqGuard;cases f<;>simp
def P5(f:BinOp)(t:W')(p q:UV)(s B:U'):(eqGuard f t p q (.string s) (.string B)).run P w=.ok () w:=by unfold eqGuard;cases f<;>simp
def N9(f:BinOp)(t:W')(p q:UV)(s B:X'):(eqGuard f t p q (.bool s) (.bool B)).run P w=.ok () w:=by unfold eqGuard;cases f<;>simp
def LK(d:Nat){t:W'}(x y:X')(h:P.underlying t=some .bool):(equalIn (d+1) t (.bool x) (.bool y)).run P w=.ok (x==y) w:=by simp only[equalIn,run_bind,d_ h,andThen_ok,run_pure]
def Fq{t:W'}(x y:X')(h:P.underlying t=some .bool):(equal t (.bool x) (.bool y)).run P w=.ok (x==y) w:=LK 9999 x y h
def Dm(d:Nat){t:W'}{k:T2}(x y:Int)(h:P.underlying t=some (.int k)):(equalIn (d+1) t (.int k x) (.int k y)).run P w=.ok (x==y) w:=by simp only[equalIn,run_bind,d_ h,andThen_ok,run_pure,if_true]
def I9(d:Nat){t e:W'}(B:a_ Addr)(l c:Nat)(h:P.underlying t=some (.slice e)):(equalIn (d+1) t (.slice B l c) (.slice none 0 0)).run P w=.ok B.isNone w:=by cases B<;>simp only[equalIn,run_bind,d_ h,andThen_ok,run_pure]<;>rfl
def Mj(d:Nat){t e:W'}(B:a_ Addr)(h:P.underlying t=some (.pointer e)):(equalIn (d+1) t (.pointer B) (.pointer none)).run P w=.ok B.isNone w:=by cases B<;>simp only[equalIn,run_bind,d_ h,andThen_ok,run_pure]<;>rfl
def MI(d:Nat){t e D:W'}(B:a_ Nat)(h:P.underlying t=some (.map e D)):(equalIn (d+1) t (.map B) (.map none)).run P w=.ok B.isNone w:=by cases B<;>simp only[equalIn,run_bind,d_ h,andThen_ok,run_pure]<;>rfl
def Hu(U:fq P E){t:W'}{k:TK}{x y:V}{u v:V'}{b:X'}(m:E.kindOf t=some k)(h:wC k x y=some b)(B:bO I μ x u)(D:bO I μ y v):
 (equal t u v).run P w=.ok b w/\(∀op p q,(eqGuard op t p q u v).run P w=.ok () w)/\binOp .eql t u v=(do pure (.bool (<-equal t u v)))/\binOp .neq t u v=(do pure (.bool (!(<-equal t u v)))):=by
 have⟨d,hd,O⟩:=gE m;have⟨a,f,C,_⟩:=(U.ty hd).d_;rw[O]at C;have g:∀(e:W')(z:a_ Addr)(l c:Nat),P.underlying t=some (.slice e)->b=z.isNone->
  (equal t (.slice z l c) (.slice none 0 0)).run P w=.ok b w/\(∀op p q,(eqGuard op t p q (.slice z l c) (.slice none 0 0)).run P w=.ok () w)/\binOp .eql t (.slice z l c) (.slice none 0 0)=(do pure (.bool (<-equal t (.slice z l c) (.slice none 0 0))))/\binOp .neq t (.slice z l c) (.slice none 0 0)=(do pure (.bool (!(<-equal t (.slice z l c) (.slice none 0 0))))):=by
  intro e z l c i L;refine⟨?_,λop p q=>by unfold eqGuard;cases op<;>simp,rfl,rfl⟩
  rw[L];exact I9 9999 z l c i
 have G:∀(e:W')(z:a_ Addr),P.underlying t=some (.pointer e)->b=z.isNone->
  (equal t (.pointer z) (.pointer none)).run P w=.ok b w/\(∀op p q,(eqGuard op t p q (.pointer z) (.pointer none)).run P w=.ok () w)/\binOp .eql t (.pointer z) (.pointer none)=(do pure (.bool (<-equal t (.pointer z) (.pointer none))))/\binOp .neq t (.pointer z) (.pointer none)=(do pure (.bool (!(<-equal t (.pointer z) (.pointer none))))):=by
  intro e z i L;refine⟨?_,λop p q=>by unfold eqGuard;cases op<;>simp,rfl,rfl⟩
  rw[L];exact Mj 9999 z i
 have J:∀(e S:W')(z:a_ Nat),P.underlying t=some (.map e S)->b=z.isNone->
  (equal t (.map z) (.map none)).run P w=.ok b w/\(∀op p q,(eqGuard op t p q (.map z) (.map none)).run P w=.ok () w)/\binOp .eql t (.map z) (.map none)=(do pure (.bool (<-equal t (.map z) (.map none))))/\binOp .neq t (.map z) (.map none)=(do pure (.bool (!(<-equal t (.map z) (.map none))))):=by
  intro e S z i L;refine⟨?_,λop p q=>by unfold eqGuard;cases op<;>simp,rfl,rfl⟩
  rw[L];exact MI 9999 z i
 unfold wC at h;split at h<;>(try (simp only[ζa]at h;subst h))
 .have:=kE C;subst this;rw[B.nP,D.nP];exact g _ none 0 0 f rfl
 .have:=kE C;subst this;rw[D.nP];have T:=B.nU
  cases T with
  |fsl0 _ z j=>exact g _ _ _ _ f rfl|fsl=>exact g _ _ _ _ f rfl
 .have:=kE C;subst this;rw[D.nP];rcases B.nN with⟨p,j,_,_,_,_,Q⟩|⟨_,z,Q⟩
  .rw[Q];exact g _ _ _ _ f rfl
  rw[Q];exact g _ _ _ _ f rfl
 .obtain⟨e,rfl⟩:∃e,a=.pointer e:=by cases a<;>simp_all [nY]
  cases B with|c _ _ B=>cases B;cases D with|c _ _ D=>cases D;exact G _ none f rfl
 .obtain⟨e,rfl⟩:∃e,a=.pointer e:=by cases a<;>simp_all [nY]
  cases D with|c _ _ D=>cases D;cases B with|c _ _ B=>cases B;exact G _ _ f rfl
 .obtain⟨e,rfl⟩:∃e,a=.pointer e:=by cases a<;>simp_all [nY]
  cases D with
  |c _ _ D=>
   cases D
   cases B with
   |c _ _ B=>cases B|hptr=>exact G _ _ f rfl
 .have:=B_ C;subst this;cases B with|c _ _ B=>cases B;cases D with|c _ _ D=>cases D;exact J _ _ none f rfl
 .have:=B_ C;subst this;cases D with|c _ _ D=>cases D;cases B with|c _ _ B=>cases B;exact J _ _ _ f rfl
 .have:=B_ C;subst this
  cases D with
  |c _ _ D=>
   cases D
   cases B with
   |c _ _ B=>cases B|hmap=>exact J _ _ _ f rfl
 cases h
def WQ(J:fq P E){op:BinOp}{t:W'}{x y z:V}{u v:V'}(p q:UV)(h:KW E op t x y=some z)(U:bO I μ x u)(W:bO I μ y v):
 ∃r,(do eqGuard op t p q u v;binOp op t u v).run P w=.ok r w/\bO I μ z r:=by
 unfold KW at h;split at h
 .
  rename_i k m g m';rw[U.gD,W.gD];simp only[run_bind,PZ,andThen_ok];split at h
  .
   split at h
   .simp at h
   rename_i B;simp only[ζa]at h;subst h;exact⟨_,by simp[binOp,Op.shift,B],.c _ _ (.int _ _)⟩
  .split at h
   .simp at h
   rename_i B;simp only[ζa]at h;subst h;exact⟨_,by simp[binOp,Op.shift,B],.c _ _ (.int _ _)⟩
  split at h
  .rename_i S T c;subst c
   cases op with
   |shl=>exact absurd rfl S|shr=>exact absurd rfl T|add=>simp only[ζa]at h;subst h;exact⟨_,by simp[binOp,intArith],.c _ _ (.int _ _)⟩|sub=>simp only[ζa]at h;subst h;exact⟨_,by simp[binOp,intArith],.c _ _ (.int _ _)⟩|mul=>simp only[ζa]at h;subst h;exact⟨_,by simp[binOp,intArith],.c _ _ (.int _ _)⟩|quo=>
    simp only at h;split at h
    .simp at h
    rename_i B;simp only[ζa]at h;subst h;exact⟨_,by simp[binOp,Op.intDiv,B],.c _ _ (.int _ _)⟩
   |rem=>
    simp only at h;split at h
    .simp at h
    rename_i B;simp only[ζa]at h;subst h;exact⟨_,by simp[binOp,Op.intDiv,B],.c _ _ (.int _ _)⟩
   |and=>simp only[ζa]at h;subst h;exact⟨_,by simp[binOp,intBits],.c _ _ (.int _ _)⟩|or=>simp only[ζa]at h;subst h;exact⟨_,by simp[binOp,intBits],.c _ _ (.int _ _)⟩|xor=>simp only[ζa]at h;subst h;exact⟨_,by simp[binOp,intBits],.c _ _ (.int _ _)⟩|andNot=>simp only[ζa]at h;subst h;exact⟨_,by simp[binOp,intBits],.c _ _ (.int _ _)⟩|eql=>simp only[pU,map_some,ζa]at h;subst h;exact⟨_,by simp[binOp,intCmp],.c _ _ (.bool _)⟩|neq=>simp only[pU,map_some,ζa]at h;subst h;exact⟨_,by simp[binOp,intCmp],.c _ _ (.bool _)⟩|lss=>simp only[pU,map_some,ζa]at h;subst h;exact⟨_,by simp[binOp,intCmp],.c _ _ (.bool _)⟩|leq=>simp only[pU,map_some,ζa]at h;subst h;exact⟨_,by simp[binOp,intCmp],.c _ _ (.bool _)⟩|gtr=>simp only[pU,map_some,ζa]at h;subst h;exact⟨_,by simp[binOp,intCmp],.c _ _ (.bool _)⟩|geq=>simp only[pU,map_some,ζa]at h;subst h;exact⟨_,by simp[binOp,intCmp],.c _ _ (.bool _)⟩
  simp at h
 .
  rename_i s i;rw[U.vu,W.vu];simp only[run_bind,P5,andThen_ok];split at h
  .split at h
   .simp at h
   rename_i B;simp only[ζa]at h;subst h;exact⟨_,by simp only[binOp,Op.stringOp];rw[if_neg B];rfl,.c _ _ (.str _)⟩
  all_goals first
   |(simp only[ζa]at h;subst h;exact⟨_,by simp[binOp,Op.stringOp],.c _ _ (.bool _)⟩)|simp at h
 .
  rename_i b j;rw[U.tV,W.tV];simp only[run_bind,N9,andThen_ok];split at h
  next c=>have⟨d,hd,D⟩:=gE c;have⟨e,a,C,_⟩:=(J.ty hd).d_;rw[D]at C;have:=MP C;subst this;simp only[ζa]at h;subst h;exact⟨_,by simp only[binOp,run_bind,Fq _ _ a,andThen_ok,run_pure],.c _ _ (.bool _)⟩
  next c=>have⟨d,hd,D⟩:=gE c;have⟨e,a,C,_⟩:=(J.ty hd).d_;rw[D]at C;have:=MP C;subst this;simp only[ζa]at h;subst h;exact⟨_,by simp only[binOp,run_bind,Fq _ _ a,andThen_ok,run_pure],.c _ _ (.bool _)⟩
  simp at h
 .
  rename_i az l;obtain⟨n,rfl,L⟩:=U.jB;obtain⟨o,rfl,O⟩:=W.jB;split at h
  .rename_i m G;split at h
   next Z=>simp only[ζf]at h;obtain⟨r,f,rfl⟩:=h;obtain⟨X,Y,a,C,Q,rfl⟩:=zz f;obtain⟨rfl,e1⟩:=sE a L;obtain⟨rfl,e2⟩:=sE C O;exact⟨_,(J.eqN _ _ G).eq w p q X Y Zaa Zaa,.c _ _ (.bool _)⟩
   simp at h
  .rename_i m G;split at h
   next Z=>simp only[ζf]at h;obtain⟨r,f,rfl⟩:=h;obtain⟨X,Y,a,C,Q,rfl⟩:=zz f;obtain⟨rfl,e1⟩:=sE a L;obtain⟨rfl,e2⟩:=sE C O;exact⟨_,(J.eqN _ _ G).ne w p q X Y Zaa Zaa,.c _ _ (.bool _)⟩
   simp at h
  simp at h

 split at h
 next k c=>simp only[ζf]at h;obtain⟨b,B,rfl⟩:=h;have⟨a,C,Q,_⟩:=Hu (w:=w) J c B U W;exact⟨.bool b,by rw[run_bind,C,Q];simp[andThen,a],.c _ _ (.bool _)⟩
 next k c=>simp only[ζf]at h;obtain⟨b,B,rfl⟩:=h;have⟨a,C,_,Q⟩:=Hu (w:=w) J c B U W;exact⟨.bool !b,by rw[run_bind,C,Q];simp[andThen,a],.c _ _ (.bool _)⟩
 simp at h
def ML(off:Nat):∀(l:aZ V')(k:Nat)(cells:Array V'),off+k+l.length<=cells.size->
 ((l.zipIdx k).foldl (λcs(p:V'×Nat)=>cs.setIfInBounds (off+p.2) p.1) cells).toList=cells.toList.take (off+k)++l++cells.toList.drop (off+k+l.length):=by
 intro l
 induction l with
 |nil=>simp_all|cons v l u=>
  intro k cells h;simp at h;simp;rw[u (k+1) _ (by simp;omega)]
  simp;rw[show off+(k+1)=off+k+1 from Zaa,List.take_succ_eq_append_getElem Zac]
  rw[List.take_set_of_le Zaa,List.getElem_set_self]
  rw[List.drop_set_of_lt Zaa]
  grind
def O7{cs xs:So}{cells:Array V'}{v:V'}{off:Nat}(h:c6 I μ cs cells.toList)(B:c6 I μ xs v.cells.toList)(D:off+xs.length<=cs.length):
 c6 I μ (cs.take off++xs++cs.drop (off+xs.length)) (v.cells.zipIdx.foldl (λcs(p:V'×Nat)=>cs.setIfInBounds (off+p.2) p.1) cells).toList:=by
 have e:v.cells.zipIdx.foldl (λcs p=>cs.setIfInBounds (off+p.2) p.1) cells=(v.cells.toList.zipIdx 0).foldl (λcs p=>cs.setIfInBounds (off+p.2) p.1) cells:=by rw[<-Array.foldl_toList];simp
 have a:=h.1;have u:=B.1;rw[e,ML off _ 0 _ Zac]
 rw[<-u];exact((h.take off).append B).append (h.drop _)
def Et{place place':Nat->a_ (Nat×Nat)}(hp:∀i p,place i=some p->place' i=some p):∀(vs:aZ (Nat×V))(B:aZ (Nat×V'))(cs r:So)(cells:Array V'),
 vs.length=B.length->(∀(j:Nat)x y,vs[j]?=some x->B[j]?=some y->x.1=y.1/\bO I μ x.2 y.2)->c6 I μ cs cells.toList->vX place cs vs=some r->
 ∃D,fill place' cells B=some D/\c6 I μ r D.toList:=by
 intro vs
 induction vs with
 |nil=>
  intro B cs r cells L _ c w
  cases B with
  |nil=>simp[vX]at w;subst w;exact⟨cells,rfl,c⟩|cons _ _=>simp_all
 |cons x vs Q=>
  intro B cs r cells L d c w
  cases B with
  |nil=>simp_all|cons y B=>
   have⟨i,x⟩:=x;have⟨S,y⟩:=y;have⟨C,z⟩:=d 0 (i,x) (S,y) rfl rfl;subst C;simp only at z;simp only[vX]at w;split at w
   .simp at w
   rename_i off size G;split at w
   .simp at w
   rename_i T;have u:=z.cells;have O:x.cells.length=y.cells.size:=by simpa using u.1
   have U:cs.length=cells.size:=by simpa using c.1
   have J:¬(decide (y.cells.size≠size)||decide (off+y.cells.size>cells.size))=true:=by grind
   simp at T;have⟨D,e,W⟩:=Q B _ r _ (by simpa using L) (λj a b p q=>d (j+1) a b (by simpa using p) (by simpa using q)) (O7 c u Zaa) w
   refine⟨D,?_,W⟩;simp only[fill,hp _ _ G];rw[if_neg J];omega
def PW(ps:Array (Nat×UV))(f:UV->V'):(ps.map λ(i,x)=>(i,f x)).toList=ps.toList.map λp=>(p.1,f p.2):=Zab
def Hw{ps:Array (Nat×UV)}{vs:aZ (Nat×V)}(r:fe I μ n F a.tmps)(h:nZ F ps.toList=some vs):
 vs.length=(ps.map λ(i,x)=>(i,a.eval x)).toList.length/\∀(j:Nat)x y,vs[j]?=some x->(ps.map λ(i,x)=>(i,a.eval x)).toList[j]?=some y->x.1=y.1/\bO I μ x.2 y.2:=by
 have⟨u,b⟩:=N1 r h;rw[PW]
 grind
def Ru(D:fq P E):∀(B:aZ Field)(pl:aZ (Nat×Nat)),oW E (B.map λf=>(f.offset,f.type))=some pl->
 ((B.mapM λf=>do pure (f.offset,<-sizeOf f.type)):Sem (aZ (Nat×Nat))).run P w=.ok pl w:=by
 intro B
 induction B with
 |nil=>intro pl h;simp[oW]at h;simp_all|cons f B z=>
  intro pl h;simp[oW]at h;split at h
  next d ps hd u=>simp at h;subst h;have:=z _ u;simp only[List.mapM_cons,run_bind,(D.ty hd).l8,andThen_ok,run_pure,this]
  grind
def O_(D:fq P E)(B:Array Field)(pl:aZ (Nat×Nat))(h:oW E (B.toList.map λf=>(f.offset,f.type))=some pl):
 ((B.mapM λf=>do pure (f.offset,<-sizeOf f.type)):Sem (Array (Nat×Nat))).run P w=.ok pl.toArray w:=by
 rw[Array.mapM_eq_mapM_toList];simp only[Sem.run_map,Ru D _ _ h,andThen_ok]
def Um(B:fq P E)(r:fe I μ n F a.tmps){t:W'}{ps:Array (Nat×UV)}{x:V}(h:bU E F (.build t ps)=some x):
 ∃v,(Instr.build t (ps.map λ(i,x)=>(i,a.eval x))).run P w=.ok v w/\bO I μ x v:=by
 simp[bU]at h;split at h
 .rename_i d Q hd D;have⟨S,b⟩:=Hw r D;have⟨z,U,u,_⟩:=(B.ty hd).Gd;have⟨c,f,C,W⟩:=(B.ty hd).d_;unfold Instr.build;simp[run_bind,U,W,andThen_ok];split at h
  .rename_i fs hk;rw[hk]at C;obtain⟨X,rfl,rfl⟩:=BI C;split at h
   .rename_i pl G;simp at h;obtain⟨cs,J,rfl⟩:=h;have⟨L,g1,g2⟩:=Et (place':=λi=>pl.toArray[i]?) Zac Q _ d.zero cs z.cells S b (u I μ) J
    refine⟨.agg L,?_,.Js g2⟩;have:=O_ (w:=w) B X pl G;simp_all
   grind
  .rename_i e hk;rw[hk]at C;have:=El C;subst this;split at h
   .rename_i T O;simp at h;obtain⟨cs,J,rfl⟩:=h;have⟨L,g1,g2⟩:=Et (place':=λi=>some (i*T.size,T.size)) Zac Q _ d.zero cs z.cells S b (u I μ) J
    refine⟨.agg L,?_,.Js g2⟩;simp[run_bind,(B.ty O).l8,andThen_ok];simp_all
   grind
  grind
 grind
def rA(b o k:Nat):(⟨b,o,none⟩:Addr).add k=⟨b,o+k,none⟩:=by unfold Addr.add;grind
def IL{cs:So}{b o:Nat}{c:Array V'}(k:Nat)(B:I b=some (.cells c))(D:o+cs.length<=c.size)
 (a:∀(j:Nat)y u,cs[j]?=some y->c[o+j]?=some u->e9 I y u)(d:k<=cs.length):bO I μ (.fptr (cs.drop k)) (.pointer (some ⟨b,o+k,none⟩)):=
 .c _ _ (.fptr _ b (o+k) c B (by simp;omega) λj y u e w=>a (k+j) y u Zac Zac)
def PE(U:fq P E)(r:fe I μ n F a.tmps){s:W'}{o:UV}{f:Nat}{x:V}(h:bU E F (.fieldAddr s o f)=some x):
 ∃v,(fieldAt s (a.eval o) f).run P w=.ok v w/\bO I μ x v:=by
 simp[bU]at h;split at h
 .rename_i fs p hk Q;have⟨d,hd,C⟩:=gE hk;have⟨i,l,L,S⟩:=(U.ty hd).d_;rw[C]at L;obtain⟨T,rfl,rfl⟩:=BI L;have j:=dR r Q;split at h
  .rename_i off t O;simp at O;obtain⟨g,W,rfl,rfl⟩:=O;have z:T[f]?=some g:=by grind
   split at h
   .rename_i dt D;split at h
    .simp_all
    rename_i G;have B:∀(b u:Nat),(fieldAt s (.pointer (some ⟨b,u,none⟩)) f).run P w=.ok (.pointer (some ⟨b,u+g.offset,none⟩)) w:=by intro b u;unfold fieldAt;simp[run_bind,S,andThen_ok,z,sureAddr,run_pure,fieldPlace,(U.ty D).l8,if_neg G,rA]
    split at h
    .split at h
     next J=>simp at h;subst h;have⟨b,u,c,e,X,Y,k⟩:=j.nW;rw[e];exact⟨_,B b u,IL _ X Y k J⟩
     grind
    .rename_i id el u;simp at h;have⟨p,Z,e⟩:=j.vh;rw[e];have:=bO.hptr (I:=I) id el (u+g.offset) p Z
     grind
    grind
   grind
  grind
 grind
def SM(G:fq P E)(r:fe I μ n F a.tmps){s:W'}{o:UV}{f:Nat}{x:V}(h:bU E F (.field s o f)=some x):
 ∃v,(Instr.field s (a.eval o) f).run P w=.ok v w/\bO I μ x v:=by
 simp[bU]at h;split at h
 .rename_i fs cs hk O;have⟨d,hd,B⟩:=gE hk;have⟨b,i,J,Q⟩:=(G.ty hd).d_;rw[B]at J;obtain⟨S,rfl,rfl⟩:=BI J;have⟨Y,e,C⟩:=(dR r O).jB;rw[e];split at h
  .rename_i off t L;simp at L;obtain⟨c,T,rfl,rfl⟩:=L;have z:S[f]?=some c:=by grind
   split at h
   next Z D=>simp[ζg]at h;have⟨q,U,W⟩:=h;have⟨u,g,X⟩:=KH (w:=w) (G.ty D) C U W;refine⟨u,?_,X⟩;unfold Instr.field;simp[run_bind,Q,andThen_ok,z,asAgg,run_pure,g]
   grind
  grind
 grind
def nD(k:T2)(m:Int):(asIntOf (.int k m)).run P w=.ok (k,m) w:=rfl
def OD(U:fq P E)(r:fe I μ n F a.tmps){t:W'}{o i:UV}{x:V}(h:bU E F (.indexAddr t o i)=some x):
 ∃v,(indexAt t (a.eval o) (a.eval i)).run P w=.ok v w/\bO I μ x v:=by
 simp[bU]at h;split at h
 .
  rename_i e s k m K W hi;have⟨d,hd,G⟩:=gE K;have⟨l,h1,Q,X⟩:=(U.ty hd).d_;rw[G]at Q;have:=kE Q;subst this;have A:=dR r W;have J:=(dR r hi).gD;rw[J];split at h
  .rename_i T L;split at h
   .simp_all
   have B:∀(b z len f:Nat),m.toNat<len->(indexAt t (.slice (some ⟨b,z,none⟩) len f) (.int k m)).run P w=.ok (.pointer (some ⟨b,z+m.toNat*T.size,none⟩)) w:=by intro b z len f C;unfold indexAt;have H:0<=m/\m<(len):=Zaa;simp[run_bind,nD,X,andThen_ok,run_pure,(U.ty L).l8,run_ite,if_pos H,rA]
   split at h
   .rename_i es Y;split at h
    .rename_i D;simp only[ζf]at h;obtain⟨cs,O,rfl⟩:=h;have C:m.toNat<Y.length:=(ζe.1 O).1;have hf:=A.nU;generalize hg:a.eval o=g at hf
     cases hf with
     |fsl0=>simp_all|fsl _ _ b z f c Z H hu ho N R=>refine⟨_,B b z _ _ C,?_⟩;have S:cs∈Y:=mem_of_getElem? O;have ad:=hu cs S;have aa:(m.toNat+1)*es<=Y.length*es:=mul_le_mul_right _ C;rw[add_mul]at aa;rw[<-D];exact .c _ _ (.fptr cs b _ c Z Zaa λj y u p q=>R m.toNat j cs y u O p q)
    grind
   .rename_i id es off len;split at h
    .rename_i D;simp only[ζa]at h;have⟨D,C⟩:=D;rcases A.nN with⟨p,f,M,he,H,N,e⟩|⟨h0,_⟩
     .rw[e];have:=bO.hptr (I:=I) (μ:=μ) id (off+m.toNat) 0 p M
      grind
     omega
    grind
   grind
  grind
 .
  rename_i len e p k m K W hi;have⟨d,hd,G⟩:=gE K;have⟨l,h1,Q,X⟩:=(U.ty hd).d_;rw[G]at Q;have:=El Q;subst this;have A:=dR r W;have J:=(dR r hi).gD;rw[J];split at h
  .rename_i T L;split at h
   .rename_i H;have B:∀(b z:Nat),(indexAt t (.pointer (some ⟨b,z,none⟩)) (.int k m)).run P w=.ok (.pointer (some ⟨b,z+m.toNat*T.size,none⟩)) w:=by
     intro b z;unfold indexAt;simp only[run_bind,nD,X,andThen_ok,run_pure,sureAddr,(U.ty L).l8,run_ite,if_pos H,rA]
    split at h
    .split at h
     next ab=>simp only[ζa]at h;subst h;have⟨b,z,c,e,Z,N,R⟩:=A.nW;rw[e];exact⟨_,B b z,IL _ Z N R ab⟩
     grind
    .rename_i id el z;simp only[ζa]at h;have⟨p,M,e⟩:=A.vh;rw[e];have:=bO.hptr (I:=I) (μ:=μ) id el (z+m.toNat*T.size) p M
     grind
    grind
   grind
  grind
 grind
def UE(D:fq P E)(r:fe I μ n F a.tmps){t:W'}{o i:UV}{x:V}(h:bU E F (.index t o i)=some x):
 ∃v,(Instr.index t (a.eval o) (a.eval i)).run P w=.ok v w/\bO I μ x v:=by
 simp[bU]at h;split at h
 .rename_i s k m hk G hi;have⟨d,hd,z⟩:=gE hk;have⟨c,g,B,J⟩:=(D.ty hd).d_;rw[z]at B;have:=Cq B;subst this;rw[(dR r hi).gD,(dR r G).vu];split at h
  next f=>simp at h;obtain⟨b,O,rfl⟩:=h;refine⟨.int .u8 b.toNat,?_,.c _ _ (.int _ _)⟩;unfold Instr.index;simp[run_bind,nD,J,andThen_ok,if_pos f,O,run_pure]
  grind
 .rename_i len e cs k m hk G hi;have⟨d,hd,z⟩:=gE hk;have⟨c,g,B,J⟩:=(D.ty hd).d_;rw[z]at B;have:=El B;subst this;have⟨U,ev,L⟩:=(dR r G).jB;rw[(dR r hi).gD,ev];split at h
  .rename_i W C;split at h
   next f=>simp[ζg]at h;have⟨q,Q,S⟩:=h;have⟨u,j,T⟩:=KH (w:=w) (D.ty C) L Q S;refine⟨u,?_,T⟩;unfold Instr.index;simp[run_bind,nD,J,andThen_ok,run_ite,if_pos f,(D.ty C).l8,j]
   grind
  grind
 grind
def OG(B:fq P E)(r:fe I μ n F a.tmps){s d:W'}{o:UV}{x:V}(h:bU E F (.convert s d o)=some x):
 ∃v,(convert s d (a.eval o)).run P w=.ok v w/\bO I μ x v:=by
 simp[bU]at h;split at h
 .rename_i G J k m z hd C;split at h
  next L b=>simp at h;subst h;have⟨c,g1,_,g3⟩:=(B.ty z).d_;have⟨e,f,u,D⟩:=(B.ty hd).d_;rw[b]at u;have:=Ft u;subst this;rw[(dR r C).gD];refine⟨_,?_,.c _ _ (.int _ _)⟩;unfold convert;simp[run_bind,g3,D,andThen_ok,Conv.intToInt,run_pure]
  grind
 grind
def rz(r:fe I μ n F a.tmps){o:a_ UV}{m:Pi}(h:lz F o=some m):
 (m=none/\o.map a.eval=none)\/∃k z,m=some z/\o.map a.eval=some (.int k z):=by
 cases o with
 |none=>simp[lz]at h;grind|some x=>
  simp[lz]at h;split at h
  next k z u=>simp at h;subst h;exact .inr ⟨k,z,rfl,by simp[(dR r u).gD]⟩
  grind
def ow(k:T2)(z:Int)(y:Nat)(code:BoundsCode)(a:0<=z)(b:z<=y):(sliceBound (.int k z) y code).run P w=.ok z.toNat w:=by unfold sliceBound;simp[run_bind,nD,andThen_ok,if_pos (And.intro a b),run_pure]
def nQ(r:fe I μ n F a.tmps){lo hi:a_ UV}{l h:Pi}(e1:lz F lo=some l)(e2:lz F hi=some h)(D:X')(len b L H:Nat)(c:len<=b)
 (B:eD len l h=some (L,H)):(sliceBounds D len b (lo.map a.eval) (hi.map a.eval) none).run P w=.ok (L,H,b) w/\L<=H/\H<=len:=by
 unfold eD at B;simp only at B;split at B
 .rename_i u;obtain⟨rfl,rfl⟩:=B;have⟨G,S,J,T⟩:=u;refine⟨?_,Zaa,Zaa⟩
  unfold sliceBounds;rcases rz r e1 with⟨rfl,O⟩|⟨k1,C,rfl,O⟩<;>rcases rz r e2 with⟨rfl,Q⟩|⟨k2,z,rfl,Q⟩<;>
   simp only[O,Q,getD_some]at G S J T⊢
  .simp_all
  .simp only[run_pure,andThen_ok,run_bind,ow k2 z _ _ G (show z<=b by omega)]
   simp
  .simp only[run_pure,andThen_ok,run_bind,ow k1 C _ _ J (show C<=len by omega)]
   simp
  simp[run_pure,andThen_ok,run_bind,ow k2 z _ _ G (show z<=b by omega),ow k1 C _ _ J (show C<=z.toNat by omega)]
 grind
def GQ{es:Nat}{xs:S'}{v:V'}{L H:Nat}(h:e9 I (.fsl es xs) v)(d:L<=H)(D:H<=xs.length):
 ∃B len a,v=.slice B len a/\len=xs.length/\len<=a/\e9 I (.fsl es ((xs.take H).drop L)) (.slice (if a=L then B else B.map (·.add (L*es))) (H-L) (a-L)):=by
 cases h with
 |fsl0 _ B a=>
  simp at D;have z:L=0:=Zaa
  subst D;subst z;refine⟨some B,0,a,rfl,rfl,zero_le _,?_⟩;have:=e9.fsl0 (I:=I) es B a;split
  .grind
  simpa[Addr.add]using e9.fsl0 es (B.add (0*es)) a
 |fsl _ _ b o a c C hc hu G O hr=>
  refine⟨_,_,a,rfl,rfl,hc,?_⟩;have u:((xs.take H).drop L).length=H-L:=Zad
  by_cases J:H-L=0
  .have:(xs.take H).drop L=[]:=List.eq_nil_of_length_eq_zero Zac
   rw[this,J];split
   .exact .fsl0 es _ _
   exact .fsl0 es _ _
  simp[rA];have e:e9 I (.fsl es ((xs.take H).drop L)) (.slice (some ⟨b,o+L*es,none⟩) ((xs.take H).drop L).length (a-L)):=by refine .fsl es _ b (o+L*es) (a-L) c C Zac (λx w=>hu x (mem_of_mem_take (mem_of_mem_drop w))) (λx w=>G x (mem_of_mem_take (mem_of_mem_drop w))) ?_ ?_;rw[u];have:L*es+(H-L)*es<=xs.length*es:=(by rw[<-add_mul];exact mul_le_mul_right _ Zaa);omega;grind
  grind
def Te(j:fq P E)(r:fe I μ n F a.tmps){t:W'}{o:UV}{lo hi i:a_ UV}{x:V}(h:bU E F (.slice t o lo hi i)=some x):
 ∃v,(sliceAt t (a.eval o) (lo.map a.eval) (hi.map a.eval) (i.map a.eval)).run P w=.ok v w/\bO I μ x v:=by
 simp[bU]at h;split at h
 .
  rename_i s l R m y U C S;obtain⟨d,hd,T⟩:=gE m;obtain⟨f,h1,Y,M⟩:=(j.ty hd).d_;rw[T]at Y;have:=Cq Y;rw[(dR r y).vu];simp only[ζf]at h;obtain⟨⟨L,H⟩,G,rfl⟩:=h;obtain⟨g,_,_⟩:=nQ (P:=P) (w:=w) r U C false s.size s.size L H (le_refl _) G;have hm:i.map a.eval=none:=by rcases rz r S with⟨_,q⟩|⟨k,z,e,_⟩;exact q;cases e
  refine⟨.string (s.extract L H),?_,.c _ _ (.str _)⟩;unfold sliceAt Instr.slice;simp_all
 .rename_i e v l R m y U C S;obtain⟨d,hd,T⟩:=gE m;obtain⟨f,h1,Y,M⟩:=(j.ty hd).d_;rw[T]at Y;have:=kE Y;subst this;have c:=dR r y;have hm:i.map a.eval=none:=by rcases rz r S with⟨_,q⟩|⟨k,z,e,_⟩;exact q;cases e
  have B:∀(D:a_ Addr)(len b L H:Nat)(J:TD),E.tt e=some J->len<=b->eD len l R=some (L,H)->
   (sliceAt t (.slice D len b) (lo.map a.eval) (hi.map a.eval) (i.map a.eval)).run P w=.ok (.slice (if b=L then D else D.map (·.add (L*J.size))) (H-L) (b-L)) w:=by
   intro D len b L H J u N G;obtain⟨g,_,_⟩:=nQ (P:=P) (w:=w) r U C true len b L H N G;unfold sliceAt Instr.slice;simp[run_bind,M,andThen_ok,hm,g,(j.ty u).l8,run_pure]
  split at h
  .rename_i J u;split at h
   .rename_i es xs;split at h
    next Z=>simp only[ζf]at h;obtain⟨⟨L,H⟩,G,rfl⟩:=h;obtain⟨_,W,X⟩:=nQ (P:=P) (w:=w) r U C true xs.length xs.length L H (le_refl _) G;obtain⟨D,len,b,e1,e2,e3,e4⟩:=GQ c.nU W X;rw[e1];subst e2;refine⟨_,B D _ b L H J u e3 G,?_⟩;rw[<-Z];exact .c _ _ e4
    grind
   .rename_i id es off len;split at h
    .rename_i Z;simp only[ζf]at h;obtain⟨⟨L,H⟩,G,rfl⟩:=h;obtain⟨_,W,X⟩:=nQ (P:=P) (w:=w) r U C true len len L H (le_refl _) G;rcases c.nN with⟨p,b,aa,he,N,ab,O⟩|⟨h0,D,O⟩
     .rw[O];refine⟨_,B _ _ b L H J u N G,?_⟩
      by_cases hz:b=L
      .have:H-L=0:=by omega
       rw[if_pos hz,this,show b-L=0 by omega]
       exact .hsl0 id es (off+L) _
      rw[if_neg hz];simp only[map_some,rA];rw[<-Z];subst he;have:=bO.hsl (I:=I) (μ:=μ) id (off+L) (H-L) (b-L) p aa Zaa (by
       have:off+L+(b-L)=off+b:=Zaa
       rw[this];exact ab)
      rwa [add_mul,<-add_assoc]at this
     rw[O];subst h0;refine⟨_,B _ _ 0 L H J u (le_refl _) G,?_⟩;have A:L=0:=Zaa
     have K:H=0:=Zaa
     subst A;subst K;simpa using bO.hsl0 id es (off+0) D
    grind
   .simp only[ζf]at h;obtain⟨⟨L,H⟩,G,rfl⟩:=h;obtain⟨_,W,X⟩:=nQ (P:=P) (w:=w) r U C true 0 0 L H (le_refl _) G;obtain⟨D,O⟩:=c.ue;rw[O];refine⟨_,B D 0 0 L H J u (le_refl _) G,?_⟩;have A:L=0:=by omega
    have K:H=0:=Zaa
    subst A;subst K;exact .c _ _ (.dX _)
   .simp only[ζf]at h;obtain⟨⟨L,H⟩,G,rfl⟩:=h;obtain⟨_,W,X⟩:=nQ (P:=P) (w:=w) r U C true 0 0 L H (le_refl _) G;have O:=c.nP;rw[O];refine⟨_,B none 0 0 L H J u (le_refl _) G,?_⟩;have A:L=0:=by omega
    have K:H=0:=Zaa
    subst A;subst K;exact .c _ _ .bM
   grind
  grind
 .rename_i e v m y U C S;obtain⟨d,hd,T⟩:=gE m;obtain⟨f,h1,Y,M⟩:=(j.ty hd).d_;rw[T]at Y;have:=kE Y;subst this;have c:=dR r y;have q1:lo.map a.eval=none:=by rcases rz r U with⟨_,q⟩|⟨k,z,e,_⟩;exact q;cases e
  obtain⟨k2,q2⟩:∃k,hi.map a.eval=some (.int k 0):=by rcases rz r C with⟨q,_⟩|⟨k,z,e,q⟩;cases q;cases e;exact⟨k,q⟩
  obtain⟨k3,q3⟩:∃k,i.map a.eval=some (.int k 0):=by rcases rz r S with⟨q,_⟩|⟨k,z,e,q⟩;cases q;cases e;exact⟨k,q⟩
  have B:∀(D:a_ Addr)(len b:Nat)(J:TD),E.tt e=some J->∃Q,(sliceAt t (.slice D len b) (lo.map a.eval) (hi.map a.eval) (i.map a.eval)).run P w=.ok (.slice Q 0 0) w:=by intro D len b J u;refine⟨D,?_⟩;unfold sliceAt Instr.slice sliceBounds;simp only[run_bind,M,andThen_ok,q1,q2,q3,ow k3 0 b _ (Int.le_refl _) Zaa,ow k2 0 _ _ (Int.le_refl _) Zab,(j.ty u).l8];simp
  split at h
  next J es xs u=>simp at h;subst h;obtain⟨D,len,b,e1,_⟩:=GQ c.nU (le_refl _) (zero_le _);rw[e1];obtain⟨Q,g⟩:=B D len b _ u;exact⟨_,g,.c _ _ (.dX _)⟩
  .rename_i J id es off len u;simp at h;subst h;rcases c.nN with⟨p,b,_,_,_,_,O⟩|⟨_,D,O⟩
   .rw[O];obtain⟨Q,g⟩:=B _ _ _ _ u;exact⟨_,g,.c _ _ (.dX _)⟩
   rw[O];obtain⟨Q,g⟩:=B _ _ _ _ u;exact⟨_,g,.c _ _ (.dX _)⟩
  next J u=>simp at h;subst h;obtain⟨D,O⟩:=c.ue;rw[O];obtain⟨Q,g⟩:=B _ _ _ _ u;exact⟨_,g,.c _ _ (.dX _)⟩
  next J u=>simp only[ζa]at h;subst h;have O:=c.nP;rw[O];obtain⟨Q,g⟩:=B _ _ _ _ u;exact⟨_,g,.c _ _ (.dX _)⟩
  simp at h
 grind
def c6.one{x:V}{vs:aZ V'}(h:c6 I μ [x] vs):∃v,vs=[v]/\bO I μ x v:=by obtain⟨v,r,rfl,a,b⟩:=h.cons_inv;exact⟨v,by rw[b.xT],a⟩
def c6.two{x y:V}{vs:aZ V'}(h:c6 I μ [x,y] vs):∃u v,vs=[u,v]/\bO I μ x u/\bO I μ y v:=by obtain⟨u,r,rfl,a,b⟩:=h.cons_inv;obtain⟨v,rfl,c⟩:=b.one;exact⟨u,v,rfl,a,c⟩
def c6.four{x y z t:V}{vs:aZ V'}(h:c6 I μ [x,y,z,t] vs):∃u v p q,vs=[u,v,p,q]/\bO I μ x u/\bO I μ y v/\bO I μ z p/\bO I μ t q:=by obtain⟨u,r,rfl,b,a⟩:=h.cons_inv;obtain⟨v,r2,rfl,c,a⟩:=a.cons_inv;obtain⟨p,q,rfl,w,B⟩:=a.two;exact⟨u,v,p,q,rfl,b,c,w,B⟩
def uw{args:Array UV}{l:aZ V'}(h:args.toList.map a.eval=l):args.map a.eval=l.toArray:=by subst h;apply ext';simp
def zL:a_ TK->V->a_ V
 |some .str,.str s=>some (.int .i64 s.size)|some (.slice _),.fsl _ xs=>some (.int .i64 xs.length)|some (.slice _),.hsl _ _ _ len=>some (.int .i64 len)|some (.slice _),.dX=>some (.int .i64 0)|some (.slice _),.bM=>some (.int .i64 0)|_,_=>none
def Zf(U:fq P E){t:W'}{x z:V}{v:V'}{ty:W'}{D:Array W'}(G:D[0]?=some t)(J:bO I μ x v)
 (h:zL (E.kindOf t) x=some z):∃u,(len_ D ty #[v]).run P w=.ok u w/\bO I μ z u:=by
 cases b:E.kindOf t with
 |none=>rw[b]at h;simp[zL]at h|some k=>
  rw[b]at h;have⟨d,hd,Q⟩:=gE b;have⟨c,g,S,T⟩:=(U.ty hd).d_;rw[Q]at S
  cases k with
  |str=>
   have:=Cq S;subst this
   cases x with
   |str s=>simp only[zL,ζa]at h;subst h;rw[J.vu];refine⟨_,?_,.c _ _ (.int _ _)⟩;unfold len_;simp[G,T,goInt]|_=>simp[zL]at h
  |slice e=>
   have:=kE S;subst this;have B:∀C(len a:Nat),(len_ D ty #[.slice C len a]).run P w=.ok (.int .i64 len) w:=by intro C len a;unfold len_;simp[G,T,goInt]
   cases x with
   |fsl es W=>simp only[zL,ζa]at h;subst h;have⟨C,len,a,e1,e2,_⟩:=GQ (L:=0) (H:=0) J.nU (le_refl _) (zero_le _);rw[e1,<-e2];exact⟨_,B _ _ _,.c _ _ (.int _ _)⟩|hsl id es off len=>
    simp only[zL,ζa]at h;subst h;rcases J.nN with⟨p,a,_,_,_,_,O⟩|⟨f,C,O⟩
    .rw[O];exact⟨_,B _ _ _,.c _ _ (.int _ _)⟩
    rw[O,f];exact⟨_,B _ _ _,.c _ _ (.int _ _)⟩
   |dX=>simp only[zL,ζa]at h;subst h;have⟨C,O⟩:=J.ue;rw[O];exact⟨_,B _ _ _,.c _ _ (.int _ _)⟩|bM=>simp only[zL,ζa]at h;subst h;rw[J.nP];exact⟨_,B _ _ _,.c _ _ (.int _ _)⟩|_=>simp[zL]at h
  |_=>simp[zL]at h
def Yw:a_ TK->V->a_ V
 |some (.slice _),.bM=>some (.int .i64 0)|some (.slice _),.dX=>some (.int .i64 0)|_,_=>none
def YD(U:fq P E){t:W'}{x z:V}{v:V'}{ty:W'}{B:Array W'}(D:B[0]?=some t)(J:bO I μ x v)
 (h:Yw (E.kindOf t) x=some z):∃u,(cap_ B ty #[v]).run P w=.ok u w/\bO I μ z u:=by
 have key:∀e C,E.kindOf t=some (.slice e)->v=.slice C 0 0->(cap_ B ty #[v]).run P w=.ok (.int .i64 0) w:=λe C a c=>by have⟨d,hd,G⟩:=gE a;have⟨b,f,L,O⟩:=(U.ty hd).d_;rw[G]at L;have:=kE L;subst this;unfold cap_;simp[D,O,goInt,c]
 unfold Yw at h;split at h
 next _ _ e a=>cases h;exact⟨_,key _ _ a J.nP,.c _ _ (.int _ _)⟩
 next _ _ e a=>cases h;have⟨C,q⟩:=J.ue;exact⟨_,key _ _ a q,.c _ _ (.int _ _)⟩
 cases h
def eX{s:Sem V'}{v:V'}{w':World}(h:s.run P w=.ok v w'):(do pure (Next.value (<-s)):Sem Next).run P w=.ok (.value v) w':=by rw[run_bind,h];rfl
def W0(G:fq P E)(r:fe I μ n F a.tmps)(o:Oper){x:V}(h:bU E F o.op=some x):
 ∃v,(execOp a.eval o).run P w=.ok (.value v) w/\bO I μ x v:=by
 obtain⟨dst,op,ty,pos,after,M⟩:=o;simp only at h
 cases op with
 |move y=>exact⟨_,rfl,dR r (by simpa[bU]using h)⟩|assign y=>exact⟨_,rfl,dR r (by simpa[bU]using h)⟩|pick c y z=>
  simp only[bU]at h;simp only[execOp];split at h
  .rename_i t hc;have e:=(dR r hc).tV;simp only[e,asBool,run_bind,run_pure,andThen_ok]
   cases t with
   |true=>simp only[if_true]at h⊢;exact⟨_,rfl,dR r h⟩|false=>simp only[false_eq_true,if_false]at h⊢;exact⟨_,rfl,dR r h⟩
  simp at h
 |nilCheck y=>
  simp only[bU]at h;simp only[execOp];split at h
  next id el off D=>simp only[ζa]at h;subst h;have g:=dR r D;obtain⟨p,_,e⟩:=g.vh;rw[e]at g⊢;exact⟨_,rfl,g⟩
  next cs D=>simp only[ζa]at h;subst h;have g:=dR r D;obtain⟨b,o,c,e,_⟩:=g.nW;rw[e]at g⊢;exact⟨_,rfl,g⟩
  next f u v D=>simp only[ζa]at h;subst h;have g:=dR r D;obtain⟨b,c,e,_⟩:=g.lG;rw[e]at g⊢;exact⟨_,rfl,g⟩
  simp at h
 |binOp op t y z Z=>
  simp only[bU]at h;split at h
  next u v A g=>obtain⟨q,O,H⟩:=WQ (w:=w) G y z h (dR r A) (dR r g);exact⟨q,eX O,H⟩
  simp at h
 |unOp op t y=>
  simp only[bU]at h;simp only[execOp];split at h
  next b D=>simp only[ζa]at h;subst h;rw[(dR r D).tV];exact⟨_,eX (by simp only[Op.unary];rfl),.c _ _ (.bool _)⟩
  next k m D=>simp only[ζa]at h;subst h;rw[(dR r D).gD];exact⟨_,eX (by simp only[Op.unary,intArith];rfl),by simpa using bO.c _ _ (.int k _)⟩
  simp at h
 |convert s d y=>obtain⟨v,l,C⟩:=OG (w:=w) G r h;exact⟨v,eX l,C⟩|fieldAddr s y f=>obtain⟨v,l,C⟩:=PE (w:=w) G r h;exact⟨v,eX l,C⟩|field s y f=>obtain⟨v,l,C⟩:=SM (w:=w) G r h;exact⟨v,eX l,C⟩|indexAddr t y i=>obtain⟨v,l,C⟩:=OD (w:=w) G r h;exact⟨v,eX l,C⟩|index t y i=>obtain⟨v,l,C⟩:=UE (w:=w) G r h;exact⟨v,eX l,C⟩|slice t y lo hi mx=>obtain⟨v,l,C⟩:=Te (w:=w) G r h;exact⟨v,eX l,C⟩|build t ps=>obtain⟨v,l,C⟩:=Um (w:=w) G r h;exact⟨v,eX l,C⟩|makeFunc f u v=>
  cases f with
  |func f=>
   simp only[bU]at h;split at h
   next Q x2 l C=>simp only[ζa]at h;subst h;have r1:=p_ r l;have r2:=p_ r C;refine⟨.func (.func f) (u.map a.eval) (v.map a.eval),rfl,?_⟩;refine .clo f _ _ _ _ (by simpa using r1.1) (by simpa using r2.1) (λj p q s t=>r1.2 j p q s (by simpa using t)) (λj p q s t=>r2.2 j p q s (by simpa using t))
   simp at h
  |_=>simp[bU]at h
 |extract y i=>
  simp only[bU]at h;simp only[execOp];split at h
  .rename_i vs D;obtain⟨S,e,T⟩:=(dR r D).sj;rw[e];have U:=(ζe.1 h).1;have J:i<S.size:=by have:=T.1;simp at this;omega
   refine⟨S[i],eX (by simp[Instr.extract,J]),T.2 i x _ h (by simp[J])⟩
  simp at h
 |call c=>
  obtain⟨callee,args,W⟩:=c
  cases callee with
  |builtin b=>
   simp only[bU]at h;simp only[execOp,resolve,run_bind,run_pure,andThen_ok,invoke];split at h
   .rename_i v t B L;obtain⟨u,A,H⟩:=(p_ r B).one;rw[uw A];obtain⟨q,l,C⟩:=Zf (w:=w) (ty:=ty) G L H (by rw[<-h];rfl)
    exact⟨q,by simp only[builtin];exact eX l,C⟩
   .rename_i v t B L;obtain⟨u,A,H⟩:=(p_ r B).one;rw[uw A];obtain⟨q,l,C⟩:=YD (w:=w) (ty:=ty) G L H (by rw[<-h];rfl)
    exact⟨q,by simp only[builtin];exact eX l,C⟩
   .rename_i k Q X x2 B;split at h
    next K=>simp only[ζa]at h;subst h;subst K;obtain⟨u,v,e,A,g⟩:=(p_ r B).two;rw[uw e,A.gD,g.gD];exact⟨_,by simp only[builtin];exact eX (by simp[max_,max2]),.c _ _ (.int _ _)⟩
    simp at h
   .rename_i k Q k1 x2 k2 x3 k3 x4 B;split at h
    next K=>simp only[ζa]at h;subst h;obtain⟨rfl,rfl,rfl⟩:=K;obtain⟨u,v,p,q,e,A,g,Y,O⟩:=(p_ r B).four;rw[uw e,A.gD,g.gD,Y.gD,O.gD];exact⟨_,by simp only[builtin];exact eX (by simp[max_,max2,D2]),.c _ _ (.int _ _)⟩
    simp at h
   .rename_i k Q X x2 B;split at h
    next K=>simp only[ζa]at h;subst h;subst K;obtain⟨u,v,e,A,g⟩:=(p_ r B).two;rw[uw e,A.gD,g.gD];exact⟨_,by simp only[builtin];exact eX (by simp[min_,min2]),.c _ _ (.int _ _)⟩
    simp at h
   simp at h
  |_=>simp[bU]at h
 |_=>simp[bU]at h
end
structure gW(I:cG)(μ:Mu)(p:Pl)(c:Array Value)(es:Nat)(xs:List (List V)):Prop where
 es_eq:p.es=es
 sz:c.size=p.sz
 ri:∀x∈xs,x.length=es
 one:∀x∈xs,∀y∈x,V.one y=true
 room:p.o+xs.length*es<=c.size
 rel:c6 I μ xs.flatten ((c.toList.drop p.o).take (xs.length*es))
def xJ(I:cG)(μ:Mu)(B:aZ (V×V))(es:Array MapEntry):Prop:=B.length=es.size/\∀(j:Nat)q e,B[j]?=some q->es[j]?=some e->bO I μ q.1 e.key/\bO I μ q.2 e.val
def Dy.is:Dy->LoopState->Prop
 |.ready,.ready|.busy,.busy|.done,.done=>True|_,_=>False
structure xU(I:cG)(μ:Mu)(r:xS)(l:Loop):Prop where
 st:r.st.is l.state
 pend:l.pending=r.pend.bind mO
 pendOk:r.pend≠some .norm
 frame:fe I μ r.nt r.frame l.tmps
 params:l.params.toList=r.params
 assign:l.assign=r.assign
 body:l.body=r.body
def Ob.live:Ob->X'
 |.row ..|.map _|.loop _=>true|_=>false
def uX(I:cG)(μ:Mu)(w:World)(id:Nat):Ob->Prop
 |.free=>μ id=none|.dead=>True|.row es xs=>∃p c el,μ id=some p/\I p.b=none/\w.heap[p.b]?=some (.cells c el)/\gW I μ p c es xs|.frz es xs=>∃p c,μ id=some p/\I p.b=some (.cells c)/\gW I μ p c es xs|.map B=>∃p es a,μ id=some p/\I p.b=none/\w.heap[p.b]?=some (.map es a)/\xJ I μ B es|.loop r=>∃p l,μ id=some p/\I p.b=none/\w.heap[p.b]?=some (.loop l)/\xU I μ r l
structure dm(I:cG)(μ:Mu)(H:bp)(w:World):Prop where
 dom:∀id,H.length<=id->μ id=none
 imm:∀b x,I b=some x->x.at w b
 obs:∀id ob,H[id]?=some ob->uX I μ w id ob
 inj:∀id id' ob ob' p p',H[id]?=some ob->H[id']?=some ob'->ob.live=true->ob'.live=true->μ id=some p->μ id'=some p'->p.b=p'.b->id=id'
 gl:wh I
def je(μ:Mu)(H:bp)(b:Nat):Prop:=∃id p ob,H[id]?=some ob/\ob.live=true/\μ id=some p/\p.b=b
def Obj.nf(o:Obj):Prop:=∀c t fr,o=.cells c t fr->fr=(0,0)
def vm(c:Array V')(t:W'):Obj.nf (.cells c t):=λ_ _ _ h=>Zac
def tN{o:Obj}(h:(match o with|.cells ..=>false|_=>true)=true):Obj.nf o:=λc t fr e=>Zac
def Gm{w w':World}{o:Obj}{b:Nat}(B:Obj.nf o)(d:w'.heap[b]?=some o)(D:∀k,k≠b->w'.heap[k]?=w.heap[k]?)(a:Addr)(h:w.frozen? a=false):w'.frozen? a=false:=by by_cases e:a.block=b;unfold frozen?;rw[e,d];split;rename_i c t lo hi u;cases u;have:=B _ _ _ rfl;grind;rfl;unfold frozen? at h⊢;grind
structure xz(w w':World):Prop where
 out:w'.output=w.output
 tape:w'.tape=w.tape
 dr:w.drawn<=w'.drawn
def xz.refl(w:World):xz w w:=⟨rfl,rfl,le_refl _⟩
def xz.trans{w w' w'':World}(h:xz w w')(B:xz w' w''):xz w w'':=⟨B.out.trans h.out,B.tape.trans h.tape,le_trans h.dr B.dr⟩
structure Step(I:cG)(μ:Mu)(H:bp)(w:World)(I':cG)(μ':Mu)(H':bp)(w':World):Prop where
 le:cG.le I I'
 mu:Mu.le μ μ'
 len:H.length<=H'.length
 size:w.heap.size<=w'.heap.size
 frame:∀b,b<w.heap.size->¬je μ H b->w'.heap[b]?=w.heap[b]?
 terr:∀b,((I' b).isSome=true\/je μ' H' b)->(I b).isSome=true\/je μ H b\/w.heap.size<=b
 os:w'.os=w.os
 out:xz w w'
 fz:∀a:Addr,a.block<w.heap.size->w.frozen? a=false->w'.frozen? a=false
section
variable{I I' I'':cG}{μ μ' μ'':Mu}{H H' H'':bp}{w w' w'':World}{P:Program}{E:Env}{n:Nat}{F:WP}{a:Act}
def IC.vW{x:IC}{b:Nat}(h:x.at w b):b<w.heap.size:=by cases x with|cells c=>have⟨_,_,h⟩:=h;grind|map es=>have⟨_,h⟩:=h;grind
def IC.uv{x:IC}{b:Nat}(h:x.at w b)(e:w'.heap[b]?=w.heap[b]?):x.at w' b:=by cases x with|cells c=>have⟨el,fr,h⟩:=h;exact⟨el,fr,Zac⟩|map es=>have⟨a,h⟩:=h;exact⟨a,Zac⟩
def Step.refl(I:cG)(μ:Mu)(H:bp)(w:World):Step I μ H w I μ H w:=⟨cG.le_refl _,Mu.le_refl _,le_refl _,le_refl _,λ_ _ _=>rfl,λ_ h=>h.elim .inl λh=>.inr (.inl h),rfl,.refl _,λ_ _ h=>h⟩
def gV(s:dm I μ H w){b:Nat}(h:je μ H b):I b=none:=by obtain⟨id,p,ob,h1,B,D,rfl⟩:=h;have:=s.obs id ob h1;cases ob with|row es G=>have⟨q,c,el,u,z,_⟩:=this;grind|map C=>have⟨q,c,el,u,z,_⟩:=this;grind|loop r=>have⟨q,c,u,z,_⟩:=this;grind|_=>simp[Ob.live]at B
def o5(s:dm I μ H w){b:Nat}(h:je μ H b):b<w.heap.size:=by obtain⟨id,p,ob,h1,C,G,rfl⟩:=h;have:=s.obs id ob h1;cases ob with|row es J=>have⟨q,c,el,u,z,B,_⟩:=this;grind|map D=>have⟨q,c,el,u,z,B,_⟩:=this;grind|loop r=>have⟨q,c,u,z,B,_⟩:=this;grind|_=>simp[Ob.live]at C
def Step.trans(D:dm I' μ' H' w')(c:Step I μ H w I' μ' H' w')(B:Step I' μ' H' w' I'' μ'' H'' w''):Step I μ H w I'' μ'' H'' w'' where
 fz:=λa u h=>B.fz a (Nat.lt_of_lt_of_le u c.size) (c.fz a u h)
 le:=cG.le_trans c.le B.le
 mu:=λid p h=>B.mu id p (c.mu id p h)
 len:=le_trans c.len B.len
 size:=le_trans c.size B.size
 frame:=by intro b u C;rw[B.frame b (Nat.lt_of_lt_of_le u c.size) ?_,c.frame b u C];intro z;rcases c.terr b (.inr z)with h|h|h;have:=gV D z;have⟨x,G⟩:=isSome_iff_exists.1 h;rw[c.le _ _ G]at this;simp_all;simp_all;omega
 terr:=by intro b h;rcases B.terr b h with h|h|h;exact c.terr b (.inl h);exact c.terr b (.inr h);exact .inr (.inr (le_trans c.size h))
 os:=B.os.trans c.os
 out:=c.out.trans B.out
def gW.mono(h:cG.le I I')(B:Mu.le μ μ'){p:Pl}{c:Array V'}{es:Nat}{xs:S'}(r:gW I μ p c es xs):gW I' μ' p c es xs:=⟨r.es_eq,r.sz,r.ri,r.one,r.room,r.rel.mono h B⟩
def xJ.mono(h:cG.le I I')(D:Mu.le μ μ'){B:aZ (V×V)}{es:Array MapEntry}(r:xJ I μ B es):xJ I' μ' B es:=⟨r.1,λj q e a b=>⟨(r.2 j q e a b).1.mono h D,(r.2 j q e a b).2.mono h D⟩⟩
def xU.mono(h:cG.le I I')(B:Mu.le μ μ'){r:xS}{l:Loop}(x:xU I μ r l):xU I' μ' r l:=⟨x.st,x.pend,x.pendOk,x.frame.mono h B,x.params,x.assign,x.body⟩
def uX.mono(h:cG.le I I')(B:Mu.le μ μ'){id:Nat}{ob:Ob}(r:uX I μ w id ob)
 (D:∀p,μ id=some p->ob.live=true->w'.heap[p.b]?=w.heap[p.b]?/\I' p.b=none)(G:ob=.free->μ' id=none):uX I' μ' w' id ob:=by
 cases ob with
 |free=>exact G rfl|dead=>trivial|row es J=>have⟨p,c,el,a,z,C,u⟩:=r;have⟨g1,g2⟩:=D p a rfl;exact⟨p,c,el,B _ _ a,g2,Zac,u.mono h B⟩|frz es J=>have⟨p,c,a,z,u⟩:=r;exact⟨p,c,B _ _ a,h _ _ z,u.mono h B⟩|map L=>have⟨p,es,b,a,z,C,u⟩:=r;have⟨g1,g2⟩:=D p a rfl;exact⟨p,es,b,B _ _ a,g2,Zac,u.mono h B⟩|loop x=>have⟨p,l,a,z,C,u⟩:=r;have⟨g1,g2⟩:=D p a rfl;exact⟨p,l,B _ _ a,g2,Zac,u.mono h B⟩
def dm.qO(s:dm I μ H w)(e:w'.heap=w.heap):dm I μ H w' where
 dom:=s.dom
 imm:=λb x h=>IC.uv (s.imm b x h) (by rw[e])
 obs:=λid ob h=>(s.obs id ob h).mono (cG.le_refl _) (Mu.le_refl _) (λp u z=>⟨by rw[e],gV s ⟨id,p,ob,h,z,u,rfl⟩⟩) (λB=>by subst B;exact s.obs id _ h)
 inj:=s.inj
 gl:=s.gl
def Step.qO(e:w'.heap=w.heap)(c:w'.os=w.os)(B:xz w w'):Step I μ H w I μ H w':=⟨cG.le_refl _,Mu.le_refl _,le_refl _,Zac,λ_ _ _=>by rw[e],λb h=>h.elim .inl λh=>.inr (.inl h),c,B,λa _ h=>by unfold frozen? at h⊢;grind⟩
def Mu.iC(μ:Mu)(k:Nat)(p:Pl):Mu:=λid=>if id=k then some p else μ id
def Mu.ig(μ:Mu)(k:Nat)(p:Pl):μ.iC k p k=some p:=by simp[Mu.iC]
def Mu.jF(μ:Mu){k id:Nat}(p:Pl)(h:id≠k):μ.iC k p id=μ id:=by simp[Mu.iC,h]
def Mu.sY{k:Nat}{p:Pl}(h:μ k=none):Mu.le μ (μ.iC k p):=by intro id q u;by_cases e:id=k;grind;rw[Mu.jF _ _ e];omega
def nL(o:Obj)(b:Nat)(h:b<w.heap.size):(w.alloc o).heap[b]?=w.heap[b]?:=by show(w.heap.push o)[b]?=_;grind
def oQ(o:Obj):(w.alloc o).heap[w.heap.size]?=some o:=by show(w.heap.push o)[w.heap.size]?=_;simp
def Qd{o:Obj}(B:Obj.nf o)(a:Addr)(h:w.frozen? a=false):(w.alloc o).frozen? a=false:=
 Gm B (oQ o) (λk b=>by
  by_cases u:k<w.heap.size
  .exact nL o k u
  show(w.heap.push o)[k]?=_
  grind) a h
def dm.place(s:dm I μ H w){k:Nat}{ob:Ob}{o:Obj}{p:Pl}(c:μ k=none)(J:H.length<=H'.length)(l:k<H'.length)
 (m:∀id,id≠k->H'[id]?=some .free\/H'[id]?=H[id]?)(U:∀id,id≠k->H'[id]?=some .free->μ id=none)(n:H'[k]?=some ob)(hp:p.b=w.heap.size)
 (r:uX I (μ.iC k p) (w.alloc o) k ob)(f:Obj.nf o):dm I (μ.iC k p) H' (w.alloc o)/\Step I μ H w I (μ.iC k p) H' (w.alloc o):=by
 have g:∀b x,I b=some x->b<w.heap.size:=λb x h=>IC.vW (s.imm b x h)
 have z:∀id u,id≠k->H'[id]?=some u->u≠.free->H[id]?=some u:=by grind
 have C:∀b,je (μ.iC k p) H' b->je μ H b\/b=w.heap.size:=by rintro b ⟨id,q,u,h1,O,T,rfl⟩;by_cases e:id=k;subst e;rw[Mu.ig]at T;grind;rw[Mu.jF _ _ e]at T;exact .inl ⟨id,q,u,z id u e h1 Zac,O,T,rfl⟩
 refine⟨⟨?_,?_,?_,?_,s.gl⟩,⟨cG.le_refl _,Mu.sY c,J,Zab,?_,?_,rfl,⟨rfl,rfl,le_refl _⟩,λa _=>Gm (b:=w.heap.size) f (oQ o) (λk c=>?_) a⟩⟩
 .intro id h;rw[Mu.jF _ _ Zaa]
  exact s.dom id Zaa
 .intro b x h;exact IC.uv (s.imm b x h) (nL o b (g b x h))
 .intro id u h
  by_cases e:id=k
  .grind
  by_cases W:u=.free
  .subst W;show(μ.iC k p) id=none;rw[Mu.jF _ _ e];grind
  have Z:=z id u e h W;refine(s.obs id u Z).mono (cG.le_refl _) (Mu.sY c) (λq i X=>?_) (λj=>absurd j W)
  have d:je μ H q.b:=⟨id,q,u,Z,X,i,rfl⟩;exact⟨nL o _ (o5 s d),gV s d⟩
 .intro id B o1 o2 q q' h1 O Q S D G Y
  by_cases e:id=k<;>by_cases L:B=k
  .simp_all
  .subst e;rw[Mu.ig]at D;cases D;rw[Mu.jF _ _ L]at G;have:=o5 s ⟨B,q',o2,z B o2 L O (by rintro rfl;simp[Ob.live]at S),S,G,rfl⟩
   omega
  .subst L;rw[Mu.ig]at G;cases G;rw[Mu.jF _ _ e]at D;have:=o5 s ⟨id,q,o1,z id o1 e h1 (by rintro rfl;simp[Ob.live]at Q),Q,D,rfl⟩
   omega
  rw[Mu.jF _ _ e]at D;rw[Mu.jF _ _ L]at G;exact s.inj id B o1 o2 q q' (z id o1 e h1 (by rintro rfl;simp[Ob.live]at Q)) (z B o2 L O (by rintro rfl;simp[Ob.live]at S)) Q S D G Y
 .intro b Y _;exact nL o b Y
 .intro b h;rcases h with h|h
  .exact .inl h
  rcases C b h with h|h
  .exact .inr (.inl h)
  omega
 by_cases X:k<w.heap.size
 .exact nL o k X
 show(w.heap.push o)[k]?=_;rw[getElem?_eq_none (by simp;omega),getElem?_eq_none Zaa]
def dm.push(s:dm I μ H w){ob:Ob}{o:Obj}{p:Pl}(hp:p.b=w.heap.size)(B:uX I (μ.iC H.length p) (w.alloc o) H.length ob)(D:Obj.nf o:=by first|exact vm _ _|exact tN rfl):
 dm I (μ.iC H.length p) (H++[ob]) (w.alloc o)/\Step I μ H w I (μ.iC H.length p) (H++[ob]) (w.alloc o):=by
 refine s.place (s.dom _ (le_refl _)) Zab Zab (λid h=>.inr ?_) (λid h z=>?_) Zab hp B D
 .grind
 by_cases u:id<H.length
 .rw[getElem?_append_left u]at z;exact s.obs id _ z
 grind
def dm.fill(s:dm I μ H w){k:Nat}{ob:Ob}{o:Obj}{p:Pl}(a:H[k]?=some .free)(hp:p.b=w.heap.size)(B:uX I (μ.iC k p) (w.alloc o) k ob)(D:Obj.nf o:=by first|exact vm _ _|exact tN rfl):
 dm I (μ.iC k p) (H.set k ob) (w.alloc o)/\Step I μ H w I (μ.iC k p) (H.set k ob) (w.alloc o):=by
 have z:=(ζe.1 a).1;refine s.place (s.obs k _ a) Zab Zac (λid h=>.inr ?_) (λid h u=>?_) Zad hp B D
 .grind
 rw[getElem?_set_ne (Ne.symm h)]at u;exact s.obs id _ u
def gQ(w:World)(b:Nat)(o:Obj):World:={w with heap:=w.heap.setIfInBounds b o}
def iq(o:Obj){b B:Nat}(h:B≠b):(gQ w b o).heap[B]?=w.heap[B]?:=by simp[gQ,Array.getElem?_setIfInBounds_ne (Ne.symm h)]
def jx(o:Obj){b:Nat}(h:b<w.heap.size):(gQ w b o).heap[b]?=some o:=by simp[gQ,h]
def zj(b:Nat)(o:Obj):(gQ w b o).heap.size=w.heap.size:=by simp[gQ]
def QG(b:Nat)(o B:Obj):gQ (gQ w b o) b B=gQ w b B:=by simp[gQ]
def ZD{o:Obj}{b:Nat}(B:Obj.nf o)(a:Addr)(h:w.frozen? a=false):(gQ w b o).frozen? a=false:=by
 by_cases u:b<w.heap.size;exact Gm B (jx o u) (λk c=>iq o c) a h;have:(gQ w b o).heap=w.heap:=by simp[gQ,Array.setIfInBounds,u]
 unfold frozen? at h⊢;grind
def dm.write(s:dm I μ H w){id:Nat}{ob ob':Ob}{o:Obj}{p:Pl}(D:H[id]?=some ob)(U:ob.live=true)(hp:μ id=some p)
 (Y:uX I μ (gQ w p.b o) id ob')(d:Obj.nf o:=by first|exact vm _ _|exact tN rfl):dm I μ (H.set id ob') (gQ w p.b o)/\Step I μ H w I μ (H.set id ob') (gQ w p.b o):=by
 have z:je μ H p.b:=⟨id,p,ob,D,U,hp,rfl⟩;have u:∀k x,(H.set id ob')[k]?=some x->∃y,H[k]?=some y/\(x.live=true->y.live=true)/\(k≠id->y=x):=by grind
 have L:∀b,je μ (H.set id ob') b->je μ H b:=by rintro b ⟨k,q,x,c,O,X,rfl⟩;have⟨y,Q,B,_⟩:=u k x c;exact⟨k,q,y,Q,B O,X,rfl⟩
 refine⟨⟨?_,?_,?_,?_,s.gl⟩,⟨cG.le_refl _,Mu.le_refl _,Zab,by rw[zj];grind,?_,?_,rfl,⟨rfl,rfl,le_refl _⟩,λa _=>Gm d (jx o (o5 s z)) (λk f=>iq o f) a⟩⟩
 .intro k h;exact s.dom k Zac
 .intro b x h;refine IC.uv (s.imm b x h) (iq o ?_);intro C;rw[C,gV s z]at h;cases h
 .intro k x h
  by_cases e:k=id
  .grind
  rw[getElem?_set_ne (Ne.symm e)]at h;refine(s.obs k x h).mono (cG.le_refl _) (Mu.le_refl _) (λq T G=>⟨iq o ?_,gV s ⟨k,q,x,h,G,T,rfl⟩⟩) (λZ=>by subst Z;exact s.obs k _ h)
  intro C;exact e (s.inj k id x ob q p h D G U T hp C)
 .intro k W x x' q q' c O l1 l2 m1 m2 C;have⟨y,Q,B,_⟩:=u k x c;have⟨g,S,J,_⟩:=u W x' O;exact s.inj k W y g q q' Q S (B l1) (J l2) m1 m2 C
 .intro b _ hn;refine iq o ?_
  grind
 grind
def dm.kill(s:dm I μ H w){id:Nat}{ob:Ob}(D:H[id]?=some ob):dm I μ (H.set id .dead) w/\Step I μ H w I μ (H.set id .dead) w:=by
 have z:=(ζe.1 D).1;have u:∀k x,(H.set id .dead)[k]?=some x->x.live=true->H[k]?=some x/\k≠id:=by intro k x h O;by_cases e:k=id;subst e;rw[getElem?_set_self z]at h;cases h;simp[Ob.live]at O;grind
 refine⟨⟨?_,s.imm,?_,?_,s.gl⟩,⟨cG.le_refl _,Mu.le_refl _,Zab,le_refl _,λ_ _ _=>rfl,?_,rfl,.refl _,λ_ _ h=>h⟩⟩;intro k h;exact s.dom k Zac;intro k x h;by_cases e:k=id;subst e;rw[getElem?_set_self z]at h;cases h;trivial;rw[getElem?_set_ne (Ne.symm e)]at h;exact s.obs k x h;intro k C x G q Q a B J L S T U;exact s.inj k C x G q Q (u k x a J).1 (u C G B L).1 J L S T U;rintro b (h|⟨k,q,x,a,B,W,rfl⟩);grind;exact .inr (.inl ⟨k,q,x,(u k x a B).1,B,W,rfl⟩)
end
section
variable{P:Program}{E:Env}{I:cG}{μ:Mu}{H:bp}{n:Nat}{F:WP}{a:Act}{w:World}
def xR{b:Nat}{c:Array V'}{el:W'}{fr:Nat×Nat}(h:w.heap[b]?=some (.cells c el fr))(k:Nat):w.cell? ⟨b,k,none⟩=c[k]?:=by simp[cell?,h]
def L8{b o:Nat}{c:Array V'}(d:∀k,w.cell? ⟨b,k,none⟩=c[k]?):∀(m i:Nat)(a:Array V'),o+i+m<=c.size->
 (loadCellsFrom ⟨b,o,none⟩ i m a).run P w=.ok (a++((c.toList.drop (o+i)).take m).toArray) w:=by
 intro m
 induction m with
 |zero=>intro i a _;simp[loadCellsFrom]|succ m z=>
  intro i a h;have u:o+i<c.size:=Zaa
  have e:w.cell? ⟨b,o+i,none⟩=some c[o+i]:=by rw[d];simp[u]
  simp only[loadCellsFrom,run_bind,rA,run_load,e,andThen_ok];rw[z (i+1) _ Zaa]
  congr 1
  rw[List.drop_eq_getElem_cons (show o+i<c.toList.length by simpa using u),List.take_succ_cons]
  apply ext';simp[add_assoc]
def G9{b o m:Nat}{c:Array V'}(a:∀k,w.cell? ⟨b,k,none⟩=c[k]?)(h:o+m<=c.size\/m=0):
 (loadCells ⟨b,o,none⟩ m).run P w=.ok ((c.toList.drop o).take m).toArray w:=by
 rcases h with h|h
 .have:=L8 (P:=P) a m 0 #[] (o:=o) Zaa
  simpa[loadCells]using this
 subst h;simp[loadCells,loadCellsFrom]
def gL{es:Nat}{xs:S'}(a:∀x∈xs,x.length=es):xs.flatten.length=xs.length*es:=by induction xs with|nil=>simp|cons x xs u=>simp only[flatten_cons,ζi,length_cons];rw[u (λy w=>a y (mem_cons_of_mem _ w)),a x Zab,add_mul];omega
def Gv{es:Nat}:∀{xs:S'}(_:∀x∈xs,x.length=es){el:Nat}{cs:So},xs[el]?=some cs->(xs.flatten.drop (el*es)).take es=cs:=by intro xs;induction xs with|nil=>intro _ el cs h;simp at h|cons x xs w=>intro a el cs h;have u:x.length=es:=a x Zab;cases el with|zero=>simp at h;subst h;simp[u]|succ el=>have:=w (λy z=>a y (mem_cons_of_mem _ z)) (el:=el) (cs:=cs) (by simpa using h);rw[flatten_cons,show(el+1)*es=x.length+el*es by rw[u,add_mul];omega,<-drop_drop];simpa using this
def LV{es:Nat}:∀{xs:S'}(_:∀x∈xs,x.length=es){el:Nat}(cs:So),el<xs.length->cs.length=es->
 (xs.set el cs).flatten=xs.flatten.take (el*es)++cs++xs.flatten.drop (el*es+es):=by
 intro xs
 induction xs with
 |nil=>intro _ el cs h;simp at h|cons x xs w=>
  intro a el cs h b;have u:x.length=es:=a x Zab
  cases el with
  |zero=>simp[u]|succ el=>
   have:=w (λy z=>a y (mem_cons_of_mem _ z)) (el:=el) cs (by simpa using h) b
   simp only[List.set_cons_succ,flatten_cons,this];rw[show(el+1)*es=x.length+el*es by rw[u,add_mul];omega]
   rw[show x.length+el*es+es=x.length+(el*es+es)by omega]
   rw[List.take_append,List.drop_append];simp[List.take_of_length_le,List.drop_eq_nil_of_le,Nat.add_sub_cancel_left]
def yA{es:Nat}{xs:S'}(a:∀x∈xs,x.length=es){i j:Nat}{x:So}{y:V}(b:xs[i]?=some x)(B:x[j]?=some y):xs.flatten[i*es+j]?=some y:=by
 have:=Gv a b;have u:j<es:=by rw[<-a x (mem_of_getElem? b)];exact(ζe.1 B).1
 have e:=congrArg (·[j]?) this;simp only[getElem?_take,u,if_true,getElem?_drop]at e;rw[e];exact B
def gW.elem{p:Pl}{c:Array V'}{es:Nat}{xs:S'}(r:gW I μ p c es xs){el:Nat}{cs:So}(h:xs[el]?=some cs):
 c6 I μ cs ((c.toList.drop (p.o+el*es)).take es)/\cs.length=es/\p.o+el*es+es<=c.size:=by
 have u:=(ζe.1 h).1;have z:=r.ri cs (mem_of_getElem? h);have a:=(r.rel.drop (el*es)).take es;rw[Gv r.ri h]at a;have B:el*es+es<=xs.length*es:=by have:=mul_le_mul_right es (show el+1<=xs.length from u);rwa [add_mul,one_mul]at this
 have w:=r.room;refine⟨?_,z,Zaa⟩
 have e:(((c.toList.drop p.o).take (xs.length*es)).drop (el*es)).take es=(c.toList.drop (p.o+el*es)).take es:=by rw[drop_take,take_take,drop_drop,min_eq_left Zaa]
 rw[e]at a;exact a
def gW.span{p:Pl}{c:Array V'}{es:Nat}{xs:S'}(r:gW I μ p c es xs){off len:Nat}(h:off+len<=xs.length):
 c6 I μ ((xs.drop off).take len).flatten ((c.toList.drop (p.o+off*es)).take (len*es))/\p.o+off*es+len*es<=c.size:=by
 have w:=r.room;have B:off*es+len*es<=xs.length*es:=by rw[<-add_mul];exact mul_le_mul_right _ h
 have e1:((xs.drop off).take len).flatten=(xs.flatten.drop (off*es)).take (len*es):=by have u:xs=xs.take off++((xs.drop off).take len++(xs.drop off).drop len):=(by rw[take_append_drop,take_append_drop]);have g1:(xs.take off).flatten.length=off*es:=(by rw[gL (λx u=>r.ri x (mem_of_mem_take u))];rw[length_take,min_eq_left Zaa]);have g2:((xs.drop off).take len).flatten.length=len*es:=(by rw[gL (λx u=>r.ri x (mem_of_mem_drop (mem_of_mem_take u))),length_take,List.length_drop,min_eq_left Zaa]);have z:=congrArg List.flatten u;simp only[flatten_append]at z;rw[z,<-g1,List.drop_left,<-g2,List.take_left]
 have a:=(r.rel.drop (off*es)).take (len*es);rw[e1];refine⟨?_,Zaa⟩
 have e:(((c.toList.drop p.o).take (xs.length*es)).drop (off*es)).take (len*es)=(c.toList.drop (p.o+off*es)).take (len*es):=by rw[drop_take,take_take,drop_drop,min_eq_left Zaa]
 rw[e]at a;exact a
def K1{ob:Ob}{es:Nat}{xs:S'}(h:ob.rows=some (es,xs)):ob=.row es xs\/ob=.frz es xs:=by cases ob<;>simp_all [Ob.rows]
def dm.rows(s:dm I μ H w){id es:Nat}{xs:S'}(h:(H[id]?).bind Ob.rows=some (es,xs)):
 ∃p c,μ id=some p/\(∀k,w.cell? ⟨p.b,k,none⟩=c[k]?)/\gW I μ p c es xs:=by
 have⟨ob,a,u⟩:=ζg.1 h;have:=s.obs id ob a;rcases K1 u with rfl|rfl
 .have⟨p,c,el,g1,_,g3,g4⟩:=this;exact⟨p,c,g1,xR g3,g4⟩
 have⟨p,c,g1,g2,g4⟩:=this;have⟨el,fr,g3⟩:=s.imm _ _ g2;exact⟨p,c,g1,xR g3,g4⟩
def Uy(s:dm I μ H w){p:V}{v:V'}(d:bO I μ p v){m:Nat}{cs:So}(h:eU H p m=some cs):
 ∃(b o:Nat)(c:Array V'),v=.pointer (some ⟨b,o,none⟩)/\(∀k,w.cell? ⟨b,k,none⟩=c[k]?)/\(o+m<=c.size\/m=0)/\c6 I μ cs ((c.toList.drop o).take m):=by
 unfold eU at h;split at h
 .rename_i z;have⟨b,o,c,e,G,Q,l⟩:=d.nW;have⟨el,fr,g⟩:=s.imm _ _ G;refine⟨b,o,c,e,xR g,?_⟩;have J:c6 I μ z ((c.toList.drop o).take z.length):=by
   refine⟨by simp;omega,λj x y f C=>?_⟩
   have L:=(ζe.1 f).1;rw[getElem?_take,if_pos L,getElem?_drop]at C;exact .c _ _ (l j x y f (by simpa using C))
  rcases C4 J h with⟨g1,g2,g3⟩|⟨g1,g2⟩
  .refine⟨.inl Zaa,?_⟩
   rw[List.drop_zero,take_take,min_eq_left Zaa]at g1
   exact g1
  refine⟨.inr g1,?_⟩;rw[g2,g1];exact .nil
 .rename_i id el off;split at h
  .rename_i es z u;split at h
   .rename_i O B;have⟨p,c,g1,g2,g3⟩:=s.rows u;have⟨q,D,e⟩:=d.vh;rw[g1]at D;cases D;refine⟨_,_,c,e,g2,?_⟩;have⟨k1,k2,k3⟩:=g3.elem B;rw[g3.es_eq];rcases C4 k1 h with⟨a,i,n⟩|⟨a,i⟩
    .refine⟨.inl Zaa,?_⟩
     rw[drop_take,take_take,min_eq_left Zaa,drop_drop]at a
     exact a
    refine⟨.inr a,?_⟩;rw[i,a];exact .nil
   simp at h
  simp at h
 simp at h
def FK(D:fq P E)(s:dm I μ H w){t:W'}{d:TD}(hd:E.tt t=some d){p x:V}{v:V'}(g:bO I μ p v)(h:(eU H p d.size).bind (mk d.agg)=some x):
 ∃u,(loadAt t v).run P w=.ok u w/\bO I μ x u/\∃G,v=.pointer (some G)/\(loadVar t G).run P w=.ok u w:=by
 have⟨cs,i,C⟩:=ζg.1 h;have⟨b,o,c,e,g1,g2,g3⟩:=Uy s g i;have key:∃u,(loadVar t ⟨b,o,none⟩).run P w=.ok u w/\bO I μ x u:=by unfold loadVar;simp only[run_bind,(D.ty hd).Pr,andThen_ok];cases z:d.agg with|true=>rw[z]at C;refine⟨.agg ((c.toList.drop o).take d.size).toArray,?_,Qh C (by simpa using g3)⟩;simp only[if_true,run_bind,(D.ty hd).l8,andThen_ok,G9 g1 g2,run_pure]|false=>rw[z]at C;have⟨u,a,J⟩:=mk_one C g3;refine⟨u,?_,J⟩;have L:d.size≠0:=(by intro j;rw[j]at a;simp at a);have B:c[o]?=some u:=(by have:=congrArg (·[0]?) a;simp only[getElem?_take,getElem?_drop,getElem?_cons_zero]at this;rw[if_pos Zaa]at this;simpa using this);simp only[false_eq_true,if_false,run_load,g1,B]
 have⟨u,f,O⟩:=key;refine⟨u,?_,O,_,e,f⟩;rw[e];unfold loadAt;simp only[run_bind,sureAddr,run_pure,andThen_ok,f]
def dm.KC(s:dm I μ H w){b:Nat}{x:IC}(h:I b=some x):b<w.heap.size:=IC.vW (s.imm b x h)
def Xy{b es:Nat}{c:Array V'}{xs:S'}(h:c6 I μ xs.flatten c.toList)(a:∀x∈xs,x.length=es)(B:∀x∈xs,∀y∈x,V.one y=true):
 gW I μ ⟨b,0,es,c.size⟩ c es xs:=by
 have u:xs.length*es=c.size:=by rw[<-gL a,h.1];simp
 exact⟨rfl,rfl,a,B,by simp[u],by simpa[u,List.take_of_length_le]using h⟩
structure U7(I:cG)(μ:Mu)(w:World)(ob:Ob)(m:Mk)(o:Obj)(p:Pl)(u:Value):Prop where
 b:p.b=w.heap.size
 live:ob.live=true
 nf:Obj.nf o
 len:∀es xs,ob=.row es xs->p.sz=xs.length*es
 rel:∀k,μ k=none->uX I (μ.iC k p) (w.alloc o) k ob/\bO I (μ.iC k p) (m.val k) u
def dm.Aw(s:dm I μ H w):I w.heap.size=none:=by cases h:I w.heap.size with|none=>rfl|some x=>have:=s.KC h;omega
def zi(s:dm I μ H w){es:Nat}{xs:S'}{c:Array V'}{el:W'}{m:Mk}{u:V'}(h:c6 I μ xs.flatten c.toList)(a:∀x∈xs,x.length=es)
 (B:∀x∈xs,∀y∈x,V.one y=true)(d:∀k,bO I (μ.iC k ⟨w.heap.size,0,es,c.size⟩) (m.val k) u):U7 I μ w (.row es xs) m (.cells c el) ⟨w.heap.size,0,es,c.size⟩ u where
 nf:=vm _ _
 b:=rfl
 live:=rfl
 len:=λz C e=>by cases e;rw[<-gL a,h.1];simp
 rel:=λk f=>⟨⟨_,c,el,Mu.ig _ _ _,s.Aw,oQ _,(Xy h a B).mono (cG.le_refl _) (Mu.sY f)⟩,d k⟩
def ND(t:W')(v:V'):(newVar t v).run P w=.ok ⟨w.heap.size,0,none⟩ (w.alloc (.cells v.cells t)):=by simp[newVar,newRow]
def zp{z:So}{B:Array V'}(h:c6 I μ z B.toList)(m:Nat):
 c6 I μ (replicate m z).flatten (((Array.range (m*B.size)).map (λi=>B[i % B.size]!)).toList):=by
 have G:z.length=B.size:=by simpa using h.1
 have d:∀x∈replicate m z,x.length=z.length:=λx L=>by rw[eq_of_mem_replicate L]
 have w:=gL d;simp only[List.length_replicate]at w;refine⟨by rw[w,G];simp,λj x y a J=>?_⟩
 have C:=(ζe.1 a).1;rw[w]at C;have u:0<z.length:=by rcases eq_zero_or_pos z.length with b|b;rw[b]at C;simp at C;exact b
 have hi:j / z.length<m:=(Nat.div_lt_iff_lt_mul u).2 C;have c:j % z.length<z.length:=mod_lt _ u;have e1:=yA d (i:=j / z.length) (j:=j % z.length) (x:=z) (y:=z[j % z.length]) (by simp[hi]) (by simp[c])
 rw[Nat.mul_comm,Nat.div_add_mod]at e1;rw[e1]at a;cases a;have D:j % B.size<B.size:=by rw[<-G];exact c
 have e2:y=B[j % B.size]:=by have O:j<(Array.range (m*B.size)).size:=(by simp;rw[<-G];exact C);simp only[Array.toList_map,List.getElem?_map,ζf]at J;obtain⟨q,Q,rfl⟩:=J;have:q=j:=(by have:=(ζe.1 Q).2;simpa using this.symm);subst this;simp[D]
 rw[e2];exact h.2 (j % z.length) _ _ (by simp[c]) (by rw[G];simp[D])
def I7{es:Nat}:∀(vs:aZ (Nat×V))(xs ys:S'),(∀x∈xs,x.length=es)->(∀x∈xs,∀y∈x,V.one y=true)->fW es xs vs=some ys->
 vX (λi=>some (i*es,es)) xs.flatten vs=some ys.flatten/\(∀x∈ys,x.length=es)/\(∀x∈ys,∀y∈x,V.one y=true)/\ys.length=xs.length:=by
 intro vs
 induction vs with
 |nil=>intro xs ys a u h;simp only[fW,ζa]at h;subst h;exact⟨rfl,a,u,rfl⟩|cons v vs G=>
  intro xs ys a u h;have⟨i,v⟩:=v;simp only[fW]at h;split at h
  .rename_i hc;have⟨b,D,I⟩:=hc;have w:∀x∈xs.set i v.cells,x.length=es:=λx z=>by
    rcases List.mem_or_eq_of_mem_set z with h|h
    .exact a x h
    rw[h];exact b
   have B:∀x∈xs.set i v.cells,∀y∈x,V.one y=true:=λx z=>by rcases List.mem_or_eq_of_mem_set z with h|h;exact u x h;rw[h];simpa using I
   have⟨g1,g2,g3,g4⟩:=G _ ys w B h;refine⟨?_,g2,g3,by simpa using g4⟩
   rw[LV a _ D b]at g1;have J:i*es+es<=xs.length*es:=by have:=mul_le_mul_right es (show i+1<=xs.length from D);rwa [add_mul,one_mul]at this
   have C:=gL a;simp only[vX];rw[if_neg (by simp[b,C];omega),b]
   exact g1
  simp at h
def D4(J:fq P E)(r:fe I μ n F a.tmps)(s:dm I μ H w)(o:Oper){ob:Ob}{m:Mk}(h:fH E F o.op=some (ob,m)):
 ∃x p u,(execOp a.eval o).run P w=.ok (.value u) (w.alloc x)/\U7 I μ w ob m x p u:=by
 have⟨dst,op,ty,pos,after,A⟩:=o;simp only at h
 cases op with
 |alloc t=>
  simp only[fH,ζf,ζc]at h;obtain⟨d,hd,rfl,rfl⟩:=h;have⟨z,U,b,W,L⟩:=(J.ty hd).Gd;refine⟨.cells z.cells t,_,.pointer (some ⟨w.heap.size,0,none⟩),?_,zi s (by simpa using b I μ) (by simp[W]) (by simpa using L) (λk=>?_)⟩
  .simp only[execOp];refine eX ?_;unfold Instr.alloc;simp only[run_bind,U,andThen_ok,ND,run_pure]
  have:=bO.hptr (I:=I) k 0 0 _ (Mu.ig μ k ⟨w.heap.size,0,d.size,z.cells.size⟩);simp only[zero_mul,add_zero]at this;exact this
 |box t x=>
  simp only[fH]at h;split at h
  .rename_i v hv;split at h
   .rename_i L;simp only[ζa,ζc]at h;obtain⟨rfl,rfl⟩:=h;have b:=dR r hv;refine⟨.cells (a.eval x).cells t,_,.pointer (some ⟨w.heap.size,0,none⟩),?_,zi s (by simpa using b.cells) Zab (by simpa using L) (λk=>?_)⟩
    .simp only[execOp];refine eX ?_;unfold Instr.box;simp only[run_bind,ND,andThen_ok,run_pure]
    have:=bO.hptr (I:=I) k 0 0 _ (Mu.ig μ k ⟨w.heap.size,0,v.cells.length,(a.eval x).cells.size⟩);simp only[zero_mul,add_zero]at this;exact this
   simp at h
  simp at h
 |makeSlice t l c=>
  simp only[fH]at h;split at h
  .rename_i e k1 ln k2 B q W hc;have⟨d,hd,O⟩:=gE q;have⟨g,V,X,K⟩:=(J.ty hd).d_;rw[O]at X;have:=kE X;subst this;split at h
   .rename_i G D;split at h
    .rename_i Q;obtain⟨rfl,rfl,am,an,hm,ao⟩:=Q;simp only[ζa,ζc]at h;obtain⟨rfl,rfl⟩:=h;have⟨z,U,b,S,L⟩:=(J.ty D).Gd;have⟨i,_,hi,al,ap,_⟩:=(J.ty D).info;have C:z.cells.size=G.size:=by have:=(b I μ).1;simp at this;omega
     have Y:(0:Int)<=B:=Zaa
     have w1:i64.wrap ln=ln:=by simp[wrap,signed,IntKind.bits];omega
     have w2:i64.wrap B=B:=by simp[wrap,signed,IntKind.bits];omega
     have Z:∀y:Int,0<=y->y<=2147483648->((i.bytes:Int)*y>2 ^ 48)=False:=by
      intro y ad hy;simp only[eq_iff_iff,iff_false,Int.not_lt,gt_iff_lt];have ae:(i.bytes:Int)<=4096:=Zaa
      calc (i.bytes:Int)*y<=4096*2147483648:=Int.mul_le_mul ae hy ad Zaa
       _<=2 ^ 48:=by decide
     have aa:(Instr.makeSlice t (.int .i64 ln) (.int .i64 B)).run P w=
      .ok (.slice (some ⟨w.heap.size,0,none⟩) ln.toNat B.toNat) (w.alloc (.cells ((Array.range (B.toNat*z.cells.size)).map (λi=>z.cells[i % z.cells.size]!)) e)):=by
      unfold Instr.makeSlice;have t1:(decide (B<0)||decide ((i.bytes:Int)*B>2 ^ 48))=false:=by
       rw[Bool.or_eq_false_iff];exact⟨by simp;omega,by simp only[Z B Y hm,decide_false]⟩
      have q1:(((decide (B<0)||decide ((i.bytes:Int)*B>2 ^ 48))||decide (ln<0))||decide (ln>B))=false:=by rw[t1];simp;omega
      simp only[run_bind,K,andThen_ok,asInt,nD,run_pure,qv hi,w1,w2,q1,false_eq_true,if_false,run_askRoom,(J.ty D).l8];rw[C]
      by_cases f:B.toNat*G.size=0
      .have N:Array.range 0=(#[]:Array Nat):=rfl;simp[f,newRow,N]
      simp[f,U,C,newRow]
     refine⟨.cells ((Array.range (B.toNat*z.cells.size)).map (λi=>z.cells[i % z.cells.size]!)) e,_,.slice (some ⟨w.heap.size,0,none⟩) ln.toNat B.toNat,?_,zi s (zp (b I μ) B.toNat) (λx T=>by rw[eq_of_mem_replicate T,S]) (λx T=>by rw[eq_of_mem_replicate T];simpa using L) (λk=>?_)⟩
     .simp only[execOp];refine eX ?_;rw[(dR r W).gD,(dR r hc).gD];exact aa
     have:=bO.hsl (I:=I) (μ:=μ.iC k ⟨w.heap.size,0,G.size,((Array.range (B.toNat*z.cells.size)).map (λi=>z.cells[i % z.cells.size]!)).size⟩) k 0 ln.toNat B.toNat _ (Mu.ig _ _ _) Zaa (by simp[C])
     simpa[Mk.val]using this
    simp at h
   simp at h
  simp at h
 |buildSlice t len ps=>
  simp only[fH]at h;split at h
  .rename_i e vs q af;have⟨d,hd,O⟩:=gE q;have⟨g,V,X,K⟩:=(J.ty hd).d_;rw[O]at X;have:=kE X;subst this;split at h
   .rename_i G D;split at h
    .rename_i ah;simp only[ζf,ζc]at h;obtain⟨ys,ai,rfl,rfl⟩:=h;have⟨z,U,b,S,L⟩:=(J.ty D).Gd;have C:z.cells.size=G.size:=by have:=(b I μ).1;simp at this;omega
     have⟨W,aj⟩:=Hw r af;have⟨g1,g2,g3,g4⟩:=I7 vs _ ys (λx T=>by rw[eq_of_mem_replicate T,S]) (λx T=>by rw[eq_of_mem_replicate T];simpa using L) ai
     have⟨M,j,R⟩:=Et (place':=λi=>some (i*G.size,G.size)) (λi p hp=>hp) vs _ _ _ ((Array.range (len*z.cells.size)).map (λi=>z.cells[i % z.cells.size]!)) W aj (zp (b I μ) len) g1
     have ab:M.size=len*G.size:=by
      have e1:=R.1;rw[gL g2,g4]at e1;simpa using e1.symm
     refine⟨.cells M e,_,.slice (some ⟨w.heap.size,0,none⟩) len len,?_,zi s R g2 g3 (λk=>?_)⟩
     .simp only[execOp];refine eX ?_;unfold Instr.buildSlice;have ak:¬(len*G.size>2 ^ 24):=by omega
      simp only[run_bind,K,andThen_ok,(J.ty D).l8,if_neg ak]
      by_cases f:len*G.size=0
      .have e0:(Array.range (len*z.cells.size)).map (λi=>z.cells[i % z.cells.size]!)=#[]:=by rw[C,f];simp
       rw[e0]at j;have N:Array.range 0=(#[]:Array Nat):=rfl;simp only[f,if_true,run_pure,andThen_ok,N,Array.map_empty];rw[j];simp[newRow]
      simp only[if_neg f,run_bind,U,andThen_ok,run_pure];rw[C]at j;rw[C,j];simp[newRow]
     have:=bO.hsl (I:=I) (μ:=μ.iC k ⟨w.heap.size,0,G.size,M.size⟩) k 0 len len _ (Mu.ig _ _ _) (le_refl _) (by simp[ab])
     simpa[Mk.val]using this
    simp at h
   simp at h
  simp at h
 |makeMap t r=>
  cases r with
  |none=>
   simp only[fH,ζa,ζc]at h;obtain⟨rfl,rfl⟩:=h;refine⟨.map #[] 0,⟨w.heap.size,0,0,0⟩,.map (some w.heap.size),?_,⟨rfl,rfl,tN rfl,λ_ _ e=>(nomatch e),λk q=>⟨⟨_,#[],0,Mu.ig _ _ _,s.Aw,oQ _,rfl,Zab⟩,?_⟩⟩⟩
   .simp only[execOp];refine eX ?_;unfold Instr.makeMap;simp[run_newObj]
   exact bO.hmap (I:=I) k ⟨w.heap.size,0,0,0⟩ (Mu.ig _ _ _)
  |some x=>simp[fH]at h
 |_=>simp[fH]at h
end
section
variable{P:Program}{E:Env}{I:cG}{μ:Mu}{H H':bp}{n:Nat}{F:WP}{a:Act}{w:World}
def bO.one{x:V}{v:V'}(h:bO I μ x v)(B:x.one=true):v.oneCell'=true:=by
 cases h with
 |c _ _ h=>cases h<;>first|rfl|simp[V.one]at B
 |agg=>simp[V.one]at B|tup=>simp[V.one]at B|_=>rfl
def c6.Ud{xs:So}{vs:aZ V'}(h:c6 I μ xs vs)(B:∀x∈xs,V.one x=true):∀v∈vs,v.oneCell'=true:=by
 intro v a;obtain⟨j,w,rfl⟩:=List.mem_iff_getElem.1 a;have u:j<xs.length:=by rw[h.1];exact w
 exact(h.2 j xs[j] vs[j] (by simp[u]) (by simp[w])).one (B _ (List.getElem_mem u))
def QO{b:Nat}{o:Obj}(h:w.heap[b]?=some o):gQ w b o=w:=by
 unfold gQ;have:w.heap.setIfInBounds b o=w.heap:=by apply Array.ext;simp;intro i a u;have⟨z,e⟩:=Array.getElem?_eq_some_iff.1 h;rw[Array.getElem_setIfInBounds];split;subst_vars;rfl;rfl
 rw[this]
def KU{b o:Nat}{c:Array V'}{el:W'}{v:V'}(h:w.heap[b]?=some (.cells c el)):
 w.setCell ⟨b,o,none⟩ v=gQ w b (.cells (c.setIfInBounds o v) el):=by
 unfold World.setCell gQ
 congr 1
 have⟨B,e⟩:=Array.getElem?_eq_some_iff.1 h;apply Array.ext
 .simp
 intro i a z
 by_cases hi:i=b
 .subst hi;simp[Array.getElem_modify,e]
 have u:i<w.heap.size:=by simpa using z
 rw[Array.getElem_modify_of_ne (Ne.symm hi) _ (by simpa using u),Array.getElem_setIfInBounds]
 .simp[Ne.symm hi]
 exact u
def wS{b o:Nat}{el:W'}:∀(vs:aZ V')(i:Nat)(w:World)(c:Array V'),w.heap[b]?=some (.cells c el)->(∀v∈vs,v.oneCell'=true)->o+i+vs.length<=c.size->
 ∃c',(storeCells ⟨b,o,none⟩ vs i).run P w=.ok () (gQ w b (.cells c' el))/\c'.toList=c.toList.take (o+i)++vs++c.toList.drop (o+i+vs.length):=by
 intro vs
 induction vs with
 |nil=>intro i w c h _ _;exact⟨c,by simp[storeCells,QO h],Zab⟩|cons v vs G=>
  intro i w c h D I;simp only[length_cons]at I;have z:o+i<c.size:=Zaa
  have u:w.cell? ⟨b,o+i,none⟩=some c[o+i]:=by rw[xR h];simp[z]
  have C:w.frozen? ⟨b,o+i,none⟩=false:=by simp[frozen?,h]
  have J:=(Array.getElem?_eq_some_iff.1 h).1;have⟨c',g1,g2⟩:=G (i+1) (gQ w b (.cells (c.setIfInBounds (o+i) v) el)) (c.setIfInBounds (o+i) v) (jx _ J) (λx L=>D x (mem_cons_of_mem _ L)) (by simp;omega)
  refine⟨c',?_,?_⟩
  .simp only[storeCells,run_bind,rA,run_store P w _ v _ (D v Zab),u,C,false_eq_true,if_false,andThen_ok,KU h]
   rw[g1,QG]
  rw[g2];have B:o+i<c.toList.length:=by simpa using z
  simp only[Array.toList_setIfInBounds,length_cons];rw[show o+(i+1)=o+i+1 from Zaa,List.take_succ_eq_append_getElem (by simpa using B),List.take_set_of_le Zaa,List.getElem_set_self,List.drop_set_of_lt Zaa]
  simp[append_assoc];omega
structure DN(P:Program)(I:cG)(μ:Mu)(H:bp)(w:World)(s:Sem Next)(x:V)(H':bp):Prop where
 run:∃nx u w' μ',s.run P w=.ok nx w'/\(nx=.value u\/(nx=.skip/\u=undef))/\bO I μ' x u/\dm I μ' H' w'/\Step I μ H w I μ' H' w'
def Dl{α:Type}(L vs:aZ α)(o m k:Nat)(D:o+m<=L.length)(a:k+vs.length<=m):
 ((L.take (o+k)++vs++L.drop (o+k+vs.length)).drop o).take m=((L.drop o).take m).take k++vs++((L.drop o).take m).drop (k+vs.length):=by
 obtain⟨A,B,C,rfl,u,w⟩:∃A B C:aZ α,L=A++(B++C)/\A.length=o/\B.length=m:=⟨L.take o,(L.drop o).take m,(L.drop o).drop m,by rw[take_append_drop,take_append_drop],by simp;omega,by simp;omega⟩
 subst u;subst w;have e1:(A++(B++C)).take (A.length+k)=A++B.take k:=by rw[List.take_append,List.take_of_length_le Zaa,Nat.add_sub_cancel_left,List.take_append_of_le_length Zaa]
 have e2:(A++(B++C)).drop (A.length+k+vs.length)=B.drop (k+vs.length)++C:=by rw[List.drop_append,List.drop_eq_nil_of_le Zaa,List.nil_append,List.drop_append_of_le_length Zaa];congr 2;omega
 have e3:((A++(B++C)).drop A.length).take B.length=B:=Zab
 rw[e1,e2,e3];simp only[append_assoc,List.drop_left];have z:(B.take k++(vs++B.drop (k+vs.length))).length=B.length:=by simp;omega
 have:B.take k++(vs++(B.drop (k+vs.length)++C))=(B.take k++(vs++B.drop (k+vs.length)))++C:=by simp[append_assoc]
 rw[this,<-z,List.take_left]
def gW.splice{p:Pl}{c c':Array V'}{es el off:Nat}{xs:S'}{cs ys:So}{vs:aZ V'}(r:gW I μ p c es xs)(B:xs[el]?=some cs)(U:c6 I μ ys vs)
 (W:∀y∈ys,V.one y=true)(Y:off+ys.length<=cs.length)(a:c'.toList=c.toList.take (p.o+el*es+off)++vs++c.toList.drop (p.o+el*es+off+vs.length)):
 gW I μ p c' es (xs.set el (cs.take off++ys++cs.drop (off+ys.length))):=by
 have⟨k1,k2,k3⟩:=r.elem B;have D:=(ζe.1 B).1;have S:=U.1;have u:=r.room;have X:el*es+es<=xs.length*es:=by have:=mul_le_mul_right es (show el+1<=xs.length from D);rwa [add_mul,one_mul]at this
 have G:c'.size=c.size:=by have:=congrArg length a;simp at this;omega
 have J:(cs.take off++ys++cs.drop (off+ys.length)).length=es:=by simp;omega
 have z:∀x∈xs.set el (cs.take off++ys++cs.drop (off+ys.length)),x∈xs\/x=cs.take off++ys++cs.drop (off+ys.length):=λx L=>List.mem_or_eq_of_mem_set L
 refine⟨r.es_eq,by rw[G];exact r.sz,?_,?_,by rw[G];simpa using u,?_⟩
 .intro x L;rcases z x L with h|h
  .exact r.ri x h
  rw[h];exact J
 .intro x L y w;rcases z x L with h|h
  .exact r.one x h y w
  rw[h]at w;have O:=r.one cs (mem_of_getElem? B);simp only[mem_append]at w;rcases w with(h|h)|h
  .exact O y (mem_of_mem_take h)
  .exact W y h
  exact O y (mem_of_mem_drop h)
 rw[LV r.ri _ D J,a,length_set];have C:=r.rel;have Q:=Gv r.ri B;have e:take (xs.length*es) (List.drop p.o (take (p.o+el*es+off) c.toList++vs++List.drop (p.o+el*es+off+vs.length) c.toList))=
  (((c.toList.drop p.o).take (xs.length*es)).take (el*es+off))++vs++(((c.toList.drop p.o).take (xs.length*es)).drop (el*es+off+vs.length)):=by
  have:=Dl c.toList vs p.o (xs.length*es) (el*es+off) (by simpa using u) Zaa
  simpa only[add_assoc]using this
 rw[e];have e2:xs.flatten.take (el*es)++(cs.take off++ys++cs.drop (off+ys.length))++xs.flatten.drop (el*es+es)=
  xs.flatten.take (el*es+off)++ys++xs.flatten.drop (el*es+off+ys.length):=by
  have T:=gL r.ri;have b:xs.flatten.take (el*es+off)=xs.flatten.take (el*es)++cs.take off:=by rw[<-Q,List.take_add,take_take,min_eq_left Zaa]
  have d:xs.flatten.drop (el*es+off+ys.length)=cs.drop (off+ys.length)++xs.flatten.drop (el*es+es):=by rw[<-Q,drop_take];have:xs.flatten.drop (el*es+es)=(xs.flatten.drop (el*es+(off+ys.length))).drop (es-(off+ys.length)):=(by rw[drop_drop];congr 1;omega);rw[this,drop_drop,take_append_drop,add_assoc]
  rw[b,d];simp[append_assoc]
 rw[e2,<-S];exact((C.take _).append U).append (C.drop _)
def Su(U:fq P E)(r:fe I μ n F a.tmps)(s:dm I μ H w){t:W'}{p q:UV}{x:V}(h:dB E F H (.store t p q)=some (x,H')):
 DN P I μ H w (do storeAt t (a.eval p) (a.eval q);pure .skip) x H':=by
 simp only[dB]at h;split at h
 .rename_i d id el off v hd T W;split at h
  .rename_i es O z;split at h
   .rename_i cs B;split at h
    .rename_i hc;have⟨X,Y,D⟩:=hc;simp only[ζa,ζc]at h;obtain⟨rfl,rfl⟩:=h;have⟨pl,c,ty,g1,g2,g3,g4⟩:=s.obs id _ z;have⟨Z,Q,e⟩:=(dR r T).vh;rw[g1]at Q;cases Q;have u:=(dR r W).cells;have S:∀y∈v.cells,V.one y=true:=by simpa using D
     have⟨k1,k2,k3⟩:=g4.elem B;have G:=u.1;have b:pl.o+el*es+off+0+(a.eval q).cells.toList.length<=c.size:=Zaa
     have⟨c',f,g⟩:=wS (P:=P) (o:=pl.o+el*es+off) (a.eval q).cells.toList 0 w c g3 (u.Ud S) b;have C:gW I μ pl c' es (O.set el (cs.take off++v.cells++cs.drop (off+v.cells.length))):=g4.splice B u S Zaa (by simpa using g)
     have J:=(Array.getElem?_eq_some_iff.1 g3).1;have⟨i,j⟩:=s.write (ob':=.row es (O.set el (cs.take off++v.cells++cs.drop (off+v.cells.length)))) (o:=.cells c' ty) z rfl g1
      ⟨pl,c',ty,g1,g2,jx _ J,C⟩
     refine⟨.skip,undef,_,μ,?_,.inr ⟨rfl,rfl⟩,.undef I μ,i,j⟩;rw[e];have L:¬((a.eval q).cells.size≠d.size):=by simp at G;omega
     rw[g4.es_eq];unfold storeAt storeVar;simp only[run_bind,sureAddr,run_pure,andThen_ok,(U.ty hd).l8,if_neg L,f]
    simp at h
   simp at h
  simp at h
 simp at h
def Cg(s:dm I μ H w){x:V}{v:V'}(Y:bO I μ x v){es:Nat}{ys:S'}(h:dY H es x=some ys):
 ∃D a arr,v=.slice D ys.length a/\ys.length<=a/\(∀G:World,G.heap=w.heap->(firstCells es ys.length v).run P G=.ok arr G)/\c6 I μ ys.flatten arr.toList/\(∀y∈ys,y.length=es)/\
  (∀y∈ys,∀z∈y,V.one z=true):=by
 have B:∀(D:a_ Addr)(a:Nat)(G:World),G.heap=w.heap->(firstCells es 0 (.slice D 0 a)).run P G=.ok #[] G:=by intro D a G _;cases D with|none=>rfl|some D=>simp[firstCells,loadCells,loadCellsFrom]
 cases x with
 |dX=>simp only[dY,ζa]at h;subst h;obtain⟨D,rfl⟩:=Y.ue;exact⟨D,0,#[],rfl,le_refl _,B D 0,.nil,Zab,Zab⟩|bM=>simp only[dY,ζa]at h;subst h;rw[Y.nP];exact⟨none,0,#[],rfl,le_refl _,B none 0,.nil,Zab,Zab⟩|fsl u L=>
  simp only[dY]at h;split at h
  .rename_i Z;simp only[ζa]at h;subst h;subst Z;have t:=Y.nU
   cases t with
   |fsl0 _ D a=>exact⟨some D,a,#[],rfl,zero_le _,B (some D) a,.nil,Zab,Zab⟩|fsl _ _ b o a c hI n hu ho r hr=>
    have⟨el,fr,A⟩:=s.imm _ _ hI;refine⟨_,a,((c.toList.drop o).take (L.length*u)).toArray,rfl,n,?_,?_,hu,ho⟩
    .intro G O;simp only[firstCells];exact G9 (xR (w:=G) (by rw[O];exact A)) (.inl r)
    have S:=gL hu;refine⟨by simp[S];omega,λj p q g l=>?_⟩
    have T:=(ζe.1 g).1;rw[S]at T;have J:0<u:=by rcases eq_zero_or_pos u with d|d;rw[d]at T;simp at T;exact d
    have hi:j / u<L.length:=(Nat.div_lt_iff_lt_mul J).2 T;have U:j % u<u:=mod_lt _ J;have W:=hu _ (List.getElem_mem hi);have e1:=yA hu (i:=j / u) (j:=j % u) (x:=L[j / u]) (y:=(L[j / u])[j % u]) (by simp[hi]) (by simp[W,U])
    have m:j / u*u+j % u=j:=by rw[Nat.mul_comm,Nat.div_add_mod]
    rw[m,g]at e1;cases e1;simp only[getElem?_take,if_pos T,getElem?_drop]at l;refine .c _ _ (hr (j / u) (j % u) L[j / u] _ q (by simp[hi]) (by simp[W,U]) ?_)
    rw[add_assoc,m];simpa using l
  simp at h
 |hsl id u off len=>
  simp only[dY]at h;split at h
  .rename_i Z;subst Z;split at h
   .rename_i Q L X;split at h
    .rename_i ab;simp only[ζa]at h;subst h;have⟨p,c,g1,g2,g3⟩:=s.rows X;have C:((L.drop off).take len).length=len:=by simp;omega
     rcases Y.nN with⟨q,a,U,E,n,r,e⟩|⟨d,D,e⟩
     .rw[g1]at U;cases U;have J:Q=u:=by rw[<-g3.es_eq,E]
      subst J;have⟨k1,k2⟩:=g3.span ab;refine⟨_,a,((c.toList.drop (p.o+off*Q)).take (len*Q)).toArray,by rw[e,C],Zaa,?_,by simpa using k1,?_,?_⟩
      .intro G O;rw[e,C];simp only[firstCells];exact G9 (λk=>by rw[<-g2 k];simp[cell?,O]) (.inl k2)
      .exact λy f=>g3.ri y (mem_of_mem_drop (mem_of_mem_take f))
      exactλy f=>g3.one y (mem_of_mem_drop (mem_of_mem_take f))
     subst d;simp only[List.take_zero]at C⊢;exact⟨_,0,#[],by rw[e];rfl,le_refl _,by rw[e];exact B _ 0,.nil,Zab,Zab⟩
    simp at h
   simp at h
  simp at h
 |_=>simp[dY]at h
def rZ(z:Array V')(k:Nat):(zeroCells z k).size=k*z.size:=by simp[zeroCells]
def dm.drew(s:dm I μ H w):dm I μ H w.drew:=s.qO rfl
def CZ(s:dm I μ H w){es B:Nat}{xs ys:S'}{old new rest:Array V'}{el:W'}(Y:c6 I μ xs.flatten old.toList)(a:c6 I μ ys.flatten new.toList)
 (G:∀x∈xs,x.length=es)(J:∀x∈ys,x.length=es)(U:∀x∈xs,∀y∈x,V.one y=true)(W:∀x∈ys,∀y∈x,V.one y=true)
 (D:xs.length+ys.length<=B)(b:rest.size=(B-(xs.length+ys.length))*es):
 ∃μ',bO I μ' (.hsl H.length es 0 (xs.length+ys.length)) (.slice (some ⟨w.heap.size,0,none⟩) (xs.length+ys.length) B)/\dm I μ' (H++[.row es (xs++ys)]) (w.alloc (.cells (old++new++rest) el))/\
  Step I μ H w I μ' (H++[.row es (xs++ys)]) (w.alloc (.cells (old++new++rest) el)):=by
 have L:=gL G;have O:=gL J;have z:=Y.1;have C:=a.1;simp only[length_toList]at z C;have Q:(old++new++rest).size=B*es:=by simp only[Array.size_append];rw[<-z,<-C,L,O,b,<-add_mul,<-add_mul];congr 1;omega
 have u:(xs.length+ys.length)*es<=B*es:=mul_le_mul_right _ D;rw[add_mul]at u;have S:gW I μ ⟨w.heap.size,0,es,(old++new++rest).size⟩ (old++new++rest) es (xs++ys):=by refine⟨rfl,rfl,?_,?_,?_,?_⟩;intro x T;rcases mem_append.1 T with h|h;exact G x h;exact J x h;intro x T;rcases mem_append.1 T with h|h;exact U x h;exact W x h;rw[Q];simp only[ζi,zero_add,add_mul];exact u;have e:((old++new++rest).toList.drop 0).take ((xs++ys).length*es)=old.toList++new.toList:=(by simp only[List.drop_zero,Array.toList_append];rw[List.take_left' (by simp[<-z,<-C,L,O,add_mul])]);rw[e,flatten_append];exact Y.append a
 have⟨X,Z⟩:=s.push (ob:=.row es (xs++ys)) (o:=.cells (old++new++rest) el) (p:=⟨w.heap.size,0,es,(old++new++rest).size⟩) rfl
  ⟨_,_,el,Mu.ig _ _ _,s.Aw,oQ _,S.mono (cG.le_refl _) (Mu.sY (s.dom _ (le_refl _)))⟩
 refine⟨_,?_,X,Z⟩;have:=bO.hsl (I:=I) H.length 0 (xs.length+ys.length) B _ (Mu.ig μ H.length ⟨w.heap.size,0,es,(old++new++rest).size⟩) D (by simp only[zero_add];rw[Q];exact le_refl _)
 simpa using this
def Pe(s:dm I μ H w){id:Nat}{ob ob':Ob}{p p':Pl}{o:Obj}(B:H[id]?=some ob)(U:ob.live=true)(hp:μ id=some p)(d:p'.b=p.b)
 (m:uX I (μ.iC H.length p') (gQ w p.b o) H.length ob')(n:Obj.nf o:=by first|exact vm _ _|exact tN rfl):dm I (μ.iC H.length p') (H.set id .dead++[ob']) (gQ w p.b o)/\Step I μ H w I (μ.iC H.length p') (H.set id .dead++[ob']) (gQ w p.b o):=by
 have Z:=(ζe.1 B).1;have z:je μ H p.b:=⟨id,p,ob,B,U,hp,rfl⟩;have c:=s.dom H.length (le_refl _);have u:∀k x,(H.set id .dead++[ob'])[k]?=some x->(k=H.length/\x=ob')\/(k≠H.length/\k=id/\x=.dead)\/(k≠H.length/\k≠id/\H[k]?=some x):=by intro k x h;by_cases e:k<H.length;rw[getElem?_append_left (by simpa using e)]at h;by_cases D:k=id;subst D;rw[getElem?_set_self Z]at h;cases h;exact .inr (.inl ⟨Zaa,rfl,rfl⟩);rw[getElem?_set_ne (Ne.symm D)]at h;exact .inr (.inr ⟨Zaa,D,h⟩);have:=(ζe.1 h).1;simp at this;have e2:k=H.length:=Zaa;subst e2;simp at h;exact .inl ⟨rfl,h.symm⟩
 have C:∀b,je (μ.iC H.length p') (H.set id .dead++[ob']) b->je μ H b:=by rintro b ⟨k,q,x,i,Q,T,rfl⟩;rcases u k x i with⟨rfl,rfl⟩|⟨_,_,rfl⟩|⟨e,D,h⟩;rw[Mu.ig]at T;cases T;rw[d];exact z;simp[Ob.live]at Q;rw[Mu.jF _ _ e]at T;exact⟨k,q,x,h,Q,T,rfl⟩
 refine⟨⟨?_,?_,?_,?_,s.gl⟩,⟨cG.le_refl _,Mu.sY c,Zab,by rw[zj];exact le_refl _,?_,?_,rfl,⟨rfl,rfl,le_refl _⟩,λa _=>Gm (b:=p.b) n (jx o (o5 s z)) (λk c=>iq o c) a⟩⟩
 .intro k h;simp at h;rw[Mu.jF _ _ Zaa]
  exact s.dom k Zaa
 .intro b x h;refine IC.uv (s.imm b x h) (iq o ?_);intro G;rw[G,gV s z]at h;cases h
 .intro k x h;rcases u k x h with⟨rfl,rfl⟩|⟨_,_,rfl⟩|⟨e,D,h⟩
  .exact m
  .trivial
  refine(s.obs k x h).mono (cG.le_refl _) (Mu.sY c) (λq j S=>⟨iq o ?_,gV s ⟨k,q,x,h,S,j,rfl⟩⟩) (λr=>?_)
  .intro G;exact D (s.inj k id x ob q p h B S U j hp G)
  subst r;rw[Mu.jF _ _ e];exact s.obs k _ h
 .intro k W x X q q' i Q l1 Y L O J;rcases u k x i with⟨rfl,rfl⟩|⟨_,_,rfl⟩|⟨e,D,h⟩
  .rcases u W X Q with⟨rfl,rfl⟩|⟨_,_,rfl⟩|⟨f,l,g⟩
   .rfl
   .simp[Ob.live]at Y
   rw[Mu.ig]at L;cases L;rw[Mu.jF _ _ f]at O;exact absurd (s.inj W id X ob q' p g B Y U O hp (by rw[<-J,d])) l
  .simp[Ob.live]at l1
  rcases u W X Q with⟨rfl,rfl⟩|⟨_,_,rfl⟩|⟨f,l,g⟩
  .rw[Mu.ig]at O;cases O;rw[Mu.jF _ _ e]at L;exact absurd (s.inj k id x ob q p h B l1 U L hp (by rw[J,d])) D
  .simp[Ob.live]at Y
  rw[Mu.jF _ _ e]at L;rw[Mu.jF _ _ f]at O;exact s.inj k W x X q q' h g l1 Y L O J
 .intro b _ hn;refine iq o ?_;rintro rfl;exact hn z
 intro b h;rcases h with h|h
 .exact .inl h
 exact .inr (.inl (C b h))
def Ga(f:fq P E){t g e:W'}{d:TD}{D:TypeDesc}(h:P.underlying t=some (.slice e))(Y:P.underlying g=some D)(k:∃j,D=.slice j)(hd:E.tt e=some d)
 (W J:a_ Addr)(sl sc B c:Nat)(new:Array V')(l:(firstCells d.size B (.slice J B c)).run P w=.ok new w)(ty:W'):
 (sl+B<=sc->∀w',(match W with|some b=>(storeCells (b.add (sl*d.size)) new.toList).run P w=.ok () w'|none=>w'=w)->
  (append_ #[t,g] ty #[.slice W sl sc,.slice J B c]).run P w=.ok (.slice W (sl+B) sc) w')/\
 (sc<sl+B->sl+B<=2147483648->d.bytes<=4096->0<d.bytes->∀old,(∀U,U.heap=w.heap->(firstCells d.size sl (.slice W sl sc)).run P U=.ok old U)->
  (∀U,U.heap=w.heap->(firstCells d.size B (.slice J B c)).run P U=.ok new U)->
  ∃G rest,sl+B<=G/\rest.size=(G-(sl+B))*d.size/\
   (append_ #[t,g] ty #[.slice W sl sc,.slice J B c]).run P w=.ok (.slice (some ⟨w.heap.size,0,none⟩) (sl+B) G) (w.drew.alloc (.cells (old++new++rest) e))):=by
 have⟨i,z,hi,X,o,m,L,p,_⟩:=(f.ty hd).info;have u:∀w,(zeroValue e).run P w=.ok z w:=λw=>by simp[zeroValue,qv hi,m]
 have O:z.cells.size=d.size:=by have:=(L (λ_=>none) (λ_=>none)).1;grind
 obtain⟨j,rfl⟩:=k;constructor
 .intro Q w' ai;unfold append_;simp only[run_bind,List.getElem?_toArray,getElem?_cons_zero,List.getElem?_cons_succ,d_ h,d_ Y,andThen_ok,(f.ty hd).l8,run_pure,lenOf,false_eq_true,if_false,Bool.not_false,if_true,if_pos Q,l]
  cases W with
  |none=>simp_all|some b=>simp_all
 intro S Z q r old a C;have T:=nextslicecap_le S;have n:¬(nextslicecap (sl+B) sc*i.bytes>2 ^ 48):=by have:nextslicecap (sl+B) sc*i.bytes<=(2*2147483648)*4096:=mul_le_mul Zaa Zaa;omega
 have I:¬(sl+B<=sc):=Zaa
 refine⟨(appendCap (sl+B) sc e).cut (w.tape w.drawn (appendCap (sl+B) sc e)),zeroCells z.cells (((appendCap (sl+B) sc e).cut (w.tape w.drawn (appendCap (sl+B) sc e)))-(sl+B)),?_,?_,?_⟩
 .simp[Question.cut]
 .rw[rZ,O]
 unfold append_;simp only[run_bind,List.getElem?_toArray,getElem?_cons_zero,List.getElem?_cons_succ,d_ h,d_ Y,andThen_ok,(f.ty hd).l8,run_pure,lenOf,false_eq_true,if_false,Bool.not_false,if_true,if_neg I,qv hi];rw[if_neg Zac]
 simp only[run_bind,qv hi,if_neg n,run_choose,forced,false_eq_true,if_false,andThen_ok,run_askRoom,u,newRow,run_newObj,run_pure];rw[a {w with drawn:=w.drawn+1} rfl];simp only[andThen_ok];rw[C {w with drawn:=w.drawn+1} rfl];rfl
def wrap_small{m:Nat}(h:m<=2147483648):i64.wrap (m:Int)=m:=by simp[wrap,IntKind.bits];omega
def Iy(U:fq P E){t W e:W'}{d:TD}{kk k:T2}(Y:P.underlying t=some (.slice e))(G:P.underlying W=some (.int kk))(hd:E.tt e=some d)(ty:W')(m:Nat)(D:m<=2147483648):
 (m=0->(append_ #[t,W] ty #[.slice none 0 0,.int k m]).run P w=.ok (.slice none 0 0) w)/\
 (0<m->d.bytes<=4096->0<d.bytes->∃B z rest,m<=B/\rest.size=(B-m)*d.size/\c6 I μ d.zero z.toList/\
  (append_ #[t,W] ty #[.slice none 0 0,.int k m]).run P w=.ok (.slice (some ⟨w.heap.size,0,none⟩) m B) (w.drew.alloc (.cells (#[]++zeroCells z m++rest) e))):=by
 have⟨i,z,hi,X,l,a,C,n,_⟩:=(U.ty hd).info;have u:∀w,(zeroValue e).run P w=.ok z w:=λw=>by simp[zeroValue,qv hi,a]
 have J:z.cells.size=d.size:=by have:=(C (λ_=>none) (λ_=>none)).1;grind
 have b:=wrap_small D;constructor
 .rintro rfl;unfold append_;have Q:i64.wrap 0=0:=by omega
  simp[d_ Y,d_ G,(U.ty hd).l8,asInt,qv hi,nD,Q]
 intro Z o p;have S:nextslicecap (0+m) 0<=2*(0+m):=nextslicecap_le Zaa
 have c:¬(nextslicecap (0+m) 0*i.bytes>2 ^ 48):=by have:nextslicecap (0+m) 0*i.bytes<=(2*2147483648)*4096:=mul_le_mul Zaa Zaa;omega
 have f:¬(m*(i.bytes:Int)>2 ^ 48):=by have q:m*i.bytes<=2147483648*4096:=mul_le_mul D Zaa;grind
 have g:¬((0+m:Nat)>i64.max):=by have:i64.max=9223372036854775807:=(by rfl);omega
 have L:¬(0+m<=0):=Zaa
 have O:¬((m:Int)<0):=Zaa
 refine⟨(appendCap (0+m) 0 e).cut (w.tape w.drawn (appendCap (0+m) 0 e)),z.cells,zeroCells z.cells (((appendCap (0+m) 0 e).cut (w.tape w.drawn (appendCap (0+m) 0 e)))-(0+m)),?_,?_,C _ _,?_⟩
 .simp[Question.cut]
 .rw[rZ,J,zero_add]
 unfold append_;have T:(if m*d.size=0 then pure #[]else do pure (zeroCells (<-zeroValue e).cells m))=(do pure (zeroCells (<-zeroValue e).cells m))\/(m*d.size=0/\zeroCells z.cells m=#[]):=by by_cases h:m*d.size=0;right;exact⟨h,Array.eq_empty_of_size_eq_zero (by rw[rZ,J,h])⟩;left;rw[if_neg h]
 simp only[run_bind,List.getElem?_toArray,getElem?_cons_zero,List.getElem?_cons_succ,d_ Y,d_ G,andThen_ok,(U.ty hd).l8,run_pure,if_true,asInt,nD,b,if_neg O,qv hi,if_neg f,Int.toNat_natCast,if_neg L,if_false];rw[if_neg (λh=>g h.1)]
 simp only[run_bind,qv hi,if_neg c,run_choose,forced,andThen_ok,u,newRow,firstCells];rcases T with h|⟨h,j⟩
 .rw[h];simp[u,run_newObj]
 rw[if_pos h,j];simp[run_newObj]
def Qv(g:fq P E)(r:fe I μ n F a.tmps)(s:dm I μ H w){args:Array UV}{U:Array W'}{x:V}{ty:W'}
 (h:dB E F H (.call {callee:=.builtin .append,args,argTypes:=U})=some (x,H')):
 DN P I μ H w (do let d<-resolve a.eval {callee:=.builtin .append,args,argTypes:=U} ty;invoke d.target d.args) x H':=by
 simp[dB]at h;split at h
 .rename_i t t' vs vx ay aj;obtain⟨us,ux,W,i,T⟩:=(p_ r aj).two;split at h
  .rename_i e e' hk ak;obtain⟨d0,al,am⟩:=gE hk;obtain⟨R,h1,h2,h3⟩:=(g.ty al).d_;rw[am]at h2;have:=kE h2;subst this;obtain⟨d1,jy,X⟩:=gE ak;obtain⟨an,g1,g2,g3⟩:=(g.ty jy).d_;rw[X]at g2;have:=kE g2;subst this;have C:∀v w',(append_ #[t,t'] ty #[us,ux]).run P w=.ok v w'->
    (do let d<-resolve a.eval {callee:=.builtin .append,args,argTypes:=U} ty;invoke d.target d.args).run P w=.ok (.value v) w':=by
    simp[resolve,run_bind,run_pure,andThen_ok,invoke,builtin];rw[uw W];have ea:U=#[t,t']:=Zac
    simp_all
   split at h
   .rename_i d hd;split at h
    .
     rename_i xs B ao;obtain⟨ad,f,arr,e1,e2,e3,e4,_⟩:=Cg (P:=P) s i B;obtain⟨ap,Y,D,M,f2,j,o,_⟩:=Cg s T ao;simp at M j;have aA:D=#[]:=by have:=o.1;grind
     have j:=j w rfl;rw[M]at j;have key:=(Ga g h1 g1 ⟨_,rfl⟩ hd ad ap xs.length f 0 Y D j ty).1 Zaa w
      (by
       cases ad with
       |none=>rfl|some b=>simp[aA,storeCells])
     rw[<-M,<-e1,add_zero,<-e1]at key;have aq:x=vs/\H'=H:=by grind
     obtain⟨rfl,rfl⟩:=aq;exact⟨_,us,w,μ,C _ _ key,.inl rfl,i,s,.refl _ _ _ _⟩
    .rename_i xs ys aH B ao;obtain⟨ad,f,arr,e1,e2,e3,e4,e5,e6⟩:=Cg s i B;obtain⟨ap,Y,D,M,f2,j,o,f5,f6⟩:=Cg s T ao;split at h
     .rename_i hc;obtain⟨aB,ar,au⟩:=hc;have aI:0<ys.length:=by
       rcases eq_zero_or_pos ys.length with N|N
       .exact absurd (List.eq_nil_of_length_eq_zero N) aH
       exact N
      have key:=Ga g h1 g1 ⟨_,rfl⟩ hd ad ap xs.length f ys.length Y D (by rw[<-M];exact j w rfl) ty
      rw[<-M,<-e1]at key;have Q:f<xs.length+ys.length->∃G rest,xs.length+ys.length<=G/\rest.size=(G-(xs.length+ys.length))*d.size/\
       (append_ #[t,t'] ty #[us,ux]).run P w=.ok (.slice (some ⟨w.heap.size,0,none⟩) (xs.length+ys.length) G) (w.drew.alloc (.cells (arr++D++rest) e)):=by
       intro av;refine key.2 av aB ar au arr ?_ ?_
       .intro w2 aw;exact e3 w2 aw
       intro w2 aw;exact j w2 aw
      simp at h;obtain⟨H1,L,rfl,rfl⟩:=h
      cases vs with
      |dX=>
       simp[iK]at L;subst L;simp[dY]at B;subst B;obtain⟨aJ,q⟩:=i.ue;have ah:f=0:=by rw[q]at e1;cases e1;rfl
       obtain⟨G,rest,k1,k2,k3⟩:=Q (by simp;omega)
       obtain⟨μ',m1,A,K⟩:=CZ s.drew e4 o e5 f5 e6 f6 k1 k2;refine⟨_,_,_,μ',C _ _ k3,.inl rfl,m1,A,?_⟩;exact Step.trans s.drew (Step.qO rfl rfl ⟨rfl,rfl,le_succ _⟩) K
      |bM=>
       simp[iK]at L;subst L;simp[dY]at B;subst B;have q:=i.nP;have ah:f=0:=by rw[q]at e1;cases e1;rfl
       obtain⟨G,rest,k1,k2,k3⟩:=Q (by simp;omega)
       obtain⟨μ',m1,A,K⟩:=CZ s.drew e4 o e5 f5 e6 f6 k1 k2;refine⟨_,_,_,μ',C _ _ k3,.inl rfl,m1,A,?_⟩;exact Step.trans s.drew (Step.qO rfl rfl ⟨rfl,rfl,le_succ _⟩) K
      |hsl id es off len=>
       simp[iK]at L;split at L
       .rename_i u aK ae;simp at L;subst L;have aC:(H[id]?).bind Ob.rows=some (u,aK):=by rw[ae];rfl
        have aX:=B;simp only[dY]at B;split at B
        .rename_i aL;rw[aC]at B;simp only at B;split at B
         .rename_i aM;simp at B;obtain⟨p,c,aD,q1,q2,q3,q4⟩:=s.obs id _ ae;have Z:xs.length=len:=by rw[<-B];simp;omega
          have J:f<xs.length+ys.length->DN P I μ H w (do let d<-resolve a.eval {callee:=.builtin .append,args,argTypes:=U} ty;invoke d.target d.args)
           (.hsl H.length d.size 0 (xs.length+ys.length)) (H.set id .dead++[.row d.size (xs++ys)]):=by
           intro av;obtain⟨G,rest,k1,k2,k3⟩:=Q av;obtain⟨s1,s2⟩:=s.drew.kill ae;obtain⟨μ',m1,A,K⟩:=CZ s1 e4 o e5 f5 e6 f6 k1 k2;rw[length_set]at m1;exact⟨_,_,_,μ',C _ _ k3,.inl rfl,m1,A,Step.trans s.drew (Step.qO rfl rfl ⟨rfl,rfl,le_succ _⟩) (Step.trans s1 s2 K)⟩
          rcases i.nN with⟨p',S,hm,aN,aY,aO,ee⟩|⟨N,aJ,ee⟩
          .rw[q1]at hm;cases hm;have ax:S=f/\ad=some ⟨p.b,p.o+off*es,none⟩:=by rw[ee]at e1;cases e1;exact⟨rfl,rfl⟩
           obtain⟨rfl,rfl⟩:=ax
           by_cases ai:xs.length+ys.length<=S
           .have aE:u=es:=by rw[<-q4.es_eq,aN]
            subst aE;have O:=aL;obtain⟨r1,r2⟩:=q4.span aM;rw[B]at r1;have af:=o.1;simp only[length_toList]at af;rw[gL f5]at af;have aP:(len+ys.length)*u<=S*u:=mul_le_mul_right _ Zaa
            rw[add_mul]at aP;rw[add_mul]at aO;have aQ:=q4.sz;rw[<-O]at af;have aa:p.o+off*u+len*u+0+D.toList.length<=c.size:=by simp;omega
            obtain⟨c',u1,u2⟩:=wS D.toList 0 w c q3 (o.Ud (λx T=>by
             obtain⟨l,hl,aR⟩:=mem_flatten.1 T;exact f6 l hl x aR)) aa
            have aF:c'.size=c.size:=by have:=congrArg length u2;simp at this aa;omega
            have aG:=key.1 ai (gQ w p.b (.cells c' aD)) (by
             simp[rA,Z];rw[<-O];exact u1)
            have ab:gW I μ ⟨p.b,p.o+off*u,u,p.sz⟩ c' u (xs++ys):=by refine⟨rfl,by rw[aF];exact aQ,?_,?_,?_,?_⟩;intro x T;rcases mem_append.1 T with h|h;exact(e5 x h).trans O.symm;exact(f5 x h).trans O.symm;intro x T;rcases mem_append.1 T with h|h;exact e6 x h;exact f6 x h;rw[aF,ζi,Z,add_mul];simp only;omega;have e:(c'.toList.drop (p.o+off*u)).take ((xs++ys).length*u)=(c.toList.drop (p.o+off*u)).take (len*u)++D.toList:=(by rw[u2,ζi,Z,add_mul,af];simp only[add_zero];have aS:(take (p.o+off*u+len*u) c.toList).length=p.o+off*u+len*u:=(by simp;omega);rw[append_assoc,List.drop_append_of_le_length (by rw[aS];omega),drop_take,show p.o+off*u+len*u-(p.o+off*u)=len*u by omega];have aT:(take (len*u) (List.drop (p.o+off*u) c.toList)).length=len*u:=(by simp;omega);rw[<-append_assoc,List.take_left' (by rw[ζi,aT];simp)]);rw[e,flatten_append];exact r1.append o
            obtain⟨s1,s2⟩:=Pe (ob':=.row u (xs++ys)) (p':=⟨p.b,p.o+off*u,u,p.sz⟩) s ae rfl q1 rfl
             ⟨_,c',aD,Mu.ig _ _ _,q2,jx _ (Array.getElem?_eq_some_iff.1 q3).1,ab.mono (cG.le_refl _) (Mu.sY (s.dom _ (le_refl _)))⟩
            rw[<-O];refine⟨_,_,_,_,C _ _ aG,.inl rfl,?_,s1,s2⟩;have:=bO.hsl (I:=I) H.length 0 (xs.length+ys.length) S _ (Mu.ig μ H.length ⟨p.b,p.o+off*u,u,p.sz⟩) ai (by simp;omega)
            simpa using this
           exact J Zaa
          have ah:=by rw[ee]at e1;simp[Value.slice.injEq]at e1;exact e1.2.2.symm
          exact J Zaa
         simp at B
        simp at B
       simp at L
      |_=>simp[iK]at L
     grind
    grind
   grind
  .
   rename_i e kk hk ak;obtain⟨d0,al,am⟩:=gE hk;obtain⟨R,h1,h2,h3⟩:=(g.ty al).d_;rw[am]at h2;have:=kE h2;subst this;obtain⟨d1,jy,X⟩:=gE ak;obtain⟨an,g1,g2,g3⟩:=(g.ty jy).d_;rw[X]at g2;have:=Ft g2;subst this;have C:∀v w',(append_ #[t,t'] ty #[us,ux]).run P w=.ok v w'->
    (do let d<-resolve a.eval {callee:=.builtin .append,args,argTypes:=U} ty;invoke d.target d.args).run P w=.ok (.value v) w':=by
    intro v w' hv;simp[resolve,run_bind,run_pure,andThen_ok,invoke,builtin];rw[uw W];have ea:U=#[t,t']:=by apply ext';simpa using ay
    rw[ea,hv];rfl
   split at h
   .rename_i d hd;unfold mkApp at h;split at h
    .rename_i k m;have q:=i.nP;subst q;have q:=T.gD;subst q;split at h
     .rename_i N;subst N;cases h;have key:=(Iy (μ:=μ) (I:=I) (w:=w) (k:=k) g h1 g1 hd ty 0 Zaa).1 rfl
      exact⟨_,_,w,μ,C _ _ key,.inl rfl,i,s,.refl _ _ _ _⟩
     split at h
     .rename_i hc;obtain⟨aU,aB,ar,au⟩:=hc;cases h;obtain⟨m,rfl⟩:=Int.eq_ofNat_of_zero_le (Int.le_of_lt aU);obtain⟨G,z,rest,k1,k2,k3,k4⟩:=(Iy g h1 g1 hd ty m Zaa).2 Zaa ar au
      have aV:=(g.ty hd).info.choose_spec.choose_spec.2.2.2.2.2.1;have aW:=(g.ty hd).info.choose_spec.choose_spec.2.2.2.2.2.2.1;have hu:∀x∈replicate m d.zero,x.length=d.size:=λx T=>by rw[eq_of_mem_replicate T];exact aV
      have ho:∀x∈replicate m d.zero,∀y∈x,V.one y=true:=λx T y hy=>by rw[eq_of_mem_replicate T]at hy;exact all_eq_true.1 aW y hy
      obtain⟨μ',m1,A,K⟩:=CZ (xs:=[]) (ys:=replicate m d.zero) (old:=#[]) (new:=zeroCells z m) (rest:=rest) s.drew .nil (zp k3 m) Zab hu Zab ho (by simpa using k1) (by simpa using k2)
      simp at m1 A K;refine⟨_,_,_,μ',C _ _ k4,.inl rfl,by simpa using m1,by simpa using A,?_⟩
      exact Step.trans s.drew (Step.qO rfl rfl ⟨rfl,rfl,le_succ _⟩) (by simpa using K)
     cases h
    cases h
   cases h
  grind
 grind
def Cb{es:Nat}{xs:S'}(a:∀x∈xs,x.length=es)(k:Nat)(b:k<=xs.length):(xs.take k).flatten=xs.flatten.take (k*es)/\(xs.drop k).flatten=xs.flatten.drop (k*es):=by
 have u:xs.flatten=(xs.take k).flatten++(xs.drop k).flatten:=by rw[<-flatten_append,take_append_drop]
 have g1:(xs.take k).flatten.length=k*es:=by rw[gL (λx u=>a x (mem_of_mem_take u)),length_take,min_eq_left b]
 grind
def Ug(k:fq P E)(r:fe I μ n F a.tmps)(s:dm I μ H w){args:Array UV}{D:Array W'}{x:V}{ty:W'}
 (h:dB E F H (.call {callee:=.builtin .clear,args,argTypes:=D})=some (x,H')):
 DN P I μ H w (do let d<-resolve a.eval {callee:=.builtin .clear,args,argTypes:=D} ty;invoke d.target d.args) x H':=by
 simp[dB]at h;split at h
 .rename_i t v af O;have⟨u,hu,g⟩:=(p_ r O).one;split at h
  .rename_i e hk;have⟨d0,ah,ai⟩:=gE hk;have⟨m,h1,A,h3⟩:=(k.ty ah).d_;rw[ai]at A;have:=kE A;split at h
   .rename_i d hd;have⟨i,z,hi,au,aw,hz,T,aj,ak,_⟩:=(k.ty hd).info;have al:∀w,(zeroValue e).run P w=.ok z w:=λw=>by simp[zeroValue,qv hi,hz]
    have am:z.cells.size=d.size:=by have:=(T (λ_=>none) (λ_=>none)).1;grind
    have L:∀v w',(clear_ D ty #[u]).run P w=.ok v w'->
     (do let d<-resolve a.eval {callee:=.builtin .clear,args,argTypes:=D} ty;invoke d.target d.args).run P w=.ok (.value v) w':=by
     intro v w' hv;simp[resolve,run_bind,run_pure,andThen_ok,invoke,builtin];rw[uw hu,hv];rfl
    have U:∀W f,u=.slice W 0 f->DN P I μ H w (do let d<-resolve a.eval {callee:=.builtin .clear,args,argTypes:=D} ty;invoke d.target d.args) .undef H:=λW f q=>by subst q;refine⟨_,.tuple #[],w,μ,L (.tuple #[]) w ?_,.inl rfl,bO.undef _ _,s,.refl _ _ _ _⟩;unfold clear_;cases W<;>simp[af,h3]
    unfold EL at h;split at h
    .cases h;exact U _ _ g.nP
    .have⟨W,q⟩:=g.ue;grind
    .rename_i id es off len;split at h
     .rename_i Q;subst Q;split at h
      .rcases g.nN with⟨p,f,_,_,_,_,q⟩|⟨_,W,q⟩
       .grind
       grind
      rename_i len;split at h
      .rename_i an S X;split at h
       .rename_i Y;cases h;have⟨p,c,el,hp,hI,C,B⟩:=s.obs id _ X;rcases g.nN with⟨q,f,K,ao,av,ap,rfl⟩|⟨h0,_⟩
        .rw[hp]at K;cases K;have Q:an=d.size:=by rw[<-B.es_eq,ao]
         subst Q;have J:(zeroCells z.cells (len+1)).size=(len+1)*d.size:=by rw[rZ,am]
         have ax:=B.room;have Z:(off+(len+1))*d.size<=S.length*d.size:=mul_le_mul_right _ Y;rw[add_mul]at Z;have G:=zp (T I μ) (len+1);have aq:∀x∈replicate (len+1) d.zero,x.length=d.size:=λx b=>by rw[eq_of_mem_replicate b];exact aj
         have M:∀x∈replicate (len+1) d.zero,∀y∈x,V.one y=true:=λx b y N=>by rw[eq_of_mem_replicate b]at N;exact all_eq_true.1 ak y N
         have⟨c',u1,j⟩:=wS (P:=P) (o:=p.o+off*d.size) (zeroCells z.cells (len+1)).toList 0 w c C (c6.Ud G (λx b=>by
          have⟨l,hl,ar⟩:=mem_flatten.1 b;exact M l hl x ar)) (by simp[J];omega)
         rw[add_zero]at j;have R:c'.size=c.size:=by have:=congrArg length j;simp[J]at this;omega
         have⟨s2,st2⟩:=s.write (ob':=.row d.size (S.take off++replicate (len+1) d.zero++S.drop (off+(len+1)))) X rfl hp
          ⟨p,c',el,hp,hI,jx _ (Array.getElem?_eq_some_iff.1 C).1,by
           have ae:(S.take off++replicate (len+1) d.zero++S.drop (off+(len+1))).length=S.length:=by simp;omega
           refine⟨B.es_eq,by rw[R];exact B.sz,?_,?_,by rw[ae,R];exact B.room,?_⟩
           .intro x b;rcases mem_append.1 b with b|b
            .rcases mem_append.1 b with b|b
             .exact B.ri x (mem_of_mem_take b)
             exact aq x b
            exact B.ri x (mem_of_mem_drop b)
           .intro x b;rcases mem_append.1 b with b|b
            .rcases mem_append.1 b with b|b
             .exact B.one x (mem_of_mem_take b)
             exact M x b
            exact B.one x (mem_of_mem_drop b)
           rw[ae,j];have hL:=Dl c.toList (zeroCells z.cells (len+1)).toList p.o (S.length*d.size) (off*d.size) (by simp;omega) (by simp[J];omega)
           rw[hL,flatten_append,flatten_append,(Cb B.ri off Zaa).1,(Cb B.ri _ Y).2]
           have e:off*d.size+(zeroCells z.cells (len+1)).toList.length=(off+(len+1))*d.size:=by simp[J,add_mul]
           rw[e];exact((B.rel.take _).append G).append (B.rel.drop _)⟩
         refine⟨_,.tuple #[],_,μ,L (.tuple #[]) (gQ w p.b (.cells c' el)) ?_,.inl rfl,bO.undef _ _,s2,st2⟩;unfold clear_;simp_all
        simp_all
       simp_all
      simp_all
     simp_all
    simp_all
   simp_all
  simp_all
 simp_all
def aas(s t:U')(h:(s==t)=true):s=t:=by
 cases s with|mk a=>cases t with|mk b=>
 have u:(a==b)=true:=h;grind
inductive AZ(P:Program)(E:Env)(t:TypeId):V->Value->Prop
 |int(k:IntKind)(m:Int)(h:P.underlying t=some (.int k)):AZ P E t (.int k m) (.int k m)|str(s:ByteArray)(h:P.underlying t=some .string):AZ P E t (.str s) (.string s)|agg(m:Nat)(cs:List V)(l:List Int)(h:yG P t m)(hl:l.length=m)(hi:jr cs=some l):AZ P E t (.agg cs) (.agg (ic l))
def P_(B:fq P E){t:W'}{k:V}{v:V'}(h:Dc E t k=true)(b:bO I μ k v):AZ P E t k v:=by
 unfold Dc at h;split at h;rename_i k1 k2 m c;have⟨d,hd,u⟩:=gE c;have⟨a,f,w,D⟩:=(B.ty hd).d_;rw[u]at w;have:=Ft w;subst this;have e:k1=k2:=by grind
 subst e;rw[b.gD];exact .int _ _ f;next s c=>have⟨d,hd,u⟩:=gE c;have⟨a,f,w,D⟩:=(B.ty hd).d_;rw[u]at w;have:=Cq w;subst this;rw[b.vu];exact .str _ f
 rename_i cs _;split at h;next m z=>simp[isSome_iff_exists]at h;have⟨G,l,hi⟩:=h;obtain⟨J,rfl,C⟩:=b.jB;obtain⟨rfl,e⟩:=sE hi C;exact .agg m cs l (B.eqN _ _ z) Zaa hi
 grind;grind
def Q_(d:Nat)(e:X'){t:W'}{k:T2}{m:Int}(h:P.underlying t=some (.int k)):(checkKey e (d+1) t (.int k m)).run P w=.ok () w:=by simp[checkKey,run_bind,d_ h,andThen_ok,run_pure]
def Ri(d:Nat)(e:X'){t:W'}{m:U'}(h:P.underlying t=some .string):(checkKey e (d+1) t (.string m)).run P w=.ok () w:=by simp[checkKey,run_bind,d_ h,andThen_ok,run_pure]
def Av{t:W'}{k:V}{v:V'}(h:AZ P E t k v)(e:X'):(checkKey e 10000 t v).run P w=.ok () w:=by cases h with|int k m h=>exact Q_ 9999 e h|str s h=>exact Ri 9999 e h|agg m cs l h u hi=>exact h.check w e l u
def nR(I:cG)(μ:Mu)(es:aZ MapEntry)(i:Nat):a_ (Nat×V)->a_ (Nat×V')->Prop
 |none,none=>True|some (j,x),some (B,v)=>j=B/\bO I μ x v/\i<=j/\∃e,es[j-i]?=some e/\e.val=v|_,_=>False
def FD{d:TypeDesc}{k:V}{v:V'}(hd:(∃kk m,d=.int kk/\k=.int kk m/\v=.int kk m)\/(∃s,d=.string/\k=.str s/\v=.string s)):
 ∀(B:aZ (V×V))(es:aZ MapEntry)(i:Nat)(r:a_ (Nat×V)),B.length=es.length->(∀(j:Nat)q e,B[j]?=some q->es[j]?=some e->bO I μ q.1 e.key/\bO I μ q.2 e.val)->
 jd k B i=some r->∃D,findNow d v es i=some D/\nR I μ es i r D/\∀j x,r=some (j,x)->∃e,es[j-i]?=some e/\e.key=v:=by
 intro B
 induction B with
 |nil=>
  intro es i r O _ h
  cases es with
  |nil=>simp only[jd,ζa]at h;subst h;exact⟨none,rfl,trivial,Zab⟩|cons _ _=>simp_all
 |cons q B Q=>
  intro es i r O f h
  cases es with
  |nil=>simp_all|cons e es=>
   have⟨G,S⟩:=q;have⟨g1,g2⟩:=f 0 (G,S) e rfl rfl;simp only[jd]at h;have u:∀b,yT k G=some b->sameNow d v e.key=some b/\(b=true->e.key=v):=by
    intro b w;rcases hd with⟨kk,m,rfl,rfl,rfl⟩|⟨s,rfl,rfl,rfl⟩
    .cases G<;>simp only[yT]at w<;>(try grind);rename_i k2 o;split at w;(next J=>simp only[ζa]at w;subst w;subst J;rw[g1.gD];exact⟨by simp[sameNow],by simp;grind⟩);grind
    cases G<;>simp only[yT]at w<;>(try (simp at w;done));simp only[ζa]at w;subst w;rw[g1.vu];exact⟨by simp[sameNow],λT=>by rw[aas _ _ T]⟩
   split at h
   .rename_i hk;have⟨c,g⟩:=u true hk;simp only[ζa]at h;subst h;refine⟨some (i,e.val),by simp[findNow,c],⟨rfl,g2,le_refl _,e,Zab,rfl⟩,?_⟩
    intro j x C;simp only[ζa,ζc]at C;obtain⟨rfl,_⟩:=C;exact⟨e,Zab,g rfl⟩
   .rename_i hk;have⟨c,_⟩:=u false hk;have⟨D,p1,p2,p3⟩:=Q es (i+1) r (by simpa using O) (λj a b x y=>f (j+1) a b (by simpa using x) (by simpa using y)) h
    refine⟨D,by simp[findNow,c,p1],?_,?_⟩
    .cases r with
     |none=>cases D<;>simp_all [nR]|some z=>
      cases D with
      |none=>simp[nR]at p2|some U=>have⟨W,X,p,L,Y,Z⟩:=p2;exact⟨W,X,Zaa,L,by rw[show z.1-i=(z.1-(i+1))+1 by omega];simpa using Y,Z⟩
    intro j x C;have⟨L,l,n⟩:=p3 j x C;subst C;have:i+1<=j:=by cases D with|none=>simp[nR]at p2|some U=>exact p2.2.2.1
    exact⟨L,by rw[show j-i=(j-(i+1))+1 by omega];simpa using l,n⟩
   grind
def OW{t:W'}{m:Nat}(U:yG P t m){cs:So}{l:R'}(W:l.length=m)(hi:jr cs=some l):
 ∀(B:aZ (V×V))(es:aZ MapEntry)(i:Nat)(r:a_ (Nat×V)),B.length=es.length->(∀(j:Nat)q e,B[j]?=some q->es[j]?=some e->bO I μ q.1 e.key/\bO I μ q.2 e.val)->
 jd (.agg cs) B i=some r->∃D,(findAsking t (.agg (ic l)) es i).run P w=.ok D w/\nR I μ es i r D/\∀j x,r=some (j,x)->∃e,es[j-i]?=some e/\e.key=.agg (ic l):=by
 intro B
 induction B with
 |nil=>
  intro es i r C _ h
  cases es with
  |nil=>simp[jd]at h;subst h;exact⟨none,rfl,trivial,Zab⟩|cons _ _=>simp_all
 |cons q B T=>
  intro es i r C d h
  cases es with
  |nil=>simp_all|cons e es=>
   have⟨G,X⟩:=q;have⟨g1,g2⟩:=d 0 (G,X) e rfl rfl;simp[jd]at h;have u:∀b,yT (.agg cs) G=some b->(equal t (.agg (ic l)) e.key).run P w=.ok b w/\(b=true->e.key=.agg (ic l)):=by intro b J;cases G<;>simp[yT]at J<;>(try (simp at J));obtain⟨s,Y,Q,x2,v,rfl⟩:=zz J;rw[hi]at Q;cases Q;have⟨A,ev,L⟩:=g1.jB;obtain⟨rfl,e2⟩:=sE x2 L;rw[ev];refine⟨U.key w l Y W Zaa,?_⟩;grind
   split at h
   .rename_i hk;have⟨c,E⟩:=u true hk;simp at h;subst h;refine⟨some (i,e.val),by simp[findAsking,c],⟨rfl,g2,le_refl _,e,Zab,rfl⟩,?_⟩
    grind
   .rename_i hk;have⟨c,_⟩:=u false hk;have⟨D,p1,p2,p3⟩:=T es (i+1) r Zac (λj a b x y=>d (j+1) a b Zac (by simpa using y)) h
    refine⟨D,by simp[findAsking,c,p1],?_,?_⟩
    .cases r with
     |none=>cases D<;>simp_all [nR]|some z=>
      cases D with
      |none=>simp[nR]at p2|some Z=>have⟨f,g,F,O,k,n⟩:=p2;exact⟨f,g,Zaa,O,by rw[show z.1-i=(z.1-(i+1))+1 by omega];simpa using k,n⟩
    intro j x S;have⟨O,o,p⟩:=p3 j x S;subst S;have:=by cases D with|none=>simp[nR]at p2|some Z=>exact p2.2.2.1
    exact⟨O,by rw[show j-i=(j-(i+1))+1 by omega];simpa using o,p⟩
   grind
def xD{t:W'}{k:V}{v:V'}(h:AZ P E t k v){B:aZ (V×V)}{es:Array MapEntry}(a:xJ I μ B es){r:a_ (Nat×V)}(G:jd k B 0=some r):
 ∃D,(findKey t v es.toList).run P w=.ok D w/\nR I μ es.toList 0 r D/\∀j x,r=some (j,x)->∃e,es[j]?=some e/\e.key=v:=by
 have u:=by simpa using a.1
 have z:∀(j:Nat)q e,B[j]?=some q->es.toList[j]?=some e->bO I μ q.1 e.key/\bO I μ q.2 e.val:=λj q e x y=>a.2 j q e x Zac
 have fin:∀(D:a_ (Nat×V')),(∀j x,r=some (j,x)->∃e,es.toList[j-0]?=some e/\e.key=v)->∀j x,r=some (j,x)->∃e,es[j]?=some e/\e.key=v:=by grind
 cases h with
 |int kk m h=>have⟨D,g1,g2,g3⟩:=FD (.inl ⟨kk,m,rfl,rfl,rfl⟩) B es.toList 0 r u z G;exact⟨D,by simp[findKey,run_bind,d_ h,andThen_ok,g1,run_pure],g2,fin D g3⟩|str s h=>have⟨D,g1,g2,g3⟩:=FD (.inr ⟨s,rfl,rfl,rfl⟩) B es.toList 0 r u z G;exact⟨D,by simp[findKey,run_bind,d_ h,andThen_ok,g1,run_pure],g2,fin D g3⟩|agg m cs l h L hi=>
  have⟨D,g1,g2,g3⟩:=OW (w:=w) h L hi B es.toList 0 r u z G;have⟨d,hd,C⟩:=h.kind;refine⟨D,?_,g2,fin D g3⟩;simp[findKey,run_bind,d_ hd,andThen_ok]
  cases J:es.toList with
  |nil=>rw[J]at g1;simp[findNow,run_pure];simpa[findAsking]using g1|cons e rest=>
   have:findNow d (.agg (ic l)) (e::rest) 0=none:=by rcases C with⟨_,_,rfl⟩|⟨_,rfl⟩<;>simp[findNow,sameNow]
   grind
def BX{b:Nat}{o:Obj}(h:w.heap[b]?=some o)(B:∀c e f,o≠.cells c e f):(getObj b).run P w=.ok o w:=by simp[getObj,Sem.run,h]
def T9(s:dm I μ H w){m:V}{v:V'}(d:bO I μ m v){B:aZ (V×V)}(h:og H m=some B):
 (v=.map none/\B=[])\/∃b es a,v=.map (some b)/\w.heap[b]?=some (.map es a)/\xJ I μ B es:=by
 cases m with
 |hG=>simp only[og,ζa]at h;exact .inl ⟨d.Ux,h.symm⟩|fmap k=>
  simp[og]at h;subst h
  cases d with
  |c _ _ d=>cases d with
   |fmap _ b es C D hk u=>have⟨f,g⟩:=s.imm _ _ C;exact .inr ⟨b,es,f,rfl,g,D,λj q e x y=>⟨.c _ _ (hk j q e x y),.c _ _ (u j q e x y)⟩⟩
 |hmap id=>
  simp[og]at h;split at h
  .rename_i G z;simp at h;have⟨p,es,f,g1,g2,g3,g4⟩:=s.obs id _ z;have⟨q,J,e⟩:=d.D5
   grind
  grind
 |_=>simp[og]at h
def Rl(U:fq P E)(r:fe I μ n F a.tmps)(s:dm I μ H w){t:W'}{m k:UV}{ok:X'}{x:V}(h:eG E F H (.lookup t m k ok)=some x):
 ∃v,(Instr.lookup t (a.eval m) (a.eval k) ok).run P w=.ok v w/\bO I μ x v:=by
 simp[eG]at h;split at h
 .rename_i kt et mv kv hk hm Q;obtain⟨d,hd,S⟩:=gE hk;obtain⟨c,l,e,f⟩:=(U.ty hd).d_;rw[S]at e;have:=B_ e;subst this;split at h
  .rename_i de T W J;split at h
   .rename_i X;have D:=P_ U X (dR r Q);obtain⟨z,g,Y⟩:=(U.ty W).WK;obtain⟨es,L,G⟩:∃es:Array MapEntry,xJ I μ T es/\∀u,(findKey kt (a.eval k) es.toList).run P w=.ok u w->(Instr.lookup t (a.eval m) (a.eval k) ok).run P w=
     .ok (if ok then .tuple #[(u.map (·.2)).getD z,.bool u.isSome]else(u.map (·.2)).getD z) w:=by
     rcases T9 s (dR r hm) J with⟨e1,rfl⟩|⟨b,es,o,e1,e2,e3⟩
     .refine⟨#[],⟨rfl,Zab⟩,λu C=>?_⟩
      unfold Instr.lookup;rw[e1];simp[run_bind,f,andThen_ok,run_pure,Av D,C];cases u<;>cases ok<;>simp[g]
     refine⟨es,e3,λu C=>?_⟩
     unfold Instr.lookup;rw[e1];simp[run_bind,f,andThen_ok,run_pure,BX e2 Zab,Av D,C]
     cases u<;>cases ok<;>simp[g]
    split at h
    .rename_i j y _ B;simp at h;obtain⟨u,Z,O,_⟩:=xD D L B
     cases u with
     |none=>simp[nR]at O|some q=>
      obtain⟨_,i,_⟩:=O;refine⟨_,G _ Z,?_⟩;subst h
      cases ok with
      |true=>exact .UL (.cons i (.cons (.c _ _ (.bool _)) .nil))|false=>exact i
    .rename_i y B hy;simp at h;obtain⟨u,Z,O,_⟩:=xD D L B
     cases u with
     |some q=>simp[nR]at O|none=>
      refine⟨_,G _ Z,?_⟩;subst h
      cases ok with
      |true=>exact .UL (.cons (Y _ _ _ hy) (.cons (.c _ _ (.bool _)) .nil))|false=>grind
    grind
   grind
  grind
 grind
def MB(l:R')(d:Nat):sameBits (d+2) (.agg (ic l)) (.agg (ic l))=true:=by simp only[sameBits,beq_self_eq_true,Bool.true_and,all_eq_true];intro p u;obtain⟨j,w,rfl⟩:=List.mem_iff_getElem.1 u;simp[ic,sameBits]
def Ui{t:W'}{k:V}{v:V'}(h:AZ P E t k v):(Instr.keyThatStays v v).run P w=.ok v w:=by
 have:sameBits 10000 v v=true:=by cases h with|int k m h=>simp[sameBits]|str s h=>simp[sameBits];exact(by cases s;exact beq_self_eq_true (α:=Array UInt8) _)|agg m cs l h u hi=>exact MB l 9998
 unfold Instr.keyThatStays;rw[this];rfl
def IY{b:Nat}{es:Array MapEntry}{a:Nat}(o:Obj)(h:w.heap[b]?=some (.map es a)):(setObj b o).run P w=.ok () (gQ w b o):=by simp only[setObj,Sem.run,h];rfl
def BO(K:fq P E)(r:fe I μ n F a.tmps)(s:dm I μ H w){t:W'}{m k y:UV}{x:V}(h:dB E F H (.mapUpdate t m k y)=some (x,H')):
 DN P I μ H w (do Instr.mapUpdate t (a.eval m) (a.eval k) (a.eval y);pure .skip) x H':=by
 simp only[dB]at h;split at h
 .rename_i kt et id Z yv hk hm W hy;have⟨d,hd,aa⟩:=gE hk;have⟨M,b,B,N⟩:=(K.ty hd).d_;rw[aa]at B;have:=B_ B;subst this;split at h
  .rename_i D U;split at h
   .rename_i ab;simp only[ζf,ζc]at h;obtain⟨af,u,rfl,rfl⟩:=h;have G:=P_ K ab (dR r W);have⟨p,es,c,g1,g2,g3,g4⟩:=s.obs id _ U;have⟨q,R,em⟩:=(dR r hm).D5;rw[g1]at R;cases R;have T:=(Array.getElem?_eq_some_iff.1 g3).1;have ah:∀(f:Unit->Sem Next),True:=λ_=>trivial
    unfold rI at u;have J:=dR r W;have L:=dR r hy;split at u
    .rename_i j z C;simp only[ζa]at u;subst u;have⟨O,l,g,q3⟩:=xD (w:=w) G g4 C
     cases O with
     |none=>simp[nR]at g|some O=>
      have⟨j',zv⟩:=O;obtain⟨rfl,_,_,e',ai,_⟩:=g;have⟨e2,X,ad⟩:=q3 j z rfl;have hj:=(Array.getElem?_eq_some_iff.1 X).1;have Q:xJ I μ (D.set j (Z,yv)) (es.modify j λe=>{e with key:=a.eval k,val:=a.eval y}):=by refine⟨by simpa using g4.1,λi q e b B=>?_⟩;by_cases S:i=j;subst S;rw[getElem?_set_self (by rw[g4.1];exact hj)]at b;cases b;rw[Array.getElem?_modify]at B;simp only[if_true,ζf]at B;obtain⟨_,_,rfl⟩:=B;exact⟨J,L⟩;rw[getElem?_set_ne (Ne.symm S)]at b;rw[Array.getElem?_modify]at B;rw[if_neg (Ne.symm S)]at B;exact g4.2 i q e b B
      have⟨v,A⟩:=s.write (ob':=.map (D.set j (Z,yv))) (o:=.map (es.modify j λe=>{e with key:=a.eval k,val:=a.eval y}) c) U rfl g1
       ⟨p,_,c,g1,g2,jx _ T,Q⟩
      refine⟨.skip,undef,_,μ,?_,.inr ⟨rfl,rfl⟩,.undef I μ,v,A⟩;unfold Instr.mapUpdate;rw[em];have Y:((es[j]?).map (·.key)).getD (a.eval k)=a.eval k:=by rw[X];simpa using ad
      simp only[run_bind,N,andThen_ok,BX g3 Zab,Av G,l,Y,Ui G,IY _ g3,run_pure]
    .rename_i C;simp only[ζa]at u;subst u;have⟨O,l,g,q3⟩:=xD (w:=w) G g4 C
     cases O with
     |some q=>simp[nR]at g|none=>
      have Q:xJ I μ (D++[(Z,yv)]) (es.push {key:=a.eval k,val:=a.eval y,born:=c}):=by refine⟨by simp[g4.1],λi q e b B=>?_⟩;by_cases S:i<D.length;rw[getElem?_append_left S]at b;rw[Array.getElem?_push]at B;rw[if_neg (by rw[<-g4.1];omega)]at B;exact g4.2 i q e b B;have ae:=(ζe.1 b).1;simp at ae;have:i=D.length:=Zaa;subst this;simp at b;subst b;rw[Array.getElem?_push,if_pos g4.1]at B;cases B;exact⟨J,L⟩
      have⟨v,A⟩:=s.write (ob':=.map (D++[(Z,yv)])) (o:=.map (es.push {key:=a.eval k,val:=a.eval y,born:=c}) (c+1)) U rfl g1
       ⟨p,_,_,g1,g2,jx _ T,Q⟩
      refine⟨.skip,undef,_,μ,?_,.inr ⟨rfl,rfl⟩,.undef I μ,v,A⟩;unfold Instr.mapUpdate;rw[em];simp only[run_bind,N,andThen_ok,BX g3 Zab,Av G,l,IY _ g3,run_pure]
    simp at u
   simp at h
  simp at h
 simp at h
def VX(B:fq P E)(r:fe I μ n F a.tmps)(s:dm I μ H w)(o:Oper){x:V}(h:eG E F H o.op=some x):
 ∃v,(execOp a.eval o).run P w=.ok (.value v) w/\bO I μ x v:=by
 have⟨dst,op,ty,pos,after,b⟩:=o;simp only at h
 cases op with
 |load t p=>
  simp only[eG]at h;split at h
  next d D hd C=>have⟨u,c,z,_⟩:=FK B s hd (dR r C) h;exact⟨u,eX c,z⟩
  simp at h
 |lookup t m k ok=>have⟨u,c,z⟩:=Rl B r s h;exact⟨u,eX c,z⟩|_=>simp[eG]at h
def Xh(B:fq P E)(r:fe I μ n F a.tmps)(s:dm I μ H w)(o:Oper){x:V}(h:dB E F H o.op=some (x,H')):DN P I μ H w (execOp a.eval o) x H':=by
 have⟨dst,op,ty,pos,after,d⟩:=o;simp only at h
 cases op with
 |store t p q=>exact Su B r s h|mapUpdate t m k y=>exact BO B r s h|insert t m k y=>exact BO (t:=t) (m:=m) (k:=k) (y:=y) B r s h|call c=>
  have⟨callee,args,u⟩:=c
  cases callee with
  |builtin b=>cases b with|append=>exact Qv B r s h|clear=>exact Ug B r s h|_=>simp[dB]at h
  |_=>simp[dB]at h
 |_=>simp[dB]at h
end
def vS{xs:So}(h:V.mL xs=true):∀x∈xs,V.closed x=true:=by induction xs with|nil=>simp|cons x r u=>simp[V.mL]at h;grind
def vT{xs:So}(h:V.c9 xs=true):∀x∈xs,V.scalar x=true:=by induction xs with|nil=>simp|cons x r u=>simp[V.c9]at h;grind
section
variable{I I':cG}{μ:Mu}{H H':bp}{w:World}
def bO.closed{x:V}{v:V'}(h:bO I μ x v)(d:x.closed=true):e9 I x v:=by induction h with|c x v h=>omega|hsl id off len cap p w h1 O=>simp[V.closed]at d|hsl0 id es off a=>simp[V.closed]at d|hptr id el off p w=>simp[V.closed]at d|yld id p w=>simp[V.closed]at d|hmap id p w=>simp[V.closed]at d|clo f x y u v J L _ _ z B=>simp[V.closed]at d;exact .clo f x y u v J L (λj a b p q=>z j a b p q (vS d.1 a (mem_of_getElem? p))) (λj a b p q=>B j a b p q (vS d.2 a (mem_of_getElem? p)))|agg cs C D _ G=>exact .agg cs C D λj a b p q=>G j a b p q (vS d a (mem_of_getElem? p))|tup cs C D _ G=>exact .tup cs C D λj a b p q=>G j a b p q (vS d a (mem_of_getElem? p))
def e9.scalar{x:V}{v:V'}(h:e9 I x v)(B:x.scalar=true):e9 I' x v:=by induction h with|bool b=>exact .bool b|int k n=>exact .int k n|str s=>exact .str s|dX a=>exact .dX a|bM=>exact .bM|ja=>exact .ja|hG=>exact .hG|ug=>exact .ug|agg cs u w _ z=>exact .agg cs u w λj a b p q=>z j a b p q (vT B a (mem_of_getElem? p))|tup cs u w _ z=>exact .tup cs u w λj a b p q=>z j a b p q (vT B a (mem_of_getElem? p))|_=>simp[V.scalar]at B
def jO{f:V->a_ V}:∀{xs ys:So},jm f xs=some ys->ys.length=xs.length/\∀(j:Nat)y,ys[j]?=some y->∃x,xs[j]?=some x/\f x=some y:=by intro xs;induction xs with|nil=>intro ys h;simp[jm]at h;grind|cons x xs u=>intro ys h;simp[jm]at h;split at h;grind;grind
def OV{f:V->a_ V}:∀{xs ys:S'},nv f xs=some ys->ys.length=xs.length/\∀(j:Nat)y,ys[j]?=some y->∃x,xs[j]?=some x/\jm f x=some y:=by intro xs;induction xs with|nil=>intro ys h;simp[nv]at h;grind|cons x xs u=>intro ys h;simp[nv]at h;grind
def Og{f:V->a_ V}:∀{xs ys:aZ (V×V)},m_ f xs=some ys->ys.length=xs.length/\∀(j:Nat)y,ys[j]?=some y->∃x,xs[j]?=some x/\f x.1=some y.1/\f x.2=some y.2:=by intro xs;induction xs with|nil=>intro ys h;simp only[m_]at h;grind|cons x xs u=>intro ys h;simp only[m_]at h;grind
def Obj.ic:Obj->a_ IC
 |.cells c _ _=>some (.cells c)|.map es _=>some (.map es)|_=>none
def Dg(μ:Mu)(H:bp)(T:ST)(b:Nat):Prop:=∃id p ob,id∈T/\H[id]?=some ob/\ob.live=true/\μ id=some p/\p.b=b
open Classical in
noncomputable def plus(I:cG)(μ:Mu)(H:bp)(w:World)(T:ST):cG:=λb=>
 match I b with
 |some x=>some x|none=>if Dg μ H T b then(w.heap[b]?).bind Obj.ic else none
def qN(I:cG)(μ:Mu)(H:bp)(w:World)(T:ST):cG.le I (plus I μ H w T):=by intro b x h;simp[plus,h]
def vv(s:dm I μ H w)(T:ST):∀b x,plus I μ H w T b=some x->x.at w b:=by
 intro b x h;unfold plus at h;split at h;next y B=>cases h;exact s.imm b _ B
 split at h;have⟨o,z,u⟩:=ζg.1 h;cases o<;>simp[Obj.ic]at u;subst u;exact⟨_,_,z⟩;subst u;exact⟨_,z⟩;grind
def AO{T:ST}{b:Nat}(h:(plus I μ H w T b).isSome=true):(I b).isSome=true\/Dg μ H T b:=by unfold plus at h;grind
def DI{T:ST}{b:Nat}(h:Dg μ H T b):je μ H b:=by have⟨id,p,ob,_,h1,u,w,z⟩:=h;exact⟨id,p,ob,h1,u,w,z⟩
def DZ(s:dm I μ H w){T:ST}{id es:Nat}{xs:S'}(B:id∈T)(h:(H[id]?).bind Ob.rows=some (es,xs)):
 ∃p c,μ id=some p/\plus I μ H w T p.b=some (.cells c)/\gW I μ p c es xs:=by
 have⟨ob,a,z⟩:=ζg.1 h;have u:=s.obs id ob a;rcases K1 z with rfl|rfl
 .have⟨p,c,el,g1,g2,g3,g4⟩:=u;refine⟨p,c,g1,?_,g4⟩;have C:Dg μ H T p.b:=⟨id,p,_,B,a,rfl,g1,rfl⟩;unfold plus;rw[g2];simp[C,g3,Obj.ic]
 have⟨p,c,g1,g2,g4⟩:=u;exact⟨p,c,g1,qN _ _ _ _ _ _ _ g2,g4⟩
def gW.idx{p:Pl}{c:Array V'}{es:Nat}{xs:S'}(r:gW I μ p c es xs){i j:Nat}{x:So}{y:V}{v:V'}(a:xs[i]?=some x)(B:x[j]?=some y)
 (D:c[p.o+i*es+j]?=some v):bO I μ y v:=by
 have w:=yA r.ri a B;refine r.rel.2 (i*es+j) y v w ?_;have u:=(ζe.1 w).1;rw[gL r.ri]at u
 grind
def lQ{f:V->ST}{xs:So}{x:V}{k:Nat}(B:x∈xs)(a:k∈f x):k∈c_ f xs:=by induction xs with|nil=>simp_all|cons y r u=>simp[c_];grind
def lN(n:Nat)(H:bp){x:V}(h:x.closed=true):borrow n H x=some x:=by cases n<;>simp[borrow,h]
def wR(s:dm I μ H w)(T:ST):∀(n:Nat)(x y:V)(v:V'),borrow n H x=some y->(∀k∈cA n H x,k∈T)->bO I μ x v->
 e9 (plus I μ H w T) y v/\(x.one=true->y.one=true):=by
 intro n
 induction n with
 |zero=>
  intro x y v h _ g;simp only[borrow]at h;split at h
  next E=>simp at h;subst h;exact⟨(g.closed E).mono (qN _ _ _ _ _),id⟩
  grind
 |succ n ih=>
  intro x y v h O g;simp[borrow]at h;split at h
  next E=>simp at h;subst h;exact⟨(g.closed E).mono (qN _ _ _ _ _),id⟩
  rename_i al;simp[cA,if_neg al]at O;split at h
  .
   rename_i id es off len;split at h
   .rename_i B xs J;split at h
    .rename_i E;obtain⟨rfl,am⟩:=E;simp only[J]at O;simp at h;obtain⟨U,l,rfl⟩:=h;have⟨R,W⟩:=OV l;refine⟨?_,λ_=>rfl⟩
     have aj:U.length=len:=Zac
     rcases g.nN with⟨p,F,t,hp,ar,o,rfl⟩|⟨h0,a,rfl⟩
     .have⟨p',c,g1,g2,g3⟩:=DZ s (O id Zab) J
      rw[t]at g1;cases g1;have X:∀i z,U[i]?=some z->∃Q,xs[off+i]?=some Q/\jm (borrow n H) Q=some z:=by grind
      have ak:∀i Q,i<len->xs[off+i]?=some Q->∀q∈Q,∀k∈cA n H q,k∈T:=by intro i Q hi an q K k d;refine O k ?_;refine mem_cons_of_mem _ (lQ (mem_flatten.2 ⟨Q,mem_of_getElem? (i:=i) ?_,K⟩) d);rw[getElem?_take,if_pos hi,getElem?_drop];exact an
      have au:e9 (plus I μ H w T) (.fsl B U) (.slice (some ⟨p.b,p.o+off*B,none⟩) U.length F):=by refine .fsl B U p.b (p.o+off*B) F c g2 Zaa ?_ ?_ ?_ ?_;intro z af;have⟨i,hi⟩:=List.mem_iff_getElem?.1 af;have⟨Q,G,Y⟩:=X i z hi;rw[(jO Y).1];exact g3.ri Q (mem_of_getElem? G);intro z af q K;have⟨i,hi⟩:=List.mem_iff_getElem?.1 af;have⟨Q,G,Y⟩:=X i z hi;have⟨j,m⟩:=List.mem_iff_getElem?.1 K;have⟨L,D,Z⟩:=(jO Y).2 j q m;have ad:=mem_of_getElem? G;have ae:=mem_of_getElem? D;have ao:=g3.room;have aw:=g3.ri Q ad;have ax:=(ζe.1 D).1;have ap:=(ζe.1 G).1;have av:(off+i)*B+B<=xs.length*B:=(by have:=mul_le_mul_right B (ap);grind);have aq:=Zaa;have M:=g3.idx G D (v:=c[p.o+(off+i)*B+j]) (by simp[aq]);exact(ih L q _ Z (ak i Q (by have:=(ζe.1 hi).1;omega) G L ae) M).2 (g3.one Q ad L ae);have A:=(g3.span am).2;grind;intro i j z q u hi m hu;have⟨Q,G,Y⟩:=X i z hi;have⟨L,D,Z⟩:=(jO Y).2 j q m;have M:=g3.idx G D (v:=u) Zac;exact(ih L q u Z (ak i Q (by have:=(ζe.1 hi).1;omega) G L (mem_of_getElem? D)) M).1
      grind
     subst h0;have:=List.eq_nil_of_length_eq_zero aj;subst this;exact .fsl0 B _ _
    grind
   grind
  .
   rename_i id el off;split at h
   .rename_i B xs J;split at h
    .rename_i cs ah;split at h
     .simp only[J]at O;simp at h;obtain⟨U,l,rfl⟩:=h;have⟨R,W⟩:=jO l;refine⟨?_,λ_=>rfl⟩
      obtain⟨p,t,rfl⟩:=g.vh;have⟨p',c,g1,g2,g3⟩:=DZ s (O id Zab) J
      rw[t]at g1;cases g1;have⟨k1,k2,k3⟩:=g3.elem ah;rw[g3.es_eq];refine .fptr U p.b _ c g2 ?_ ?_
      .rw[R,List.length_drop];omega
      intro j q u m hu;have⟨L,D,Z⟩:=W j q m;rw[getElem?_drop]at D;have M:=g3.idx ah D (by rw[<-add_assoc];exact hu)
      refine(ih L q u Z (λk d=>O k ?_) M).1
      exact mem_cons_of_mem _ (lQ (mem_of_getElem? (i:=j) (by rw[ah,getD_some,getElem?_drop];exact D)) d)
     simp at h
    simp at h
   simp at h
  .
   rename_i id;split at h
   .rename_i ay ai;simp at h;obtain⟨U,l,rfl⟩:=h;simp only[ai]at O;have⟨R,W⟩:=Og l;refine⟨?_,λ_=>rfl⟩
    obtain⟨p,t,rfl⟩:=g.D5;have⟨p',es,cl,g1,g2,g3,g4⟩:=s.obs id _ ai;rw[t]at g1;cases g1;have ht:Dg μ H T p.b:=⟨id,p,_,O id Zab,ai,rfl,t,rfl⟩
    have hI:plus I μ H w T p.b=some (.map es):=by unfold plus;rw[g2];simp[ht,g3,Obj.ic]
    refine .fmap U p.b es hI (by rw[R];exact g4.1) ?_ ?_
    .intro j q e m he;have⟨L,A,h2,h3⟩:=W j q m;refine(ih L.1 q.1 e.key h2 (λk d=>O k ?_) (g4.2 j L e A he).1).1
     exact mem_cons_of_mem _ (mem_append.2 (.inl (lQ (mem_map.2 ⟨L,mem_of_getElem? A,rfl⟩) d)))
    intro j q e m he;have⟨L,A,h2,h3⟩:=W j q m;refine(ih L.2 q.2 e.val h3 (λk d=>O k ?_) (g4.2 j L e A he).2).1
    exact mem_cons_of_mem _ (mem_append.2 (.inr (lQ (mem_map.2 ⟨L,mem_of_getElem? A,rfl⟩) d)))
   simp at h
  .rename_i f p q;split at h
   .rename_i p' q' hp K;simp at h;subst h;obtain⟨N,u2,rfl,r1,r2⟩:=g.lG;have⟨P,m1⟩:=jO hp;have⟨l2,m2⟩:=jO K;refine⟨.clo f p' q' N u2 (by rw[P];simpa using r1.1) (by rw[l2];simpa using r2.1) ?_ ?_,λ_=>rfl⟩
    .intro j a b r o;have⟨a0,C,S⟩:=m1 j a r;exact(ih a0 a b S (λk d=>O k (mem_append.2 (.inl (lQ (mem_of_getElem? C) d)))) (r1.2 j a0 b C (by simpa using o))).1
    intro j a b r o;have⟨a0,C,S⟩:=m2 j a r;exact(ih a0 a b S (λk d=>O k (mem_append.2 (.inr (lQ (mem_of_getElem? C) d)))) (r2.2 j a0 b C (by simpa using o))).1
   simp at h
  .rename_i cs;simp at h;obtain⟨U,l,rfl⟩:=h;have⟨P,m1⟩:=jO l;obtain⟨N,rfl,r1⟩:=g.jB;refine⟨.agg U N (by rw[P];simpa using r1.1) ?_,λh=>by simp[V.one]at h⟩
   intro j a b r o;have⟨a0,C,S⟩:=m1 j a r;exact(ih a0 a b S (λk d=>O k (lQ (mem_of_getElem? C) d)) (r1.2 j a0 b C (by simpa using o))).1
  .rename_i cs;simp at h;obtain⟨U,l,rfl⟩:=h;have⟨P,m1⟩:=jO l;obtain⟨N,rfl,r1⟩:=g.sj;refine⟨.tup U N (by rw[P];simpa using r1.1) ?_,λh=>by simp[V.one]at h⟩
   intro j a b r o;have⟨a0,C,S⟩:=m1 j a r;exact(ih a0 a b S (λk d=>O k (lQ (mem_of_getElem? C) d)) (r1.2 j a0 b C (by simpa using o))).1
  grind
end
def fr(ro:a_ Nat):Fence:={fn:=λ_=>True,depth:=none,alive:=false,round:=ro}
def Ao(I:cG)(μ:Mu)(H:bp)(w:World)(r:V)(H':bp):Ending->World->Prop:=λe w'=>∃u I' μ',e=.returned u/\bO I' μ' r u/\dm I' μ' H' w'/\Step I μ H w I' μ' H' w'
def A7(P:Program)(f:Y'):Prop:=∃fn,P.funcs[f]?=some fn/\fn.body.isSome=true/\(fn.name== "runtime.NumGoroutine")=false
structure mG(P:Program)(call:dQ):Prop where
 fn:∀f args H r H',call (.fn f) args H=some (r,H')->A7 P f/\∀I μ w vs,dm I μ H w->c6 I μ args vs->CallsIn (fr none) 0 P f vs.toArray w (Ao I μ H w r H')
 yld:∀id args H r H',call (.yld id) args H=some (r,H')->∀I μ w vs p,dm I μ H w->c6 I μ args vs->μ id=some p->
  ∃l f tmps assign body,(Instr.yield p.b vs.toArray).run P w=.ok (.round l f tmps assign body) w/\RoundIn (fr none) 0 P l f tmps assign body w (Ao I μ H w r H')
def uN:Ob->Ob
 |.row es xs=>.frz es xs|.map _=>.dead|o=>o
def Jd(H:bp)(k id:Nat):(wB H k)[id]?=(H[id]?).map λob=>if id=k then uN ob else ob:=by
 unfold wB;by_cases e:id=k;subst e;cases h:H[id]?with|none=>simp[h]|some ob=>have u:=(ζe.1 h).1;cases ob<;>simp[uN,u]<;>exact(ζe.1 h).2
 grind
def DC(o:Ob):uN (uN o)=uN o:=by cases o<;>rfl
def jC:∀(T:ST)(H:bp)(id:Nat),(cT H T)[id]?=(H[id]?).map λob=>if id∈T then uN ob else ob:=by intro T;induction T with|nil=>simp[cT]|cons k T u=>intro H id;have:=u (wB H k) id;simp[cT]at this⊢;rw[this,Jd];cases h:H[id]?with|none=>simp|some ob=>by_cases e:id=k<;>by_cases w:id∈T<;>simp[DC]<;>(simp_all)<;>simp_all [DC]
def lH(T:ST)(H:bp):(cT H T).length=H.length:=by induction T generalizing H with|nil=>rfl|cons k T u=>simp[cT]at u⊢;rw[u];unfold wB;grind
section
variable{P:Program}{I I':cG}{μ μ':Mu}{H H':bp}{w w':World}
def dm.kept(s:dm I μ H w)(a:∀b,b<w.heap.size->w'.heap[b]?=w.heap[b]?):dm I μ H w' where
 dom:=s.dom
 imm:=λb x h=>IC.uv (s.imm b x h) (a b (s.KC h))
 obs:=λid ob h=>(s.obs id ob h).mono (cG.le_refl _) (Mu.le_refl _) (λp z B=>by
  have u:je μ H p.b:=⟨id,p,ob,h,B,z,rfl⟩;exact⟨a _ (o5 s u),gV s u⟩) (λC=>by subst C;exact s.obs id _ h)
 inj:=s.inj
 gl:=s.gl
def tf(μ:Mu)(b:Nat):¬je μ [] b:=by rintro⟨id,p,ob,h,_⟩;simp_all
def EI{call:dQ}(M:mG P call){f:Y'}{args:So}{y:V}(h:cw call f args H=some y)(s:dm I μ H w){vs:aZ V'}(o:c6 I μ args vs):
 A7 P f/\CallsIn (fr none) 0 P f vs.toArray w (Ao I μ H w y (if y.scalar then H else cT H (c_ (cA call.lv H) args))):=by
 unfold cw at h;split at h
 .rename_i az has;split at h
  .rename_i r H1 X;split at h
   .rename_i y' hy;split at h
    .rename_i aa;simp at h;subst h;generalize N:c_ (cA call.lv H) args=T;obtain⟨R,D⟩:=jO has;have s0:dm (plus I μ H w T) (λ_=>none) [] w:=⟨λ_ _=>rfl,vv s T,Zab,Zab,s.gl.mono (qN I μ H w T)⟩
     have Y:c6 (plus I μ H w T) (λ_=>none) az vs:=by refine⟨R.trans o.1,λj a b d z=>?_⟩;obtain⟨x,O,af⟩:=D j a d;refine .c _ _ (wR s T call.lv x a b af (λk t=>?_) (o.2 j x b O z)).1;rw[<-N];exact lQ (mem_of_getElem? O) t
     obtain⟨hf,Q⟩:=M.fn f az [] r H1 X;refine⟨hf,(Q _ _ w vs s0 Y).mono ?_⟩;rintro e w' ⟨u,I1,v,rfl,hr,i,st⟩;have B:=λb D=>st.frame b D (tf _ _)
     generalize ak:cA call.lv H1 r=T1;have A:=(wR i T1 call.lv r y' u hy (λk t=>Zac) hr).1
     cases ah:y'.scalar with
     |true=>exact⟨u,I,μ,rfl,.c _ _ (A.scalar ah),s.kept B,⟨cG.le_refl _,Mu.le_refl _,le_refl _,st.size,λb D _=>B b D,λ_ h=>h.elim .inl λh=>.inr (.inl h),st.os,st.out,st.fz⟩⟩|false=>
      simp only[false_eq_true,if_false]
      let I2:=plus I1 v H1 w' T1
      have G:cG.le I I2:=cG.le_trans (qN I μ H w T) (cG.le_trans st.le (qN _ _ _ _ _));have J:∀b,(I2 b).isSome=true->(I b).isSome=true\/Dg μ H T b\/w.heap.size<=b:=by intro b D;have d:(I1 b).isSome=true\/je v H1 b:=(by rcases AO D with h|h;grind;exact .inr (DI h));rcases st.terr b d with h|h|h;rcases AO h with h|h;grind;grind;exact absurd h (tf _ _);grind
      have Z:∀id ob p,H[id]?=some ob->ob.live=true->id∉T->μ id=some p->I2 p.b=none:=by intro id ob p d z h3 h4;cases E:I2 p.b with|none=>rfl|some x=>have F:je μ H p.b:=⟨id,p,ob,d,z,h4,rfl⟩;rcases J p.b Zac with h|⟨S,p',ai,g0,g1,g2,g3,g4⟩|h;rw[gV s F]at h;cases h;have:=s.inj S id ai ob p' p g1 d g2 z g3 h4 g4;simp_all;have:=o5 s F;omega
      have U:∀id x,(cT H T)[id]?=some x->∃ob,H[id]?=some ob/\x=(if id∈T then uN ob else ob):=by intro id x O;rw[jC]at O;obtain⟨ob,d,z⟩:=ζf.1 O;exact⟨ob,d,z.symm⟩
      have C:∀id x,(cT H T)[id]?=some x->x.live=true->H[id]?=some x/\(id∉T\/∃r,x=.loop r):=by intro id x O g;obtain⟨ob,d,z⟩:=U id x O;by_cases W:id∈T;rw[if_pos W]at z;cases ob<;>simp[uN]at z<;>subst z<;>simp[Ob.live]at g;exact⟨d,.inr ⟨_,rfl⟩⟩;rw[if_neg W]at z;subst z;exact⟨d,.inl W⟩
      refine⟨u,I2,μ,rfl,.c _ _ A,⟨?_,?_,?_,?_,s.gl.mono G⟩,⟨G,Mu.le_refl _,by rw[lH];exact le_refl _,st.size,λb D _=>B b D,?_,st.os,st.out,st.fz⟩⟩
      .intro id h;rw[lH]at h;exact s.dom id h
      .exact vv i T1
      .intro id x O;obtain⟨ob,d,z⟩:=U id x O;have L:=s.obs id ob d
       by_cases W:id∈T
       .rw[if_pos W]at z
        cases ob with
        |row es xs=>
         subst z;obtain⟨p,c,g1,g2,g3⟩:=DZ s W (by rw[d];rfl)
         exact⟨p,c,g1,qN _ _ _ _ _ _ _ (st.le _ _ g2),g3.mono G (Mu.le_refl _)⟩
        |frz es xs=>subst z;exact L.mono G (Mu.le_refl _) (λp _ g=>by simp[Ob.live]at g) (λm=>by cases m)|map al=>subst z;trivial|free=>simp[uN]at z;subst z;exact L|dead=>subst z;trivial|loop r=>
         simp[uN]at z;subst z;obtain⟨p,l,g1,g2,g3,g4⟩:=L;refine⟨p,l,g1,?_,?_,g4.mono G (Mu.le_refl _)⟩
         .
          cases E:I2 p.b with
          |none=>rfl|some x=>
           have K:=vv i T1 p.b x E;have aj:=(Array.getElem?_eq_some_iff.1 g3).1;have n:=B p.b aj;rw[g3]at n
           cases x with
           |cells c=>obtain⟨_,_,q⟩:=K;rw[n]at q;cases q|map es=>obtain⟨_,q⟩:=K;rw[n]at q;cases q
         rw[B p.b (Array.getElem?_eq_some_iff.1 g3).1];omega
       rw[if_neg W]at z;subst z;refine L.mono G (Mu.le_refl _) (λp hp g=>⟨B _ (o5 s ⟨id,p,x,d,g,hp,rfl⟩),Z id x p d g W hp⟩) (λm=>by subst m;exact L)
      .intro id S o1 o2 p p' d z l1 l2 m1 m2 D;exact s.inj id S o1 o2 p p' (C id o1 d l1).1 (C S o2 z l2).1 l1 l2 m1 m2 D
      intro b D;rcases D with h|⟨id,p,x,d,z,h3,rfl⟩
      .rcases J b h with h|h|h
       .exact .inl h
       .exact .inr (.inl (DI h))
       exact .inr (.inr h)
      exact .inr (.inl ⟨id,p,x,(C id x d z).1,z,h3,rfl⟩)
    grind
   grind
  grind
 grind
def bO.scalar{x:V}{v:V'}(h:bO I μ x v)(B:x.scalar=true):bO I' μ' x v:=by
 have key:∀(l:So)(u:aZ V'),(∀x∈l,∀v,bO I μ x v->x.scalar=true->bO I' μ' x v)->V.c9 l=true->(∀(j:Nat)a b,l[j]?=some a->u[j]?=some b->bO I μ a b)->
  ∀(j:Nat)a b,l[j]?=some a->u[j]?=some b->bO I' μ' a b:=by
  intro l
  induction l with
  |nil=>grind|cons x l C=>
   intro u g J L j a b D w;simp only[V.c9,ζh]at J
   cases j with
   |zero=>grind|succ j=>
    cases u with
    |nil=>simp at w|cons v u=>exact C u (λy z=>g y (mem_cons_of_mem _ z)) J.2 (λj a b p q=>L (j+1) a b Zac Zac) j a b Zac (by simpa using w)
 have d:∀(k:Nat)(x:V)(v:V'),SizeOf.sizeOf x<k->bO I μ x v->x.scalar=true->bO I' μ' x v:=by intro k;induction k with|zero=>grind|succ k C=>intro x v f h B;cases h with|c _ _ h=>exact .c _ _ (h.scalar B)|agg cs u G h=>refine .agg cs u G (λj a b D w=>key cs u.toList (λy z v e B=>C y v ?_ e B) B (λj a b p q=>h j a b p (by simpa using q)) j a b D (by simpa using w));have:=List.sizeOf_lt_of_mem z;simp at f;omega|tup cs u G h=>refine .tup cs u G (λj a b D w=>key cs u.toList (λy z v e B=>C y v ?_ e B) B (λj a b p q=>h j a b p (by simpa using q)) j a b D (by simpa using w));have:=List.sizeOf_lt_of_mem z;simp at f;omega|_=>simp[V.scalar]at B
 exact d (SizeOf.sizeOf x+1) x v Zaa h B
def dm.Pe(s:dm I μ H w){ob:Ob}{p:Pl}(U:ob≠.free)(Y:I p.b=none)(G:¬je μ H p.b)(W:uX I (μ.iC H.length p) w H.length ob):
 dm I (μ.iC H.length p) (H++[ob]) w:=by
 have a:=s.dom _ (le_refl _);have u:∀id x,(H++[ob])[id]?=some x->(id≠H.length/\H[id]?=some x)\/(id=H.length/\x=ob):=by grind
 refine⟨?_,s.imm,?_,?_,s.gl⟩
 .intro id h;simp at h;rw[Mu.jF _ _ Zaa];exact s.dom id Zaa
 .intro id x h;rcases u id x h with⟨e,h⟩|⟨rfl,rfl⟩
  .refine(s.obs id x h).mono (cG.le_refl _) (Mu.sY a) (λq Q S=>?_) (λT=>by subst T;rw[Mu.jF _ _ e];exact s.obs id _ h)
   exact⟨rfl,gV s ⟨id,q,x,h,S,Q,rfl⟩⟩
  grind
 intro id z o1 o2 q J h1 X L O B C D;rcases u id o1 h1 with⟨e1,k1⟩|⟨a1,Z⟩<;>rcases u z o2 X with⟨e2,k2⟩|⟨a2,b⟩
 .rw[Mu.jF _ _ e1]at B;rw[Mu.jF _ _ e2]at C;exact s.inj id z o1 o2 q J k1 k2 L O B C D
 .subst a2;rw[Mu.jF _ _ e1]at B;rw[Mu.ig]at C;cases C;exact absurd ⟨id,q,o1,k1,L,B,D⟩ G
 .subst a1;rw[Mu.jF _ _ e2]at C;rw[Mu.ig]at B;cases B;exact absurd ⟨z,J,o2,k2,O,C,D.symm⟩ G
 grind
def YZ{call:dQ}(hc:mG P call){f:Y'}{args:So}{y:V}(h:mj call f args H=some (y,H'))(s:dm I μ H w){vs:aZ V'}(N:c6 I μ args vs):
 A7 P f/\CallsIn (fr none) 0 P f vs.toArray w (Ao I μ H w y H'):=by
 unfold mj at h;split at h
 .rename_i az has;split at h
  .rename_i r H1 O;generalize hT:c_ (cA call.lv H) args=T;have⟨X,B⟩:=jO has;have s0:dm (plus I μ H w T) (λ_=>none) [] w:=⟨λ_ _=>rfl,vv s T,Zab,Zab,s.gl.mono (qN I μ H w T)⟩
   have Q:c6 (plus I μ H w T) (λ_=>none) az vs:=by refine⟨X.trans N.1,λj a b g Y=>?_⟩;have⟨x,d,ae⟩:=B j a g;refine .c _ _ (wR s T call.lv x a b ae (λk hk=>?_) (N.2 j x b d Y)).1;rw[<-hT];exact lQ (mem_of_getElem? d) hk
   have⟨hf,G⟩:=hc.fn f az [] r H1 O;refine⟨hf,(G _ _ w vs s0 Q).mono ?_⟩;rintro e w' ⟨u,I1,μ1,rfl,F,s1,st⟩;have z:∀b,b<w.heap.size->w'.heap[b]?=w.heap[b]?:=λb B=>st.frame b B (tf _ _)
   have R:dm I μ H w':=s.kept z;have af:Step I μ H w I μ H w':=⟨cG.le_refl _,Mu.le_refl _,le_refl _,st.size,λb B _=>z b B,λ_ h=>h.elim .inl λh=>.inr (.inl h),st.os,st.out,st.fz⟩
   split at h
   next ah=>simp only[ζa,ζc]at h;obtain⟨rfl,rfl⟩:=h;exact⟨u,I,μ,rfl,F.scalar ah,R,af⟩

   have key:∀(id es off len:Nat)(v:V)(ob:Ob)(u:V'),s6 H.length H1 id es off len=some (v,ob)->bO I1 μ1 (.hsl id es off len) u->
    ∃p,bO I (μ.iC H.length p) v u/\dm I (μ.iC H.length p) (H++[ob]) w'/\Step I μ H w I (μ.iC H.length p) (H++[ob]) w':=by
    intro id es off len v ob u C hu;unfold s6 at C;split at C
    .rename_i Z xs L;split at C
     .rename_i S;obtain⟨rfl,an⟩:=S;obtain⟨rfl,rfl⟩:=C;have⟨p,c,el,g1,g2,g3,g4⟩:=s1.obs id _ L;have aa:w.heap.size<=p.b:=by
       rcases st.terr p.b (.inr ⟨id,p,_,L,rfl,g1,rfl⟩)with h|h|h
       .have⟨x,d⟩:=isSome_iff_exists.1 h;have:=st.le _ _ d
        grind
       .exact absurd h (tf _ _)
       simp_all
      have hI:I p.b=none:=by cases d:I p.b with|none=>rfl|some x=>have:=s.KC d;omega
      have hn:¬je μ H p.b:=λho=>by have:=o5 s ho;omega
      have ai:gW I (μ.iC H.length p) p c Z xs:=by refine⟨g4.es_eq,g4.sz,g4.ri,g4.one,g4.room,g4.rel.1,λj a b C B=>(g4.rel.2 j a b C B).scalar ?_⟩;have n:=mem_of_getElem? C;rw[mem_flatten]at n;grind
      have sa:=R.Pe (ob:=.row Z xs) Zab hI hn ⟨p,c,el,Mu.ig _ _ _,hI,g3,ai⟩
      refine⟨p,?_,sa,⟨cG.le_refl _,Mu.sY (s.dom _ (le_refl _)),Zab,st.size,λb B _=>z b B,?_,st.os,st.out,st.fz⟩⟩
      .rcases hu.nN with⟨p',K,n,aj,ak,al,M⟩|⟨h0,ad,M⟩
       .rw[g1]at n;cases n;rw[M];subst aj;exact .hsl _ off len K p (Mu.ig _ _ _) ak al
       rw[M,h0];exact .hsl0 _ _ _ _
      rintro b (h|⟨k,q,x,g,Y,o,rfl⟩)
      .exact .inl h
      by_cases e:k=H.length
      .subst e;rw[Mu.ig]at o;cases o;exact .inr (.inr aa)
      rw[Mu.jF _ _ e]at o;have am:k<H.length:=by have:=(ζe.1 g).1;simp at this;omega
      rw[getElem?_append_left am]at g;exact .inr (.inl ⟨k,q,x,g,Y,o,rfl⟩)
     grind
    grind
   split at h
   next id es off len _=>simp only[ζf]at h;obtain⟨⟨v,ob⟩,C,rfl,rfl⟩:=h;have⟨p,k1,k2,k3⟩:=key id es off len v ob u C F;exact⟨u,I,_,rfl,k1,k2,k3⟩
   .rename_i id es off len rest _;split at h
    .rename_i U;simp only[ζf,ζc]at h;obtain⟨⟨v,ob⟩,C,rfl,rfl⟩:=h;obtain⟨t,rfl,D⟩:=F.sj;have ab:0<t.toList.length:=by have:=D.1;simp at this⊢;omega
     obtain⟨A,E,W⟩:∃A E,t.toList=A::E:=by cases i:t.toList with|nil=>rw[i]at ab;simp at ab|cons a b=>exact⟨a,b,rfl⟩
     rw[W]at D;have⟨p,k1,k2,k3⟩:=key id es off len v ob A C (D.2 0 _ _ rfl rfl);refine⟨_,I,_,rfl,.tup _ _ ?_ ?_,k2,k3⟩
     .have:=D.1;simp at this;have Y:t.toList.length=E.length+1:=by rw[W];rfl
      simp at Y⊢;omega
     intro j a b m B;have J:(A::E)[j]?=some b:=by rw[<-W];simpa using B
     cases j with
     |zero=>simp at m J;subst m;subst J;exact k1|succ j=>
      simp at m J;refine(D.2 (j+1) a b (by simpa using m) (by simpa using J)).scalar ?_
      have:∀(l:So),V.c9 l=true->∀x∈l,x.scalar=true:=by intro l;induction l with|nil=>intro _ x d;simp at d|cons y l ih=>intro i x d;simp[V.c9]at i;rcases mem_cons.1 d with rfl|d;exact i.1;exact ih i.2 x d
      exact this rest U a (mem_of_getElem? m)
    simp at h
   grind
  grind
 grind
def YG{E:Env}{call:dQ}(a:mG P call){f:Y'}{args:So}{y:V}(h:fM E call f args H=some (y,H'))(s:dm I μ H w){vs:aZ V'}(b:c6 I μ args vs):
 A7 P f/\CallsIn (fr none) 0 P f vs.toArray w (Ao I μ H w y H'):=by
 unfold fM at h;split at h
 .exact YZ a h s b
 have⟨k1,k2⟩:=a.fn f args H y H' h
 grind
end
def Ob.mp:Ob->a_ (aZ (V×V))
 |.map B=>some B|_=>none
def oC(H H2:bp):Prop:=∀id:Nat,(H[id]?).bind Ob.rows=(H2[id]?).bind Ob.rows/\(H[id]?).bind Ob.mp=(H2[id]?).bind Ob.mp
def oC.refl(H:bp):oC H H:=λ_=>⟨rfl,rfl⟩
def oC.symm{H H2:bp}(h:oC H H2):oC H2 H:=λid=>⟨(h id).1.symm,(h id).2.symm⟩
def oC.trans{H H2 B:bp}(h:oC H H2)(k:oC H2 B):oC H B:=λid=>⟨(h id).1.trans (k id).1,(h id).2.trans (k id).2⟩
def oC.of_eq{H H2:bp}(h:H=H2):oC H H2:=by subst h;exact .refl _
def Mi{H H2:bp}(h:oC H H2):∀n,borrow n H=borrow n H2:=by
 intro n
 induction n with
 |zero=>funext x;rfl|succ n u=>
  funext x
  cases x with
  |hsl id es off len=>simp only[borrow,(h id).1,u]|hptr id el off=>simp only[borrow,(h id).1,u]|hmap id=>
   have:=(h id).2;simp only[borrow,u];split;rfl
   cases a:H[id]?with
   |none=>cases w:H2[id]?with|none=>rfl|some o2=>rw[a,w]at this;cases o2<;>simp[Ob.mp]at this<;>rfl
   |some o=>cases w:H2[id]?with|none=>rw[a,w]at this;cases o<;>simp[Ob.mp]at this<;>rfl|some o2=>rw[a,w]at this;cases o<;>cases o2<;>simp[Ob.mp]at this<;>first|rfl|(subst this;rfl)
  |_=>simp only[borrow,u]
def N4{H H2:bp}(h:oC H H2):∀n,cA n H=cA n H2:=by
 intro n
 induction n with
 |zero=>funext x;rfl|succ n u=>
  funext x
  cases x with
  |hsl id es off len=>simp only[cA,(h id).1,u]|hptr id el off=>simp only[cA,(h id).1,u]|hmap id=>
   have:=(h id).2;simp only[cA,u];split;rfl
   cases a:H[id]?with
   |none=>cases w:H2[id]?with|none=>rfl|some o2=>rw[a,w]at this;cases o2<;>simp[Ob.mp]at this<;>rfl
   |some o=>cases w:H2[id]?with|none=>rw[a,w]at this;cases o<;>simp[Ob.mp]at this<;>rfl|some o2=>rw[a,w]at this;cases o<;>cases o2<;>simp[Ob.mp]at this<;>first|rfl|(subst this;rfl)
  |_=>simp only[cA,u]
def Cu{H H2:bp}(h:oC H H2)(call:dQ)(f:Y')(args:So):cw call f args H=cw call f args H2:=by unfold cw borrows;rw[Mi h]
def Ln{H H2:bp}(h:oC H H2)(p:V)(n:Nat):eU H p n=eU H2 p n:=by cases p with|hptr id el off=>simp only[eU,(h id).1]|_=>rfl
def OB{H H2:bp}(h:oC H H2)(p:V):og H p=og H2 p:=by
 cases p with
 |hmap id=>
  have:=(h id).2;simp only[og]
  cases a:H[id]?with
  |none=>cases u:H2[id]?with|none=>rfl|some o2=>rw[a,u]at this;cases o2<;>simp[Ob.mp]at this<;>rfl
  |some o=>cases u:H2[id]?with|none=>rw[a,u]at this;cases o<;>simp[Ob.mp]at this<;>rfl|some o2=>rw[a,u]at this;cases o<;>cases o2<;>simp[Ob.mp]at this<;>first|rfl|(subst this;rfl)
 |_=>rfl
def Bf{E:Env}{F:WP}{H H2:bp}(h:oC H H2)(op:Op):eG E F H op=eG E F H2 op:=by cases op<;>simp only[eG,Ln h,OB h]
def w_{H H2:bp}(h:oC H H2)(T:ST):jM H T=jM H2 T:=by unfold jM;congr 1;funext id;rw[(h id).1]
def B9{H:bp}{T:ST}(h:jM H T=true){id:Nat}(hi:id∈T):∃es xs,H[id]?=some (.row es xs)\/H[id]?=some (.frz es xs):=by unfold jM at h;rw[all_eq_true]at h;have:=h id hi;cases a:H[id]?with|none=>rw[a]at this;simp at this|some o=>rw[a]at this;cases o<;>simp[Ob.rows]at this<;>exact⟨_,_,by first|exact .inl rfl|exact .inr rfl⟩
def rT{H:bp}{b id:Nat}:(H.take b)[id]?=if id<b then H[id]?else none:=by rw[getElem?_take]
def s9{H:bp}{T:ST}{b:Nat}(h:jM (H.take b) T=true):oC (cT H T) H:=by intro id;rw[jC];by_cases hi:id∈T;have⟨es,w,a⟩:=B9 h hi;rw[rT]at a;by_cases u:id<b;rw[if_pos u]at a;rcases a with a|a<;>simp[a,hi,uN,Ob.rows,Ob.mp];rw[if_neg u]at a;rcases a with a|a<;>cases a;cases H[id]?<;>simp[hi]
def oC.take{H H2:bp}(h:oC H H2)(b:Nat):oC (H.take b) (H2.take b):=by intro id;rw[rT,rT];by_cases u:id<b;rw[if_pos u,if_pos u];exact h id;rw[if_neg u,if_neg u];exact⟨rfl,rfl⟩
def BH{H:bp}{T:ST}{b:Nat}(h:jM (H.take b) T=true){id:Nat}(hi:id∈T):id<b:=by have⟨es,w,a⟩:=B9 h hi;rw[rT]at a;by_cases u:id<b;exact u;rw[if_neg u]at a;rcases a with a|a<;>cases a
def Gj{H:bp}{T:ST}{k:Nat}{ob:Ob}(h:k∉T):cT (H.set k ob) T=(cT H T).set k ob:=by apply List.ext_getElem?;intro i;rw[jC];by_cases e:i=k;subst e;by_cases u:i<H.length;rw[getElem?_set_self u,getElem?_set_self (by rw[lH];exact u)];simp[h];rw[List.getElem?_eq_none (by simp;omega),List.getElem?_eq_none (by rw[length_set,lH];omega)];rfl;rw[getElem?_set_ne (Ne.symm e),getElem?_set_ne (Ne.symm e),jC]
def MD(H:bp)(T B:ST):cT (cT H T) B=cT (cT H B) T:=by apply List.ext_getElem?;intro i;simp only[jC];cases H[i]?with|none=>rfl|some o=>by_cases a:i∈T<;>by_cases u:i∈B<;>simp[a,u]
def Pk{H:bp}{b:Nat}:∀(n:Nat)(x:V),(∀id∈cA n (H.take b) x,id<b)->cA n H x=cA n (H.take b) x:=by
 intro n
 induction n with
 |zero=>intro x _;rfl|succ n B=>
  have u:∀l:So,(∀id∈c_ (cA n (H.take b)) l,id<b)->c_ (cA n H) l=c_ (cA n (H.take b)) l:=by intro l;induction l with|nil=>intro _;rfl|cons x r z=>intro h;simp only[c_,mem_append]at h⊢;rw[B x λid hi=>h id (.inl hi),z λid hi=>h id (.inr hi)]
  intro x h;simp only[cA]at h⊢;split;rfl;rename_i e;rw[if_neg e]at h
  cases x with
  |hsl id es off len=>simp only at h⊢;have w:id<b:=h id (mem_cons_self ..);rw[rT,if_pos w]at h⊢;cases d:(H[id]?).bind Ob.rows with|none=>rfl|some q=>rw[d]at h;simp only at h⊢;rw[u _ λi hi=>h i (mem_cons_of_mem _ hi)]
  |hptr id el off=>simp only at h⊢;have w:id<b:=h id (mem_cons_self ..);rw[rT,if_pos w]at h⊢;cases d:(H[id]?).bind Ob.rows with|none=>rfl|some q=>rw[d]at h;simp only at h⊢;rw[u _ λi hi=>h i (mem_cons_of_mem _ hi)]
  |hmap id=>simp only at h⊢;have w:id<b:=h id (mem_cons_self ..);rw[rT,if_pos w]at h⊢;split;(next C g=>rw[g]at h;simp only[mem_cons,mem_append]at h;rw[u _ λi hi=>h i (.inr (.inl hi)),u _ λi hi=>h i (.inr (.inr hi))]);rfl|clo f a c=>simp only[mem_append]at h⊢;rw[u _ λi hi=>h i (.inl hi),u _ λi hi=>h i (.inr hi)]|agg cs=>simp only at h⊢;exact u _ h|tup cs=>simp only at h⊢;exact u _ h|_=>rfl
def vY{H:bp}{b n:Nat}:∀(l:So),(∀id∈c_ (cA n (H.take b)) l,id<b)->c_ (cA n H) l=c_ (cA n (H.take b)) l
 |[],_=>rfl|x::r,h=>by simp only[c_,mem_append]at h⊢;rw[Pk n x λid hi=>h id (.inl hi),vY r λid hi=>h id (.inr hi)]
def S5{H:bp}{b id:Nat}{ob:Ob}(h:(H.take b)[id]?=some ob):H[id]?=some ob:=by grind
def IU{H:bp}{b id es:Nat}{xs:S'}(h:((H.take b)[id]?).bind Ob.rows=some (es,xs)):(H[id]?).bind Ob.rows=some (es,xs):=by grind
def JJ{H:bp}{b:Nat}{p:V}{n:Nat}{cs:So}(h:eU (H.take b) p n=some cs):eU H p n=some cs:=by unfold eU at h⊢;split at h;omega;grind;grind
def N7{H:bp}{b:Nat}{m:V}{B:aZ (V×V)}(h:og (H.take b) m=some B):og H m=some B:=by unfold og at h⊢;grind
def Bh{E:Env}{F:WP}{H:bp}{b:Nat}{op:Op}{x:V}(h:eG E F (H.take b) op=some x):eG E F H op=some x:=by cases op with|load t a=>simp[eG]at h⊢;split at h;have⟨cs,c,w⟩:=ζg.1 h;rw[JJ c];exact w;grind|lookup t m k ok=>simp[eG]at h⊢;split at h;split at h;(next hd u=>rw[hd,N7 u];omega);grind;grind|_=>simp[eG]at h
def oG{f g:V->a_ V}(B:∀x y,f x=some y->g x=some y):∀{xs ys:So},jm f xs=some ys->jm g xs=some ys:=by intro xs;induction xs with|nil=>intro ys h;exact h|cons x xs u=>intro ys h;simp[jm]at h⊢;grind
def Mh{f g:V->a_ V}(B:∀x y,f x=some y->g x=some y):∀{xs ys:S'},nv f xs=some ys->nv g xs=some ys:=by intro xs;induction xs with|nil=>intro ys h;exact h|cons x xs u=>intro ys h;simp[nv]at h⊢;split at h;(next y s w z=>rw[oG B w,u z];omega);grind
def Mw{f g:V->a_ V}(B:∀x y,f x=some y->g x=some y):∀{xs ys:aZ (V×V)},m_ f xs=some ys->m_ g xs=some ys:=by intro xs;induction xs with|nil=>intro ys h;exact h|cons x xs u=>intro ys h;simp[m_]at h⊢;grind
def Dw{H:bp}{b:Nat}:∀(n:Nat)(x y:V),borrow n (H.take b) x=some y->borrow n H x=some y:=by intro n;induction n with|zero=>intro x y h;exact h|succ n z=>intro x y h;simp[borrow]at h⊢;split at h;grind;rename_i c;rw[if_neg c];split at h;split at h;rename_i a;simp only[IU a];split at h;(next B=>rw[if_pos B];have⟨C,w,u⟩:=ζf.1 h;rw[Mh z w,<-u];rfl);grind;grind;split at h;rename_i a;simp[IU a];split at h;split at h;(next D=>rw[if_pos D];have⟨C,w,u⟩:=ζf.1 h;rw[oG z w,<-u];rfl);grind;grind;grind;split at h;(next a=>simp only[S5 a];have⟨C,w,u⟩:=ζf.1 h;rw[Mw z w,<-u];rfl);grind;split at h;(next d G=>rw[oG z d,oG z G];omega);grind;have⟨C,w,u⟩:=ζf.1 h;rw[oG z w,<-u];rfl;have⟨C,w,u⟩:=ζf.1 h;rw[oG z w,<-u];rfl;grind
def rQ{call:dQ}{f:Y'}{args:So}{H:bp}{b:Nat}{y:V}(h:cw call f args (H.take b)=some y):cw call f args H=some y:=by
 unfold cw borrows at h⊢;split at h;next az a=>rw[oG (Dw call.lv) a];omega
 grind
def Kg(n:Nat)(H:bp){x:V}(h:x.closed=true):cA n H x=[]:=by cases n with|zero=>rfl|succ n=>simp[cA,h]
section
variable{P:Program}{E:Env}{I I':cG}{μ μ':Mu}{H H':bp}{n:Nat}{F:WP}{a:Act}{w w':World}
def zA{f:Y'}(h:A7 P f)(args:Array V'):(callFunc f args).run P w=.ok (.enter f args) w:=by have⟨fn,a,B,u⟩:=h;unfold callFunc;have z:fn.body.isNone=false:=Zad;simp only[run_bind,run_program,andThen_ok,a,u,z,false_eq_true,if_false,run_pure]
def EK{o:Oper}{ro:a_ Nat}{K:Act->World->Prop}{Q:Exit->Act->World->Prop}{f:Y'}{args:Array V'}{r:V}
 (B:CallsIn (fr none) 0 P f args w (Ao I μ H w r H'))(D:∀u I' μ' w',bO I' μ' r u->dm I' μ' H' w'->Step I μ H w I' μ' H' w'->K (a.put o.dst u) w'):
 o.uponIn (fr ro) 0 P a K Q (.ok (.enter f args) w):=by
 refine⟨λh=>by simp[fr]at h,?_⟩
 have z:=B;refine z.mono ?_;rintro e w' ⟨u,I',μ',rfl,b,z,C⟩
 grind
def I5{x:V}(h:x.scalar=true){I:cG}{μ:Mu}{v:V'}(r:bO I μ x v):e9 I x v:=by induction r with|c x v B=>omega|agg cs u w _ z=>exact .agg cs u w λj a b p q=>z j a b p q (vT h a (mem_of_getElem? p))|tup cs u w _ z=>exact .tup cs u w λj a b p q=>z j a b p q (vT h a (mem_of_getElem? p))|_=>simp[V.scalar]at h
def Xz(K:fq P E)(r:fe I μ n F a.tmps)(s:dm I μ H w)(o:Oper){x:V}(h:qW E F o.op=some x):
 ∃u I' w',(execOp a.eval o).run P w=.ok (.value u) w'/\bO I' μ x u/\dm I' μ H w'/\Step I μ H w I' μ H w':=by
 unfold qW at h;split at h
 rotate_left
 .cases h
 rename_i es C B n Z;split at h
 rotate_left
 .cases h
 rename_i M;obtain⟨rfl,rfl,N⟩:=M;have⟨obj,p,u,R,Y⟩:=D4 K r s o Z;have ab:=Y.len _ _ rfl;have⟨⟨q,c,el,g1,g2,g3,g4⟩,g⟩:=Y.rel _ (s.dom _ (le_refl _));rw[Mu.ig]at g1;cases g1;have L:=Y.b;have S:obj=.cells c el:=by rw[L,oQ]at g3;cases g3;rfl
 subst S
 let I':cG:=λb=>if b=w.heap.size then some (.cells c)else I b
 have D:cG.le I I':=λb y G=>by show(if b=w.heap.size then some (IC.cells c)else I b)=some y;rw[if_neg (λe=>by have:=IC.vW (s.imm b y G);omega)];exact G
 have J:I' p.b=some (.cells c):=by show(if p.b=w.heap.size then some (IC.cells c)else I p.b)=_;rw[if_pos L]
 have ad:∀y∈C,∀z∈y,z.scalar=true:=λy G z hz=>all_eq_true.1 (all_eq_true.1 N y G) z hz
 have l:∀b,b<w.heap.size->(w.alloc (.cells c el)).heap[b]?=w.heap[b]?:=λb f=>nL _ b f
 have ae:∀b,b<w.heap.size->I' b=I b:=λb f=>by show(if b=w.heap.size then some (IC.cells c)else I b)=_;rw[if_neg Zaa]
 refine⟨u,I',_,R,?_,⟨s.dom,?_,?_,s.inj,s.gl.mono D⟩,⟨D,Mu.le_refl _,le_refl _,Zab,λb f _=>l b f,?_,rfl,⟨rfl,rfl,le_refl _⟩,λa f=>Qd Y.nf a⟩⟩
 .refine .c _ _ ?_;have af:∀d,C.length<=d->p.o+(0+d)*B<=p.sz->u=.slice (some ⟨p.b,p.o+0*B,none⟩) C.length d->e9 I' x u:=by
   rintro d k1 k2 rfl;rw[zero_mul,add_zero];have m:e9 I' (.fsl B C) (.slice (some ⟨p.b,p.o,none⟩) C.length d):=.fsl B C p.b p.o d c J k1 g4.ri g4.one g4.room λi j y z v m1 t m3=>e9.mono D (I5 (ad y (mem_of_getElem? m1) z (mem_of_getElem? t)) (g4.idx m1 t m3))
   split at h
   .split at h
    .rename_i Q;split at h
     rotate_left
     .cases h
     rename_i T;simp only[ζa]at h;subst h;simp only[List.isEmpty_iff,bne_iff_ne,ne_eq]at Q T;subst Q;have:d=0:=by simp only[List.length_nil,zero_mul]at ab;rcases eq_zero_or_pos d with k|k;exact k;have:=Nat.mul_pos k (Nat.pos_of_ne_zero T);rw[zero_add]at k2;omega
     subst this;exact .dX _
    simp only[ζa]at h;subst h;exact m
   simp only[ζa]at h;subst h;exact m
  have hp:p.es=B:=g4.es_eq;change bO I _ (.hsl H.length B 0 C.length) u at g;generalize U:C.length=ln at g
  cases g with
  |c _ _ ah=>cases ah|hsl id off len d p' hm k1 k2=>rw[Mu.ig]at hm;cases hm;rw[hp]at *;subst U;exact af d k1 k2 rfl|hsl0 id es off a=>
   have Q:C=[]:=List.length_eq_zero_iff.1 U;subst Q;split at h
   .split at h
    .split at h
     .simp only[ζa]at h;subst h;exact .dX _
     cases h
    rename_i Q;exact absurd rfl Q
   simp only[ζa]at h;subst h;exact .fsl0 _ _ _
 .intro b y G
  by_cases e:b=w.heap.size
  .subst e;have:y=.cells c:=by have:=J;rw[L]at this;rw[this]at G;cases G;rfl
   subst this;exact⟨el,_,oQ _⟩
  have W:I b=some y:=by have:(if b=w.heap.size then some (IC.cells c)else I b)=some y:=G;rw[if_neg e]at this;exact this
  exact IC.uv (s.imm b y W) (l b (IC.vW (s.imm b y W)))
 .intro id ob O;refine(s.obs id ob O).mono D (Mu.le_refl _) (λq hq hl=>?_) (λe=>by subst e;exact s.obs id _ O)
  have A:je μ H q.b:=⟨id,q,ob,O,hl,hq,rfl⟩;have X:=o5 s A;exact⟨l _ X,by rw[ae _ X];exact gV s A⟩
 intro b f;rcases f with f|f
 .by_cases e:b=w.heap.size
  .exact .inr (.inr Zaa)
  have:(if b=w.heap.size then some (IC.cells c)else I b).isSome=true:=f;rw[if_neg e]at this;exact .inl this
 exact .inr (.inl f)
def HY:∀{ys:S'}{l:R'},mX ys=some l->ys.flatten=l.map (V.int .u8)/\l.length=ys.length
 |[],l,h=>by cases h;exact⟨rfl,rfl⟩|x::r,l,h=>by unfold mX at h;split at h;(next e=>cases e);(next n B e=>cases e;obtain⟨k,a,rfl⟩:=ζf.1 h;have⟨u,w⟩:=HY a;exact⟨by simp[u],by simp[w]⟩);cases h
def WH(U:fq P E)(r:fe I μ n F a.tmps)(s:dm I μ H w)(o:Oper){x:V}(h:evalConv E F H o.op=some x):∃u,(execOp a.eval o).run P w=.ok (.value u) w/\bO I μ x u:=by
 unfold evalConv at h;split at h;rename_i st O y B;split at h;rename_i e v Q hd f;split at h;rename_i S;obtain⟨J,g,T⟩:=ζg.1 h;obtain⟨l,W,rfl⟩:=ζf.1 T;obtain⟨X,i⟩:=HY W;have C:∀{t:W'}{k:TK},E.kindOf t=some k->∃d b,E.tt t=some d/\P.underlying t=some b/\nY b=k:=λ{t k}hk=>by unfold Env.kindOf at hk;obtain⟨d,g1,g2⟩:=ζf.1 hk;obtain⟨b,D,G,_⟩:=(U.ty g1).d_;exact⟨d,b,g1,D,by rw[G,g2]⟩
 obtain⟨_,m,_,p1,D⟩:=C Q;obtain⟨_,p,_,p2,G⟩:=C hd;obtain⟨_,A,_,p3,Y⟩:=C S;rw[kE D]at p1;rw[Cq G]at p2;rw[Ft Y]at p3;obtain⟨L,c,arr,e1,_,e2,e3,_⟩:=Cg s (dR r f) g;have z:arr=(l.map (Value.int .u8)).toArray:=by apply ext';rw[X]at e3;refine List.ext_getElem (by simpa using e3.1.symm) λj g1 g2=>?_;have g3:j<l.length:=(by simpa using g2);have:=e3.2 j (V.int .u8 l[j]) arr.toList[j] (by simp[g3]) (ζd g1);rw[this.gD];simp
 refine⟨.string (mc l),?_,.c _ _ (.str _)⟩;rw[show execOp a.eval o=_ from by unfold execOp;rw[B]];refine eX ?_;rw[e1];rw[run_convert_bytes_string w st O e L J.length c p1 p3 p2];cases L with|none=>have:=e2 w rfl;rw[e1]at this;simp only[firstCells,run_pure]at this;cases this;have Z:l=[]:=(by have:=congrArg Array.size z;simp at this;exact List.eq_nil_of_length_eq_zero this.symm);subst Z;rfl|some q=>have:=e2 w rfl;rw[e1]at this;simp only[firstCells,Nat.mul_one]at this;rw[z]at this;exact run_bytesToString w q J.length c l this
 cases h;cases h;cases h
def TV(W:fq P E){call:dQ}(N:mG P call){ops:R0}{place:a_ (Nat×Nat)}{o:Oper}{x:V}(h:dN E call ops place F H o.op=some (x,H'))
 (r:fe I μ n F a.tmps)(s:dm I μ H w)(ro:a_ Nat){K:Act->World->Prop}{Q:Exit->Act->World->Prop}
 (k:∀u I' μ' w',bO I' μ' x u->dm I' μ' H' w'->Step I μ H w I' μ' H' w'->K (a.put o.dst u) w'):o.wpIn (fr ro) 0 P a w K Q:=by
 refine⟨λ_ _=>trivial,?_⟩
 have ad:∀c,o.op≠.defer c:=by intro c ae;rw[ae]at h;simp[dN,dF,uL,bU]at h;cases place<;>simp[evalConv]at h
 show o.uponIn (fr ro) 0 P a K Q ((o.semAt ro a.eval).run P w);rw[Oper.semAt_eq ro a.eval o ad];have aa:∀v,(execOp a.eval o).run P w=.ok (.value v) w->bO I μ x v->H'=H->o.uponIn (fr ro) 0 P a K Q ((execOp a.eval o).run P w):=by intro v e j hH;rw[e,Oper.uponIn_value];subst hH;exact k v I μ w j s (.refl _ _ _ _)
 unfold dN at h;split at h
 .
  simp at h;obtain⟨v,j,rfl,rfl⟩:=h;unfold uL at j;split at j
  .rename_i hp;cases j;have⟨u,d,B⟩:=W0 (w:=w) W r o hp
   grind
  split at j
  .have⟨u,d,B⟩:=WH W r s o j;exact aa u d B rfl
  cases j
 .
  have hr:eG E F H o.op=some x/\H'=H:=by split at h;simp at h;grind;split at h;split at h;(next v j=>obtain⟨rfl,rfl⟩:=h;exact⟨Bh j,rfl⟩);split at h;simp at h;grind;grind;grind
  have⟨u,d,B⟩:=VX W r s o hr.1
  grind
 .
  by_cases J:tw E ops place=true
  .rw[if_pos J]at h;have⟨v,j,e⟩:=ζf.1 h;have⟨u,I',w',k1,k2,k3,k4⟩:=Xz W r s o j;rw[k1,Oper.uponIn_value]
   grind
  rw[if_neg J]at h;split at h
  .rename_i ob m X;have⟨obj,p,u,d,B⟩:=D4 W r s o X;rw[d,Oper.uponIn_value];have⟨g1,g2⟩:=B.rel _ (s.dom _ (le_refl _));have⟨s1,s2⟩:=s.push B.b g1 B.nf
   grind
  .rename_i ob m b i X;split at h
   .rename_i L;have⟨obj,p,u,d,B⟩:=D4 W r s o X;rw[d,Oper.uponIn_value];have⟨g1,g2⟩:=B.rel _ (s.obs _ _ L);have⟨s1,s2⟩:=s.fill L B.b g1 B.nf
    grind
   grind
  grind
 .
  have hl:dB E F H o.op=some (x,H'):=by split at h;exact h;split at h;exact h;simp at h
  have⟨nx,u,w',μ',d,B,t,M,h5⟩:=(Xh W r s o hl).run;rw[d];rcases B with rfl|⟨rfl,rfl⟩
  .exact k u I μ' w' t M h5
  exact k _ I μ' w' t M h5

 have C:∀c args,kW F o.op=some (c,args)->∃S:aZ V',c6 I μ args S/\
  (∀f,c=.fn f->A7 P f->(execOp a.eval o).run P w=.ok (.enter f S.toArray) w)/\
  (∀id,c=.yld id->∃p,μ id=some p/\(execOp a.eval o).run P w=(Instr.yield p.b S.toArray).run P w):=by
  intro c args z;have⟨dst,op,ty,pos,after,R⟩:=o
  cases op with
  |call cl=>
   have⟨callee,O,aj⟩:=cl
   cases callee with
   |value f=>
    simp only[kW]at z;split at z
    .rename_i g p q S hf Y;obtain⟨rfl,rfl⟩:=z;have⟨u,v,ef,hu,j⟩:=(dR r hf).lG;have D:=p_ r Y;refine⟨u.toList++O.toList.map a.eval++v.toList,(hu.append D).append j,?_,Zab⟩
     intro f' af ah;cases af;simp[execOp,resolve,run_bind];rw[ef];simp only[Deferred.ofValue,run_pure,andThen_ok,invoke,zA ah]
     congr 2
     apply ext';simp
    .rename_i id S hf Y;simp at z;obtain⟨rfl,rfl⟩:=z;have⟨p,hm,ef⟩:=(dR r hf).WM;have D:=p_ r Y;refine⟨O.toList.map a.eval,D,Zab,?_⟩
     intro ak ab;cases ab;refine⟨p,hm,?_⟩;simp[execOp,resolve,run_bind];rw[ef];simp[Deferred.ofValue,run_pure,andThen_ok,invoke]
     congr 1
     congr 1
     apply ext';simp
    simp at z
   |_=>simp[kW]at z
  |_=>simp[kW]at z
 have G:∀f args y,kW F o.op=some (.fn f,args)->cw call f args H=some y->x=y->H'=(if y.scalar then H else cT H (c_ (cA call.lv H) args))->
  o.uponIn (fr ro) 0 P a K Q ((execOp a.eval o).run P w):=by
  intro f args y d B t M;have⟨S,g1,g2,_⟩:=C _ _ d;have⟨k1,k2⟩:=EI N B s g1;rw[g2 f rfl k1];subst t;subst M;exact EK k2 k
 have T:∀f args,kW F o.op=some (.fn f,args)->fM E call f args H=some (x,H')->o.uponIn (fr ro) 0 P a K Q ((execOp a.eval o).run P w):=by intro f args d B;have⟨S,g1,g2,_⟩:=C _ _ d;have⟨k1,k2⟩:=YG N B s g1;rw[g2 f rfl k1];exact EK k2 k
 have U:∀id args,kW F o.op=some (.yld id,args)->call (.yld id) args H=some (x,H')->o.uponIn (fr ro) 0 P a K Q ((execOp a.eval o).run P w):=by intro id args d B;have⟨S,g1,_,g3⟩:=C _ _ d;have⟨p,hm,e⟩:=g3 id rfl;have⟨l,f,tmps,assign,body,k1,k2⟩:=N.yld id args H x H' B I μ w S p s g1 hm;rw[e,k1,Oper.uponIn_round];refine⟨λh=>by simp[fr]at h,?_⟩;have B:=k2;refine B.mono ?_;rintro e w' ⟨u,I',μ',rfl,d,B,t⟩;exact k u I' μ' w' d B t
 split at h
 .rename_i f args z;split at h
  .split at h
   .exact T f args z h
   split at h
   .exact T f args z h
   simp at h
  split at h
  .split at h
   next y A=>simp at h;exact G f args y z A h.1.symm h.2.symm
   simp at h
  split at h
  .rename_i y A;split at h
   next Z=>simp at h;refine G f args y z (rQ A) h.1.symm ?_;rw[<-h.2,if_pos Z]
   rename_i Z;split at h
   next ai=>simp at h;refine G f args y z (rQ A) h.1.symm ?_;rw[<-h.2,if_neg Z,vY _ λid hi=>BH ai hi]
   simp at h
  split at h
  .split at h
   next y A=>simp at h;exact G f args y z A h.1.symm h.2.symm
   simp at h
  simp at h
 .rename_i id args z;split at h
  .exact U id args z h
  split at h
  .exact U id args z h
  simp at h
 simp at h
end
structure lI(B:Nat)(ds:List Deferred)(w:World):Prop where
 all:∀d∈ds,∃r,d.target=.collected r/\B<=r/\w.heap[r]?=some (.deferred (some []))
 apart:ds.Pairwise λd d'=>∀r,d.target=.collected r->d'.target≠.collected r
section
variable{P:Program}{E:Env}{I I' I'':cG}{μ μ' μ'':Mu}{H H' H'':bp}{n B:Nat}{F F':WP}{a:Act}{w w' w'':World}
def wz(s:dm I μ H w){r:Nat}{c:a_ (aZ Deferred)}(h:w.heap[r]?=some (.deferred c)):¬je μ H r:=by rintro⟨id,p,ob,h1,C,B,rfl⟩;have:=s.obs id ob h1;cases ob with|row es G=>have⟨q,c,el,u,_,z,_⟩:=this;rw[B]at u;cases u;rw[h]at z;cases z|map D=>have⟨q,c,el,u,_,z,_⟩:=this;rw[B]at u;cases u;rw[h]at z;cases z|loop x=>have⟨q,c,u,_,z,_⟩:=this;rw[B]at u;cases u;rw[h]at z;cases z|_=>simp[Ob.live]at C
def lI.step{ds:aZ Deferred}(h:lI B ds w)(s:dm I μ H w)(st:Step I μ H w I' μ' H' w'):lI B ds w' where
 all:=by intro d hd;have⟨r,a,z,u⟩:=h.all d hd;refine⟨r,a,z,?_⟩;rw[st.frame r (Array.getElem?_eq_some_iff.1 u).1 (wz s u)];exact u
 apart:=h.apart
def QU(r:fe I μ n F a.tmps)(ops:Array Oper)(o:Oper):gO ops.toList F o=Region.wanted o (yielded ops a.tmps):=by unfold gO Region.wanted;cases i:o.guard with|none=>rfl|some g=>have⟨j,b⟩:=g;simp only;unfold yielded;have e:ops.toList[j]?=ops[j]?:=Zab;rw[e];cases hd:(ops[j]?).bind (·.dst)with|none=>simp|some d=>simp only[ζb];have f:=r.2 d;by_cases w:d<a.tmps.size;have u:a.tmps[d]?=some a.tmps[d]:=(by simp[w]);have z:a.tmps.getD d undef=a.tmps[d]:=(by simp[w]);rw[z]at f;rw[u];(cases B:get F d with|bool c=>rw[B]at f;rw[f.tV];cases c<;>cases b<;>rfl|_=>cases h:a.tmps[d]with|bool c=>rw[h]at f;have:=f.of_bool;rw[B]at this;cases this|_=>rfl);have u:a.tmps[d]?=none:=getElem?_eq_none (Nat.le_of_not_lt w);have z:a.tmps.getD d undef=undef:=(by simp[w]);rw[z]at f;rw[u];cases B:get F d with|bool c=>rw[B]at f;have:=f.tV;simp[undef]at this|_=>rfl
def Ff(U:fq P E){call:dQ}(b:mG P call){ops:Array Oper}{place:a_ (Nat×Nat)}{o:Oper}(h:iu E call n ops.toList place o F H=some (F',H'))
 (r:fe I μ n F a.tmps)(s:dm I μ H w)(ro:a_ Nat){K:Act->World->Prop}{Q:Exit->Act->World->Prop}
 (J:∀a' I' μ' w',fe I' μ' n F' a'.tmps->a'.defers=a.defers->dm I' μ' H' w'->Step I μ H w I' μ' H' w'->K a' w'):
 if Region.wanted o (yielded ops a.tmps)then o.wpIn (fr ro) 0 P a w K Q else(∀f,o.about P w a.eval=some f->(fr ro).fn f)/\K (a.put o.dst undef) w:=by
 unfold iu at h;rw[<-QU r];have z:∀v,(a.put o.dst v).defers=a.defers:=λv=>by cases o.dst<;>rfl
 split at h
 .rename_i C;rw[if_pos C];split at h
  .rename_i x H2 D;simp only[ζf,ζc]at h;obtain⟨L,G,rfl,rfl⟩:=h;refine TV U b D r s ro (λu I' μ' w' O S B=>?_)
   exact J _ I' μ' w' ((r.mono B.le B.mu).put O G) (z u) S B
  simp at h
 rename_i C;rw[if_neg C];simp only[ζf,ζc]at h;obtain⟨L,G,rfl,rfl⟩:=h;exact⟨λ_ _=>trivial,J _ I μ w (r.put (.undef I μ) G) (z _) s (.refl _ _ _ _)⟩
def RE(U:fq P E){call:dQ}(b:mG P call){ops:Array Oper}(ro:a_ Nat){Q:Exit->Act->World->Prop}:∀(rest:R0)(k:Nat)(I:cG)(μ:Mu)(F:WP)(H:bp)(a:Act)(w:World),
 (∀j,rest[j]?=ops[k+j]?)->n_ E call n ops.toList rest F H=some (F',H')->fe I μ n F a.tmps->dm I μ H w->
 (∀a' I' μ' w',fe I' μ' n F' a'.tmps->a'.defers=a.defers->dm I' μ' H' w'->Step I μ H w I' μ' H' w'->Q .normal a' w')->
 wpOpsIn (fr ro) 0 P ops Q (List.range' k rest.length) a w:=by
 intro rest
 induction rest with
 |nil=>intro k I μ F H a w _ h r s C;simp only[n_,ζa,ζc]at h;obtain⟨rfl,rfl⟩:=h;exact C a I μ w r rfl s (.refl _ _ _ _)|cons o rest S=>
  intro k I μ F H a w u h r s C;simp only[n_]at h;split at h
  .rename_i F1 H1 z;have c:ops[k]?=some o:=by simpa using(u 0).symm
   simp only[length_cons,List.range'_succ,wpOpsIn,c];refine Ff U b z r s ro (λa' I' μ' w' d hd O D=>?_)
   refine S (k+1) I' μ' F1 H1 a' w' (λj=>by have:=u (j+1);simpa[add_assoc,Nat.add_comm 1 j]using this) h d O ?_
   intro a2 I2 T W G J L B;exact C a2 I2 T W G (J.trans hd) L (Step.trans O D B)
  simp at h
end
def qb(F F':WP)(op:Op):Prop:=∀x∈op.operands,ev F x=ev F' x
def tY{F F':WP}:∀{l:aZ UV},(∀x∈l,ev F x=ev F' x)->gj F l=gj F' l:=by intro l;induction l with|nil=>intro _;rfl|cons x l u=>simp[gj];grind
def BW{F F':WP}:∀{l:aZ (Nat×UV)},(∀x∈l,ev F x.2=ev F' x.2)->nZ F l=nZ F' l:=by intro l;induction l with|nil=>intro _;rfl|cons x l u=>intro h;simp[nZ];simp_all
def zK{F F':WP}{o:a_ UV}(h:∀x∈o.toArray,ev F x=ev F' x):lz F o=lz F' o:=by cases o with|none=>rfl|some x=>simp[lz];grind
def GM{E:Env}{F F':WP}{op:Op}(h:qb F F' op):bU E F op=bU E F' op:=by
 cases op with
 |move x=>exact h x (by simp[operands])|assign x=>exact h x (by simp[operands])|pick c a b=>simp[bU];rw[h c (by simp[operands]),h a (by simp[operands]),h b (by simp[operands])]|nilCheck x=>simp[bU];rw[h x (by simp[operands])]|binOp op t x y B=>simp[bU];rw[h x (by simp[operands]),h y (by simp[operands])]|unOp op t x=>simp[bU];rw[h x (by simp[operands])]|convert s d x=>simp[bU];rw[h x (by simp[operands])]|fieldAddr s x f=>simp[bU];rw[h x (by simp[operands])]|field s x f=>simp[bU];rw[h x (by simp[operands])]|indexAddr t x i=>simp[bU];rw[h x (by simp[operands]),h i (by simp[operands])]|index t x i=>simp[bU];rw[h x (by simp[operands]),h i (by simp[operands])]|slice t x lo hi C=>
  simp[bU];rw[h x (by simp[operands]),zK (λy u=>h y (by simp[operands]at u⊢;simp_all)),zK (λy u=>h y (by simp[operands]at u⊢;simp_all)),
   zK (λy u=>h y (by simp[operands]at u⊢;simp_all))]
 |build t ps=>simp[bU];rw[BW (λx w=>h x.2 (by simp[operands];grind))]|makeFunc f a b=>cases f with|func f=>simp[bU];rw[tY (λx w=>h x (by simp[operands];grind)),tY (λx w=>h x (by simp[operands];grind))]|_=>rfl
 |extract x i=>simp[bU];rw[h x (by simp[operands])]|call c=>have⟨callee,args,z⟩:=c;cases callee with|builtin b=>simp[bU];rw[tY (λx w=>h x (by simp[operands,Call.operands];grind))]|_=>rfl
 |_=>rfl
def zZ{E:Env}{F F':WP}{H:bp}{op:Op}(h:qb F F' op):eG E F H op=eG E F' H op:=by cases op with|load t x=>simp[eG];rw[h x (by simp[operands])]|lookup t m k ok=>simp[eG];rw[h m (by simp[operands]),h k (by simp[operands])]|_=>rfl
def zu{E:Env}{F F':WP}{op:Op}(h:qb F F' op):fH E F op=fH E F' op:=by cases op with|alloc t=>rfl|box t x=>simp[fH];rw[h x (by simp[operands])]|makeSlice t l c=>simp[fH];rw[h l (by simp[operands]),h c (by simp[operands])]|buildSlice t len ps=>simp[fH];rw[BW (λx u=>h x.2 (by simp[operands];grind))]|makeMap t r=>cases r<;>rfl|_=>rfl
def He{E:Env}{F F':WP}{H:bp}{op:Op}(h:qb F F' op):dB E F H op=dB E F' H op:=by
 cases op with
 |store t p x=>simp[dB];rw[h p (by simp[operands]),h x (by simp[operands])]|mapUpdate t m k x=>simp[dB];rw[h m (by simp[operands]),h k (by simp[operands]),h x (by simp[operands])]|insert t m k x=>simp[dB];rw[h m (by simp[operands]),h k (by simp[operands]),h x (by simp[operands])]|call c=>
  have⟨callee,args,u⟩:=c
  cases callee with
  |builtin b=>cases b with|append=>simp[dB];rw[tY (λx w=>h x (by simp[operands,Call.operands];grind))]|clear=>simp[dB];rw[tY (λx w=>h x (by simp[operands,Call.operands];grind))]|_=>rfl
  |_=>rfl
 |_=>rfl
def GY{F F':WP}{op:Op}(h:qb F F' op):kW F op=kW F' op:=by
 cases op with
 |call c=>have⟨callee,args,u⟩:=c;cases callee with|value f=>simp[kW];rw[h f (by simp[operands,Call.operands]),tY (λx w=>h x (by simp[operands,Call.operands];grind))]|_=>rfl
 |_=>rfl
def Ma{E:Env}{F F':WP}{op:Op}(h:qb F F' op):qW E F op=qW E F' op:=by unfold qW;rw[zu h]
def OP{F F':WP}{ops:R0}{i b:Nat}{H:bp}{op:Op}(h:qb F F' op):AF ops i b F H op=AF ops i b F' H op:=by
 have:rB F op=rB F' op:=by
  unfold rB;split;rename_i args _;split;rename_i x r u;rw[h x (by
   have:x∈args.toList:=by rw[u];simp
   simp only[operands,Call.operands,Array.mem_append];right;simpa using this)]
  rfl;rfl
 unfold AF;rw[this]
def L5{E:Env}{place:a_ (Nat×Nat)}{F F':WP}{H:bp}{op:Op}(h:qb F F' op):uL E F H place op=uL E F' H place op:=by
 unfold uL;rw[GM h];have:evalConv E F H op=evalConv E F' H op:=by unfold evalConv;split;rw[h _ (by simp[operands])];rfl
 rw[this]
def xy{E:Env}{b:Nat×Nat}{F:WP}{H:bp}{op:Op}:uL E F H (some b) op=bU E F op:=by unfold uL;split<;>simp_all
def FB{E:Env}{call:dQ}{ops:R0}{place:a_ (Nat×Nat)}{F F':WP}{H:bp}{op:Op}(h:qb F F' op)(B:∀b i,place=some (b,i)->tR ops i F=tR ops i F'/\qa ops i F op=qa ops i F' op):dN E call ops place F H op=dN E call ops place F' H op:=by
 unfold dN;rw[L5 h,zu h,He h,GY h,zZ (H:=H) h,Ma h];split<;>(try rfl)
 .split<;>(try rfl);rename_i i;rw[zZ h,(B _ i rfl).2]
 split<;>(try rfl);rename_i b i;rw[(B _ i rfl).1,OP h]
section
variable{E:Env}{call:dQ}{n:Nat}{ops:R0}{base:Nat}
def O4{o:Oper}{t:Nat}(h:.tmp t∈o.op.operands):t∈tmpsOf o ops:=by refine mem_append.2 (.inl (List.mem_filterMap.2 ⟨.tmp t,Zac,rfl⟩))
def Ia{F F':WP}{o:Oper}{dst:a_ Nat}{v:V}(hp:kX n F dst v=some F')(h:∀d,dst=some d->d∉tmpsOf o ops):qb F' F o.op:=by
 intro x w
 cases x with
 |tmp t=>cases dst with|none=>simp[kX]at hp;grind|some d=>simp only[kX]at hp;split at hp;simp at hp;subst hp;have u:d≠t:=λe=>h d rfl (by rw[e];exact O4 w);simp[ev];rw[kA _ _ u];grind
 |const v=>rfl|func f=>rfl|global g=>rfl
def DE{F F':WP}{o:Oper}{dst:a_ Nat}{v:V}(hp:kX n F dst v=some F')(h:∀d,dst=some d->d∉tmpsOf o ops):gO ops F' o=gO ops F o:=by unfold gO;cases a:o.guard with|none=>rfl|some g=>have⟨j,b⟩:=g;simp only;cases hd:(ops[j]?).bind (·.dst)with|none=>rfl|some t=>simp only;cases dst with|none=>simp[kX]at hp;grind|some d=>simp only[kX]at hp;split at hp;simp at hp;subst hp;have u:d≠t:=λe=>h d rfl (by unfold tmpsOf;grind);rw[kA _ _ u];grind
def Re{F F1 J:WP}{d G:a_ Nat}{u v:V}(a:kX n F d u=some F1)(B:kX n F1 G v=some J)(U:∀x,d=some x->G≠some x):
 ∃D,kX n F G v=some D/\kX n D d u=some J:=by
 cases d with
 |none=>simp[kX]at a;subst a;exact⟨J,B,rfl⟩|some x=>
  cases G with
  |none=>simp[kX]at B;subst B;exact⟨F,rfl,a⟩|some y=>
   simp only[kX]at a B⊢;split at a
   .rename_i w;split at B
    .simp at a B;subst a;subst B;have:x≠y:=λe=>U x rfl (by rw[e])
     exact⟨set F y v,Zac,by rw[if_pos w,Ku _ _ _ (Ne.symm this)]⟩
    grind
   grind
def zC{i k:Nat}{B ok:Oper}(h:dV ops i=true)(hi:ops[i]?=some B)(a:ops[k]?=some ok)(D:k≠i):dF ok.op=.pure\/(if k<i then before ops i k else before ops k i)=true\/(isApp B.op=true/\dF ok.op=.alloc/\i<k):=by unfold dV at h;grind
def yQ{H:bp}{j es:Nat}{ob:Ob}{x:V}{xs:S'}(B:H[j]?=some .free)(h:dY H es x=some xs):dY (H.set j ob) es x=some xs:=by
 unfold dY at h⊢;split at h<;>first|omega|skip
 rename_i id u off len;by_cases e:j=id;subst e;rw[B]at h;simp only[ζb,Ob.rows]at h;grind;grind
def SA{H H1:bp}{j:Nat}{ob:Ob}{x:V}(h:iK H x=some H1):H1.length=H.length/\(H1[j]?=some .free->H[j]?=some .free)/\(H[j]?=some .free->iK (H.set j ob) x=some (H1.set j ob)):=by unfold iK at h⊢;split at h;grind;grind;rename_i id a b c;split at h;rename_i d;cases h;refine⟨Zab,λh=>?_,λh=>?_⟩;grind;have e:id≠j:=λe=>Zac;rw[getElem?_set_ne (Ne.symm e),d];rw[set_comm _ _ e];simp_all;simp_all
def KM{H:bp}{o:Ob}{j:Nat}(B:o≠.free)(h:(H++[o])[j]?=some .free):j<H.length/\H[j]?=some .free:=by grind
def WL{F:WP}{H H1:bp}{op:Op}{v:V}{j:Nat}{ob:Ob}(J:isApp op=true)(h:dB E F H op=some (v,H1))(B:H1[j]?=some .free):H[j]?=some .free/\dB E F (H.set j ob) op=some (v,H1.set j ob):=by
 unfold isApp at J;split at J;simp only[dB]at h⊢;split at h;split at h;rename_i e _ w u;split at h;rename_i d hd;split at h;next D G=>obtain⟨rfl,rfl⟩:=h;refine⟨B,?_⟩;simp[w,u,hd,yQ B D,yQ B G]
 rename_i Q S L D G;split at h;obtain⟨H0,a,O⟩:=ζf.1 h;obtain⟨rfl,rfl⟩:=O;obtain⟨I,z⟩:=KM Zab B;obtain⟨g1,g2,g3⟩:=SA (ob:=ob) a;have C:=g2 z;simp[w,u,hd,yQ C D,yQ C G];grind;simp_all;simp_all;simp_all;rename_i e _ w u;split at h;rename_i d hd;unfold mkApp at h;split at h;split at h;obtain⟨rfl,rfl⟩:=h;simp only[w,u,hd,mkApp];grind;split at h;obtain⟨rfl,rfl⟩:=h;obtain⟨I,z⟩:=KM Zab B;simp only[u,mkApp];grind;simp_all;simp_all;simp_all;simp_all;simp_all;simp_all
def vQ{i:Nat}{F:WP}{H H':bp}{op:Op}{v:V}(h:dN E call ops (some (base,i)) F H op=some (v,H'))(U:dV ops i=false)(B:dF op≠.loud):
 (H'=H/\∀H2:bp,oC (H2.take base) (H.take base)->dN E call ops (some (base,i)) F H2 op=some (v,H2))\/
 (∃ob,H[base+i]?=some .free/\H'=H.set (base+i) ob/\∀H2:bp,H2[base+i]?=some .free->dN E call ops (some (base,i)) F H2 op=some (v,H2.set (base+i) ob))\/
 (∃T,jM (H.take base) T=true/\H'=cT H T/\∀H2:bp,oC (H2.take base) (H.take base)->dN E call ops (some (base,i)) F H2 op=some (v,cT H2 T)):=by
 unfold dN at h;split at h
 .rename_i J;simp at h;obtain⟨x,D,rfl,rfl⟩:=h;refine .inl ⟨rfl,λH2 _=>?_⟩
  rw[xy]at D;unfold dN;rw[J];simp only[xy,D,map_some]
 .rename_i B;simp only at h;split at h
  .rename_i L;split at h
   .rename_i x D;obtain⟨rfl,rfl⟩:=h;refine .inl ⟨rfl,λH2 u=>?_⟩
    unfold dN;rw[B];simp[Bf u,D,L]
   grind
  grind
 .split at h
  .have⟨x,D,e⟩:=ζf.1 h;obtain⟨rfl,rfl⟩:=e;refine .inl ⟨rfl,λH2 _=>?_⟩
   unfold dN;grind
  split at h
  .grind
  .rename_i ob m W X S O;obtain⟨rfl,rfl⟩:=O;split at h
   .rename_i w;obtain⟨rfl,rfl⟩:=h;refine .inr (.inl ⟨ob,w,rfl,λH2 u=>?_⟩)
    unfold dN;grind
   grind
  grind
 .grind
 rename_i B;split at h
 .rename_i f args G;split at h
  .grind
  rename_i z;simp only at h;split at h
  .rename_i y Q;split at h
   .rename_i C;obtain⟨rfl,rfl⟩:=h;refine .inl ⟨rfl,λH2 u=>?_⟩
    unfold dN;rw[B];simp[G];rw[if_neg z];simp[Cu u,Q,C]
   split at h
   .rename_i I;obtain⟨rfl,rfl⟩:=h;refine .inr (.inr ⟨_,I,rfl,λH2 u=>?_⟩)
    unfold dN;simp[G];simp[Cu u,Q,N4 u,w_ u,I]
    grind
   grind
  grind
 .grind
 grind
def Ih{i:Nat}:∀{r l:ST},Ea ops i r=some l->∀k∈r,∃a,Jh ops i k=some a/\∀s∈a,s∈l
 |[],l,h,k,c=>Zad|q::r,l,h,k,c=>by simp[Ea]at h;split at h;rename_i a b d B;simp at h;rcases mem_cons.1 c with rfl|c;grind;have⟨a',g1,g2⟩:=Ih B k c;grind;grind
def KI{i:Nat}:∀{r l:ST},Ea ops i r=some l->∀s∈l,s∉dstsOf ops
 |[],l,h,s,c=>by simp[Ea]at h;grind|q::r,l,h,s,c=>by simp[Ea]at h;split at h;rename_i a b d B;simp at h;subst h;rcases mem_append.1 c with c|c;unfold Jh at d;grind;exact KI B s c;grind
def Iz{i a:Nat}{l:ST}{B:Oper}(hi:ops[i]?=some B)(h:CB ops i=some (a,l)):(∃t x,B.op=.store t (.tmp a) x)/\a∉dstsOf ops/\(∀s∈l,s∉dstsOf ops)/\
 ∀k ok,ops[k]?=some ok->k≠i->dF ok.op=.pure\/(if k<i then before ops i k else before ops k i)=true\/∃D a',ok.op=.load D (.tmp a')/\(a'∈l\/a'∈dstsOf ops):=by
 unfold CB at h;rw[hi]at h;simp at h;split at h
 .rename_i t a0 x w;simp at w;split at h
  .simp_all
  have⟨G,z,e⟩:=ζf.1 h;obtain⟨rfl,rfl⟩:=e;refine⟨⟨t,x,w⟩,Zac,KI z,λk ok d C=>?_⟩
  have⟨b,c,I⟩:=Ih z k (List.mem_range.2 (ζe.1 d).1);unfold Jh at c;rw[d]at c;simp only at c;split at c
  .rename_i u;simp at u;rcases u with(u|u)|u
   .grind
   .grind
   exact .inr (.inl u)
  split at c
  .grind
  grind
 grind
def Jw{F F':WP}{dst:a_ Nat}{v:V}{s:Nat}(hp:kX n F dst v=some F')(h:∀d,dst=some d->s≠d):get F' s=get F s:=by unfold kX at hp;split at hp;grind;rename_i d;split at hp;simp at hp;subst hp;exact kA _ _ (Ne.symm (h d rfl));grind
def JC{k d:Nat}{ok:Oper}(a:ops[k]?=some ok)(hd:ok.dst=some d):d∈dstsOf ops:=List.mem_filterMap.2 ⟨ok,mem_of_getElem? a,hd⟩
def Ht{F F':WP}{k i:Nat}{ok B:Oper}{v:V}(b:ops[k]?=some ok)(hi:ops[i]?=some B)(hp:kX n F ok.dst v=some F'):tR ops i F'=tR ops i F:=by unfold tR;cases u:CB ops i with|none=>rfl|some w=>have⟨a,l⟩:=w;have⟨_,C,D,_⟩:=Iz hi u;have c:∀s,s∉dstsOf ops->get F' s=get F s:=λs z=>Jw hp λd hd e=>z (e▸JC b hd);grind
def RP{i k a a':Nat}{t:W'}{x:UV}{B:Oper}(hi:ops[i]?=some B)(e1:B.op=.store t (.tmp a) x)(b:a'∈dstsOf ops)(D:a∉dstsOf ops)(G:yC ops i k=false):a∈rm ops k a':=by unfold rm;grind
def AI{k a' s:Nat}(h:s∈rm ops k a'):s∉dstsOf ops/\∃i B t x,ops[i]?=some B/\B.op=.store t (.tmp s) x/\yC ops i k=false:=by unfold rm at h;grind
def IK{F F':WP}{k i:Nat}{ok:Oper}{op:Op}{v:V}(b:ops[k]?=some ok)(hp:kX n F ok.dst v=some F')(B:qb F' F op):qa ops i F' op=qa ops i F op:=by
 have a:∀s,s∉dstsOf ops->get F' s=get F s:=λs h=>Jw hp λd hd e=>h (e▸JC b hd);unfold qa;split;rename_i t u;have w:=by have:=B (.tmp u) (by simp[operands]);simpa[ev]using this
 rw[w,Bool.eq_iff_iff];simp;exact⟨λh s B=>by rw[<-a s (AI B).1];grind,λh s B=>by rw[a s (AI B).1];grind⟩;rfl
def EP{k a':Nat}{ok:Oper}{t:W'}(a:ops[k]?=some ok)(e:ok.op=.load t (.tmp a'))(h:dV ops k=true):rm ops k a'=[]:=by refine List.eq_nil_iff_forall_not_mem.2 λs w=>?_;have⟨_,i,C,D,x,b,z,B⟩:=AI w;have u:i≠k:=λe2=>Zac;rcases zC h a b u with g|g|g;rw[z]at g;cases g;unfold yC at B;grind;rw[e]at g;exact absurd g.1 (by simp[isApp])
def L7{F:WP}{H H':bp}{t:W'}{a:Nat}{x:UV}{id el off:Nat}{u:V}(B:get F a=.hptr id el off)(h:dB E F H (.store t (.tmp a) x)=some (u,H')):∃r,H'=H.set id r:=by simp only[dB,ev]at h;split at h;grind;grind
def OS{F:WP}{H:bp}{t:W'}{a id b:Nat}{r:Ob}(B:sV id (get F a)=true):eG E F ((H.set id r).take b) (.load t (.tmp a))=eG E F (H.take b) (.load t (.tmp a)):=by
 have:∀m,eU ((H.set id r).take b) (get F a) m=eU (H.take b) (get F a) m:=λm=>by unfold sV at B;split at B;rename_i u el off c;rw[c];simp[eU];grind;(next cs c=>rw[c];rfl);grind
 unfold eG;simp[ev];grind
def LI{k i:Nat}{ok G:Oper}(f:ops[k]?=some ok)(hi:ops[i]?=some G)(W:k≠i)(J:(if k<i then before ops i k else before ops k i)=false)(lk:dV ops k=false)(g:dF ok.op≠.pure)(j:dF G.op=.loud)(m:dV ops i=false)(Y:isApp G.op=false)
 {F:WP}{H0 H1 H2 d U:bp}{u v:V}(D:dN E call ops (some (base,i)) F d G.op=some (u,U))(B:dN E call ops (some (base,k)) F H0 ok.op=some (v,H1)):
 H1=H0/\∃id,(∀(H:bp)(r:Ob),eG E F ((H.set id r).take base) ok.op=eG E F (H.take base) ok.op)/\(∃r,U=d.set id r)/\dF ok.op=.read/\eG E F (H0.take base) ok.op=some v/\qa ops k F ok.op=true:=by
 unfold dN at D;rw[j]at D;simp only[m,Bool.false_or,show∀F b H,AF ops i b F H G.op=false fromλF b H=>by unfold AF;rw[Y];simp,Bool.or_false]at D
 split at D
 .rename_i C;unfold tR at C;split at C
  .rename_i a l L;split at C
   .rename_i id el off hg;have⟨⟨t,x,I⟩,T,p,X⟩:=Iz hi L;rcases X k ok f W with h|h|⟨q,S,w,c⟩
    .exact absurd h g
    .rw[J]at h;cases h
    unfold dN at B;rw[w]at B;simp only[dF]at B;split at B
    rotate_left
    .simp at B
    rename_i z;have O:sV id (get F S)=true:=by rcases c with c|c;exact all_eq_true.1 C S c;have Q:yC ops i k=false:=(by unfold yC;by_cases e:k<i;rw[if_pos e]at J⊢;exact J;rw[if_neg e]at J⊢;exact J);have Z:=RP hi I c T Q;unfold qa at z;simp only[all_eq_true]at z;have:=z a Z;rw[hg]at this;exact this
    rw[I]at D;have⟨r,n⟩:=L7 hg D;split at B
    next s o=>simp only[ζa,ζc]at B;obtain⟨rfl,rfl⟩:=B;refine⟨rfl,id,λH r=>by rw[w];exact OS O,⟨r,n⟩,by rw[w];rfl,by rw[w];exact o,by rw[w];exact z⟩
    rw[lk]at B;simp at B
   simp at C
  simp at C
 simp at D
def FN{place:Nat×Nat}{F:WP}{H H':bp}{op:Op}{v:V}(B:dF op=.pure\/dF op=.alloc/\tw E ops (some place)=true)(h:dN E call ops (some place) F H op=some (v,H')):
 H'=H/\∀H2:bp,dN E call ops (some place) F H2 op=some (v,H2):=by
 rcases B with B|⟨B,u⟩
 rotate_left
 .unfold dN at h;rw[B]at h;simp only[u]at h;have⟨x,w,e⟩:=ζf.1 h;obtain⟨rfl,rfl⟩:=e;refine⟨rfl,λH2=>?_⟩
  unfold dN;grind
 unfold dN at h;rw[B]at h;simp at h;obtain⟨x,w,rfl,rfl⟩:=h;refine⟨rfl,λH2=>?_⟩
 rw[xy]at w;unfold dN;rw[B];simp only[xy,w,map_some]
def take_set_of_le{H:bp}{b k:Nat}{x:Ob}(h:b<=k):(H.set k x).take b=H.take b:=List.take_set_of_le h
def apart_spec{a b:Oper}(h:Aq ops a b=true):(∀d,a.dst=some d->d∉tmpsOf b ops/\b.dst≠some d)/\(∀d,b.dst=some d->d∉tmpsOf a ops):=by unfold Aq at h;grind
def Fy{i k:Nat}{ok:Oper}(h:za ops i=true)(a:ops[k]?=some ok)(B:k≠i)(D:yC ops i k=false):dF ok.op=.pure\/dF ok.op=.read\/dF ok.op=.alloc/\(CV ops k=true\/i<k):=by unfold za at h;split at h;simp only[ζh,all_eq_true,List.mem_range]at h;have:=h.2 k (ζe.1 a).1;rw[a]at this;simp only[Bool.or_eq_true,beq_iff_eq,ζh,decide_eq_true_eq,D,false_eq_true,or_false]at this;rcases this with((h|h)|h)|h;exact absurd h B;exact .inl h;exact .inr (.inl h);exact .inr (.inr h);cases h
def B4{op:Op}(h:isApp op=true):dF op=.loud:=by unfold isApp at h;split at h;rfl;cases h
def Ko{F:WP}{H H1:bp}{op:Op}{v:V}{b:Nat}(D:isApp op=true)(B:rB F op=true)(G:b<=H.length)(h:dB E F H op=some (v,H1)):H1.take b=H.take b:=by
 unfold isApp at D;split at D;rotate_left;cases D;rename_i args z;simp only[dB]at h;split at h;rotate_left;cases h;rename_i t L s x C u;have I:s=.dX\/s=.bM:=by simp only[rB]at B;split at B;rename_i y r J;rw[J]at u;have c:ev F y=some s:=(by simp only[gj]at u;split at u;(next a b c w=>simp only[ζa,List.cons.injEq]at u;rw[c,u.1]);cases u);rw[c]at B;cases s<;>simp at B<;>simp;cases B
 have d:∀H2,iK H s=some H2->H2=H:=λH2 h=>by rcases I with rfl|rfl<;>(simp only[iK,ζa]at h;exact h.symm)
 split at h;split at h;split at h;simp only[ζa,ζc]at h;rw[h.2];split at h;have⟨H0,c,w⟩:=ζf.1 h;simp only[ζc]at w;rw[<-w.2,d H0 c,List.take_append_of_le_length G];cases h;cases h;cases h;split at h;unfold mkApp at h;split at h;split at h;simp only[ζa,ζc]at h;rw[h.2];split at h;simp only[ζa,ζc]at h;rw[<-h.2,List.take_append_of_le_length G];cases h;cases h;cases h;cases h
def GL{i:Nat}{F:WP}{H H':bp}{op:Op}{u:V}(B:isApp op=true)(D:dV ops i=false)(hi:(ops[i]?).map Oper.op=some op)(h:dN E call ops (some (base,i)) F H op=some (u,H')):
 za ops i=true/\rB F op=true/\base<=H.length/\dB E F H op=some (u,H'):=by
 unfold dN at h;rw[B4 B]at h;have w:tR ops i F=false:=by unfold tR CB;rw[hi];unfold isApp at B;split at B;rfl;cases B
 simp only[D,w,Bool.false_or]at h;split at h
 next a=>unfold AF at a;simp only[ζh,decide_eq_true_eq]at a;exact⟨a.1,a.2.1.2,a.2.2,h⟩
 cases h
def Ro{i:Nat}{F:WP}{H H':bp}{op:Op}{u:V}(B:isApp op=true)(h:dB E F H op=some (u,H'))(a:dV ops i=true\/za ops i=true/\rB F op=true/\base<=H.length):dN E call ops (some (base,i)) F H op=some (u,H'):=by
 unfold dN;rw[B4 B];rcases a with a|⟨b,w,z⟩;simp only[a,Bool.true_or,if_true,h];have:AF ops i base F H op=true:=by unfold AF;simp[b,B,w,z]
 simp only[this,Bool.or_true,if_true,h]
def Gi{i:Nat}{F:WP}{H H':bp}{op:Op}{v:V}(B:dF op=.read)(D:dV ops i=false)(h:dN E call ops (some (base,i)) F H op=some (v,H')):
 H'=H/\∀H2:bp,oC (H2.take base) (H.take base)->dN E call ops (some (base,i)) F H2 op=some (v,H2):=by
 unfold dN at h;rw[B]at h;simp only at h;split at h
 .rename_i u;split at h
  .rename_i x w;simp only[ζa,ζc]at h;obtain⟨rfl,rfl⟩:=h;refine⟨rfl,λH2 z=>?_⟩
   unfold dN;rw[B];simp only[Bf z,w,u,if_true]
  rw[D]at h;simp at h
 simp at h
def swap{k i:Nat}{ok D:Oper}(p:ops[k]?=some ok)(hi:ops[i]?=some D)(V:k<i)(U:before ops i k=false)(J:Aq ops ok D=true){F F1 R:WP}{H H1 H2:bp}
 (s:iu E call n ops (some (base,k)) ok F H=some (F1,H1))(l:iu E call n ops (some (base,i)) D F1 H1=some (R,H2)):
 ∃G B,iu E call n ops (some (base,i)) D F H=some (G,B)/\iu E call n ops (some (base,k)) ok G B=some (R,H2):=by
 have⟨a1,a2⟩:=apart_spec J;have ad:∃v,kX n F ok.dst v=some F1/\((gO ops F ok=true/\dN E call ops (some (base,k)) F H ok.op=some (v,H1))\/(gO ops F ok=false/\v=.undef/\H1=H)):=by unfold iu at s;split at s;rename_i y;split at s;(next v H' hd=>simp only[ζf,ζc]at s;obtain⟨Fx,hp,rfl,rfl⟩:=s;exact⟨v,hp,.inl ⟨y,hd⟩⟩);simp at s;rename_i y;simp only[ζf,ζc]at s;obtain⟨Fx,hp,rfl,rfl⟩:=s;exact⟨_,hp,.inr ⟨by simpa using y,rfl,rfl⟩⟩
 have ae:∃v,kX n F1 D.dst v=some R/\((gO ops F1 D=true/\dN E call ops (some (base,i)) F1 H1 D.op=some (v,H2))\/(gO ops F1 D=false/\v=.undef/\H2=H1)):=by unfold iu at l;split at l;rename_i y;split at l;(next v H' hd=>simp only[ζf,ζc]at l;obtain⟨Fx,hp,rfl,rfl⟩:=l;exact⟨v,hp,.inl ⟨y,hd⟩⟩);simp at l;rename_i y;simp only[ζf,ζc]at l;obtain⟨Fx,hp,rfl,rfl⟩:=l;exact⟨_,hp,.inr ⟨by simpa using y,rfl,rfl⟩⟩
 have⟨v,Q,jy⟩:=ad;have⟨u,av,af⟩:=ae;have aw:gO ops F1 D=gO ops F D:=DE Q λd hd=>(a1 d hd).1
 have an:qb F1 F D.op:=Ia Q λd hd=>(a1 d hd).1
 have ax:∀(b j:Nat),(some (base,i):a_ (Nat×Nat))=some (b,j)->tR ops j F1=tR ops j F/\qa ops j F1 D.op=qa ops j F D.op:=λb j e=>by cases e;exact⟨Ht p hi Q,IK p Q an⟩
 rw[aw,FB an ax]at af;have⟨G,O,ao⟩:=Re Q av λx hx=>(a1 x hx).2
 have ay:gO ops G ok=gO ops F ok:=DE O λd hd=>a2 d hd
 have ap:qb G F ok.op:=Ia O λd hd=>a2 d hd
 have aA:∀(b j:Nat),(some (base,k):a_ (Nat×Nat))=some (b,j)->tR ops j G=tR ops j F/\qa ops j G ok.op=qa ops j F ok.op:=λb j e=>by cases e;exact⟨Ht hi p O,IK hi O ap⟩
 have fin:∀B,((gO ops F D=true/\dN E call ops (some (base,i)) F H D.op=some (u,B))\/(gO ops F D=false/\u=.undef/\B=H))->
  ((gO ops F ok=true/\dN E call ops (some (base,k)) F B ok.op=some (v,H2))\/(gO ops F ok=false/\v=.undef/\H2=B))->
  ∃G B,iu E call n ops (some (base,i)) D F H=some (G,B)/\iu E call n ops (some (base,k)) ok G B=some (R,H2):=by
  intro B e1 e2;refine⟨G,B,?_,?_⟩
  .unfold iu;rcases e1 with⟨A,x2⟩|⟨A,x2,x3⟩
   .rw[if_pos A,x2];simp[O]
   rw[if_neg (by simp[A])];subst x2;subst x3;simp[O]
  unfold iu;rw[ay];rcases e2 with⟨A,x2⟩|⟨A,x2,x3⟩
  .rw[if_pos A,FB ap aA,x2];simp[ao]
  rw[if_neg (by simp[A])];subst x2;subst x3;simp[ao]
 rcases jy with⟨z,g⟩|⟨z,rfl,rfl⟩
 .rcases af with⟨w,f⟩|⟨w,rfl,rfl⟩
  .by_cases pk:dF ok.op=.pure\/dF ok.op=.alloc/\tw E ops (some (base,k))=true
   .obtain⟨rfl,q⟩:=FN pk g;exact fin H2 (.inl ⟨w,f⟩) (.inl ⟨z,q H2⟩)
   by_cases P:dF D.op=.pure\/dF D.op=.alloc/\tw E ops (some (base,i))=true
   .obtain⟨rfl,q⟩:=FN P f;exact fin H (.inl ⟨w,q H⟩) (.inl ⟨z,g⟩)
   by_cases J:isApp ok.op=true/\dF D.op=.alloc
   .
    have⟨J,ah⟩:=J;have aB:=B4 J;have ai:(dV ops k=true\/za ops k=true/\rB F ok.op=true/\base<=H.length)/\dB E F H ok.op=some (v,H1):=by cases N:dV ops k with|true=>refine⟨.inl rfl,?_⟩;unfold dN at g;rw[aB]at g;simpa only[N,Bool.true_or,if_true]using g|false=>have⟨a,b,c,d⟩:=GL J N (by rw[p];rfl) g;exact⟨.inr ⟨a,b,c⟩,d⟩
    have⟨ai,e1⟩:=ai;have aq:tw E ops (some (base,i))=false:=by cases hc:tw E ops (some (base,i))with|false=>rfl|true=>exact absurd (.inr ⟨ah,hc⟩) P
    have e2:∃ob m,fH E F D.op=some (ob,m)/\H1[base+i]?=some .free/\u=m.val (base+i)/\H2=H1.set (base+i) ob:=by unfold dN at f;rw[ah]at f;simp only[aq,false_eq_true,if_false]at f;split at f;(next aj=>cases aj);rename_i ob m b' i' ak aj;cases aj;split at f;(next C=>simp only[ζa,ζc]at f;exact⟨ob,m,ak,C,f.1.symm,f.2.symm⟩);cases f;cases f
    obtain⟨ob,m,ak,C,rfl,rfl⟩:=e2;have⟨f0,f1⟩:=WL (ob:=ob) J e1 C;refine fin (H.set (base+i) ob) (.inl ⟨w,?_⟩) (.inl ⟨z,?_⟩)
    .unfold dN;rw[ah];simp only[aq,false_eq_true,if_false,ak,f0]
    exact Ro J f1 (ai.imp id λ⟨a,b,c⟩=>⟨a,b,by rw[length_set];exact c⟩)
   have lk:dV ops k=false:=by cases N:dV ops k with|false=>rfl|true=>rcases zC N p hi Zaa with h|h|h;exact absurd (.inl h) P;rw[if_neg Zaa]at h;rw[U]at h;cases h;exact absurd ⟨h.1,h.2.1⟩ J
   have K:dV ops i=false:=by cases N:dV ops i with|false=>rfl|true=>rcases zC N hi p Zaa with h|h|h;exact absurd (.inl h) pk;rw[if_pos V]at h;rw[U]at h;cases h;exact absurd h.2.2 Zaa
   by_cases al:isApp D.op=true
   .have⟨g1,g2,g3,g4⟩:=GL al K (by rw[hi];rfl) f
    rcases Fy g1 p Zaa (by unfold yC;rw[if_pos V];exact U)with h|h|⟨h,l⟩
    .exact absurd (.inl h) pk
    .obtain⟨rfl,q⟩:=Gi h lk g;exact fin H2 (.inl ⟨w,f⟩) (.inl ⟨z,q H2 (oC.of_eq (Ko al g2 g3 g4))⟩)
    rcases l with l|l
    .exact absurd (.inr ⟨h,show(CV ops k||VN E ops k)=true by rw[l];rfl⟩) pk
    omega
   by_cases Y:isApp ok.op=true
   .have⟨g1,g2,g3,g4⟩:=GL Y lk (by rw[p];rfl) g
    rcases Fy g1 hi Zaa (by unfold yC;rw[if_neg Zaa];exact U)with h|h|⟨h,l⟩
    .exact absurd (.inl h) P
    .obtain⟨rfl,q⟩:=Gi h K f;exact fin H (.inl ⟨w,q H (oC.of_eq (Ko Y g2 g3 g4).symm)⟩) (.inl ⟨z,g⟩)
    exact absurd ⟨Y,h⟩ J
   by_cases I:dF D.op=.loud
   .obtain⟨rfl,id,q1,⟨r,hr⟩,q3,q4,q5⟩:=LI (H2:=H2) p hi Zaa (by rw[if_pos V];exact U) lk (λh=>pk (.inl h)) I K (by simpa using al) f g
    refine fin H2 (.inl ⟨w,f⟩) (.inl ⟨z,?_⟩);unfold dN;rw[q3];subst hr;simp only[q1,q4,q5,if_true]
   by_cases aa:dF ok.op=.loud
   .obtain⟨rfl,id,q1,⟨r,hr⟩,q3,q4,q5⟩:=LI (H2:=H2) hi p Zaa (by rw[if_neg Zaa];exact U) K (λh=>P (.inl h)) aa lk (by simpa using Y) g f
    refine fin H (.inl ⟨w,?_⟩) (.inl ⟨z,g⟩);unfold dN;rw[q3];subst hr;rw[q1]at q4;simp only[q4,q5,if_true]
   have tk:∀(X:bp)(k:Nat)(o:Ob),oC ((X.set (base+k) o).take base) (X.take base):=λX k o=>oC.of_eq (take_set_of_le Zaa)
   rcases vQ g lk aa with⟨rfl,t⟩|⟨ob,fk,rfl,t⟩|⟨T,tr,rfl,t⟩
   .rcases vQ f K I with⟨rfl,L⟩|⟨Z,fi,rfl,L⟩|⟨M,S,rfl,L⟩
    .exact fin H2 (.inl ⟨w,f⟩) (.inl ⟨z,g⟩)
    .exact fin _ (.inl ⟨w,f⟩) (.inl ⟨z,t _ (tk _ _ _)⟩)
    exact fin _ (.inl ⟨w,f⟩) (.inl ⟨z,t _ ((s9 S).take base)⟩)
   .rcases vQ f K I with⟨rfl,L⟩|⟨Z,fi,rfl,L⟩|⟨M,S,rfl,L⟩
    .refine fin H (.inl ⟨w,L H (tk _ _ _).symm⟩) (.inl ⟨z,g⟩)
    .have am:H[base+i]?=some .free:=by rw[getElem?_set_ne Zaa]at fi;exact fi
     refine fin (H.set (base+i) Z) (.inl ⟨w,L H am⟩) (.inl ⟨z,?_⟩);rw[t _ (by rw[getElem?_set_ne Zaa];exact fk)]
     rw[set_comm _ _ Zaa]
    have W:jM (H.take base) M=true:=by rw[<-w_ (tk H k ob)];exact S
    have ar:base+k∉M:=λhm=>absurd (BH W hm) Zaa
    refine fin (cT H M) (.inl ⟨w,L H (tk _ _ _).symm⟩) (.inl ⟨z,?_⟩);rw[t _ (by rw[jC,fk];simp[ar]),Gj ar]
   rcases vQ f K I with⟨rfl,L⟩|⟨Z,fi,rfl,L⟩|⟨M,S,rfl,L⟩
   .refine fin H (.inl ⟨w,L H ((s9 tr).take base).symm⟩) (.inl ⟨z,g⟩)
   .have au:base+i∉T:=λhm=>absurd (BH tr hm) Zaa
    have am:H[base+i]?=some .free:=by rw[jC]at fi;have⟨o,ho,hf⟩:=ζf.1 fi;rw[if_neg au]at hf;rw[ho,hf]
    refine fin (H.set (base+i) Z) (.inl ⟨w,L H am⟩) (.inl ⟨z,?_⟩);rw[t _ (tk _ _ _),Gj au]
   have W:jM (H.take base) M=true:=by rw[<-w_ ((s9 tr).take base)];exact S
   refine fin (cT H M) (.inl ⟨w,L H ((s9 tr).take base).symm⟩) (.inl ⟨z,?_⟩);rw[t _ ((s9 W).take base),MD]
  exact fin H (.inr ⟨w,rfl,rfl⟩) (.inl ⟨z,g⟩)
 rcases af with⟨w,f⟩|⟨w,rfl,rfl⟩
 .exact fin H2 (.inl ⟨w,f⟩) (.inr ⟨z,rfl,rfl⟩)
 exact fin _ (.inr ⟨w,rfl,rfl⟩) (.inr ⟨z,rfl,rfl⟩)
def Ms(h:yg ops=true){k i:Nat}{ok B:Oper}(a:ops[k]?=some ok)(hi:ops[i]?=some B)(D:k<i):G4 B k=true\/Aq ops ok B=true:=by unfold yg at h;simp at h;grind
def TM(hd:yg ops=true){i:Nat}{B:Oper}(hi:ops[i]?=some B):∀(l r:ST),(∀k∈l,k<i/\G4 B k=false/\before ops i k=false)->∀{F F':WP}{H H':bp},
 lu E call n ops base (l++i::r) F H=some (F',H')->lu E call n ops base (i::(l++r)) F H=some (F',H'):=by
 intro l
 induction l with
 |nil=>grind|cons k l D=>
  intro r C F F' H H' h;have⟨u,G,w⟩:=C k Zab
  simp[lu]at h;split at h
  .rename_i ok hk;split at h
   .rename_i F1 H1 h1;have:=D r (λx I=>C x (mem_cons_of_mem _ I)) h
    simp[lu,hi]at this;split at this
    .rename_i Q H2 J;have z:Aq ops ok B=true:=by
      rcases Ms hd hk hi u with h|h
      .grind
      omega
     have⟨L,O,g1,g2⟩:=swap hk hi u w z h1 J;simp[lu,hi,g1,hk,g2];simp_all
    grind
   grind
  grind
inductive Reach(ops:List Oper):Nat->Nat->Prop
 |one(i k:Nat)(o:Oper)(e:Edge)(hi:ops[i]?=some o)(he:e∈o.after)(hb:mR e=true)(hk:e.on=k):Reach ops i k|more(i j k:Nat)(o:Oper)(e:Edge)(hi:ops[i]?=some o)(he:e∈o.after)(hb:mR e=true)(hk:e.on=j)(h:Reach ops j k):Reach ops i k
def Gg:∀(B l:ST)(k:Nat),k∈B.foldl (λl k=>if l.contains k then l else k::l) l->k∈B\/k∈l
 |[],_,_,h=>.inr h|x::B,l,k,h=>by rcases Gg B _ k h with h|h;grind;grind
def Ox{a:aZ ST}{o:Oper}{k:Nat}(h:k∈KZ a o):∃e∈o.after,mR e=true/\(k=e.on\/∃S,a[e.on]?=some S/\k∈S):=by
 have key:∀(es:aZ Edge)(l:ST),k∈es.foldl (λl e=>(e.on::(a[e.on]?).getD []).foldl (λl k=>if l.contains k then l else k::l) l) l->k∈l\/∃e∈es,k=e.on\/∃S,a[e.on]?=some S/\k∈S:=by intro es;induction es with|nil=>grind|cons e es w=>intro l h;rcases w _ h with h|⟨z,b,u⟩;rcases Gg _ _ _ h with h|h;refine .inr ⟨e,Zab,?_⟩;rcases mem_cons.1 h with h|h;grind;(cases c:a[e.on]?with|none=>rw[c]at h;simp at h|some S=>grind);grind;exact .inr ⟨z,mem_cons_of_mem _ b,u⟩
 rcases key _ _ h with h|⟨e,b,u⟩;simp at h;grind
def Ag(ops:R0):∀(l:R0)(a:aZ ST)(pre:R0),ops=pre++l->a.length=pre.length->(∀(i:Nat)S,a[i]?=some S->∀k∈S,Reach ops i k)->
 ∀(i:Nat)S,(l.foldl (λa o=>a++[KZ a o]) a)[i]?=some S->∀k∈S,Reach ops i k
 |[],_,_,_,_,h=>h|o::l,a,pre,D,G,h=>by refine Ag ops l _ (pre++[o]) Zad Zad ?_;intro i S c k b;by_cases hi:i<a.length;grind;rw[List.getElem?_append_right Zaa]at c;have B:i=a.length:=(by grind);subst B;simp at c;subst c;have u:ops[a.length]?=some o:=Zac;have⟨e,w,z,b⟩:=Ox b;rcases b with b|⟨S,c,b⟩;exact .one _ _ o e u w z b.symm;exact .more _ e.on _ o e u w z rfl (h _ S c k b)
def Kw{i k:Nat}(h:before ops i k=true):Reach ops i k:=by unfold before at h;cases a:(JG ops)[i]?with|none=>grind|some S=>exact Ag ops ops [] [] rfl rfl Zab i S a k Zac
end
section
variable{P:Program}{E:Env}{I I':cG}{μ μ':Mu}{H H':bp}{n B:Nat}{F F':WP}{a:Act}{w w':World}
def Hx(e:Edge):Region.binds .any e=mR e:=by unfold Region.binds mR;grind
def todo(ops:Array Oper)(a:Array X'):ST:=(range ops.size).filter λi=> !a.getD i true
def zF(ops:Array Oper)(a:Array X'):(todo ops a).Pairwise (·<·):=List.pairwise_lt_range.filter _
def S6{ops:Array Oper}{a:Array X'}{i:Nat}(G:a.size=ops.size)(hi:i<ops.size){B D:ST}(h:todo ops a=B++i::D):
 todo ops (a.setIfInBounds i true)=B++D:=by
 have I:∀j∈range ops.size,(!(a.setIfInBounds i true).getD j true)=((!a.getD j true)&&(j != i)):=by intro j _;by_cases e:j=i;simp_all;have:(a.setIfInBounds i true).getD j true=a.getD j true:=(by simp[Array.getElem?_setIfInBounds_ne (Ne.symm e)]);grind
 have:todo ops (a.setIfInBounds i true)=(todo ops a).filter (· != i):=by unfold todo;rw[List.filter_filter];grind
 rw[this,h];have u:=zF ops a;rw[h]at u;rw[List.pairwise_append]at u;have⟨_,z,C⟩:=u;rw[List.pairwise_cons]at z;rw[List.filter_append,List.filter_cons];simp;rw[List.filter_eq_self.2 (λx w=>by have:=C x w i Zab;simp;omega),List.filter_eq_self.2 (λx w=>Zac)]
def Down(ops:Array Oper)(a:Array X'):Prop:=∀j o,a.getD j false=true->ops[j]?=some o->∀e∈o.after,mR e=true->a.getD e.on false=true
def OY{ops:Array Oper}{a:Array X'}(hd:Down ops a){i k:Nat}(h:Reach ops.toList i k)(hi:∀o,ops[i]?=some o->∀e∈o.after,mR e=true->a.getD e.on false=true):a.getD k false=true:=by induction h with|one i k o e B w z hk=>grind|more i j k o e B w z hk _ C=>subst hk;exact C λD u=>hd _ _ (hi o Zac e w z) u
def HF(hE:fq P E){call:dQ}(hc:mG P call){ops:Array Oper}(hd:yg ops.toList=true)(p:By ops.toList=true)(ro:a_ Nat){Q:Exit->Act->World->Prop}(base:Nat):
 ∀(D:Nat)(b:Array X')(I:cG)(μ:Mu)(F:WP)(H:bp)(a:Act)(w:World),b.size=ops.size->Down ops b->(todo ops b).length=D->
 lu E call n ops.toList base (todo ops b) F H=some (F',H')->fe I μ n F a.tmps->dm I μ H w->
 (∀a' I' μ' w',fe I' μ' n F' a'.tmps->a'.defers=a.defers->dm I' μ' H' w'->Step I μ H w I' μ' H' w'->Q .normal a' w')->
 wpAnyIn (fr ro) 0 P .any ops Q D b a w:=by
 intro D
 induction D with
 |zero=>
  intro b I μ F H a w O L c h r s q;have S:todo ops b=[]:=List.eq_nil_of_length_eq_zero c;rw[S]at h;obtain⟨rfl,rfl⟩:=h;refine⟨?_,q a I μ w r rfl s (.refl _ _ _ _)⟩;unfold Region.ready;rw[List.filter_eq_nil_iff];intro i hi;have:i∉todo ops b:=Zac
  unfold todo at this
  grind
 |succ D ih=>
  intro b I μ F H a w O L c h r s q;have W:∀i,i∈Region.ready .any ops b->i<ops.size/\i∈todo ops b/\∃o,ops[i]?=some o/\∀e∈o.after,mR e=true->b.getD e.on false=true:=by intro i hi;unfold Region.ready at hi;rw[mem_filter]at hi;have⟨t,h2⟩:=hi;simp only[ζh]at h2;have G:i<ops.size:=Zac;refine⟨G,by unfold todo;grind,ops[i],Zad,?_⟩;have K:(ops[i].after.all λe=> !Region.binds .any e||b.getD e.on false)=true:=(by grind);rw[Array.all_eq_true_iff_forall_mem]at K;intro e U X;have:=K e U;rw[Hx,X]at this;grind
  refine⟨?_,?_⟩
  .
   intro S
   cases Y:todo ops b with
   |nil=>rw[Y]at c;simp at c|cons Z rest=>
    have z:Z∈todo ops b:=by rw[Y];simp
    have f:=zF ops b;rw[Y,List.pairwise_cons]at f;unfold todo at z;rw[mem_filter]at z;have G:Z<ops.size:=by simpa using z.1
    have:Z∈Region.ready .any ops b:=by unfold Region.ready;rw[mem_filter];refine⟨z.1,?_⟩;simp only[ζh];refine⟨z.2,?_⟩;have e0:ops[Z]?=some ops[Z]:=(by simp[G]);rw[e0];simp only[map_some,getD_some];rw[Array.all_eq_true_iff_forall_mem];intro e U;rw[Hx];cases am:mR e with|false=>simp|true=>simp only[Bool.not_true];have an:e.on<Z:=(by unfold By at p;simp only[all_eq_true]at p;have:=p Z (by simpa using G);have e1:ops.toList[Z]?=some ops[Z]:=(by simp[G]);rw[e1]at this;simp only[Array.all_eq_true_iff_forall_mem]at this;have:=this e U;rw[am]at this;simpa using this);cases ao:b.getD e.on false with|true=>rfl|false=>exfalso;have M:e.on∈todo ops b:=(by unfold todo;rw[mem_filter];refine⟨by simp;omega,?_⟩;have aj:e.on<b.size:=Zaa;have:b.getD e.on true=b.getD e.on false:=(by simp[aj]);rw[this,ao];rfl);rw[Y]at M;rcases mem_cons.1 M with h|h;omega;have:=f.1 _ h;omega
    rw[S]at this;simp at this
  intro i hi;have⟨G,z,o,g,C⟩:=W i hi;have⟨N,l2,u⟩:=List.append_of_mem z;have J:=zF ops b;rw[u,List.pairwise_append]at J;have aa:∀k∈N,k<i/\G4 o k=false/\before ops.toList i k=false:=by intro k v;have ap:b.getD k false=false:=(by have B:k∈todo ops b:=(by rw[u];simp[v]);unfold todo at B;rw[mem_filter]at B;have x:k<b.size:=(by rw[O];simpa using B.1);have:b.getD k true=b.getD k false:=(by simp[x]);rw[this]at B;simpa using B.2);refine⟨J.2.2 k v i Zab,?_,?_⟩;rotate_left;(cases aq:before ops.toList i k with|false=>rfl|true=>have:=OY L (Kw aq) (λo' l=>by rw[g]at l;cases l;exact C);rw[ap]at this;cases this);cases U:G4 o k with|false=>rfl|true=>exfalso;unfold G4 at U;rw[Array.any_eq_true]at U;have⟨ix,ar,m⟩:=U;have R:o.after[ix]∈o.after:=Array.getElem_mem ar;generalize o.after[ix]=e at R m;simp only[ζh,beq_iff_eq]at m;have t:=C e R m.2;rw[m.1]at t;have B:k∈todo ops b:=(by rw[u];simp[v]);unfold todo at B;rw[mem_filter]at B;have x:k<b.size:=(by rw[O];simpa using B.1);have:b.getD k true=b.getD k false:=(by simp[x]);rw[this,t]at B;simp at B
  rw[u]at h;have d:=TM hd (by simpa using g) N l2 aa h
  simp only[lu]at d;have l:ops.toList[i]?=some o:=by simpa using g
  rw[l]at d;simp only at d;split at d
  .rename_i F1 H1 af;unfold wpOpIn;rw[g];simp only;refine Ff hE hc af r s ro (λa' I' μ' w' hr au f av=>?_)
   have V:=S6 O G u;refine ih (b.setIfInBounds i true) I' μ' F1 H1 a' w' (by simpa using O) ?_ ?_ (by rw[V];exact d) hr f ?_
   .have T:∀j,b.getD j false=true->(b.setIfInBounds i true).getD j false=true:=by
     intro j y
     by_cases e:i=j
     .subst e;simp[O,G]
     simpa[getD_eq_getD_getElem?,Array.getElem?_setIfInBounds_ne e]using y
    intro j oj y A e U X
    by_cases e':i=j
    .subst e';rw[g]at A;cases A;exact T _ (C e U X)
    refine T _ (L j oj ?_ A e U X);simpa[getD_eq_getD_getElem?,Array.getElem?_setIfInBounds_ne e']using y
   .rw[V];rw[u]at c;simp at c⊢;omega
   intro a2 I2 μ2 w2 aw ax ay al;exact q a2 I2 μ2 w2 aw (ax.trans au) ay (Step.trans f av al)
  simp at d
def dm.Jm(s:dm I μ H w)(k:Nat):dm I μ (H++replicate k .free) w:=by
 have u:∀id ob,(H++replicate k Ob.free)[id]?=some ob->H[id]?=some ob\/(ob=.free/\H.length<=id):=by grind
 refine⟨λid h=>s.dom id Zac,s.imm,?_,?_,s.gl⟩;intro id ob h;rcases u id ob h with h|⟨rfl,z⟩;exact s.obs id ob h;exact s.dom id z;intro id B ob C p J a z D G;rcases u id ob a with a|⟨rfl,_⟩;rcases u B C z with z|⟨rfl,_⟩;exact s.inj id B ob C p J a z D G;simp[Ob.live]at G;simp[Ob.live]at D
def MF(k:Nat)(b:Nat):je μ (H++replicate k .free) b↔je μ H b:=by constructor;rintro⟨id,p,ob,h1,u,w,z⟩;by_cases B:id<H.length;rw[getElem?_append_left B]at h1;exact⟨id,p,ob,h1,u,w,z⟩;rw[List.getElem?_append_right Zaa,List.getElem?_replicate]at h1;split at h1;simp at h1;subst h1;simp[Ob.live]at u;grind;rintro⟨id,p,ob,h1,u,w,z⟩;exact⟨id,p,ob,Zac,u,w,z⟩
def Step.Jm(k:Nat):Step I μ H w I μ (H++replicate k .free) w:=⟨cG.le_refl _,Mu.le_refl _,Zab,le_refl _,λ_ _ _=>rfl,λb h=>h.elim .inl λh=>.inr (.inl ((MF k b).1 h)),rfl,.refl _,λ_ _ h=>h⟩
def Lg(D:fq P E)(U:P.follows .mixedOrders=true){call:dQ}(b:mG P call){id:Nat}{ops:Array Oper}{B:X'}(ro:a_ Nat){Q:Exit->Act->World->Prop}
 (h:kK E call n ops.toList B F H=some (F',H'))(r:fe I μ n F a.tmps)(s:dm I μ H w)
 (G:∀a' I' μ' w',fe I' μ' n F' a'.tmps->a'.defers=a.defers->dm I' μ' H' w'->Step I μ H w I' μ' H' w'->Q .normal a' w'):
 (Code.region id ops B).wpIn (fr ro) 0 P Q a w:=by
 unfold kK at h
 cases B with
 |false=>refine wpIn_region ?_;rw[List.range_eq_range',<-length_toList];exact RE D b ro ops.toList 0 I μ F H a w Zab h r s G|true=>
  simp only[if_true]at h;split at h
  .rename_i u;simp at u;refine wpIn_region_draw λt=>?_
   simp[Region.schedule,U];have s0:dm I μ H {w with drawn:=w.drawn+1}:=s.qO rfl;have st0:Step I μ H w I μ H {w with drawn:=w.drawn+1}:=Step.qO rfl rfl ⟨rfl,rfl,le_succ _⟩;have z:todo ops (Array.replicate ops.size false)=range ops.toList.length:=by unfold todo;simp_all
   have C:Down ops (Array.replicate ops.size false):=by intro j o S;simp[Array.getElem?_replicate]at S;grind
   refine wpAnyIn_sound ops.size t _ a _ ?_;split at h
   .refine HF D b u.1 u.2 ro H.length ops.size _ I μ F (H++replicate ops.toList.length .free) a _ Zab C Zac (by rw[z];omega) r (s0.Jm _) ?_
    intro a' I' μ' w' c J L O;exact G a' I' μ' w' c J L (Step.trans s0 st0 (Step.trans (s0.Jm _) (Step.Jm _) O))
   refine HF D b u.1 u.2 ro H.length ops.size _ I μ F H a _ Zab C Zac (by rw[z];omega) r s0 ?_
   intro a' I' μ' w' c J L O;exact G a' I' μ' w' c J L (Step.trans s0 st0 O)
  grind
end
end Go.VE
