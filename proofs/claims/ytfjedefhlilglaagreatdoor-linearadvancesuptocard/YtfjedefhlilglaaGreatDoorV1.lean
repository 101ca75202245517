/-
 The engine: operations of the loaded code on values without a heap; a run of it is a run of the program.
-/
import Derived.RangeFuncLeaves
import Derived.Sort.Defs
import Derived.Lib.BitFns
import Derived.Laws.Sem
import Derived.Laws.World
import Derived.Laws.Append
import Derived.Laws.BytesString
import Derived.OrdersIn
set_option linter.all false
open BitVec(ofInt)
open Go.IntKind(i64 signed wrap)
open Go.Op(bytesLess equal equalIn intArith intBits intCmp operands)
open List(all_eq_true append_assoc drop_drop drop_take eq_of_mem_replicate finRange flatten_append flatten_cons getElem?_append_left getElem?_cons_zero getElem?_drop getElem?_set_ne getElem?_set_self getElem?_take length length_cons length_set length_take mem_append mem_cons mem_cons_of_mem mem_cons_self mem_filter mem_flatten mem_map mem_of_getElem? mem_of_mem_drop mem_of_mem_take range replicate set_comm take take_append_drop take_take)
open Array(ext' getD_eq_getD_getElem? getElem?_eq_none length_toList)
open Go.Instr(checkKey fieldAt fill findAsking findKey findNow indexAt loadAt sameBits sameNow sliceAt sliceBound sliceBounds storeAt sureAddr)
open Go.Sem(run_bind run_ite run_pure)
open Go.Result(andThen andThen_ok)
open Bool(false_eq_true)
open Option(getD_some isSome_iff_exists map_some)
open Nat(add_assoc add_mul add_zero eq_zero_or_pos le_refl le_succ le_trans min_eq_left mod_lt mul_le_mul mul_le_mul_right one_mul zero_add zero_le zero_mul)
open Go.Builtin(append_ cap_ clear_ firstCells lenOf len_ max2 max_ min2 min_ nextslicecap zeroCells)
open Go.World(cell? frozen?)
open Go.Question(appendCap forced)
namespace Go.VE
abbrev UV:=Operand
abbrev U':=ByteArray
abbrev V':=Value
abbrev W':=TypeId
abbrev X':=Bool
abbrev Y':=FuncId
def Zaa{p:Prop}(h:p:=by omega):p:=h
def Zab{p:Prop}(h:p:=by simp):p:=h
def Zac{p:Prop}(h:p:=by grind):p:=h
def Zad{p:Prop}(h:p:=by simp_all):p:=h
def ζa{α:Type _}(a b:α):(some a=some b)=(a=b):=Option.some.injEq a b
def ζb{α β:Type _}(a:α)(f:α->Option β):(some a).bind f=f a:=rfl
def ζc{α β:Type _}(a:α)(b:β)(c:α)(d:β):((a,b)=(c,d))=(a=c/\b=d):=Prod.mk.injEq a b c d
def ζd{α:Type _}{l:List α}{i:Nat}(h:i<l.length):l[i]?=some l[i]:=List.getElem?_eq_getElem h
def ζe{α:Type _}{l:List α}{i:Nat}{a:α}:l[i]?=some a↔∃h:i<l.length,l[i]=a:=List.getElem?_eq_some_iff
def ζf{α β:Type _}{b:β}{x:Option α}{f:α->β}:x.map f=some b↔∃a,x=some a/\f a=b:=Option.map_eq_some_iff
def ζg{α β:Type _}{b:β}{x:Option α}{f:α->Option β}:x.bind f=some b↔∃a,x=some a/\f a=some b:=Option.bind_eq_some_iff
def ζh(a b:X'):((a&&b)=true)=(a=true/\b=true):=Bool.and_eq_true a b
def ζi{α:Type _}{a b:List α}:(a++b).length=a.length+b.length:=List.length_append
abbrev aZ:=@List
abbrev R':=aZ Oper
abbrev ST:=aZ Int
abbrev S':=aZ Nat
abbrev a_:=@Option
abbrev QQ:=a_ Int
inductive V where
 |bool(b:Bool)|int(k:IntKind)(n:Int)|str(s:ByteArray)|dU|bO|fsl(es:Nat)(xs:List (List V))|hsl(id es off len:Nat)|iR|fptr(cs:List V)|hptr(id el off:Nat)|clo(f:FuncId)(first cap:List V)|yld(id:Nat)|gM|tE|fmap(kvs:List (V×V))|hmap(id:Nat)|agg(cs:List V)|tup(vs:List V)
 deriving Inhabited
abbrev T2:=aZ V
abbrev T':=aZ (aZ V)
def V.undef:V:=.tup []
def V.one:V->X'
 |.agg _|.tup _=>false|_=>true
def V.cells:V->T2
 |.agg cs=>cs|v=>[v]
mutual
def V.scalar:V->X'
 |.bool _|.int ..|.str _|.iR|.gM|.tE|.dU|.bO=>true|.agg cs=>V.c8 cs|.tup cs=>V.c8 cs|_=>false
def V.c8:T2->X'
 |[]=>true|v::r=>V.scalar v&&V.c8 r
end
mutual
def V.closed:V->X'
 |.hsl ..|.hptr ..|.yld ..|.hmap ..=>false|.clo _ a b=>V.mg a&&V.mg b|.agg cs=>V.mg cs|.tup cs=>V.mg cs|_=>true
def V.mg:T2->X'
 |[]=>true|v::r=>V.closed v&&V.mg r
end
inductive TK where
 |bool|int (k:IntKind)|str|ptr (e:TypeId)|slice (e:TypeId)|struct(fs:List (Nat×TypeId))|array (n:Nat) (e:TypeId)|map (k e:TypeId)|other
 deriving Inhabited
structure TD where
 size:Nat
 bytes:Nat
 zero:List V
 kind:TK
 deriving Inhabited
def TD.agg(d:TD):X':=match d.kind with|.struct _|.array _ _=>true|_=>false
abbrev Frame:=aZ V
abbrev WP:=Frame
def get:WP->Nat->V
 |[],_=>.undef|x::_,0=>x|_::r,i+1=>get r i
def set:WP->Nat->V->WP
 |[],0,v=>[v]|[],i+1,v=>.undef::set [] i v|_::r,0,v=>v::r|x::r,i+1,v=>x::set r i v
inductive Dp where
 |ready|busy|done
inductive Out where
 |norm|exit(id:Nat)|ret
 deriving DecidableEq,Inhabited
structure xB where
 st:Dp
 pend:Option Out
 frame:Frame
 nt:Nat
 params:List Nat
 assign:Code
 body:Code
inductive Ob where
 |free|dead|row(es:Nat)(xs:List (List V))|frz(es:Nat)(xs:List (List V))|map(kvs:List (V×V))|loop(r:xB)
def Ob.rows:Ob->a_ (Nat×T')
 |.row es xs|.frz es xs=>some (es,xs)|_=>none
abbrev bp:=aZ Ob
structure FI where
 ntmps:Nat
 results:List ResultVar
 body:Code
structure Env where
 tt:TypeId->Option TD
 ft:FuncId->Option FI
 keep:FuncId->Bool
 own:FuncId->Bool
 eqN:TypeId->Option Nat
 sort:FuncId->Bool
 known:FuncId->List V->Option V:=λ_ _=>none
def Env.kindOf(E:Env)(t:W'):a_ TK:=(E.tt t).map TD.kind
def ofValue:Nat->V'->a_ V
 |0,_=>none|n+1,v=>
  match v with
  |.bool b=>some (.bool b)|.int k n=>some (.int k n)|.string s=>some (.str s)|.pointer none=>some .iR|.slice none 0 0=>some .bO|.map none=>some .gM|.nilFunc=>some .tE|.agg cs=>(cs.toList.mapM (ofValue n)).map .agg|_=>none
class b8 where
 gl:Nat->Option (List V)
 sc:∀g cs,gl g=some cs->∃(k:IntKind)(l:List Int),cs=l.map (V.int k)
variable[b8]
def ev(F:WP):UV->a_ V
 |.tmp t=>some (get F t)|.const v=>ofValue 4 v|.func f=>some (.clo f [] [])|.global g=>(b8.gl g).map .fptr
def fU(F:WP):aZ UV->a_ T2
 |[]=>some []|x::r=>match ev F x,fU F r with
  |some v,some vs=>some (v::vs)|_,_=>none
def mk(agg:X')(cs:T2):a_ V:=if agg then some (.agg cs)else match cs with|[v]=>some v|_=>none
def cut(cs:T2)(off n:Nat):a_ T2:=
 let r:=(cs.drop off).take n
 if r.length=n then some r else none
def i_:T2->a_ ST
 |[]=>some []|.int .i64 a::r=>(i_ r).map (a::·)|_=>none
def lX(az B:T2):a_ X':=
 match i_ az,i_ B with
 |some a,some b=>if a.length=b.length then some (a==b)else none|_,_=>none
def o8(op:BinOp)(x y:Int):a_ X':=
 match op with
 |.eql=>some (x==y)|.neq=>some (x != y)|.lss=>some (decide (x<y))|.leq=>some (decide (x<=y))|.gtr=>some (decide (x>y))|.geq=>some (decide (x>=y))|_=>none
def wD(k:TK)(x y:V):a_ X':=
 match k,x,y with
 |.slice _,.bO,.bO=>some true|.slice _,.fsl ..,.bO=>some false|.slice _,.hsl ..,.bO=>some false|.ptr _,.iR,.iR=>some true|.ptr _,.fptr _,.iR=>some false|.ptr _,.hptr ..,.iR=>some false|.map ..,.gM,.gM=>some true|.map ..,.fmap _,.gM=>some false|.map ..,.hmap _,.gM=>some false|_,_,_=>none
def Li(E:Env)(op:BinOp)(t:W')(x y:V):a_ V:=
 match x,y with
 |.int k a,.int u b=>
  match op with
  |.shl=>if b<0 then none else some (.int k (k.wrap (a*2 ^ (min b.toNat k.bits))))|.shr=>if b<0 then none else some (.int k (a.fdiv (2 ^ (min b.toNat k.bits))))|_=>if k=u then
   match op with
   |.add=>some (.int k (k.wrap (a+b)))|.sub=>some (.int k (k.wrap (a-b)))|.mul=>some (.int k (k.wrap (a*b)))|.quo=>if b=0 then none else some (.int k (k.wrap (a.tdiv b)))|.rem=>if b=0 then none else some (.int k (a.tmod b))|.and=>some (.int k (k.wrap (ofInt k.bits a &&& ofInt k.bits b).toNat))|.or=>some (.int k (k.wrap (ofInt k.bits a ||| ofInt k.bits b).toNat))|.xor=>some (.int k (k.wrap (ofInt k.bits a ^^^ ofInt k.bits b).toNat))|.andNot=>some (.int k (k.wrap (ofInt k.bits a &&& ~~~ ofInt k.bits b).toNat))|op=>(o8 op a b).map .bool
   else none
 |.str a,.str b=>
  match op with
  |.add=>if((a.size+b.size:Nat):Int)>i64.max then none else some (.str (a++b))|.eql=>some (.bool (a.toList==b.toList))|.neq=>some (.bool !(a.toList==b.toList))|.lss=>some (.bool (bytesLess a.toList b.toList))|.leq=>some (.bool (bytesLess a.toList b.toList||a.toList==b.toList))|.gtr=>some (.bool !(bytesLess a.toList b.toList||a.toList==b.toList))|.geq=>some (.bool !(bytesLess a.toList b.toList))|_=>none
 |.bool a,.bool b=>
  match E.kindOf t,op with
  |some .bool,.eql=>some (.bool (a==b))|some .bool,.neq=>some (.bool !(a==b))|_,_=>none
 |.agg a,.agg b=>
  match E.eqN t,op with
  |some n,.eql=>if a.length=n then(lX a b).map .bool else none|some n,.neq=>if a.length=n then(lX a b).map (λt=>.bool !t)else none|_,_=>none
 |x,y=>
  match E.kindOf t,op with
  |some k,.eql=>(wD k x y).map .bool|some k,.neq=>(wD k x y).map λt=>.bool !t|_,_=>none
def vN(place:Nat->a_ (Nat×Nat))(cells:T2):aZ (Nat×V)->a_ T2
 |[]=>some cells|(i,v)::rest=>
  match place i with
  |none=>none|some (off,size)=>
   if v.cells.length≠size||off+v.cells.length>cells.length then none
   else vN place (cells.take off++v.cells++cells.drop (off+v.cells.length)) rest
def nv(F:WP):aZ (Nat×UV)->a_ (aZ (Nat×V))
 |[]=>some []|(i,x)::r=>match ev F x,nv F r with
  |some v,some vs=>some ((i,v)::vs)|_,_=>none
def oG(E:Env):aZ (Nat×W')->a_ (aZ (Nat×Nat))
 |[]=>some []|(off,t)::r=>match E.tt t,oG E r with
  |some d,some ps=>some ((off,d.size)::ps)|_,_=>none
def kG(F:WP):a_ UV->a_ QQ
 |none=>some none|some x=>match ev F x with
  |some (.int _ n)=>some (some n)|_=>none
def eu(len:Nat)(lo hi:QQ):a_ (Nat×Nat):=
 let h:=hi.getD len
 let l:=lo.getD 0
 if 0<=h/\h<=len/\0<=l/\l<=h then some (l.toNat,h.toNat)else none
def Eb(a b:Int):Int:=if b>a then b else a
def bV(E:Env)(F:WP)(op:Op):a_ V:=
 match op with
 |.move x|.assign x=>ev F x|.pick c a b=>match ev F c with
  |some (.bool t)=>if t then ev F a else ev F b|_=>none
 |.nilCheck x=>match ev F x with
  |some (.hptr id el off)=>some (.hptr id el off)|some (.fptr cs)=>some (.fptr cs)|some (.clo f a b)=>some (.clo f a b)|_=>none
 |.binOp op t x y _=>match ev F x,ev F y with
  |some a,some b=>Li E op t a b|_,_=>none
 |.unOp op _ x=>match op,ev F x with
  |.not,some (.bool b)=>some (.bool !b)|.neg,some (.int k n)=>some (.int k (k.wrap (0-n)))|_,_=>none
 |.convert s d x=>match E.tt s,E.tt d,ev F x with
  |some _,some C,some (.int _ n)=>match C.kind with
   |.int k=>some (.int k (k.wrap n))|_=>none
  |_,_,_=>none
 |.fieldAddr s x f=>match E.kindOf s,ev F x with
  |some (.struct fs),some p=>match fs[f]?with
   |some (off,t)=>match E.tt t with
    |some d=>if d.size=0 then none else match p with
     |.fptr cs=>if off<=cs.length then some (.fptr (cs.drop off))else none|.hptr id el o=>some (.hptr id el (o+off))|_=>none
    |none=>none
   |none=>none
  |_,_=>none
 |.field s x f=>match E.kindOf s,ev F x with
  |some (.struct fs),some (.agg cs)=>match fs[f]?with
   |some (off,t)=>match E.tt t with
    |some d=>(cut cs off d.size).bind (mk d.agg)|none=>none
   |none=>none
  |_,_=>none
 |.indexAddr t x i=>match E.kindOf t,ev F x,ev F i with
  |some (.slice e),some s,some (.int _ n)=>match E.tt e with
   |some d=>if n<0 then none else match s with
    |.fsl es u=>if es=d.size then(u[n.toNat]?).map .fptr else none|.hsl id es off len=>if es=d.size/\n.toNat<len then some (.hptr id (off+n.toNat) 0)else none|_=>none
   |none=>none
  |some (.array len e),some p,some (.int _ n)=>match E.tt e with
   |some d=>if 0<=n/\n<len then match p with
    |.fptr cs=>if n.toNat*d.size<=cs.length then some (.fptr (cs.drop (n.toNat*d.size)))else none|.hptr id el o=>some (.hptr id el (o+n.toNat*d.size))|_=>none
    else none
   |none=>none
  |_,_,_=>none
 |.index t x i=>match E.kindOf t,ev F x,ev F i with
  |some .str,some (.str s),some (.int _ n)=>if 0<=n then(s[n.toNat]?).map (λb=>.int .u8 b.toNat)else none|some (.array len e),some (.agg cs),some (.int _ n)=>match E.tt e with
   |some d=>if 0<=n/\n<len then(cut cs (n.toNat*d.size) d.size).bind (mk d.agg)else none|none=>none
  |_,_,_=>none
 |.slice t x lo hi D=>match E.kindOf t,ev F x,kG F lo,kG F hi,kG F D with
  |some .str,some (.str s),some l,some h,some none=>(eu s.size l h).map λ(l,h)=>.str (s.extract l h)|some (.slice e),some v,some l,some h,some none=>match E.tt e with
   |some d=>match v with
    |.fsl es u=>if es=d.size then(eu u.length l h).map λ(l,h)=>.fsl es ((u.take h).drop l)else none|.hsl id es off len=>if es=d.size then(eu len l h).map λ(l,h)=>.hsl id es (off+l) (h-l)else none|.dU=>(eu 0 l h).map λ_=>.dU|.bO=>(eu 0 l h).map λ_=>.bO|_=>none
   |none=>none
  |some (.slice e),some v,some none,some (some 0),some (some 0)=>match E.tt e,v with
   |some _,.fsl ..|some _,.hsl ..|some _,.dU|some _,.bO=>some .dU|_,_=>none
  |_,_,_,_,_=>none
 |.build t ps=>match E.tt t,nv F ps.toList with
  |some d,some w=>match d.kind with
   |.struct fs=>match oG E fs with
    |some pl=>(vN (λi=>pl[i]?) d.zero w).map .agg|none=>none
   |.array _ e=>match E.tt e with
    |some B=>(vN (λi=>some (i*B.size,B.size)) d.zero w).map .agg|none=>none
   |_=>none
  |_,_=>none
 |.makeFunc (.func f) a b=>match fU F a.toList,fU F b.toList with
  |some a,some b=>some (.clo f a b)|_,_=>none
 |.extract x i=>match ev F x with
  |some (.tup w)=>w[i]?|_=>none
 |.call {callee:=.builtin b,args,argTypes}=>match b,fU F args.toList,argTypes[0]?with
  |.len,some [v],some t=>match E.kindOf t,v with
   |some .str,.str s=>some (.int .i64 s.size)|some (.slice _),.fsl _ u=>some (.int .i64 u.length)|some (.slice _),.hsl _ _ _ len=>some (.int .i64 len)|some (.slice _),.dU=>some (.int .i64 0)|some (.slice _),.bO=>some (.int .i64 0)|_,_=>none
  |.cap,some [v],some t=>match E.kindOf t,v with
   |some (.slice _),.bO=>some (.int .i64 0)|some (.slice _),.dU=>some (.int .i64 0)|_,_=>none
  |.max,some [.int k a,.int z b],_=>if k=z then some (.int k (if b>a then b else a))else none|.max,some [.int k a,.int k1 b,.int k2 c,.int k3 d],_=>if k=k1/\k=k2/\k=k3 then some (.int k (Eb (Eb (Eb a b) c) d))else none|.min,some [.int k a,.int z b],_=>if k=z then some (.int k (if b<a then b else a))else none|_,_,_=>none
 |_=>none
def eO(H:bp)(p:V)(n:Nat):a_ T2:=
 match p with
 |.fptr cs=>cut cs 0 n|.hptr id el off=>match(H[id]?).bind Ob.rows with
  |some (_,u)=>match u[el]?with
   |some cs=>cut cs off n|none=>none
  |none=>none
 |_=>none
def yM:V->V->a_ X'
 |.int k a,.int B b=>if k=B then some (a==b)else none|.str a,.str b=>some (a==b)|.agg a,.agg b=>lX a b|_,_=>none
def iT(k:V):aZ (V×V)->Nat->a_ (a_ (Nat×V))
 |[],_=>some none|(B,v)::r,i=>match yM k B with
  |some true=>some (some (i,v))|some false=>iT k r (i+1)|none=>none
def Cn(E:Env)(t:W')(k:V):X':=
 match E.kindOf t,k with
 |some (.int k),.int u _=>k==u|some .str,.str _=>true|some _,.agg cs=>match E.eqN t with|some n=>cs.length==n&&(i_ cs).isSome|none=>false
 |_,_=>false
def nJ(H:bp):V->a_ (aZ (V×V))
 |.gM=>some []|.fmap B=>some B|.hmap id=>match H[id]?with
  |some (.map B)=>some B|_=>none
 |_=>none
def ez(E:Env)(F:WP)(H:bp)(op:Op):a_ V:=
 match op with
 |.load t a=>match E.tt t,ev F a with
  |some d,some p=>(eO H p d.size).bind (mk d.agg)|_,_=>none
 |.lookup t m k ok=>match E.kindOf t,ev F m,ev F k with
  |some (.map w B),some m,some k=>match E.tt B,nJ H m with
   |some d,some u=>if Cn E w k then match iT k u 0,mk d.agg d.zero with
    |some (some (_,v)),_=>some (if ok then .tup [v,.bool true]else v)|some none,some z=>some (if ok then .tup [z,.bool false]else z)|_,_=>none
    else none
   |_,_=>none
  |_,_,_=>none
 |_=>none
inductive Mk where
 |ptr|sl (es len:Nat)|map
def Mk.val(id:Nat):Mk->V
 |.ptr=>.hptr id 0 0|.sl es len=>.hsl id es 0 len|.map=>.hmap id
def fS(es:Nat)(xs:T'):aZ (Nat×V)->a_ T'
 |[]=>some xs|(i,v)::r=>if v.cells.length=es/\i<xs.length/\v.cells.all V.one=true then fS es (xs.set i v.cells) r else none
def fF(E:Env)(F:WP)(op:Op):a_ (Ob×Mk):=
 match op with
 |.alloc t=>(E.tt t).map λd=>(.row d.size [d.zero],.ptr)|.box _ x=>match ev F x with
  |some v=>if v.cells.all V.one then some (.row v.cells.length [v.cells],.ptr)else none|none=>none
 |.makeSlice t l c=>match E.kindOf t,ev F l,ev F c with
  |some (.slice e),some (.int k n),some (.int u m)=>match E.tt e with
   |some d=>if k=.i64/\u=.i64/\0<=n/\n<=m/\m<=2147483648/\d.bytes<=4096 then some (.row d.size (replicate m.toNat d.zero),.sl d.size n.toNat)else none|none=>none
  |_,_,_=>none
 |.buildSlice t len ps=>match E.kindOf t,nv F ps.toList with
  |some (.slice e),some w=>match E.tt e with
   |some d=>if len*d.size<=16777216 then(fS d.size (replicate len d.zero) w).map λz=>(.row d.size z,.sl d.size len)else none|none=>none
  |_,_=>none
 |.makeMap _ none=>some (.map [],.map)|_=>none
def qH(E:Env)(F:WP)(op:Op):a_ V:=
 match fF E F op with
 |some (.row es u,.sl w n)=>if w=es/\n=u.length/\(u.all λx=>x.all V.scalar)=true then match op with
  |.buildSlice ..=>if u.isEmpty then(if es != 0 then some .dU else none)else some (.fsl es u)|_=>some (.fsl es u)
  else none
 |_=>none
def dQ(H:bp)(es:Nat):V->a_ T'
 |.dU=>some []|.bO=>some []|.fsl B xs=>if B=es then some xs else none|.hsl id B off len=>if B=es then match(H[id]?).bind Ob.rows with
  |some (_,xs)=>if off+len<=xs.length then some ((xs.drop off).take len)else none|none=>none
  else none
 |_=>none
def qY(k v:V)(B:aZ (V×V)):a_ (aZ (V×V)):=
 match iT k B 0 with
 |some (some (j,_))=>some (B.set j (k,v))|some none=>some (B++[(k,v)])|none=>none
def iG(H:bp):V->a_ bp
 |.dU=>some H|.bO=>some H|.hsl id _ _ _=>match H[id]?with
  |some (.row _ _)=>some (H.set id .dead)|_=>none
 |_=>none
def mkApp(H:bp)(size bytes:Nat)(zero:T2)(s x:V):a_ (V×bp):=
 match s,x with
 |.bO,.int _ n=>if n=0 then some (.bO,H)else if 0<n/\n<=2147483648/\bytes<=4096/\0<bytes then some (.hsl H.length size 0 n.toNat,H++[.row size (replicate n.toNat zero)])else none|_,_=>none
def EH(H:bp)(size:Nat)(zero:T2):V->a_ (V×bp)
 |.bO|.dU=>some (.undef,H)|.hsl id es off len=>if es=size then match len with
  |0=>some (.undef,H)|len+1=>match H[id]?with
   |some (.row B xs)=>if off+(len+1)<=xs.length then some (.undef,H.set id (.row B (xs.take off++replicate (len+1) zero++xs.drop (off+(len+1)))))else none|_=>none
  else none
 |_=>none
def dz(E:Env)(F:WP)(H:bp)(op:Op):a_ (V×bp):=
 match op with
 |.store t a x=>match E.tt t,ev F a,ev F x with
  |some d,some (.hptr id el off),some v=>match H[id]?with
   |some (.row es w)=>match w[el]?with
    |some cs=>if v.cells.length=d.size/\off+d.size<=cs.length/\v.cells.all V.one=true then
     some (.undef,H.set id (.row es (w.set el (cs.take off++v.cells++cs.drop (off+v.cells.length)))))else none
    |none=>none
   |_=>none
  |_,_,_=>none
 |.mapUpdate t m k x|.insert t m k x=>match E.kindOf t,ev F m,ev F k,ev F x with
  |some (.map B _),some (.hmap id),some k,some v=>match H[id]?with
   |some (.map u)=>if Cn E B k then(qY k v u).map λu=>(.undef,H.set id (.map u))else none|_=>none
  |_,_,_,_=>none
 |.call {callee:=.builtin .append,args,argTypes}=>match argTypes.toList,fU F args.toList with
  |[t,C],some [s,x]=>match E.kindOf t,E.kindOf C with
   |some (.slice e),some (.slice _)=>match E.tt e with
    |some d=>match dQ H d.size s,dQ H d.size x with
     |some _,some []=>some (s,H)|some w,some z=>
      if w.length+z.length<=2147483648/\d.bytes<=4096/\0<d.bytes then
       (iG H s).map λH1=>(.hsl H.length d.size 0 (w.length+z.length),H1++[.row d.size (w++z)])
      else none
     |_,_=>none
    |none=>none
   |some (.slice e),some (.int _)=>match E.tt e with
    |some d=>mkApp H d.size d.bytes d.zero s x|none=>none
   |_,_=>none
  |_,_=>none
 |.call {callee:=.builtin .clear,args,argTypes}=>match argTypes[0]?,fU F args.toList with
  |some t,some [v]=>match E.kindOf t with
   |some (.slice e)=>match E.tt e with
    |some d=>EH H d.size d.zero v|none=>none
   |_=>none
  |_,_=>none
 |_=>none
def mE:T'->a_ ST
 |[]=>some []|[.int .u8 n]::r=>(mE r).map (n::·)|_=>none
def nG(l:ST):U':=l.foldl (λr n=>r.push (UInt8.ofNat n.toNat)) ByteArray.empty
def evalConv(E:Env)(F:WP)(H:bp)(op:Op):a_ V:=
 match op with
 |.convert s d x=>match E.kindOf s,E.kindOf d,ev F x with
  |some (.slice e),some .str,some v=>match E.kindOf e with
   |some (.int .u8)=>(dQ H 1 v).bind λu=>(mE u).map λl=>.str (nG l)|_=>none
  |_,_,_=>none
 |_=>none
def uF(E:Env)(F:WP)(H:bp)(place:a_ (Nat×Nat))(op:Op):a_ V:=
 match bV E F op with
 |some v=>some v|none=>match place with
  |none=>evalConv E F H op|some _=>none
inductive Callee where
 |fn(f:FuncId)|yld(id:Nat)
def kP(F:WP)(op:Op):a_ (Callee×T2):=
 match op with
 |.call {callee:=.value f,args,..}=>match ev F f,fU F args.toList with
  |some (.clo g a b),some u=>some (.fn g,a++u++b)|some (.yld id),some u=>some (.yld id,u)|_,_=>none
 |_=>none
inductive Wl where
 |pure|read|alloc|loud|call
 deriving DecidableEq
def dF:Op->Wl
 |.load ..|.lookup ..=>.read|.alloc ..|.box ..|.makeSlice ..|.buildSlice ..|.makeMap ..=>.alloc|.store ..|.mapUpdate ..|.insert ..=>.loud|.call {callee:=.builtin .append,..}=>.loud|.call {callee:=.builtin .clear,..}=>.loud|.call {callee:=.value _,..}=>.call|_=>.pure
def je(f:V->a_ V):T2->a_ T2
 |[]=>some []|x::r=>match f x,je f r with
  |some y,some s=>some (y::s)|_,_=>none
def mO(f:V->a_ V):T'->a_ T'
 |[]=>some []|x::r=>match je f x,mO f r with
  |some y,some s=>some (y::s)|_,_=>none
def mH(f:V->a_ V):aZ (V×V)->a_ (aZ (V×V))
 |[]=>some []|(k,x)::r=>match f k,f x,mH f r with
  |some k,some y,some s=>some ((k,y)::s)|_,_,_=>none
def borrow:Nat->bp->V->a_ V
 |0,_,x=>if x.closed then some x else none|n+1,H,x=>
  if x.closed then some x else
  match x with
  |.hsl id es off len=>match(H[id]?).bind Ob.rows with
   |some (B,xs)=>if B=es/\off+len<=xs.length then(mO (borrow n H) ((xs.drop off).take len)).map (.fsl es)else none|none=>none
  |.hptr id el off=>match(H[id]?).bind Ob.rows with
   |some (_,xs)=>match xs[el]?with
    |some cs=>if off<=cs.length then(je (borrow n H) (cs.drop off)).map .fptr else none|none=>none
   |none=>none
  |.hmap id=>match H[id]?with
   |some (.map D)=>(mH (borrow n H) D).map .fmap|_=>none
  |.clo f a b=>match je (borrow n H) a,je (borrow n H) b with
   |some a,some b=>some (.clo f a b)|_,_=>none
  |.agg cs=>(je (borrow n H) cs).map .agg|.tup cs=>(je (borrow n H) cs).map .tup|_=>none
def borrows(n:Nat)(H:bp)(l:T2):a_ T2:=je (borrow n H) l
def c9(f:V->S'):T2->S'
 |[]=>[]|x::r=>f x++c9 f r
def cw:Nat->bp->V->S'
 |0,_,_=>[]|n+1,H,x=>
  if x.closed then[]else
  match x with
  |.hsl id _ off len=>id::(match(H[id]?).bind Ob.rows with|some (_,xs)=>c9 (cw n H) ((xs.drop off).take len).flatten|none=>[])|.hptr id el off=>id::(match(H[id]?).bind Ob.rows with|some (_,xs)=>c9 (cw n H) (((xs[el]?).getD []).drop off)|none=>[])|.hmap id=>id::(match H[id]?with|some (.map B)=>c9 (cw n H) (B.map (·.1))++c9 (cw n H) (B.map (·.2))|_=>[])|.clo _ a b=>c9 (cw n H) a++c9 (cw n H) b|.agg cs=>c9 (cw n H) cs|.tup cs=>c9 (cw n H) cs|_=>[]
def wC(H:bp)(id:Nat):bp:=
 match H[id]?with
 |some (.row es u)=>H.set id (.frz es u)|some (.map _)=>H.set id .dead|_=>H
def cT(H:bp)(l:S'):bp:=l.foldl wC H
structure dL where
 lv:Nat
 go:Callee->List V->bp->Option (V×bp)
instance:CoeFun dL λ_=>Callee->T2->bp->a_ (V×bp):=⟨dL.go⟩
def jv(H:bp)(T:S'):X':=T.all λid=>((H[id]?).bind Ob.rows).isSome
def ct(call:dL)(f:Y')(args:T2)(H:bp):a_ V:=
 match borrows call.lv H args with
 |some az=>match call (.fn f) az []with
  |some (r,H1)=>match borrow call.lv H1 r with
   |some y=>if y.closed then some y else none|none=>none
  |none=>none
 |none=>none
def sH(k:Nat)(H1:bp)(id es off len:Nat):a_ (V×Ob):=
 match H1[id]?with
 |some (.row u w)=>if u=es/\(w.all λx=>x.all V.scalar)=true then some (.hsl k es off len,.row es w)else none|_=>none
def lI(call:dL)(f:Y')(args:T2)(H:bp):a_ (V×bp):=
 match borrows call.lv H args with
 |some az=>match call (.fn f) az []with
  |some (r,H1)=>
   if r.scalar then some (r,H)else
   match r with
   |.hsl id es off len=>(sH H.length H1 id es off len).map λ(v,ob)=>(v,H++[ob])|.tup (.hsl id es off len::rest)=>if V.c8 rest then(sH H.length H1 id es off len).map λ(v,ob)=>(.tup (v::rest),H++[ob])else none|_=>none
  |none=>none
 |none=>none
def fI(E:Env)(call:dL)(f:Y')(args:T2)(H:bp):a_ (V×bp):=if E.own f then lI call f args H else call (.fn f) args H
def mw(e:Edge):X':=match e.ground with|.textOnly _|.gcOnly _=>false|_=>true
def Gw(o:Oper)(i:Nat):X':=o.after.any λe=>e.on==i&&mw e
def Kp(a:aZ S')(o:Oper):S':=(o.after.toList.filter mw).foldl (λl e=>(e.on::(a[e.on]?).getD []).foldl (λl k=>if l.contains k then l else k::l) l) []
def Ks(ops:R'):aZ S':=ops.foldl (λa o=>a++[Kp a o]) []
def before(ops:R')(i k:Nat):X':=(((Ks ops)[i]?).getD []).contains k
def isApp:Op->X'
 |.call {callee:=.builtin .append,..}=>true|_=>false
def dO(ops:R')(i:Nat):X':=
 match ops[i]?with
 |some o=>(range ops.length).all λk=>match ops[k]?with
  |some p=>k==i||dF p.op==.pure||(if k<i then before ops i k else before ops k i)||(isApp o.op&&dF p.op==.alloc&&decide (i<k))|none=>true
 |none=>false
def dstsOf(ops:R'):S':=ops.filterMap (·.dst)
def xP(ops:R')(i k:Nat):X':=if k<i then before ops i k else before ops k i
def II(ops:R')(i k:Nat):a_ S':=
 match ops[k]?with
 |some p=>
  if k==i||dF p.op==.pure||xP ops i k then some []else
  match p.op with
  |.load _ (.tmp a)=>if(dstsOf ops).contains a then some []else some [a]|_=>none
 |none=>some []
def DQ(ops:R')(i:Nat):S'->a_ S'
 |[]=>some []|k::r=>match II ops i k,DQ ops i r with
  |some a,some b=>some (a++b)|_,_=>none
def BB(ops:R')(i:Nat):a_ (Nat×S'):=
 match(ops[i]?).map Oper.op with
 |some (.store _ (.tmp a) _)=>if(dstsOf ops).contains a then none else(DQ ops i (range ops.length)).map λl=>(a,l)|_=>none
def sE(id:Nat):V->X'
 |.hptr B _ _=>B != id|.fptr _=>true|_=>false
def s_(ops:R')(i:Nat)(F:WP):X':=
 match BB ops i with
 |some (a,l)=>match get F a with
  |.hptr id _ _=>l.all λs=>sE id (get F s)|_=>false
 |none=>false
def qL(ops:R')(k a':Nat):S':=
 if(dstsOf ops).contains a' then(range ops.length).filterMap λi=>match(ops[i]?).map Oper.op with
  |some (.store _ (.tmp a) _)=>if xP ops i k||(dstsOf ops).contains a then none else some a|_=>none
 else[]
def pK(ops:R')(k:Nat)(F:WP)(op:Op):X':=
 match op with
 |.load _ (.tmp u)=>(qL ops k u).all λa=>match get F a with
  |.hptr id _ _=>sE id (get F u)|_=>true
 |_=>true
def Cs(d:Nat)(op:Op):X':=op.operands.any λx=>match x with|.tmp t=>t==d|_=>false
def SQ(d:Nat):Op->X'
 |.call {callee:=.builtin .append,args,..}=>match args.toList with
  |.tmp t::r=>t==d&&r.all λx=>match x with|.tmp t=>t != d|_=>true
  |_=>false
 |_=>false
def CP(ops:R')(i:Nat):X':=
 match ops[i]?with
 |some o=>match o.op,o.dst with
  |.makeSlice ..,some d=>(ops.any λp=>Cs d p.op)&&ops.all λp=> !Cs d p.op||dF p.op==.call|.buildSlice _ len ps,some d=>len==0&&ps.size==0&&((range ops.length).any λk=>match ops[k]?with|some p=>Cs d p.op&& !dO ops k|none=>false)&&ops.all λp=> !Cs d p.op||SQ d p.op|_,_=>false
 |none=>false
def Vh(E:Env)(ops:R')(i:Nat):X':=
 match ops[i]?with
 |some o=>match o.op,o.dst with
  |.buildSlice t len _,some d=>decide (0<len)&&(match E.kindOf t with
   |some (.slice e)=>(match E.kindOf e with|some .bool|some (.int _)|some .str=>true|_=>false)|_=>false)&&(ops.any λp=>Cs d p.op)&&ops.all λp=> !Cs d p.op||dF p.op==.call
  |_,_=>false
 |none=>false
def FB(E:Env)(ops:R')(i:Nat):X':=CP ops i||Vh E ops i
def sR(E:Env)(ops:R'):a_ (Nat×Nat)->X'
 |some (_,i)=>FB E ops i|none=>false
def mD(E:Env)(ops:R')(place:a_ (Nat×Nat))(f:Y'):X':=E.keep f&&(match place with|none=>true|some (_,i)=>dO ops i|| !E.own f)
def yS(ops:R')(i:Nat):X':=
 match ops[i]?with
 |some o=>isApp o.op&&(range ops.length).all λk=>match ops[k]?with
  |some p=>k==i||dF p.op==.pure||xP ops i k||dF p.op==.read||(dF p.op==.alloc&&(CP ops k||decide (i<k)))|none=>true
 |none=>false
def qP(F:WP):Op->X'
 |.call {callee:=.builtin .append,args,..}=>match args.toList with
  |x::_=>match ev F x with|some .dU|some .bO=>true|_=>false
  |_=>false
 |_=>false
def AT(ops:R')(i b:Nat)(F:WP)(H:bp)(op:Op):X':=yS ops i&&(isApp op&&qP F op&&decide (b<=H.length))
def dJ(E:Env)(call:dL)(ops:R')(place:a_ (Nat×Nat))(F:WP)(H:bp)(op:Op):a_ (V×bp):=
 match dF op with
 |.pure=>(uF E F H place op).map λv=>(v,H)|.read=>match place with
  |none=>(ez E F H op).map λv=>(v,H)|some (b,i)=>if pK ops i F op then match ez E F (H.take b) op with
   |some v=>some (v,H)|none=>if dO ops i then(ez E F H op).map λv=>(v,H)else none
   else none
 |.alloc=>if sR E ops place then(qH E F op).map λv=>(v,H)else match fF E F op,place with
  |some (ob,m),none=>some (m.val H.length,H++[ob])|some (ob,m),some (b,i)=>match H[b+i]?with
   |some .free=>some (m.val (b+i),H.set (b+i) ob)|_=>none
  |none,_=>none
 |.loud=>match place with
  |none=>dz E F H op|some (b,i)=>if dO ops i||s_ ops i F||AT ops i b F H op then dz E F H op else none
 |.call=>match kP F op with
  |some (.fn f,args)=>
   if mD E ops place f then
    match place with
    |none=>fI E call f args H|some (_,i)=>if dO ops i then fI E call f args H else none
   else match place with
    |none=>match ct call f args H with
     |some y=>some (y,if y.scalar then H else cT H (c9 (cw call.lv H) args))|none=>none
    |some (b,i)=>match ct call f args (H.take b)with
     |some y=>if y.scalar then some (y,H)else if jv (H.take b) (c9 (cw call.lv (H.take b)) args)then some (y,cT H (c9 (cw call.lv (H.take b)) args))else none|none=>if dO ops i then match ct call f args H with
      |some y=>some (y,if y.scalar then H else cT H (c9 (cw call.lv H) args))|none=>none
      else none
  |some (.yld id,args)=>match place with
   |none=>call (.yld id) args H|some (_,i)=>if dO ops i then call (.yld id) args H else none
  |none=>none
def kO(n:Nat)(F:WP)(dst:a_ Nat)(v:V):a_ WP:=
 match dst with
 |none=>some F|some d=>if d<n then some (set F d v)else none
def gD(ops:R')(F:WP)(o:Oper):X':=
 match o.guard with
 |none=>true|some (j,b)=>match(ops[j]?).bind (·.dst)with
  |some d=>match get F d with
   |.bool c=>c==b|_=>false
  |none=>false
def gW(E:Env)(call:dL)(n:Nat)(ops:R')(place:a_ (Nat×Nat))(o:Oper)(F:WP)(H:bp):a_ (WP×bp):=
 if gD ops F o then
  match dJ E call ops place F H o.op with
  |some (v,H')=>(kO n F o.dst v).map λF'=>(F',H')|none=>none
 else(kO n F o.dst .undef).map λF'=>(F',H)
def nk(E:Env)(call:dL)(n:Nat)(ops:R'):R'->WP->bp->a_ (WP×bp)
 |[],F,H=>some (F,H)|o::r,F,H=>match gW E call n ops none o F H with
  |some (F',H')=>nk E call n ops r F' H'|none=>none
def kH(E:Env)(call:dL)(n:Nat)(ops:R')(base:Nat):S'->WP->bp->a_ (WP×bp)
 |[],F,H=>some (F,H)|i::r,F,H=>match ops[i]?with
  |some o=>match gW E call n ops (some (base,i)) o F H with
   |some (F',H')=>kH E call n ops base r F' H'|none=>none
  |none=>none
def tmpsOf(o:Oper)(ops:R'):S':=
 (o.op.operands.toList.filterMap λ|.tmp t=>some t|_=>none)++
 (match o.guard with|some (g,_)=>((ops[g]?).bind (·.dst)).toList|none=>[])
def zJ(ops:R')(a b:Oper):X':=
 (match a.dst with|some d=> !(tmpsOf b ops).contains d&&b.dst != some d|none=>true)&&
 (match b.dst with|some d=> !(tmpsOf a ops).contains d|none=>true)
def xW(ops:R'):X':=
 (range ops.length).all λj=>(range j).all λi=>
  match ops[i]?,ops[j]?with
  |some a,some b=>Gw b i||zJ ops a b|_,_=>false
def BU(ops:R'):X':=
 (range ops.length).all λj=>match ops[j]?with
  |some o=>o.after.all λe=> !mw e||decide (e.on<j)|none=>true
def tn(ops:R'):X':=ops.any λo=>dF o.op==.alloc
def kq(E:Env)(call:dL)(n:Nat)(ops:R')(B:X')(F:WP)(H:bp):a_ (WP×bp):=if B then if xW ops&&BU ops then kH E call n ops H.length (range ops.length) F (if tn ops then H++replicate ops.length .free else H)else none else nk E call n ops ops F H
def lQ(step:WP->bp->a_ (Out×WP×bp)):Nat->WP->bp->a_ (Out×WP×bp)
 |0,_,_=>none|k+1,F,H=>match step F H with
  |some (.norm,F',H')=>lQ step k F' H'|r=>r
def mc:Out->a_ Code
 |.norm=>none|.ret=>some .ret|.exit id=>some (.exit id)
def exec(E:Env)(call:dL)(lf:Nat)(ro:X')(n:Nat):Code->WP->bp->a_ (Out×WP×bp)
 |.skip,F,H=>some (.norm,F,H)|.label _,F,H=>some (.norm,F,H)|.region _ ops B,F,H=>(kq E call n ops.toList B F H).map λ(F',H')=>(.norm,F',H')|.seq a b,F,H=>match exec E call lf ro n a F H with
  |some (.norm,F',H')=>exec E call lf ro n b F' H'|r=>r
 |.cond c x y,F,H=>match ev F c with
  |some (.bool t)=>if t then exec E call lf ro n x F H else exec E call lf ro n y F H|_=>none
 |.block id c,F,H=>match exec E call lf ro n c F H with
  |some (.exit D,F',H')=>if D=id then some (.norm,F',H')else some (.exit D,F',H')|r=>r
 |.loop c,F,H=>lQ (exec E call lf ro n c) lf F H|.rangeFunc g ps assign body,F,H=>match ro,ev F g with
  |false,some (.clo f a b)=>
   match call (.fn f) (a++.yld H.length::b) (H++[.loop ⟨.ready,none,F,n,ps.toList,assign,body⟩])with
   |some (_,H')=>match H'[H.length]?with
    |some (.loop r)=>match r.st with
     |.busy=>none|_=>some (r.pend.getD .norm,F,H'.set H.length .dead)
    |_=>none
   |none=>none
  |_,_=>none
 |.exit id,F,H=>some (.exit id,F,H)|.ret,F,H=>some (.ret,F,H)|_,_,_=>none
def iK(E:Env)(F:WP)(H:bp):aZ ResultVar->a_ T2
 |[]=>some []|.tmp t::r=>(iK E F H r).map (get F t::·)|.cell a t::r=>match E.tt t,iK E F H r with
  |some d,some vs=>((eO H (get F a) d.size).bind (mk d.agg)).map (·::vs)|_,_=>none
def result:T2->V
 |[v]=>v|vs=>.tup vs
def zW:S'->T2->WP->WP
 |t::B,v::vs,F=>zW B vs (set F t v)|_,_,F=>F
def Ke{α:Type}[Inhabited α](lt:α->α->X'):Nat->Nat->Array α->Array α
 |0,_,d=>d|k+1,i,d=>Ke lt k (i+1) (Sort.insInner lt 0 i d)
def rK(n:Nat)(lt:Fin (n+1)->Fin (n+1)->X'):Array (Fin (n+1)):=if n<12 then Ke lt n 1 (finRange (n+1)).toArray else Sort.pdq lt (finRange (n+1)).toArray 0 (n+1) (Lib.bitLen (n+1)) true true
def jE(call:dL)(g:Y')(D B:T2)(n:Nat)(i j:Fin (n+1)):QQ:=
 match D[i.1]?,D[j.1]?with
 |some a,some b=>match ct call g (a::b::B) []with
  |some (.int .i64 c)=>some c|_=>none
 |_,_=>none
def qG{n:Nat}(t:Fin (n+1)->Fin (n+1)->QQ)(i j:Fin (n+1)):X':=decide ((t i j).getD 0<0)
def CE{n:Nat}(t:Fin (n+1)->Fin (n+1)->QQ):X':=
 let l:=finRange (n+1)
 l.all λi=> !qG t i i&&l.all λj=>(t i j).isSome&&l.all λk=>(!(qG t i j&&qG t j k)||qG t i k)&&((qG t i j||qG t j k)|| !qG t i k)
def sQ(xs:T')(off n:Nat)(l:aZ (Fin (n+1))):T':=xs.take off++l.map (λi=>(xs[off+i.1]?).getD [])++xs.drop (off+(n+1))
def rS(keep:Y'->X')(call:dL)(args:T2)(H:bp):a_ (V×bp):=
 match args with
 |[s,c]=>match s with
  |.bO|.dU=>some (.undef,H)|.hsl id es off len=>match len,c with
   |0,_=>some (.undef,H)|n+1,.clo g [] cb=>match H[id]?with
    |some (.row w z)=>if es=1/\w=1/\off+(n+1)<=z.length/\n<2147483648/\keep g=false then
     match borrows call.lv (H.set id .dead) ((z.drop off).take (n+1)).flatten,borrows call.lv (H.set id .dead) cb with
     |some B,some u=>if CE (jE call g B u n)then some (.undef,H.set id (.row 1 (sQ z off n (rK n (qG (jE call g B u n))).toList)))else none|_,_=>none
     else none
    |_=>none
   |_,_=>none
  |_=>none
 |_=>none
def kB(E:Env)(c:dL)(n:Nat):Callee->T2->bp->a_ (V×bp)
 |.fn f,args,H=>match E.ft f with
  |some fi=>if args.length<=fi.ntmps then
   match exec E c n false fi.ntmps fi.body args H with
   |some (.exit _,_,_)=>none|some (_,F',H')=>(iK E F' H' fi.results).map λvs=>(result vs,H')|none=>none
   else none
  |none=>if E.sort f then rS E.keep c args H else(E.known f args).map λy=>(y,H)
 |.yld id,args,H=>match H[id]?with
  |some (.loop r)=>match r.st with
   |.ready=>if args.length=r.params.length/\r.params.all (·<r.nt)then
    match exec E c n true r.nt r.assign (zW r.params args r.frame) H with
    |some (.norm,D,H2)=>match H2[id]?with
     |some (.loop r2)=>match r2.st with
      |.ready=>match exec E c n true r.nt r.body D (H2.set id (.loop {r2 with st:=.busy}))with
       |some (o,_,B)=>match B[id]?with
        |some (.loop r4)=>some (.bool (o==.norm),B.set id (.loop {r4 with st:=(if o==.norm then .ready else .done),pend:=(if o==.norm then none else some o)}))|_=>none
       |none=>none
      |_=>none
     |_=>none
    |_=>none
    else none
   |_=>none
  |_=>none
def run(E:Env):Nat->dL
 |0=>⟨0,λ_ _ _=>none⟩|n+1=>⟨n+1,kB E (run E n) n⟩
def IJ{E:Env}{n:Nat}{x:Callee}{a:T2}{H:bp}:run E (n+1) x a H=kB E (run E n) n x a H:=rfl
end Go.VE
namespace Go.VE
variable[b8]
@[simp] def get_nil(i:Nat):get [] i=.undef:=by cases i<;>rfl
@[simp] def uf(F:WP)(i:Nat)(v:V):get (set F i v) i=v:=by
 induction F generalizing i with
 |nil=>induction i with
  |zero=>rfl|succ i u=>simpa[set,get]using u
 |cons x r u=>cases i with
  |zero=>rfl|succ i=>simpa[set,get]using u i
def jY(F:WP){i j:Nat}(v:V)(h:i≠j):get (set F i v) j=get F j:=by
 induction F generalizing i j with
 |nil=>
  induction i generalizing j with
  |zero=>cases j with
   |zero=>grind|succ j=>simp[set,get]
  |succ i u=>cases j with
   |zero=>simp[set,get]|succ j=>simpa[set,get]using u Zaa
 |cons x r u=>cases i with
  |zero=>cases j with
   |zero=>grind|succ j=>simp[set,get]
  |succ i=>cases j with
   |zero=>simp[set,get]|succ j=>simpa[set,get]using u Zaa
def Lo(F:WP){i j:Nat}(u v:V)(h:i≠j):set (set F i u) j v=set (set F j v) i u:=by
 induction F generalizing i j with
 |nil=>
  induction i generalizing j with
  |zero=>cases j with
   |zero=>grind|succ j=>simp[set]
  |succ i w=>cases j with
   |zero=>simp[set]|succ j=>simpa[set]using w Zaa
 |cons x r w=>cases i with
  |zero=>cases j with
   |zero=>grind|succ j=>simp[set]
  |succ i=>cases j with
   |zero=>simp[set]|succ j=>simpa[set]using w Zaa
inductive IC where
 |cells(c:Array Value)|map(es:Array MapEntry)
abbrev cE:=Nat->a_ IC
def IC.at(x:IC)(w:World)(b:Nat):Prop:=
 match x with
 |.cells c=>∃el fr,w.heap[b]?=some (.cells c el fr)|.map es=>∃a,w.heap[b]?=some (.map es a)
def cE.le(I I':cE):Prop:=∀b x,I b=some x->I' b=some x
def cE.le_refl(I:cE):cE.le I I:=λ_ _ h=>h
def cE.le_trans{I J K:cE}(h:cE.le I J)(B:cE.le J K):cE.le I K:=λb x e=>B b x (h b x e)
inductive eY(I:cE):V->Value->Prop
 |bool(b:Bool):eY I (.bool b) (.bool b)|int(k:IntKind)(n:Int):eY I (.int k n) (.int k n)|str(s:ByteArray):eY I (.str s) (.string s)|dU(a:Option Addr):eY I .dU (.slice a 0 0)|bO:eY I .bO (.slice none 0 0)|fsl0(es:Nat)(a:Addr)(cap:Nat):eY I (.fsl es []) (.slice (some a) 0 cap)|fsl(es:Nat)(xs:List (List V))(b o cap:Nat)(c:Array Value)(hI:I b=some (.cells c))(hc:xs.length<=cap)
  (hu:∀x∈xs,x.length=es) (ho:∀x∈xs,∀y∈x,V.one y=true) (hb:o+xs.length*es<=c.size)
  (hr:∀(i j:Nat)x y v,xs[i]?=some x->x[j]?=some y->c[o+i*es+j]?=some v->eY I y v):
  eY I (.fsl es xs) (.slice (some ⟨b,o,none⟩) xs.length cap)
 |iR:eY I .iR (.pointer none)|fptr(cs:List V)(b o:Nat)(c:Array Value)(hI:I b=some (.cells c))(hb:o+cs.length<=c.size)
  (hr:∀(j:Nat)y v,cs[j]?=some y->c[o+j]?=some v->eY I y v):eY I (.fptr cs) (.pointer (some ⟨b,o,none⟩))
 |clo(f:FuncId)(x y:List V)(u v:Array Value)(hx:x.length=u.size)(hy:y.length=v.size)
  (h1:∀(j:Nat)a b,x[j]?=some a->u[j]?=some b->eY I a b) (h2:∀(j:Nat)a b,y[j]?=some a->v[j]?=some b->eY I a b):
  eY I (.clo f x y) (.func (.func f) u v)
 |gM:eY I .gM (.map none)|tE:eY I .tE .nilFunc|fmap(kvs:List (V×V))(b:Nat)(es:Array MapEntry)(hI:I b=some (.map es))(hl:kvs.length=es.size)
  (hk:∀(j:Nat)p e,kvs[j]?=some p->es[j]?=some e->eY I p.1 e.key)
  (hv:∀(j:Nat)p e,kvs[j]?=some p->es[j]?=some e->eY I p.2 e.val):eY I (.fmap kvs) (.map (some b))
 |agg(cs:List V)(vs:Array Value)(hl:cs.length=vs.size)(h:∀(j:Nat)a b,cs[j]?=some a->vs[j]?=some b->eY I a b):
  eY I (.agg cs) (.agg vs)
 |tup(cs:List V)(vs:Array Value)(hl:cs.length=vs.size)(h:∀(j:Nat)a b,cs[j]?=some a->vs[j]?=some b->eY I a b):
  eY I (.tup cs) (.tuple vs)
structure Pl where
 b:Nat
 o:Nat
 es:Nat
 sz:Nat
abbrev Mu:=Nat->a_ Pl
inductive bN(I:cE)(μ:Mu):V->Value->Prop
 |c(x:V)(v:Value)(h:eY I x v):bN I μ x v|hsl(id off len cap:Nat)(p:Pl)(hm:μ id=some p)(hc:len<=cap)(hb:p.o+(off+cap)*p.es<=p.sz):
  bN I μ (.hsl id p.es off len) (.slice (some ⟨p.b,p.o+off*p.es,none⟩) len cap)
 |hsl0(id es off:Nat)(a:Addr):bN I μ (.hsl id es off 0) (.slice (some a) 0 0)|hptr(id el off:Nat)(p:Pl)(hm:μ id=some p):bN I μ (.hptr id el off) (.pointer (some ⟨p.b,p.o+el*p.es+off,none⟩))|yld(id:Nat)(p:Pl)(hm:μ id=some p):bN I μ (.yld id) (.func (.yield p.b) #[] #[])|hmap(id:Nat)(p:Pl)(hm:μ id=some p):bN I μ (.hmap id) (.map (some p.b))|clo(f:FuncId)(x y:List V)(u v:Array Value)(hx:x.length=u.size)(hy:y.length=v.size)
  (h1:∀(j:Nat)a b,x[j]?=some a->u[j]?=some b->bN I μ a b) (h2:∀(j:Nat)a b,y[j]?=some a->v[j]?=some b->bN I μ a b):
  bN I μ (.clo f x y) (.func (.func f) u v)
 |agg(cs:List V)(vs:Array Value)(hl:cs.length=vs.size)(h:∀(j:Nat)a b,cs[j]?=some a->vs[j]?=some b->bN I μ a b):
  bN I μ (.agg cs) (.agg vs)
 |tup(cs:List V)(vs:Array Value)(hl:cs.length=vs.size)(h:∀(j:Nat)a b,cs[j]?=some a->vs[j]?=some b->bN I μ a b):
  bN I μ (.tup cs) (.tuple vs)
def Mu.le(μ μ':Mu):Prop:=∀id p,μ id=some p->μ' id=some p
def Mu.le_refl(μ:Mu):Mu.le μ μ:=λ_ _ h=>h
def eY.mono{I I':cE}(h:cE.le I I'){x:V}{v:V'}(r:eY I x v):eY I' x v:=by induction r with|bool b=>exact .bool b|int k n=>exact .int k n|str s=>exact .str s|dU a=>exact .dU a|bO=>exact .bO|fsl0 es a cap=>exact .fsl0 es a cap|fsl es O b o cap c C hc hu Q G _ w=>exact .fsl es O b o cap c (h _ _ C) hc hu Q G w|iR=>exact .iR|fptr cs b o c C G _ w=>exact .fptr cs b o c (h _ _ C) G w|clo f x y u v S T _ _ z B=>exact .clo f x y u v S T z B|gM=>exact .gM|tE=>exact .tE|fmap J b es C D _ _ z B=>exact .fmap J b es (h _ _ C) D z B|agg cs L D _ w=>exact .agg cs L D w|tup cs L D _ w=>exact .tup cs L D w
def bN.mono{I I':cE}{μ μ':Mu}(h:cE.le I I')(B:Mu.le μ μ'){x:V}{v:V'}(r:bN I μ x v):bN I' μ' x v:=by induction r with|c x v r=>exact .c _ _ (r.mono h)|hsl id off len cap p w hc L=>exact .hsl id off len cap p (B _ _ w) hc L|hsl0 id es off a=>exact .hsl0 id es off a|hptr id el off p w=>exact .hptr id el off p (B _ _ w)|yld id p w=>exact .yld id p (B _ _ w)|hmap id p w=>exact .hmap id p (B _ _ w)|clo f x y u v O Q _ _ z C=>exact .clo f x y u v O Q z C|agg cs D G _ J=>exact .agg cs D G J|tup cs D G _ J=>exact .tup cs D G J
def cU(I:cE)(μ:Mu)(xs:T2)(vs:aZ V'):Prop:=xs.length=vs.length/\∀(j:Nat)a b,xs[j]?=some a->vs[j]?=some b->bN I μ a b
def cU.nil{I:cE}{μ:Mu}:cU I μ [] []:=⟨rfl,Zab⟩
def cU.cons{I:cE}{μ:Mu}{x:V}{v:V'}{xs:T2}{vs:aZ V'}(h:bN I μ x v)(r:cU I μ xs vs):cU I μ (x::xs) (v::vs):=by refine⟨by simp[r.1],?_⟩;intro j a b c u;cases j with|zero=>grind|succ j=>exact r.2 j a b Zac Zac
def cU.cons_inv{I:cE}{μ:Mu}{x:V}{xs:T2}{B:aZ V'}(r:cU I μ (x::xs) B):∃v vs,B=v::vs/\bN I μ x v/\cU I μ xs vs:=by have⟨u,h⟩:=r;cases B with|nil=>simp_all|cons v vs=>refine⟨v,vs,rfl,h 0 x v Zab Zab,Zac,?_⟩;intro j a b c w;exact h (j+1) a b Zac Zac
def cU.xC{I:cE}{μ:Mu}{B:aZ V'}(r:cU I μ [] B):B=[]:=by have:=r.1;grind
def cU.append{I:cE}{μ:Mu}{xs ys:T2}{B vs:aZ V'}(h:cU I μ xs B)(D:cU I μ ys vs):cU I μ (xs++ys) (B++vs):=by induction xs generalizing B with|nil=>rw[cU.xC h];exact D|cons x xs u=>obtain⟨v,B,rfl,a,b⟩:=h.cons_inv;exact .cons a (u b)
def cU.mono{I I':cE}{μ μ':Mu}(h:cE.le I I')(B:Mu.le μ μ'){xs:T2}{vs:aZ V'}(r:cU I μ xs vs):cU I' μ' xs vs:=⟨r.1,λj a b c u=>(r.2 j a b c u).mono h B⟩
def cU.take{I:cE}{μ:Mu}{xs:T2}{vs:aZ V'}(r:cU I μ xs vs)(n:Nat):cU I μ (xs.take n) (vs.take n):=by refine⟨by simp[r.1],λj a b c u=>?_⟩;rw[getElem?_take]at c u;split at c<;>simp_all;exact r.2 j a b c u
def cU.drop{I:cE}{μ:Mu}{xs:T2}{vs:aZ V'}(r:cU I μ xs vs)(n:Nat):cU I μ (xs.drop n) (vs.drop n):=by refine⟨by simp[r.1],λj a b c u=>?_⟩;rw[getElem?_drop]at c u;exact r.2 _ a b c u
def bN.cells{I:cE}{μ:Mu}{x:V}{v:V'}(r:bN I μ x v):cU I μ x.cells v.cells.toList:=by
 cases r with
 |c x v h=>cases h with|agg cs C w h=>exact⟨by simpa[V.cells,Value.cells]using w,λj a b d z=>.c _ _ (h j a b d (by simpa[Value.cells]using z))⟩|bool b=>exact .cons (.c _ _ (.bool b)) .nil|int k n=>exact .cons (.c _ _ (.int k n)) .nil|str s=>exact .cons (.c _ _ (.str s)) .nil|dU a=>exact .cons (.c _ _ (.dU a)) .nil|bO=>exact .cons (.c _ _ .bO) .nil|fsl0 es a cap=>exact .cons (.c _ _ (.fsl0 es a cap)) .nil|fsl es Q b o cap c D hc hu S G hr=>exact .cons (.c _ _ (.fsl es Q b o cap c D hc hu S G hr)) .nil|iR=>exact .cons (.c _ _ .iR) .nil|fptr cs b o c D G hr=>exact .cons (.c _ _ (.fptr cs b o c D G hr)) .nil|clo f x y u v J L d z=>exact .cons (.c _ _ (.clo f x y u v J L d z)) .nil|gM=>exact .cons (.c _ _ .gM) .nil|tE=>exact .cons (.c _ _ .tE) .nil|fmap O b es D w hk hv=>exact .cons (.c _ _ (.fmap O b es D w hk hv)) .nil|tup cs C w h=>exact .cons (.c _ _ (.tup cs C w h)) .nil
 |hsl id off len cap p B hc G=>exact .cons (.hsl id off len cap p B hc G) .nil|hsl0 id es off a=>exact .cons (.hsl0 id es off a) .nil|hptr id el off p B=>exact .cons (.hptr id el off p B) .nil|yld id p B=>exact .cons (.yld id p B) .nil|hmap id p B=>exact .cons (.hmap id p B) .nil|clo f x y u v J L d z=>exact .cons (.clo f x y u v J L d z) .nil|agg cs C w h=>exact⟨by simpa[V.cells,Value.cells]using w,λj a b d z=>h j a b d (by simpa[Value.cells]using z)⟩|tup cs C w h=>exact .cons (.tup cs C w h) .nil
def bN.IN{I:cE}{μ:Mu}{cs:T2}{vs:Array V'}(h:cU I μ cs vs.toList):bN I μ (.agg cs) (.agg vs):=.agg cs vs (by simpa using h.1) λj a b c u=>h.2 j a b c Zac
def bN.Vp{I:cE}{μ:Mu}{cs:T2}{vs:Array V'}(h:cU I μ cs vs.toList):bN I μ (.tup cs) (.tuple vs):=.tup cs vs (by simpa using h.1) λj a b c u=>h.2 j a b c Zac
section inv
variable{I:cE}{μ:Mu}
def bN.tv{b:X'}{v:V'}(h:bN I μ (.bool b) v):v=.bool b:=by cases h with|c _ _ h=>cases h;rfl
def bN.gp{k:IntKind}{n:Int}{v:V'}(h:bN I μ (.int k n) v):v=.int k n:=by cases h with|c _ _ h=>cases h;rfl
def bN.vl{s:U'}{v:V'}(h:bN I μ (.str s) v):v=.string s:=by cases h with|c _ _ h=>cases h;rfl
def bN.tH{v:V'}(h:bN I μ .dU v):∃a,v=.slice a 0 0:=by cases h with|c _ _ h=>cases h;grind
def bN.nh{es:Nat}{xs:T'}{v:V'}(h:bN I μ (.fsl es xs) v):eY I (.fsl es xs) v:=by cases h with|c _ _ h=>omega
def bN.nE{cs:T2}{v:V'}(h:bN I μ (.fptr cs) v):∃b o c,v=.pointer (some ⟨b,o,none⟩)/\I b=some (.cells c)/\o+cs.length<=c.size/\
 (∀(j:Nat)y u,cs[j]?=some y->c[o+j]?=some u->eY I y u):=by
 cases h with|c _ _ h=>cases h with|fptr cs b o c w z hr=>grind
def bN.nj{v:V'}(h:bN I μ .bO v):v=.slice none 0 0:=by cases h with|c _ _ h=>cases h;rfl
def bN.TE{v:V'}(h:bN I μ .gM v):v=.map none:=by cases h with|c _ _ h=>cases h;rfl
def bN.vg{id el off:Nat}{v:V'}(h:bN I μ (.hptr id el off) v):∃p,μ id=some p/\v=.pointer (some ⟨p.b,p.o+el*p.es+off,none⟩):=by cases h with|c _ _ h=>cases h|hptr _ _ _ p u=>grind
def bN.VY{id:Nat}{v:V'}(h:bN I μ (.yld id) v):∃p,μ id=some p/\v=.func (.yield p.b) #[] #[]:=by cases h with|c _ _ h=>cases h|yld _ p u=>grind
def bN.Dz{id:Nat}{v:V'}(h:bN I μ (.hmap id) v):∃p,μ id=some p/\v=.map (some p.b):=by cases h with|c _ _ h=>cases h|hmap _ p u=>grind
def bN.ni{id es off len:Nat}{v:V'}(h:bN I μ (.hsl id es off len) v):
 (∃p b,μ id=some p/\p.es=es/\len<=b/\p.o+(off+b)*es<=p.sz/\v=.slice (some ⟨p.b,p.o+off*es,none⟩) len b)\/(len=0/\∃a,v=.slice (some a) 0 0):=by
 cases h with
 |c _ _ h=>cases h|hsl _ _ _ b p u hc w=>simp_all|hsl0 _ _ _ a=>grind
def bN.jl{cs:T2}{v:V'}(h:bN I μ (.agg cs) v):∃vs,v=.agg vs/\cU I μ cs vs.toList:=by
 cases h with
 |c _ _ h=>cases h with|agg _ vs u h=>exact⟨vs,rfl,Zac,λj a b d w=>.c _ _ (h j a b d Zac)⟩
 |agg _ vs u h=>exact⟨vs,rfl,Zac,λj a b d w=>h j a b d Zac⟩
def bN.rN{cs:T2}{v:V'}(h:bN I μ (.tup cs) v):∃vs,v=.tuple vs/\cU I μ cs vs.toList:=by
 cases h with
 |c _ _ h=>cases h with|tup _ vs u h=>exact⟨vs,rfl,Zac,λj a b d w=>.c _ _ (h j a b d Zac)⟩
 |tup _ vs u h=>exact⟨vs,rfl,Zac,λj a b d w=>h j a b d Zac⟩
def bN.kU{f:Y'}{x y:T2}{v:V'}(h:bN I μ (.clo f x y) v):∃a b,v=.func (.func f) a b/\cU I μ x a.toList/\cU I μ y b.toList:=by
 cases h with
 |c _ _ h=>cases h with
  |clo _ _ _ u v z B h1 w=>exact⟨u,v,rfl,⟨Zac,λj a b p q=>.c _ _ (h1 j a b p Zac)⟩,⟨Zac,λj a b p q=>.c _ _ (w j a b p Zac)⟩⟩
 |clo _ _ _ u v z B h1 w=>exact⟨u,v,rfl,⟨Zac,λj a b p q=>h1 j a b p Zac⟩,⟨Zac,λj a b p q=>w j a b p Zac⟩⟩
def bN.of_bool{x:V}{b:X'}(h:bN I μ x (.bool b)):x=.bool b:=by cases h with|c _ _ h=>cases h;rfl
end inv
def vH(I:cE):Prop:=∀g cs,b8.gl g=some cs->eY I (.fptr cs) (.pointer (some ⟨g,0,none⟩))
def vH.mono{I I':cE}(h:cE.le I I')(r:vH I):vH I':=λg cs a=>(r g cs a).mono h
structure eV(I:cE)(μ:Mu)(n:Nat)(F:Frame)(tmps:Array Value):Prop where
 size:tmps.size=n
 rel:∀t,bN I μ (get F t) (tmps.getD t undef)
 gl:vH I
def bN.undef(I:cE)(μ:Mu):bN I μ .undef Go.undef:=.c _ _ (.tup [] #[] rfl Zab)
def eV.mono{I I':cE}{μ μ':Mu}{n:Nat}{F:WP}{tmps:Array V'}(h:cE.le I I')(B:Mu.le μ μ')(r:eV I μ n F tmps):eV I' μ' n F tmps:=⟨r.1,λt=>(r.2 t).mono h B,r.gl.mono h⟩
def eV.put{I:cE}{μ:Mu}{n:Nat}{F F':WP}{a:Act}{dst:a_ Nat}{x:V}{v:V'}(r:eV I μ n F a.tmps)(h:bN I μ x v)
 (hp:kO n F dst x=some F'):eV I μ n F' (a.put dst v).tmps:=by
 cases dst with
 |none=>simp[kO]at hp;subst hp;exact r|some d=>
  simp only[kO]at hp;split at hp
  .simp at hp;subst hp;refine⟨by simp[Act.put,r.1],λt=>?_,r.gl⟩
   by_cases u:d=t
   .subst u;have:d<a.tmps.size:=by rw[r.1];omega
    simpa[Act.put,getD_eq_getD_getElem?,Array.getElem?_setIfInBounds,this]using h
   have:=r.2 t;rw[jY _ _ u];simpa[Act.put,getD_eq_getD_getElem?,Array.getElem?_setIfInBounds,u]using this
  grind
def De{I:cE}:∀(n:Nat)(v:V')(x:V),ofValue n v=some x->eY I x v:=by intro n;induction n with|zero=>intro v x h;simp[ofValue]at h|succ n B=>intro v x h;unfold ofValue at h;split at h<;>(try (simp at h;subst h;constructor))<;>(try grind);simp at h;obtain⟨C,w,rfl⟩:=h;have key:∀(l:aZ V')(u:T2),l.mapM (ofValue n)=some u->u.length=l.length/\∀(j:Nat)a b,u[j]?=some a->l[j]?=some b->eY I a b:=(by intro l;induction l with|nil=>grind|cons v l z=>intro u h;simp[ζg]at h;grind);have⟨D,c⟩:=key _ _ w;exact .agg _ _ Zac λj a b d G=>c j a b d Zac
def dM{I:cE}{μ:Mu}{n:Nat}{F:WP}{a:Act}(r:eV I μ n F a.tmps){o:UV}{x:V}(h:ev F o=some x):bN I μ x (a.eval o):=by cases o with|tmp t=>simp[ev]at h;subst h;exact r.2 t|const v=>exact .c _ _ (De 4 _ _ h)|func f=>simp[ev]at h;subst h;exact .c _ _ (.clo f [] [] #[] #[] rfl rfl Zab Zab)|global g=>obtain⟨cs,b,rfl⟩:=ζf.1 h;exact .c _ _ (r.gl g cs b)
def pg{I:cE}{μ:Mu}{n:Nat}{F:WP}{a:Act}(r:eV I μ n F a.tmps):∀{l:aZ UV}{xs:T2},fU F l=some xs->cU I μ xs (l.map a.eval):=by intro l;induction l with|nil=>intro xs h;simp[fU]at h;subst h;exact .nil|cons o l u=>intro xs h;simp[fU]at h;split at h;(next v z b w=>simp at h;subst h;exact .cons (dM r b) (u w));grind
def O3{I:cE}{μ:Mu}{n:Nat}{F:WP}{a:Act}(r:eV I μ n F a.tmps):∀{l:aZ (Nat×UV)}{xs:aZ (Nat×V)},nv F l=some xs->
 xs.length=l.length/\∀(j:Nat)x y,xs[j]?=some x->l[j]?=some y->x.1=y.1/\bN I μ x.2 (a.eval y.2):=by
 intro l
 induction l with
 |nil=>intro xs h;simp[nv]at h;grind|cons o l z=>
  intro xs h;simp[nv]at h;split at h
  .rename_i v D h1 B;simp at h;subst h;have⟨C,b⟩:=z B;refine⟨by simp[C],λj x y u w=>?_⟩
   cases j with
   |zero=>simp at u w;subst u;subst w;exact⟨rfl,dM r h1⟩|succ j=>grind
  grind
def ny:TypeDesc->TK
 |.bool=>.bool|.int k=>.int k|.string=>.str|.pointer e=>.ptr e|.slice e=>.slice e|.struct fs=>.struct (fs.toList.map λf=>(f.offset,f.type))|.array n e=>.array n e|.map k e=>.map k e|_=>.other
def FC:V'->X'
 |.agg _=>true|_=>false
def yb(P:Program)(t:W'):a_ TD:=
 match P.info? t,P.underlying t with
 |some i,some d=>match i.zero with
  |some z=>match z.cells.toList.mapM (ofValue 4)with
   |some cs=>if cs.length=i.size/\cs.all V.one=true/\FC z=(TD.mk i.size i.bytes cs (ny d)).agg then some ⟨i.size,i.bytes,cs,ny d⟩else none|none=>none
  |none=>none
 |_,_=>none
def ic(a:ST):Array V':=(a.map (Value.int .i64)).toArray
structure xQ(P:Program)(t:TypeId)(n:Nat):Prop where
 eq:∀(w:World)(x y:Operand)(a b:List Int),a.length=n->b.length=n->
  (do eqGuard .eql t x y (.agg (ic a)) (.agg (ic b));binOp .eql t (.agg (ic a)) (.agg (ic b))).run P w=.ok (.bool (a==b)) w
 ne:∀(w:World)(x y:Operand)(a b:List Int),a.length=n->b.length=n->
  (do eqGuard .neq t x y (.agg (ic a)) (.agg (ic b));binOp .neq t (.agg (ic a)) (.agg (ic b))).run P w=.ok (.bool !(a==b)) w
 key:∀(w:World)(a b:List Int),a.length=n->b.length=n->(equal t (.agg (ic a)) (.agg (ic b))).run P w=.ok (a==b) w
 check:∀(w:World)(e:Bool)(a:List Int),a.length=n->(checkKey e 10000 t (.agg (ic a))).run P w=.ok () w
 kind:∃d,P.underlying t=some d/\((∃n e,d=.array n e)\/(∃fs,d=.struct fs))
structure eZ(P:Program)(E:Env):Prop where
 tt:∀t d,E.tt t=some d->yb P t=some d
 ft:∀f fi,E.ft f=some fi->∃fn,P.funcs[f]?=some fn/\fn.body=some fi.body/\fn.ntmps=fi.ntmps/\fn.results.toList=fi.results/\(fn.name== "runtime.NumGoroutine")=false
 eqN:∀t n,E.eqN t=some n->xQ P t n
structure ru(P:Program)(t:TypeId)(d:TD):Prop where
 info:∃i z,P.info? t=some i/\i.size=d.size/\i.bytes=d.bytes/\i.zero=some z/\(∀I μ,cU I μ d.zero z.cells.toList)/\d.zero.length=d.size/\d.zero.all V.one=true/\FC z=d.agg
 und:∃desc,P.underlying t=some desc/\ny desc=d.kind
def TB{I:cE}{μ:Mu}:∀(l:aZ V')(ys:T2),l.mapM (ofValue 4)=some ys->cU I μ ys l:=by intro l;induction l with|nil=>intro ys h;simp at h;subst h;exact .nil|cons v l u=>intro ys h;simp only[List.mapM_cons,Option.pure_def,Option.bind_eq_bind,ζg,ζa]at h;obtain⟨y,w,z,B,rfl⟩:=h;exact .cons (.c _ _ (De 4 _ _ w)) (u z B)
def eZ.ty{P:Program}{E:Env}(h:eZ P E){t:W'}{d:TD}(B:E.tt t=some d):ru P t d:=by
 have:=h.tt t d B;unfold yb at this;split at this;rename_i i a hi hd;split at this;rename_i z u;split at this;rename_i cs b;split at this;next w=>simp only[ζa]at this;subst this;exact⟨⟨i,z,hi,rfl,rfl,u,λI μ=>TB _ _ b,w⟩,⟨a,hd,rfl⟩⟩
 simp at this;simp at this;simp at this;simp at this
section runs
variable{P:Program}{w:World}{t:W'}{d:TD}
def dW{a:TypeDesc}(h:P.underlying t=some a):(underlying t).run P w=.ok a w:=by simp[underlying,h]
def qd{i:TypeInfo}(h:P.info? t=some i):(typeInfo t).run P w=.ok i w:=by simp[typeInfo,h]
def ru.lB(h:ru P t d):(sizeOf t).run P w=.ok d.size w:=by have⟨i,z,hi,u,_⟩:=h.info;simp[sizeOf,qd hi,u]
def ru.dW(h:ru P t d):∃a,P.underlying t=some a/\ny a=d.kind/\∀w,(underlying t).run P w=.ok a w:=by have⟨a,b,u⟩:=h.und;exact⟨a,b,u,λw=>VE.dW b⟩
def ru.OE(h:ru P t d):(isAgg t).run P w=.ok d.agg w:=by have⟨a,b,u⟩:=h.und;unfold isAgg;simp only[run_bind,VE.dW b,andThen_ok];cases a<;>simp[TD.agg,<-u,ny]
def ru.Fj(h:ru P t d):∃z,(∀w,(zeroValue t).run P w=.ok z w)/\(∀I μ,cU I μ d.zero z.cells.toList)/\d.zero.length=d.size/\d.zero.all V.one=true:=by have⟨i,z,hi,_,_,u,a,B,b,_⟩:=h.info;exact⟨z,λw=>by simp[zeroValue,qd hi,u],a,B,b⟩
end runs
def ru.Xf{P:Program}{t:W'}{d:TD}(h:ru P t d):∃z,(∀w,(zeroValue t).run P w=.ok z w)/\∀I μ x,VE.mk d.agg d.zero=some x->bN I μ x z:=by
 have⟨i,z,hi,_,_,D,a,G,b,u⟩:=h.info;refine⟨z,λw=>by simp[zeroValue,qd hi,D],λI μ x C=>?_⟩;have B:=a I μ;cases hd:d.agg with|true=>rw[hd]at C u;cases z<;>simp[FC]at u;simp only[VE.mk,if_true,ζa]at C;subst C;exact .IN (by simpa[Value.cells]using B)|false=>
  rw[hd]at C u;simp only[VE.mk,false_eq_true,if_false]at C;split at C
  .rename_i v hv;simp only[ζa]at C;subst C;rw[hv]at B;have e:z.cells.toList=[z]:=(by cases z<;>first|rfl|simp[FC]at u);rw[e]at B;exact B.2 0 _ _ rfl rfl
  simp at C
def gu{E:Env}{t:W'}{k:TK}(h:E.kindOf t=some k):∃d,E.tt t=some d/\d.kind=k:=by unfold Env.kindOf at h;simpa[ζf]using h
def E3{d:TypeDesc}{k:IntKind}(h:ny d=.int k):d=.int k:=by cases d<;>simp_all [ny]
def Nh{d:TypeDesc}(h:ny d=.bool):d=.bool:=by cases d<;>simp_all [ny]
def BZ{d:TypeDesc}(h:ny d=.str):d=.string:=by cases d<;>simp_all [ny]
def j7{d:TypeDesc}{e:W'}(h:ny d=.slice e):d=.slice e:=by cases d<;>simp_all [ny]
def Dx{d:TypeDesc}{n:Nat}{e:W'}(h:ny d=.array n e):d=.array n e:=by cases d<;>simp_all [ny]
def BY{d:TypeDesc}{k e:W'}(h:ny d=.map k e):d=.map k e:=by cases d<;>simp_all [ny]
def BK{d:TypeDesc}{fs:aZ (Nat×W')}(h:ny d=.struct fs):∃B,d=.struct B/\fs=B.toList.map λf=>(f.offset,f.type):=by cases d<;>simp_all [ny]
def CZ{I:cE}{μ:Mu}{cs r:T2}{vs:aZ V'}{off n:Nat}(h:cU I μ cs vs)(a:cut cs off n=some r):
 cU I μ r ((vs.drop off).take n)/\r.length=n/\off+n<=cs.length\/(n=0/\r=[]):=by
 unfold cut at a;simp only at a;split at a
 .rename_i u;simp only[ζa]at a;subst a
  by_cases w:n=0
  .right;subst w;simp
  left;refine⟨(h.drop off).take n,u,?_⟩;simp at u;omega
 simp at a
def PA{I:cE}{μ:Mu}{cs:T2}{x:V}{vs:Array V'}(h:mk true cs=some x)(r:cU I μ cs vs.toList):bN I μ x (.agg vs):=by simp only[mk,if_true,ζa]at h;subst h;exact .IN r
def mk_one{I:cE}{μ:Mu}{cs:T2}{x:V}{vs:aZ V'}(h:mk false cs=some x)(r:cU I μ cs vs):∃v,vs=[v]/\bN I μ x v:=by simp only[mk,false_eq_true,if_false]at h;split at h;simp only[ζa]at h;subst h;obtain⟨v,u,rfl,a,b⟩:=r.cons_inv;exact⟨v,by rw[b.xC],a⟩;simp at h
def JB{P:Program}{w:World}{I:cE}{μ:Mu}{t:W'}{d:TD}{cs r:T2}{vs:Array V'}{x:V}{off:Nat}(D:ru P t d)(h:cU I μ cs vs.toList)
 (b:cut cs off d.size=some r)(B:mk d.agg r=some x):∃u,(part t vs off).run P w=.ok u w/\bN I μ x u:=by
 unfold part;simp only[run_bind,D.OE,andThen_ok]
 cases z:d.agg with
 |true=>
  rw[z]at B;refine⟨.agg (vs.extract off (off+d.size)),by simp[D.lB],?_⟩
  refine PA B ?_;have e:(vs.extract off (off+d.size)).toList=(vs.toList.drop off).take d.size:=Zab
  rw[e];rcases CZ h b with⟨a,_⟩|⟨c,rfl⟩
  .exact a
  rw[c];exact .nil
 |false=>
  rw[z]at B;rcases CZ h b with⟨a,G,_⟩|⟨c,rfl⟩
  .have⟨v,hv,C⟩:=mk_one B a;refine⟨v,?_,C⟩;have hd:d.size=1:=by
    have:=a.1;rw[hv]at this;simp at this;omega
   rw[hd]at hv;have:vs[off]?=some v:=by have:=congrArg (·[0]?) hv;simpa[getElem?_take,getElem?_drop]using this
   simp[this]
  simp[mk]at B
def OL{I:cE}{μ:Mu}:∀(az:T2)(a:ST)(B:aZ V'),i_ az=some a->cU I μ az B->B=a.map (Value.int .i64)/\a.length=az.length:=by intro az;induction az with|nil=>intro a B h u;simp only[i_,ζa]at h;subst h;rw[u.xC];simp|cons x az w=>intro a B h u;obtain⟨v,B,rfl,c,d⟩:=u.cons_inv;have z:∃y,x=.int .i64 y:=(by cases x with|int k y=>cases k<;>simp[i_]at h⊢|_=>simp[i_]at h);obtain⟨y,rfl⟩:=z;simp only[i_,ζf]at h;obtain⟨b,C,rfl⟩:=h;have⟨g1,g2⟩:=w _ _ C d;have:=c.gp;subst this;exact⟨by simp[g1],by simp[g2]⟩
def rP{I:cE}{μ:Mu}{az:T2}{a:ST}{B:Array V'}(h:i_ az=some a)(D:cU I μ az B.toList):B=ic a/\a.length=az.length:=by have⟨b,u⟩:=OL _ _ _ h D;refine⟨?_,u⟩;have:=congrArg List.toArray b;simpa[ic]using this
def zo{az B:T2}{r:X'}(h:lX az B=some r):∃a b,i_ az=some a/\i_ B=some b/\a.length=b.length/\r=(a==b):=by
 unfold lX at h;split at h;rename_i a b c u;split at h;next w=>simp only[ζa]at h;exact⟨a,b,c,u,w,h.symm⟩
 simp at h;simp at h
section
variable{P:Program}{E:Env}{I:cE}{μ:Mu}{n:Nat}{F:WP}{a:Act}{w:World}
def Qz(f:BinOp)(t:W')(p q:UV)(k B:IntKind)(m m':Int):(eqGuard f t p q (.int k m) (.int B m')).run P w=.ok () w:=by unfold eqGuard;cases f<;>simp
def Qf(f:BinOp)(t:W')(p q:UV)(s B:U'):(eqGuard f t p q (.string s) (.string B)).run P w=.ok () w:=by unfold eqGuard;cases f<;>simp
def O1(f:BinOp)(t:W')(p q:UV)(s B:X'):(eqGuard f t p q (.bool s) (.bool B)).run P w=.ok () w:=by unfold eqGuard;cases f<;>simp
def Jx(d:Nat){t:W'}(x y:X')(h:P.underlying t=some .bool):(equalIn (d+1) t (.bool x) (.bool y)).run P w=.ok (x==y) w:=by simp only[equalIn,run_bind,dW h,andThen_ok,run_pure]
def Et{t:W'}(x y:X')(h:P.underlying t=some .bool):(equal t (.bool x) (.bool y)).run P w=.ok (x==y) w:=Jx 9999 x y h
def Db(d:Nat){t:W'}{k:IntKind}(x y:Int)(h:P.underlying t=some (.int k)):(equalIn (d+1) t (.int k x) (.int k y)).run P w=.ok (x==y) w:=by simp only[equalIn,run_bind,dW h,andThen_ok,run_pure,if_true]
def Iw(d:Nat){t e:W'}(B:a_ Addr)(l c:Nat)(h:P.underlying t=some (.slice e)):(equalIn (d+1) t (.slice B l c) (.slice none 0 0)).run P w=.ok B.isNone w:=by cases B<;>simp only[equalIn,run_bind,dW h,andThen_ok,run_pure]<;>rfl
def LW(d:Nat){t e:W'}(B:a_ Addr)(h:P.underlying t=some (.pointer e)):(equalIn (d+1) t (.pointer B) (.pointer none)).run P w=.ok B.isNone w:=by cases B<;>simp only[equalIn,run_bind,dW h,andThen_ok,run_pure]<;>rfl
def LC(d:Nat){t e D:W'}(B:a_ Nat)(h:P.underlying t=some (.map e D)):(equalIn (d+1) t (.map B) (.map none)).run P w=.ok B.isNone w:=by cases B<;>simp only[equalIn,run_bind,dW h,andThen_ok,run_pure]<;>rfl
def HV(U:eZ P E){t:W'}{k:TK}{x y:V}{u v:V'}{b:X'}(m:E.kindOf t=some k)(h:wD k x y=some b)(B:bN I μ x u)(D:bN I μ y v):
 (equal t u v).run P w=.ok b w/\(∀op p q,(eqGuard op t p q u v).run P w=.ok () w)/\binOp .eql t u v=(do pure (.bool (<-equal t u v)))/\binOp .neq t u v=(do pure (.bool (!(<-equal t u v)))):=by
 have⟨d,hd,O⟩:=gu m;have⟨a,f,C,_⟩:=(U.ty hd).dW;rw[O]at C;have g:∀(e:W')(z:a_ Addr)(l c:Nat),P.underlying t=some (.slice e)->b=z.isNone->
  (equal t (.slice z l c) (.slice none 0 0)).run P w=.ok b w/\(∀op p q,(eqGuard op t p q (.slice z l c) (.slice none 0 0)).run P w=.ok () w)/\binOp .eql t (.slice z l c) (.slice none 0 0)=(do pure (.bool (<-equal t (.slice z l c) (.slice none 0 0))))/\binOp .neq t (.slice z l c) (.slice none 0 0)=(do pure (.bool (!(<-equal t (.slice z l c) (.slice none 0 0))))):=by
  intro e z l c i L;refine⟨?_,λop p q=>by unfold eqGuard;cases op<;>simp,rfl,rfl⟩
  rw[L];exact Iw 9999 z l c i
 have G:∀(e:W')(z:a_ Addr),P.underlying t=some (.pointer e)->b=z.isNone->
  (equal t (.pointer z) (.pointer none)).run P w=.ok b w/\(∀op p q,(eqGuard op t p q (.pointer z) (.pointer none)).run P w=.ok () w)/\binOp .eql t (.pointer z) (.pointer none)=(do pure (.bool (<-equal t (.pointer z) (.pointer none))))/\binOp .neq t (.pointer z) (.pointer none)=(do pure (.bool (!(<-equal t (.pointer z) (.pointer none))))):=by
  intro e z i L;refine⟨?_,λop p q=>by unfold eqGuard;cases op<;>simp,rfl,rfl⟩
  rw[L];exact LW 9999 z i
 have J:∀(e S:W')(z:a_ Nat),P.underlying t=some (.map e S)->b=z.isNone->
  (equal t (.map z) (.map none)).run P w=.ok b w/\(∀op p q,(eqGuard op t p q (.map z) (.map none)).run P w=.ok () w)/\binOp .eql t (.map z) (.map none)=(do pure (.bool (<-equal t (.map z) (.map none))))/\binOp .neq t (.map z) (.map none)=(do pure (.bool (!(<-equal t (.map z) (.map none))))):=by
  intro e S z i L;refine⟨?_,λop p q=>by unfold eqGuard;cases op<;>simp,rfl,rfl⟩
  rw[L];exact LC 9999 z i
 unfold wD at h;split at h<;>(try (simp only[ζa]at h;subst h))
 .have:=j7 C;subst this;rw[B.nj,D.nj];exact g _ none 0 0 f rfl
 .have:=j7 C;subst this;rw[D.nj];have T:=B.nh
  cases T with
  |fsl0 _ z j=>exact g _ _ _ _ f rfl|fsl=>exact g _ _ _ _ f rfl
 .have:=j7 C;subst this;rw[D.nj];rcases B.ni with⟨p,j,_,_,_,_,Q⟩|⟨_,z,Q⟩
  .rw[Q];exact g _ _ _ _ f rfl
  rw[Q];exact g _ _ _ _ f rfl
 .obtain⟨e,rfl⟩:∃e,a=.pointer e:=by cases a<;>simp_all [ny]
  cases B with|c _ _ B=>cases B;cases D with|c _ _ D=>cases D;exact G _ none f rfl
 .obtain⟨e,rfl⟩:∃e,a=.pointer e:=by cases a<;>simp_all [ny]
  cases D with|c _ _ D=>cases D;cases B with|c _ _ B=>cases B;exact G _ _ f rfl
 .obtain⟨e,rfl⟩:∃e,a=.pointer e:=by cases a<;>simp_all [ny]
  cases D with
  |c _ _ D=>
   cases D
   cases B with
   |c _ _ B=>cases B|hptr=>exact G _ _ f rfl
 .have:=BY C;subst this;cases B with|c _ _ B=>cases B;cases D with|c _ _ D=>cases D;exact J _ _ none f rfl
 .have:=BY C;subst this;cases D with|c _ _ D=>cases D;cases B with|c _ _ B=>cases B;exact J _ _ _ f rfl
 .have:=BY C;subst this
  cases D with
  |c _ _ D=>
   cases D
   cases B with
   |c _ _ B=>cases B|hmap=>exact J _ _ _ f rfl
 cases h
def W8(J:eZ P E){op:BinOp}{t:W'}{x y z:V}{u v:V'}(p q:UV)(h:Li E op t x y=some z)(U:bN I μ x u)(W:bN I μ y v):
 ∃r,(do eqGuard op t p q u v;binOp op t u v).run P w=.ok r w/\bN I μ z r:=by
 unfold Li at h;split at h
 .
  rename_i k m g m';rw[U.gp,W.gp];simp only[run_bind,Qz,andThen_ok];split at h
  .
   split at h
   .simp at h
   rename_i B;simp only[ζa]at h;subst h;exact⟨_,by simp[binOp,Op.shift,B],.c _ _ (.int _ _)⟩
  .split at h
   .simp at h
   rename_i B;simp only[ζa]at h;subst h;exact⟨_,by simp[binOp,Op.shift,B],.c _ _ (.int _ _)⟩
  split at h
  .rename_i S T c;subst c
   cases op with
   |shl=>exact absurd rfl S|shr=>exact absurd rfl T|add=>simp only[ζa]at h;subst h;exact⟨_,by simp[binOp,intArith],.c _ _ (.int _ _)⟩|sub=>simp only[ζa]at h;subst h;exact⟨_,by simp[binOp,intArith],.c _ _ (.int _ _)⟩|mul=>simp only[ζa]at h;subst h;exact⟨_,by simp[binOp,intArith],.c _ _ (.int _ _)⟩|quo=>
    simp only at h;split at h
    .simp at h
    rename_i B;simp only[ζa]at h;subst h;exact⟨_,by simp[binOp,Op.intDiv,B],.c _ _ (.int _ _)⟩
   |rem=>
    simp only at h;split at h
    .simp at h
    rename_i B;simp only[ζa]at h;subst h;exact⟨_,by simp[binOp,Op.intDiv,B],.c _ _ (.int _ _)⟩
   |and=>simp only[ζa]at h;subst h;exact⟨_,by simp[binOp,intBits],.c _ _ (.int _ _)⟩|or=>simp only[ζa]at h;subst h;exact⟨_,by simp[binOp,intBits],.c _ _ (.int _ _)⟩|xor=>simp only[ζa]at h;subst h;exact⟨_,by simp[binOp,intBits],.c _ _ (.int _ _)⟩|andNot=>simp only[ζa]at h;subst h;exact⟨_,by simp[binOp,intBits],.c _ _ (.int _ _)⟩|eql=>simp only[o8,map_some,ζa]at h;subst h;exact⟨_,by simp[binOp,intCmp],.c _ _ (.bool _)⟩|neq=>simp only[o8,map_some,ζa]at h;subst h;exact⟨_,by simp[binOp,intCmp],.c _ _ (.bool _)⟩|lss=>simp only[o8,map_some,ζa]at h;subst h;exact⟨_,by simp[binOp,intCmp],.c _ _ (.bool _)⟩|leq=>simp only[o8,map_some,ζa]at h;subst h;exact⟨_,by simp[binOp,intCmp],.c _ _ (.bool _)⟩|gtr=>simp only[o8,map_some,ζa]at h;subst h;exact⟨_,by simp[binOp,intCmp],.c _ _ (.bool _)⟩|geq=>simp only[o8,map_some,ζa]at h;subst h;exact⟨_,by simp[binOp,intCmp],.c _ _ (.bool _)⟩
  simp at h
 .
  rename_i s i;rw[U.vl,W.vl];simp only[run_bind,Qf,andThen_ok];split at h
  .split at h
   .simp at h
   rename_i B;simp only[ζa]at h;subst h;exact⟨_,by simp only[binOp,Op.stringOp];rw[if_neg B];rfl,.c _ _ (.str _)⟩
  all_goals first
   |(simp only[ζa]at h;subst h;exact⟨_,by simp[binOp,Op.stringOp],.c _ _ (.bool _)⟩)|simp at h
 .
  rename_i b j;rw[U.tv,W.tv];simp only[run_bind,O1,andThen_ok];split at h
  next c=>have⟨d,hd,D⟩:=gu c;have⟨e,a,C,_⟩:=(J.ty hd).dW;rw[D]at C;have:=Nh C;subst this;simp only[ζa]at h;subst h;exact⟨_,by simp only[binOp,run_bind,Et _ _ a,andThen_ok,run_pure],.c _ _ (.bool _)⟩
  next c=>have⟨d,hd,D⟩:=gu c;have⟨e,a,C,_⟩:=(J.ty hd).dW;rw[D]at C;have:=Nh C;subst this;simp only[ζa]at h;subst h;exact⟨_,by simp only[binOp,run_bind,Et _ _ a,andThen_ok,run_pure],.c _ _ (.bool _)⟩
  simp at h
 .
  rename_i az l;obtain⟨n,rfl,L⟩:=U.jl;obtain⟨o,rfl,O⟩:=W.jl;split at h
  .rename_i m G;split at h
   next Z=>simp only[ζf]at h;obtain⟨r,f,rfl⟩:=h;obtain⟨X,Y,a,C,Q,rfl⟩:=zo f;obtain⟨rfl,e1⟩:=rP a L;obtain⟨rfl,e2⟩:=rP C O;exact⟨_,(J.eqN _ _ G).eq w p q X Y Zaa Zaa,.c _ _ (.bool _)⟩
   simp at h
  .rename_i m G;split at h
   next Z=>simp only[ζf]at h;obtain⟨r,f,rfl⟩:=h;obtain⟨X,Y,a,C,Q,rfl⟩:=zo f;obtain⟨rfl,e1⟩:=rP a L;obtain⟨rfl,e2⟩:=rP C O;exact⟨_,(J.eqN _ _ G).ne w p q X Y Zaa Zaa,.c _ _ (.bool _)⟩
   simp at h
  simp at h

 split at h
 next k c=>simp only[ζf]at h;obtain⟨b,B,rfl⟩:=h;have⟨a,C,Q,_⟩:=HV (w:=w) J c B U W;exact⟨.bool b,by rw[run_bind,C,Q];simp[andThen,a],.c _ _ (.bool _)⟩
 next k c=>simp only[ζf]at h;obtain⟨b,B,rfl⟩:=h;have⟨a,C,_,Q⟩:=HV (w:=w) J c B U W;exact⟨.bool !b,by rw[run_bind,C,Q];simp[andThen,a],.c _ _ (.bool _)⟩
 simp at h
end
section
variable{P:Program}{E:Env}{I:cE}{μ:Mu}{n:Nat}{F:WP}{a:Act}{w:World}
def Lw(off:Nat):∀(l:aZ V')(k:Nat)(cells:Array V'),off+k+l.length<=cells.size->
 ((l.zipIdx k).foldl (λcs(p:V'×Nat)=>cs.setIfInBounds (off+p.2) p.1) cells).toList=cells.toList.take (off+k)++l++cells.toList.drop (off+k+l.length):=by
 intro l
 induction l with
 |nil=>simp_all|cons v l u=>
  intro k cells h;simp at h;simp;rw[u (k+1) _ (by simp;omega)]
  simp;rw[show off+(k+1)=off+k+1 from Zaa,List.take_succ_eq_append_getElem Zac]
  rw[List.take_set_of_le Zaa,List.getElem_set_self]
  rw[List.drop_set_of_lt Zaa]
  grind
def Nz{cs xs:T2}{cells:Array V'}{v:V'}{off:Nat}(h:cU I μ cs cells.toList)(B:cU I μ xs v.cells.toList)(D:off+xs.length<=cs.length):
 cU I μ (cs.take off++xs++cs.drop (off+xs.length)) (v.cells.zipIdx.foldl (λcs(p:V'×Nat)=>cs.setIfInBounds (off+p.2) p.1) cells).toList:=by
 have e:v.cells.zipIdx.foldl (λcs p=>cs.setIfInBounds (off+p.2) p.1) cells=(v.cells.toList.zipIdx 0).foldl (λcs p=>cs.setIfInBounds (off+p.2) p.1) cells:=by rw[<-Array.foldl_toList];simp
 have a:=h.1;have u:=B.1;rw[e,Lw off _ 0 _ Zac]
 rw[<-u];exact((h.take off).append B).append (h.drop _)
def DJ{place place':Nat->a_ (Nat×Nat)}(hp:∀i p,place i=some p->place' i=some p):∀(vs:aZ (Nat×V))(B:aZ (Nat×V'))(cs r:T2)(cells:Array V'),
 vs.length=B.length->(∀(j:Nat)x y,vs[j]?=some x->B[j]?=some y->x.1=y.1/\bN I μ x.2 y.2)->cU I μ cs cells.toList->vN place cs vs=some r->
 ∃D,fill place' cells B=some D/\cU I μ r D.toList:=by
 intro vs
 induction vs with
 |nil=>
  intro B cs r cells L _ c w
  cases B with
  |nil=>simp[vN]at w;subst w;exact⟨cells,rfl,c⟩|cons _ _=>simp_all
 |cons x vs Q=>
  intro B cs r cells L d c w
  cases B with
  |nil=>simp_all|cons y B=>
   have⟨i,x⟩:=x;have⟨S,y⟩:=y;have⟨C,z⟩:=d 0 (i,x) (S,y) rfl rfl;subst C;simp only at z;simp only[vN]at w;split at w
   .simp at w
   rename_i off size G;split at w
   .simp at w
   rename_i T;have u:=z.cells;have O:x.cells.length=y.cells.size:=by simpa using u.1
   have U:cs.length=cells.size:=by simpa using c.1
   have J:¬(decide (y.cells.size≠size)||decide (off+y.cells.size>cells.size))=true:=by grind
   simp at T;have⟨D,e,W⟩:=Q B _ r _ (by simpa using L) (λj a b p q=>d (j+1) a b (by simpa using p) (by simpa using q)) (Nz c u Zaa) w
   refine⟨D,?_,W⟩;simp only[fill,hp _ _ G];rw[if_neg J];omega
def Q3(ps:Array (Nat×UV))(f:UV->V'):(ps.map λ(i,x)=>(i,f x)).toList=ps.toList.map λp=>(p.1,f p.2):=Zab
def HS{ps:Array (Nat×UV)}{vs:aZ (Nat×V)}(r:eV I μ n F a.tmps)(h:nv F ps.toList=some vs):
 vs.length=(ps.map λ(i,x)=>(i,a.eval x)).toList.length/\∀(j:Nat)x y,vs[j]?=some x->(ps.map λ(i,x)=>(i,a.eval x)).toList[j]?=some y->x.1=y.1/\bN I μ x.2 y.2:=by
 have⟨u,b⟩:=O3 r h;rw[Q3]
 grind
def QX(D:eZ P E):∀(B:aZ Field)(pl:aZ (Nat×Nat)),oG E (B.map λf=>(f.offset,f.type))=some pl->
 ((B.mapM λf=>do pure (f.offset,<-sizeOf f.type)):Sem (aZ (Nat×Nat))).run P w=.ok pl w:=by
 intro B
 induction B with
 |nil=>intro pl h;simp[oG]at h;simp_all|cons f B z=>
  intro pl h;simp[oG]at h;split at h
  next d ps hd u=>simp at h;subst h;have:=z _ u;simp only[List.mapM_cons,run_bind,(D.ty hd).lB,andThen_ok,run_pure,this]
  grind
def Nj(D:eZ P E)(B:Array Field)(pl:aZ (Nat×Nat))(h:oG E (B.toList.map λf=>(f.offset,f.type))=some pl):
 ((B.mapM λf=>do pure (f.offset,<-sizeOf f.type)):Sem (Array (Nat×Nat))).run P w=.ok pl.toArray w:=by
 rw[Array.mapM_eq_mapM_toList];simp only[Sem.run_map,QX D _ _ h,andThen_ok]
def T3(B:eZ P E)(r:eV I μ n F a.tmps){t:W'}{ps:Array (Nat×UV)}{x:V}(h:bV E F (.build t ps)=some x):
 ∃v,(Instr.build t (ps.map λ(i,x)=>(i,a.eval x))).run P w=.ok v w/\bN I μ x v:=by
 simp[bV]at h;split at h
 .rename_i d Q hd D;have⟨S,b⟩:=HS r D;have⟨z,U,u,_⟩:=(B.ty hd).Fj;have⟨c,f,C,W⟩:=(B.ty hd).dW;unfold Instr.build;simp[run_bind,U,W,andThen_ok];split at h
  .rename_i fs hk;rw[hk]at C;obtain⟨X,rfl,rfl⟩:=BK C;split at h
   .rename_i pl G;simp at h;obtain⟨cs,J,rfl⟩:=h;have⟨L,g1,g2⟩:=DJ (place':=λi=>pl.toArray[i]?) Zac Q _ d.zero cs z.cells S b (u I μ) J
    refine⟨.agg L,?_,.IN g2⟩;have:=Nj (w:=w) B X pl G;simp_all
   grind
  .rename_i e hk;rw[hk]at C;have:=Dx C;subst this;split at h
   .rename_i T O;simp at h;obtain⟨cs,J,rfl⟩:=h;have⟨L,g1,g2⟩:=DJ (place':=λi=>some (i*T.size,T.size)) Zac Q _ d.zero cs z.cells S b (u I μ) J
    refine⟨.agg L,?_,.IN g2⟩;simp[run_bind,(B.ty O).lB,andThen_ok];simp_all
   grind
  grind
 grind
def qV(b o k:Nat):(⟨b,o,none⟩:Addr).add k=⟨b,o+k,none⟩:=by unfold Addr.add;grind
def GN{cs:T2}{b o:Nat}{c:Array V'}(k:Nat)(B:I b=some (.cells c))(D:o+cs.length<=c.size)
 (a:∀(j:Nat)y u,cs[j]?=some y->c[o+j]?=some u->eY I y u)(d:k<=cs.length):bN I μ (.fptr (cs.drop k)) (.pointer (some ⟨b,o+k,none⟩)):=
 .c _ _ (.fptr _ b (o+k) c B (by simp;omega) λj y u e w=>a (k+j) y u Zac Zac)
def Ot(U:eZ P E)(r:eV I μ n F a.tmps){s:W'}{o:UV}{f:Nat}{x:V}(h:bV E F (.fieldAddr s o f)=some x):
 ∃v,(fieldAt s (a.eval o) f).run P w=.ok v w/\bN I μ x v:=by
 simp[bV]at h;split at h
 .rename_i fs p hk Q;have⟨d,hd,C⟩:=gu hk;have⟨i,l,L,S⟩:=(U.ty hd).dW;rw[C]at L;obtain⟨T,rfl,rfl⟩:=BK L;have j:=dM r Q;split at h
  .rename_i off t O;simp at O;obtain⟨g,W,rfl,rfl⟩:=O;have z:T[f]?=some g:=by grind
   split at h
   .rename_i dt D;split at h
    .simp_all
    rename_i G;have B:∀(b u:Nat),(fieldAt s (.pointer (some ⟨b,u,none⟩)) f).run P w=.ok (.pointer (some ⟨b,u+g.offset,none⟩)) w:=by intro b u;unfold fieldAt;simp[run_bind,S,andThen_ok,z,sureAddr,run_pure,fieldPlace,(U.ty D).lB,if_neg G,qV]
    split at h
    .split at h
     next J=>simp at h;subst h;have⟨b,u,c,e,X,Y,k⟩:=j.nE;rw[e];exact⟨_,B b u,GN _ X Y k J⟩
     grind
    .rename_i id el u;simp at h;have⟨p,Z,e⟩:=j.vg;rw[e];have:=bN.hptr (I:=I) id el (u+g.offset) p Z
     grind
    grind
   grind
  grind
 grind
def Tk(G:eZ P E)(r:eV I μ n F a.tmps){s:W'}{o:UV}{f:Nat}{x:V}(h:bV E F (.field s o f)=some x):
 ∃v,(Instr.field s (a.eval o) f).run P w=.ok v w/\bN I μ x v:=by
 simp[bV]at h;split at h
 .rename_i fs cs hk O;have⟨d,hd,B⟩:=gu hk;have⟨b,i,J,Q⟩:=(G.ty hd).dW;rw[B]at J;obtain⟨S,rfl,rfl⟩:=BK J;have⟨Y,e,C⟩:=(dM r O).jl;rw[e];split at h
  .rename_i off t L;simp at L;obtain⟨c,T,rfl,rfl⟩:=L;have z:S[f]?=some c:=by grind
   split at h
   next Z D=>simp[ζg]at h;have⟨q,U,W⟩:=h;have⟨u,g,X⟩:=JB (w:=w) (G.ty D) C U W;refine⟨u,?_,X⟩;unfold Instr.field;simp[run_bind,Q,andThen_ok,z,asAgg,run_pure,g]
   grind
  grind
 grind
def mY(k:IntKind)(m:Int):(asIntOf (.int k m)).run P w=.ok (k,m) w:=rfl
def NV(U:eZ P E)(r:eV I μ n F a.tmps){t:W'}{o i:UV}{x:V}(h:bV E F (.indexAddr t o i)=some x):
 ∃v,(indexAt t (a.eval o) (a.eval i)).run P w=.ok v w/\bN I μ x v:=by
 simp[bV]at h;split at h
 .
  rename_i e s k m K W hi;have⟨d,hd,G⟩:=gu K;have⟨l,h1,Q,X⟩:=(U.ty hd).dW;rw[G]at Q;have:=j7 Q;subst this;have A:=dM r W;have J:=(dM r hi).gp;rw[J];split at h
  .rename_i T L;split at h
   .simp_all
   have B:∀(b z len f:Nat),m.toNat<len->(indexAt t (.slice (some ⟨b,z,none⟩) len f) (.int k m)).run P w=.ok (.pointer (some ⟨b,z+m.toNat*T.size,none⟩)) w:=by intro b z len f C;unfold indexAt;have H:0<=m/\m<(len):=Zaa;simp[run_bind,mY,X,andThen_ok,run_pure,(U.ty L).lB,run_ite,if_pos H,qV]
   split at h
   .rename_i es Y;split at h
    .rename_i D;simp only[ζf]at h;obtain⟨cs,O,rfl⟩:=h;have C:m.toNat<Y.length:=(ζe.1 O).1;have hf:=A.nh;generalize hg:a.eval o=g at hf
     cases hf with
     |fsl0=>simp_all|fsl _ _ b z f c Z H hu ho N R=>refine⟨_,B b z _ _ C,?_⟩;have S:cs∈Y:=mem_of_getElem? O;have ad:=hu cs S;have aa:(m.toNat+1)*es<=Y.length*es:=mul_le_mul_right _ C;rw[add_mul]at aa;rw[<-D];exact .c _ _ (.fptr cs b _ c Z Zaa λj y u p q=>R m.toNat j cs y u O p q)
    grind
   .rename_i id es off len;split at h
    .rename_i D;simp only[ζa]at h;have⟨D,C⟩:=D;rcases A.ni with⟨p,f,M,he,H,N,e⟩|⟨h0,_⟩
     .rw[e];have:=bN.hptr (I:=I) (μ:=μ) id (off+m.toNat) 0 p M
      grind
     omega
    grind
   grind
  grind
 .
  rename_i len e p k m K W hi;have⟨d,hd,G⟩:=gu K;have⟨l,h1,Q,X⟩:=(U.ty hd).dW;rw[G]at Q;have:=Dx Q;subst this;have A:=dM r W;have J:=(dM r hi).gp;rw[J];split at h
  .rename_i T L;split at h
   .rename_i H;have B:∀(b z:Nat),(indexAt t (.pointer (some ⟨b,z,none⟩)) (.int k m)).run P w=.ok (.pointer (some ⟨b,z+m.toNat*T.size,none⟩)) w:=by
     intro b z;unfold indexAt;simp only[run_bind,mY,X,andThen_ok,run_pure,sureAddr,(U.ty L).lB,run_ite,if_pos H,qV]
    split at h
    .split at h
     next ab=>simp only[ζa]at h;subst h;have⟨b,z,c,e,Z,N,R⟩:=A.nE;rw[e];exact⟨_,B b z,GN _ Z N R ab⟩
     grind
    .rename_i id el z;simp only[ζa]at h;have⟨p,M,e⟩:=A.vg;rw[e];have:=bN.hptr (I:=I) (μ:=μ) id el (z+m.toNat*T.size) p M
     grind
    grind
   grind
  grind
 grind
end
section
variable{P:Program}{E:Env}{I:cE}{μ:Mu}{n:Nat}{F:WP}{a:Act}{w:World}
def Uc(D:eZ P E)(r:eV I μ n F a.tmps){t:W'}{o i:UV}{x:V}(h:bV E F (.index t o i)=some x):
 ∃v,(Instr.index t (a.eval o) (a.eval i)).run P w=.ok v w/\bN I μ x v:=by
 simp[bV]at h;split at h
 .rename_i s k m hk G hi;have⟨d,hd,z⟩:=gu hk;have⟨c,g,B,J⟩:=(D.ty hd).dW;rw[z]at B;have:=BZ B;subst this;rw[(dM r hi).gp,(dM r G).vl];split at h
  next f=>simp at h;obtain⟨b,O,rfl⟩:=h;refine⟨.int .u8 b.toNat,?_,.c _ _ (.int _ _)⟩;unfold Instr.index;simp[run_bind,mY,J,andThen_ok,if_pos f,O,run_pure]
  grind
 .rename_i len e cs k m hk G hi;have⟨d,hd,z⟩:=gu hk;have⟨c,g,B,J⟩:=(D.ty hd).dW;rw[z]at B;have:=Dx B;subst this;have⟨U,ev,L⟩:=(dM r G).jl;rw[(dM r hi).gp,ev];split at h
  .rename_i W C;split at h
   next f=>simp[ζg]at h;have⟨q,Q,S⟩:=h;have⟨u,j,T⟩:=JB (w:=w) (D.ty C) L Q S;refine⟨u,?_,T⟩;unfold Instr.index;simp[run_bind,mY,J,andThen_ok,run_ite,if_pos f,(D.ty C).lB,j]
   grind
  grind
 grind
def NT(B:eZ P E)(r:eV I μ n F a.tmps){s d:W'}{o:UV}{x:V}(h:bV E F (.convert s d o)=some x):
 ∃v,(convert s d (a.eval o)).run P w=.ok v w/\bN I μ x v:=by
 simp[bV]at h;split at h
 .rename_i G J k m z hd C;split at h
  next L b=>simp at h;subst h;have⟨c,g1,_,g3⟩:=(B.ty z).dW;have⟨e,f,u,D⟩:=(B.ty hd).dW;rw[b]at u;have:=E3 u;subst this;rw[(dM r C).gp];refine⟨_,?_,.c _ _ (.int _ _)⟩;unfold convert;simp[run_bind,g3,D,andThen_ok,Conv.intToInt,run_pure]
  grind
 grind
def rz(r:eV I μ n F a.tmps){o:a_ UV}{m:QQ}(h:kG F o=some m):
 (m=none/\o.map a.eval=none)\/∃k z,m=some z/\o.map a.eval=some (.int k z):=by
 cases o with
 |none=>simp[kG]at h;grind|some x=>
  simp[kG]at h;split at h
  next k z u=>simp at h;subst h;exact .inr ⟨k,z,rfl,by simp[(dM r u).gp]⟩
  grind
def nO(k:IntKind)(z:Int)(y:Nat)(code:BoundsCode)(a:0<=z)(b:z<=y):(sliceBound (.int k z) y code).run P w=.ok z.toNat w:=by unfold sliceBound;simp[run_bind,mY,andThen_ok,if_pos (And.intro a b),run_pure]
def mZ(r:eV I μ n F a.tmps){lo hi:a_ UV}{l h:QQ}(e1:kG F lo=some l)(e2:kG F hi=some h)(D:X')(len b L H:Nat)(c:len<=b)
 (B:eu len l h=some (L,H)):(sliceBounds D len b (lo.map a.eval) (hi.map a.eval) none).run P w=.ok (L,H,b) w/\L<=H/\H<=len:=by
 unfold eu at B;simp only at B;split at B
 .rename_i u;obtain⟨rfl,rfl⟩:=B;have⟨G,S,J,T⟩:=u;refine⟨?_,Zaa,Zaa⟩
  unfold sliceBounds;rcases rz r e1 with⟨rfl,O⟩|⟨k1,C,rfl,O⟩<;>rcases rz r e2 with⟨rfl,Q⟩|⟨k2,z,rfl,Q⟩<;>
   simp only[O,Q,getD_some]at G S J T⊢
  .simp_all
  .simp only[run_pure,andThen_ok,run_bind,nO k2 z _ _ G (show z<=b by omega)]
   simp
  .simp only[run_pure,andThen_ok,run_bind,nO k1 C _ _ J (show C<=len by omega)]
   simp
  simp[run_pure,andThen_ok,run_bind,nO k2 z _ _ G (show z<=b by omega),nO k1 C _ _ J (show C<=z.toNat by omega)]
 grind
def FQ{es:Nat}{xs:T'}{v:V'}{L H:Nat}(h:eY I (.fsl es xs) v)(d:L<=H)(D:H<=xs.length):
 ∃B len a,v=.slice B len a/\len=xs.length/\len<=a/\eY I (.fsl es ((xs.take H).drop L)) (.slice (if a=L then B else B.map (·.add (L*es))) (H-L) (a-L)):=by
 cases h with
 |fsl0 _ B a=>
  simp at D;have z:L=0:=Zaa
  subst D;subst z;refine⟨some B,0,a,rfl,rfl,zero_le _,?_⟩;have:=eY.fsl0 (I:=I) es B a;split
  .grind
  simpa[Addr.add]using eY.fsl0 es (B.add (0*es)) a
 |fsl _ _ b o a c C hc hu G O hr=>
  refine⟨_,_,a,rfl,rfl,hc,?_⟩;have u:((xs.take H).drop L).length=H-L:=Zad
  by_cases J:H-L=0
  .have:(xs.take H).drop L=[]:=List.eq_nil_of_length_eq_zero Zac
   rw[this,J];split
   .exact .fsl0 es _ _
   exact .fsl0 es _ _
  simp[qV];have e:eY I (.fsl es ((xs.take H).drop L)) (.slice (some ⟨b,o+L*es,none⟩) ((xs.take H).drop L).length (a-L)):=by refine .fsl es _ b (o+L*es) (a-L) c C Zac (λx w=>hu x (mem_of_mem_take (mem_of_mem_drop w))) (λx w=>G x (mem_of_mem_take (mem_of_mem_drop w))) ?_ ?_;rw[u];have:L*es+(H-L)*es<=xs.length*es:=(by rw[<-add_mul];exact mul_le_mul_right _ Zaa);omega;grind
  grind
def Um(j:eZ P E)(r:eV I μ n F a.tmps){t:W'}{o:UV}{lo hi i:a_ UV}{x:V}(h:bV E F (.slice t o lo hi i)=some x):
 ∃v,(sliceAt t (a.eval o) (lo.map a.eval) (hi.map a.eval) (i.map a.eval)).run P w=.ok v w/\bN I μ x v:=by
 simp[bV]at h;split at h
 .
  rename_i s l R m y U C S;obtain⟨d,hd,T⟩:=gu m;obtain⟨f,h1,Y,M⟩:=(j.ty hd).dW;rw[T]at Y;have:=BZ Y;rw[(dM r y).vl];simp only[ζf]at h;obtain⟨⟨L,H⟩,G,rfl⟩:=h;obtain⟨g,_,_⟩:=mZ (P:=P) (w:=w) r U C false s.size s.size L H (le_refl _) G;have hm:i.map a.eval=none:=by rcases rz r S with⟨_,q⟩|⟨k,z,e,_⟩;exact q;cases e
  refine⟨.string (s.extract L H),?_,.c _ _ (.str _)⟩;unfold sliceAt Instr.slice;simp_all
 .rename_i e v l R m y U C S;obtain⟨d,hd,T⟩:=gu m;obtain⟨f,h1,Y,M⟩:=(j.ty hd).dW;rw[T]at Y;have:=j7 Y;subst this;have c:=dM r y;have hm:i.map a.eval=none:=by rcases rz r S with⟨_,q⟩|⟨k,z,e,_⟩;exact q;cases e
  have B:∀(D:a_ Addr)(len b L H:Nat)(J:TD),E.tt e=some J->len<=b->eu len l R=some (L,H)->
   (sliceAt t (.slice D len b) (lo.map a.eval) (hi.map a.eval) (i.map a.eval)).run P w=.ok (.slice (if b=L then D else D.map (·.add (L*J.size))) (H-L) (b-L)) w:=by
   intro D len b L H J u N G;obtain⟨g,_,_⟩:=mZ (P:=P) (w:=w) r U C true len b L H N G;unfold sliceAt Instr.slice;simp[run_bind,M,andThen_ok,hm,g,(j.ty u).lB,run_pure]
  split at h
  .rename_i J u;split at h
   .rename_i es xs;split at h
    next Z=>simp only[ζf]at h;obtain⟨⟨L,H⟩,G,rfl⟩:=h;obtain⟨_,W,X⟩:=mZ (P:=P) (w:=w) r U C true xs.length xs.length L H (le_refl _) G;obtain⟨D,len,b,e1,e2,e3,e4⟩:=FQ c.nh W X;rw[e1];subst e2;refine⟨_,B D _ b L H J u e3 G,?_⟩;rw[<-Z];exact .c _ _ e4
    grind
   .rename_i id es off len;split at h
    .rename_i Z;simp only[ζf]at h;obtain⟨⟨L,H⟩,G,rfl⟩:=h;obtain⟨_,W,X⟩:=mZ (P:=P) (w:=w) r U C true len len L H (le_refl _) G;rcases c.ni with⟨p,b,aa,he,N,ab,O⟩|⟨h0,D,O⟩
     .rw[O];refine⟨_,B _ _ b L H J u N G,?_⟩
      by_cases hz:b=L
      .have:H-L=0:=by omega
       rw[if_pos hz,this,show b-L=0 by omega]
       exact .hsl0 id es (off+L) _
      rw[if_neg hz];simp only[map_some,qV];rw[<-Z];subst he;have:=bN.hsl (I:=I) (μ:=μ) id (off+L) (H-L) (b-L) p aa Zaa (by
       have:off+L+(b-L)=off+b:=Zaa
       rw[this];exact ab)
      rwa [add_mul,<-add_assoc]at this
     rw[O];subst h0;refine⟨_,B _ _ 0 L H J u (le_refl _) G,?_⟩;have A:L=0:=Zaa
     have K:H=0:=Zaa
     subst A;subst K;simpa using bN.hsl0 id es (off+0) D
    grind
   .simp only[ζf]at h;obtain⟨⟨L,H⟩,G,rfl⟩:=h;obtain⟨_,W,X⟩:=mZ (P:=P) (w:=w) r U C true 0 0 L H (le_refl _) G;obtain⟨D,O⟩:=c.tH;rw[O];refine⟨_,B D 0 0 L H J u (le_refl _) G,?_⟩;have A:L=0:=by omega
    have K:H=0:=Zaa
    subst A;subst K;exact .c _ _ (.dU _)
   .simp only[ζf]at h;obtain⟨⟨L,H⟩,G,rfl⟩:=h;obtain⟨_,W,X⟩:=mZ (P:=P) (w:=w) r U C true 0 0 L H (le_refl _) G;have O:=c.nj;rw[O];refine⟨_,B none 0 0 L H J u (le_refl _) G,?_⟩;have A:L=0:=by omega
    have K:H=0:=Zaa
    subst A;subst K;exact .c _ _ .bO
   grind
  grind
 .rename_i e v m y U C S;obtain⟨d,hd,T⟩:=gu m;obtain⟨f,h1,Y,M⟩:=(j.ty hd).dW;rw[T]at Y;have:=j7 Y;subst this;have c:=dM r y;have q1:lo.map a.eval=none:=by rcases rz r U with⟨_,q⟩|⟨k,z,e,_⟩;exact q;cases e
  obtain⟨k2,q2⟩:∃k,hi.map a.eval=some (.int k 0):=by rcases rz r C with⟨q,_⟩|⟨k,z,e,q⟩;cases q;cases e;exact⟨k,q⟩
  obtain⟨k3,q3⟩:∃k,i.map a.eval=some (.int k 0):=by rcases rz r S with⟨q,_⟩|⟨k,z,e,q⟩;cases q;cases e;exact⟨k,q⟩
  have B:∀(D:a_ Addr)(len b:Nat)(J:TD),E.tt e=some J->∃Q,(sliceAt t (.slice D len b) (lo.map a.eval) (hi.map a.eval) (i.map a.eval)).run P w=.ok (.slice Q 0 0) w:=by intro D len b J u;refine⟨D,?_⟩;unfold sliceAt Instr.slice sliceBounds;simp only[run_bind,M,andThen_ok,q1,q2,q3,nO k3 0 b _ (Int.le_refl _) Zaa,nO k2 0 _ _ (Int.le_refl _) Zab,(j.ty u).lB];simp
  split at h
  next J es xs u=>simp at h;subst h;obtain⟨D,len,b,e1,_⟩:=FQ c.nh (le_refl _) (zero_le _);rw[e1];obtain⟨Q,g⟩:=B D len b _ u;exact⟨_,g,.c _ _ (.dU _)⟩
  .rename_i J id es off len u;simp at h;subst h;rcases c.ni with⟨p,b,_,_,_,_,O⟩|⟨_,D,O⟩
   .rw[O];obtain⟨Q,g⟩:=B _ _ _ _ u;exact⟨_,g,.c _ _ (.dU _)⟩
   rw[O];obtain⟨Q,g⟩:=B _ _ _ _ u;exact⟨_,g,.c _ _ (.dU _)⟩
  next J u=>simp at h;subst h;obtain⟨D,O⟩:=c.tH;rw[O];obtain⟨Q,g⟩:=B _ _ _ _ u;exact⟨_,g,.c _ _ (.dU _)⟩
  next J u=>simp only[ζa]at h;subst h;have O:=c.nj;rw[O];obtain⟨Q,g⟩:=B _ _ _ _ u;exact⟨_,g,.c _ _ (.dU _)⟩
  simp at h
 grind
end
section
variable{P:Program}{E:Env}{I:cE}{μ:Mu}{n:Nat}{F:WP}{a:Act}{w:World}
def cU.one{x:V}{vs:aZ V'}(h:cU I μ [x] vs):∃v,vs=[v]/\bN I μ x v:=by obtain⟨v,r,rfl,a,b⟩:=h.cons_inv;exact⟨v,by rw[b.xC],a⟩
def cU.two{x y:V}{vs:aZ V'}(h:cU I μ [x,y] vs):∃u v,vs=[u,v]/\bN I μ x u/\bN I μ y v:=by obtain⟨u,r,rfl,a,b⟩:=h.cons_inv;obtain⟨v,rfl,c⟩:=b.one;exact⟨u,v,rfl,a,c⟩
def cU.four{x y z t:V}{vs:aZ V'}(h:cU I μ [x,y,z,t] vs):∃u v p q,vs=[u,v,p,q]/\bN I μ x u/\bN I μ y v/\bN I μ z p/\bN I μ t q:=by obtain⟨u,r,rfl,b,a⟩:=h.cons_inv;obtain⟨v,r2,rfl,c,a⟩:=a.cons_inv;obtain⟨p,q,rfl,w,B⟩:=a.two;exact⟨u,v,p,q,rfl,b,c,w,B⟩
def tU{args:Array UV}{l:aZ V'}(h:args.toList.map a.eval=l):args.map a.eval=l.toArray:=by subst h;apply ext';simp
def zp:a_ TK->V->a_ V
 |some .str,.str s=>some (.int .i64 s.size)|some (.slice _),.fsl _ xs=>some (.int .i64 xs.length)|some (.slice _),.hsl _ _ _ len=>some (.int .i64 len)|some (.slice _),.dU=>some (.int .i64 0)|some (.slice _),.bO=>some (.int .i64 0)|_,_=>none
def Yx(U:eZ P E){t:W'}{x z:V}{v:V'}{ty:W'}{D:Array W'}(G:D[0]?=some t)(J:bN I μ x v)
 (h:zp (E.kindOf t) x=some z):∃u,(len_ D ty #[v]).run P w=.ok u w/\bN I μ z u:=by
 cases b:E.kindOf t with
 |none=>rw[b]at h;simp[zp]at h|some k=>
  rw[b]at h;have⟨d,hd,Q⟩:=gu b;have⟨c,g,S,T⟩:=(U.ty hd).dW;rw[Q]at S
  cases k with
  |str=>
   have:=BZ S;subst this
   cases x with
   |str s=>simp only[zp,ζa]at h;subst h;rw[J.vl];refine⟨_,?_,.c _ _ (.int _ _)⟩;unfold len_;simp[G,T,goInt]|_=>simp[zp]at h
  |slice e=>
   have:=j7 S;subst this;have B:∀C(len a:Nat),(len_ D ty #[.slice C len a]).run P w=.ok (.int .i64 len) w:=by intro C len a;unfold len_;simp[G,T,goInt]
   cases x with
   |fsl es W=>simp only[zp,ζa]at h;subst h;have⟨C,len,a,e1,e2,_⟩:=FQ (L:=0) (H:=0) J.nh (le_refl _) (zero_le _);rw[e1,<-e2];exact⟨_,B _ _ _,.c _ _ (.int _ _)⟩|hsl id es off len=>
    simp only[zp,ζa]at h;subst h;rcases J.ni with⟨p,a,_,_,_,_,O⟩|⟨f,C,O⟩
    .rw[O];exact⟨_,B _ _ _,.c _ _ (.int _ _)⟩
    rw[O,f];exact⟨_,B _ _ _,.c _ _ (.int _ _)⟩
   |dU=>simp only[zp,ζa]at h;subst h;have⟨C,O⟩:=J.tH;rw[O];exact⟨_,B _ _ _,.c _ _ (.int _ _)⟩|bO=>simp only[zp,ζa]at h;subst h;rw[J.nj];exact⟨_,B _ _ _,.c _ _ (.int _ _)⟩|_=>simp[zp]at h
  |_=>simp[zp]at h
def Yb:a_ TK->V->a_ V
 |some (.slice _),.bO=>some (.int .i64 0)|some (.slice _),.dU=>some (.int .i64 0)|_,_=>none
def Zf(U:eZ P E){t:W'}{x z:V}{v:V'}{ty:W'}{B:Array W'}(D:B[0]?=some t)(J:bN I μ x v)
 (h:Yb (E.kindOf t) x=some z):∃u,(cap_ B ty #[v]).run P w=.ok u w/\bN I μ z u:=by
 have key:∀e C,E.kindOf t=some (.slice e)->v=.slice C 0 0->(cap_ B ty #[v]).run P w=.ok (.int .i64 0) w:=λe C a c=>by have⟨d,hd,G⟩:=gu a;have⟨b,f,L,O⟩:=(U.ty hd).dW;rw[G]at L;have:=j7 L;subst this;unfold cap_;simp[D,O,goInt,c]
 unfold Yb at h;split at h
 next _ _ e a=>cases h;exact⟨_,key _ _ a J.nj,.c _ _ (.int _ _)⟩
 next _ _ e a=>cases h;have⟨C,q⟩:=J.tH;exact⟨_,key _ _ a q,.c _ _ (.int _ _)⟩
 cases h
def eU{s:Sem V'}{v:V'}{w':World}(h:s.run P w=.ok v w'):(do pure (Next.value (<-s)):Sem Next).run P w=.ok (.value v) w':=by rw[run_bind,h];rfl
def VG(G:eZ P E)(r:eV I μ n F a.tmps)(o:Oper){x:V}(h:bV E F o.op=some x):
 ∃v,(execOp a.eval o).run P w=.ok (.value v) w/\bN I μ x v:=by
 obtain⟨dst,op,ty,pos,after,M⟩:=o;simp only at h
 cases op with
 |move y=>exact⟨_,rfl,dM r (by simpa[bV]using h)⟩|assign y=>exact⟨_,rfl,dM r (by simpa[bV]using h)⟩|pick c y z=>
  simp only[bV]at h;simp only[execOp];split at h
  .rename_i t hc;have e:=(dM r hc).tv;simp only[e,asBool,run_bind,run_pure,andThen_ok]
   cases t with
   |true=>simp only[if_true]at h⊢;exact⟨_,rfl,dM r h⟩|false=>simp only[false_eq_true,if_false]at h⊢;exact⟨_,rfl,dM r h⟩
  simp at h
 |nilCheck y=>
  simp only[bV]at h;simp only[execOp];split at h
  next id el off D=>simp only[ζa]at h;subst h;have g:=dM r D;obtain⟨p,_,e⟩:=g.vg;rw[e]at g⊢;exact⟨_,rfl,g⟩
  next cs D=>simp only[ζa]at h;subst h;have g:=dM r D;obtain⟨b,o,c,e,_⟩:=g.nE;rw[e]at g⊢;exact⟨_,rfl,g⟩
  next f u v D=>simp only[ζa]at h;subst h;have g:=dM r D;obtain⟨b,c,e,_⟩:=g.kU;rw[e]at g⊢;exact⟨_,rfl,g⟩
  simp at h
 |binOp op t y z Z=>
  simp only[bV]at h;split at h
  next u v A g=>obtain⟨q,O,H⟩:=W8 (w:=w) G y z h (dM r A) (dM r g);exact⟨q,eU O,H⟩
  simp at h
 |unOp op t y=>
  simp only[bV]at h;simp only[execOp];split at h
  next b D=>simp only[ζa]at h;subst h;rw[(dM r D).tv];exact⟨_,eU (by simp only[Op.unary];rfl),.c _ _ (.bool _)⟩
  next k m D=>simp only[ζa]at h;subst h;rw[(dM r D).gp];exact⟨_,eU (by simp only[Op.unary,intArith];rfl),by simpa using bN.c _ _ (.int k _)⟩
  simp at h
 |convert s d y=>obtain⟨v,l,C⟩:=NT (w:=w) G r h;exact⟨v,eU l,C⟩|fieldAddr s y f=>obtain⟨v,l,C⟩:=Ot (w:=w) G r h;exact⟨v,eU l,C⟩|field s y f=>obtain⟨v,l,C⟩:=Tk (w:=w) G r h;exact⟨v,eU l,C⟩|indexAddr t y i=>obtain⟨v,l,C⟩:=NV (w:=w) G r h;exact⟨v,eU l,C⟩|index t y i=>obtain⟨v,l,C⟩:=Uc (w:=w) G r h;exact⟨v,eU l,C⟩|slice t y lo hi mx=>obtain⟨v,l,C⟩:=Um (w:=w) G r h;exact⟨v,eU l,C⟩|build t ps=>obtain⟨v,l,C⟩:=T3 (w:=w) G r h;exact⟨v,eU l,C⟩|makeFunc f u v=>
  cases f with
  |func f=>
   simp only[bV]at h;split at h
   next Q x2 l C=>simp only[ζa]at h;subst h;have r1:=pg r l;have r2:=pg r C;refine⟨.func (.func f) (u.map a.eval) (v.map a.eval),rfl,?_⟩;refine .clo f _ _ _ _ (by simpa using r1.1) (by simpa using r2.1) (λj p q s t=>r1.2 j p q s (by simpa using t)) (λj p q s t=>r2.2 j p q s (by simpa using t))
   simp at h
  |_=>simp[bV]at h
 |extract y i=>
  simp only[bV]at h;simp only[execOp];split at h
  .rename_i vs D;obtain⟨S,e,T⟩:=(dM r D).rN;rw[e];have U:=(ζe.1 h).1;have J:i<S.size:=by have:=T.1;simp at this;omega
   refine⟨S[i],eU (by simp[Instr.extract,J]),T.2 i x _ h (by simp[J])⟩
  simp at h
 |call c=>
  obtain⟨callee,args,W⟩:=c
  cases callee with
  |builtin b=>
   simp only[bV]at h;simp only[execOp,resolve,run_bind,run_pure,andThen_ok,invoke];split at h
   .rename_i v t B L;obtain⟨u,A,H⟩:=(pg r B).one;rw[tU A];obtain⟨q,l,C⟩:=Yx (w:=w) (ty:=ty) G L H (by rw[<-h];rfl)
    exact⟨q,by simp only[builtin];exact eU l,C⟩
   .rename_i v t B L;obtain⟨u,A,H⟩:=(pg r B).one;rw[tU A];obtain⟨q,l,C⟩:=Zf (w:=w) (ty:=ty) G L H (by rw[<-h];rfl)
    exact⟨q,by simp only[builtin];exact eU l,C⟩
   .rename_i k Q X x2 B;split at h
    next K=>simp only[ζa]at h;subst h;subst K;obtain⟨u,v,e,A,g⟩:=(pg r B).two;rw[tU e,A.gp,g.gp];exact⟨_,by simp only[builtin];exact eU (by simp[max_,max2]),.c _ _ (.int _ _)⟩
    simp at h
   .rename_i k Q k1 x2 k2 x3 k3 x4 B;split at h
    next K=>simp only[ζa]at h;subst h;obtain⟨rfl,rfl,rfl⟩:=K;obtain⟨u,v,p,q,e,A,g,Y,O⟩:=(pg r B).four;rw[tU e,A.gp,g.gp,Y.gp,O.gp];exact⟨_,by simp only[builtin];exact eU (by simp[max_,max2,Eb]),.c _ _ (.int _ _)⟩
    simp at h
   .rename_i k Q X x2 B;split at h
    next K=>simp only[ζa]at h;subst h;subst K;obtain⟨u,v,e,A,g⟩:=(pg r B).two;rw[tU e,A.gp,g.gp];exact⟨_,by simp only[builtin];exact eU (by simp[min_,min2]),.c _ _ (.int _ _)⟩
    simp at h
   simp at h
  |_=>simp[bV]at h
 |_=>simp[bV]at h
end
structure gN(I:cE)(μ:Mu)(p:Pl)(c:Array Value)(es:Nat)(xs:List (List V)):Prop where
 es_eq:p.es=es
 sz:c.size=p.sz
 qE:∀x∈xs,x.length=es
 one:∀x∈xs,∀y∈x,V.one y=true
 room:p.o+xs.length*es<=c.size
 rel:cU I μ xs.flatten ((c.toList.drop p.o).take (xs.length*es))
def xh(I:cE)(μ:Mu)(B:aZ (V×V))(es:Array MapEntry):Prop:=B.length=es.size/\∀(j:Nat)q e,B[j]?=some q->es[j]?=some e->bN I μ q.1 e.key/\bN I μ q.2 e.val
def Dp.is:Dp->LoopState->Prop
 |.ready,.ready|.busy,.busy|.done,.done=>True|_,_=>False
structure xz(I:cE)(μ:Mu)(r:xB)(l:Loop):Prop where
 st:r.st.is l.state
 pend:l.pending=r.pend.bind mc
 pendOk:r.pend≠some .norm
 frame:eV I μ r.nt r.frame l.tmps
 params:l.params.toList=r.params
 assign:l.assign=r.assign
 body:l.body=r.body
def Ob.live:Ob->X'
 |.row ..|.map _|.loop _=>true|_=>false
def uA(I:cE)(μ:Mu)(w:World)(id:Nat):Ob->Prop
 |.free=>μ id=none|.dead=>True|.row es xs=>∃p c el,μ id=some p/\I p.b=none/\w.heap[p.b]?=some (.cells c el)/\gN I μ p c es xs|.frz es xs=>∃p c,μ id=some p/\I p.b=some (.cells c)/\gN I μ p c es xs|.map B=>∃p es a,μ id=some p/\I p.b=none/\w.heap[p.b]?=some (.map es a)/\xh I μ B es|.loop r=>∃p l,μ id=some p/\I p.b=none/\w.heap[p.b]?=some (.loop l)/\xz I μ r l
structure di(I:cE)(μ:Mu)(H:bp)(w:World):Prop where
 dom:∀id,H.length<=id->μ id=none
 imm:∀b x,I b=some x->x.at w b
 obs:∀id ob,H[id]?=some ob->uA I μ w id ob
 inj:∀id id' ob ob' p p',H[id]?=some ob->H[id']?=some ob'->ob.live=true->ob'.live=true->μ id=some p->μ id'=some p'->p.b=p'.b->id=id'
 gl:vH I
def iV(μ:Mu)(H:bp)(b:Nat):Prop:=∃id p ob,H[id]?=some ob/\ob.live=true/\μ id=some p/\p.b=b
def Obj.nf(o:Obj):Prop:=∀c t fr,o=.cells c t fr->fr=(0,0)
def uP(c:Array V')(t:W'):Obj.nf (.cells c t):=λ_ _ _ h=>Zac
def tq{o:Obj}(h:(match o with|.cells ..=>false|_=>true)=true):Obj.nf o:=λc t fr e=>Zac
def En{w w':World}{o:Obj}{b:Nat}(B:Obj.nf o)(d:w'.heap[b]?=some o)(D:∀k,k≠b->w'.heap[k]?=w.heap[k]?)(a:Addr)(h:w.frozen? a=false):w'.frozen? a=false:=by by_cases e:a.block=b;unfold frozen?;rw[e,d];split;rename_i c t lo hi u;cases u;have:=B _ _ _ rfl;grind;rfl;unfold frozen? at h⊢;grind
structure xe(w w':World):Prop where
 out:w'.output=w.output
 tape:w'.tape=w.tape
 dr:w.drawn<=w'.drawn
def xe.refl(w:World):xe w w:=⟨rfl,rfl,le_refl _⟩
def xe.trans{w w' w'':World}(h:xe w w')(B:xe w' w''):xe w w'':=⟨B.out.trans h.out,B.tape.trans h.tape,le_trans h.dr B.dr⟩
structure Step(I:cE)(μ:Mu)(H:bp)(w:World)(I':cE)(μ':Mu)(H':bp)(w':World):Prop where
 le:cE.le I I'
 mu:Mu.le μ μ'
 len:H.length<=H'.length
 size:w.heap.size<=w'.heap.size
 frame:∀b,b<w.heap.size->¬iV μ H b->w'.heap[b]?=w.heap[b]?
 terr:∀b,((I' b).isSome=true\/iV μ' H' b)->(I b).isSome=true\/iV μ H b\/w.heap.size<=b
 os:w'.os=w.os
 out:xe w w'
 fz:∀a:Addr,a.block<w.heap.size->w.frozen? a=false->w'.frozen? a=false
section
variable{I I' I'':cE}{μ μ' μ'':Mu}{H H' H'':bp}{w w' w'':World}{P:Program}{E:Env}{n:Nat}{F:WP}{a:Act}
def IC.vP{x:IC}{b:Nat}(h:x.at w b):b<w.heap.size:=by cases x with|cells c=>have⟨_,_,h⟩:=h;grind|map es=>have⟨_,h⟩:=h;grind
def IC.tG{x:IC}{b:Nat}(h:x.at w b)(e:w'.heap[b]?=w.heap[b]?):x.at w' b:=by cases x with|cells c=>have⟨el,fr,h⟩:=h;exact⟨el,fr,Zac⟩|map es=>have⟨a,h⟩:=h;exact⟨a,Zac⟩
def Step.refl(I:cE)(μ:Mu)(H:bp)(w:World):Step I μ H w I μ H w:=⟨cE.le_refl _,Mu.le_refl _,le_refl _,le_refl _,λ_ _ _=>rfl,λ_ h=>h.elim .inl λh=>.inr (.inl h),rfl,.refl _,λ_ _ h=>h⟩
def gL(s:di I μ H w){b:Nat}(h:iV μ H b):I b=none:=by obtain⟨id,p,ob,h1,B,D,rfl⟩:=h;have:=s.obs id ob h1;cases ob with|row es G=>have⟨q,c,el,u,z,_⟩:=this;grind|map C=>have⟨q,c,el,u,z,_⟩:=this;grind|loop r=>have⟨q,c,u,z,_⟩:=this;grind|_=>simp[Ob.live]at B
def oK(s:di I μ H w){b:Nat}(h:iV μ H b):b<w.heap.size:=by obtain⟨id,p,ob,h1,C,G,rfl⟩:=h;have:=s.obs id ob h1;cases ob with|row es J=>have⟨q,c,el,u,z,B,_⟩:=this;grind|map D=>have⟨q,c,el,u,z,B,_⟩:=this;grind|loop r=>have⟨q,c,u,z,B,_⟩:=this;grind|_=>simp[Ob.live]at C
def Step.trans(D:di I' μ' H' w')(c:Step I μ H w I' μ' H' w')(B:Step I' μ' H' w' I'' μ'' H'' w''):Step I μ H w I'' μ'' H'' w'' where
 fz:=λa u h=>B.fz a (Nat.lt_of_lt_of_le u c.size) (c.fz a u h)
 le:=cE.le_trans c.le B.le
 mu:=λid p h=>B.mu id p (c.mu id p h)
 len:=le_trans c.len B.len
 size:=le_trans c.size B.size
 frame:=by intro b u C;rw[B.frame b (Nat.lt_of_lt_of_le u c.size) ?_,c.frame b u C];intro z;rcases c.terr b (.inr z)with h|h|h;have:=gL D z;have⟨x,G⟩:=isSome_iff_exists.1 h;rw[c.le _ _ G]at this;simp_all;simp_all;omega
 terr:=by intro b h;rcases B.terr b h with h|h|h;exact c.terr b (.inl h);exact c.terr b (.inr h);exact .inr (.inr (le_trans c.size h))
 os:=B.os.trans c.os
 out:=c.out.trans B.out
def gN.mono(h:cE.le I I')(B:Mu.le μ μ'){p:Pl}{c:Array V'}{es:Nat}{xs:T'}(r:gN I μ p c es xs):gN I' μ' p c es xs:=⟨r.es_eq,r.sz,r.qE,r.one,r.room,r.rel.mono h B⟩
def xh.mono(h:cE.le I I')(D:Mu.le μ μ'){B:aZ (V×V)}{es:Array MapEntry}(r:xh I μ B es):xh I' μ' B es:=⟨r.1,λj q e a b=>⟨(r.2 j q e a b).1.mono h D,(r.2 j q e a b).2.mono h D⟩⟩
def xz.mono(h:cE.le I I')(B:Mu.le μ μ'){r:xB}{l:Loop}(x:xz I μ r l):xz I' μ' r l:=⟨x.st,x.pend,x.pendOk,x.frame.mono h B,x.params,x.assign,x.body⟩
def uA.mono(h:cE.le I I')(B:Mu.le μ μ'){id:Nat}{ob:Ob}(r:uA I μ w id ob)
 (D:∀p,μ id=some p->ob.live=true->w'.heap[p.b]?=w.heap[p.b]?/\I' p.b=none)(G:ob=.free->μ' id=none):uA I' μ' w' id ob:=by
 cases ob with
 |free=>exact G rfl|dead=>trivial|row es J=>have⟨p,c,el,a,z,C,u⟩:=r;have⟨g1,g2⟩:=D p a rfl;exact⟨p,c,el,B _ _ a,g2,Zac,u.mono h B⟩|frz es J=>have⟨p,c,a,z,u⟩:=r;exact⟨p,c,B _ _ a,h _ _ z,u.mono h B⟩|map L=>have⟨p,es,b,a,z,C,u⟩:=r;have⟨g1,g2⟩:=D p a rfl;exact⟨p,es,b,B _ _ a,g2,Zac,u.mono h B⟩|loop x=>have⟨p,l,a,z,C,u⟩:=r;have⟨g1,g2⟩:=D p a rfl;exact⟨p,l,B _ _ a,g2,Zac,u.mono h B⟩
def di.qq(s:di I μ H w)(e:w'.heap=w.heap):di I μ H w' where
 dom:=s.dom
 imm:=λb x h=>IC.tG (s.imm b x h) (by rw[e])
 obs:=λid ob h=>(s.obs id ob h).mono (cE.le_refl _) (Mu.le_refl _) (λp u z=>⟨by rw[e],gL s ⟨id,p,ob,h,z,u,rfl⟩⟩) (λB=>by subst B;exact s.obs id _ h)
 inj:=s.inj
 gl:=s.gl
def Step.qq(e:w'.heap=w.heap)(c:w'.os=w.os)(B:xe w w'):Step I μ H w I μ H w':=⟨cE.le_refl _,Mu.le_refl _,le_refl _,Zac,λ_ _ _=>by rw[e],λb h=>h.elim .inl λh=>.inr (.inl h),c,B,λa _ h=>by unfold frozen? at h⊢;grind⟩
def Mu.ir(μ:Mu)(k:Nat)(p:Pl):Mu:=λid=>if id=k then some p else μ id
def Mu.gP(μ:Mu)(k:Nat)(p:Pl):μ.ir k p k=some p:=by simp[Mu.ir]
def Mu.jr(μ:Mu){k id:Nat}(p:Pl)(h:id≠k):μ.ir k p id=μ id:=by simp[Mu.ir,h]
def Mu.sJ{k:Nat}{p:Pl}(h:μ k=none):Mu.le μ (μ.ir k p):=by intro id q u;by_cases e:id=k;grind;rw[Mu.jr _ _ e];omega
def mW(o:Obj)(b:Nat)(h:b<w.heap.size):(w.alloc o).heap[b]?=w.heap[b]?:=by show(w.heap.push o)[b]?=_;grind
def nZ(o:Obj):(w.alloc o).heap[w.heap.size]?=some o:=by show(w.heap.push o)[w.heap.size]?=_;simp
def Ra{o:Obj}(B:Obj.nf o)(a:Addr)(h:w.frozen? a=false):(w.alloc o).frozen? a=false:=
 En B (nZ o) (λk b=>by
  by_cases u:k<w.heap.size
  .exact mW o k u
  show(w.heap.push o)[k]?=_
  grind) a h
def di.place(s:di I μ H w){k:Nat}{ob:Ob}{o:Obj}{p:Pl}(c:μ k=none)(J:H.length<=H'.length)(l:k<H'.length)
 (m:∀id,id≠k->H'[id]?=some .free\/H'[id]?=H[id]?)(U:∀id,id≠k->H'[id]?=some .free->μ id=none)(n:H'[k]?=some ob)(hp:p.b=w.heap.size)
 (r:uA I (μ.ir k p) (w.alloc o) k ob)(f:Obj.nf o):di I (μ.ir k p) H' (w.alloc o)/\Step I μ H w I (μ.ir k p) H' (w.alloc o):=by
 have g:∀b x,I b=some x->b<w.heap.size:=λb x h=>IC.vP (s.imm b x h)
 have z:∀id u,id≠k->H'[id]?=some u->u≠.free->H[id]?=some u:=by grind
 have C:∀b,iV (μ.ir k p) H' b->iV μ H b\/b=w.heap.size:=by rintro b ⟨id,q,u,h1,O,T,rfl⟩;by_cases e:id=k;subst e;rw[Mu.gP]at T;grind;rw[Mu.jr _ _ e]at T;exact .inl ⟨id,q,u,z id u e h1 Zac,O,T,rfl⟩
 refine⟨⟨?_,?_,?_,?_,s.gl⟩,⟨cE.le_refl _,Mu.sJ c,J,Zab,?_,?_,rfl,⟨rfl,rfl,le_refl _⟩,λa _=>En (b:=w.heap.size) f (nZ o) (λk c=>?_) a⟩⟩
 .intro id h;rw[Mu.jr _ _ Zaa]
  exact s.dom id Zaa
 .intro b x h;exact IC.tG (s.imm b x h) (mW o b (g b x h))
 .intro id u h
  by_cases e:id=k
  .grind
  by_cases W:u=.free
  .subst W;show(μ.ir k p) id=none;rw[Mu.jr _ _ e];grind
  have Z:=z id u e h W;refine(s.obs id u Z).mono (cE.le_refl _) (Mu.sJ c) (λq i X=>?_) (λj=>absurd j W)
  have d:iV μ H q.b:=⟨id,q,u,Z,X,i,rfl⟩;exact⟨mW o _ (oK s d),gL s d⟩
 .intro id B o1 o2 q q' h1 O Q S D G Y
  by_cases e:id=k<;>by_cases L:B=k
  .simp_all
  .subst e;rw[Mu.gP]at D;cases D;rw[Mu.jr _ _ L]at G;have:=oK s ⟨B,q',o2,z B o2 L O (by rintro rfl;simp[Ob.live]at S),S,G,rfl⟩
   omega
  .subst L;rw[Mu.gP]at G;cases G;rw[Mu.jr _ _ e]at D;have:=oK s ⟨id,q,o1,z id o1 e h1 (by rintro rfl;simp[Ob.live]at Q),Q,D,rfl⟩
   omega
  rw[Mu.jr _ _ e]at D;rw[Mu.jr _ _ L]at G;exact s.inj id B o1 o2 q q' (z id o1 e h1 (by rintro rfl;simp[Ob.live]at Q)) (z B o2 L O (by rintro rfl;simp[Ob.live]at S)) Q S D G Y
 .intro b Y _;exact mW o b Y
 .intro b h;rcases h with h|h
  .exact .inl h
  rcases C b h with h|h
  .exact .inr (.inl h)
  omega
 by_cases X:k<w.heap.size
 .exact mW o k X
 show(w.heap.push o)[k]?=_;rw[getElem?_eq_none (by simp;omega),getElem?_eq_none Zaa]
def di.push(s:di I μ H w){ob:Ob}{o:Obj}{p:Pl}(hp:p.b=w.heap.size)(B:uA I (μ.ir H.length p) (w.alloc o) H.length ob)(D:Obj.nf o:=by first|exact uP _ _|exact tq rfl):
 di I (μ.ir H.length p) (H++[ob]) (w.alloc o)/\Step I μ H w I (μ.ir H.length p) (H++[ob]) (w.alloc o):=by
 refine s.place (s.dom _ (le_refl _)) Zab Zab (λid h=>.inr ?_) (λid h z=>?_) Zab hp B D
 .grind
 by_cases u:id<H.length
 .rw[getElem?_append_left u]at z;exact s.obs id _ z
 grind
def di.fill(s:di I μ H w){k:Nat}{ob:Ob}{o:Obj}{p:Pl}(a:H[k]?=some .free)(hp:p.b=w.heap.size)(B:uA I (μ.ir k p) (w.alloc o) k ob)(D:Obj.nf o:=by first|exact uP _ _|exact tq rfl):
 di I (μ.ir k p) (H.set k ob) (w.alloc o)/\Step I μ H w I (μ.ir k p) (H.set k ob) (w.alloc o):=by
 have z:=(ζe.1 a).1;refine s.place (s.obs k _ a) Zab Zac (λid h=>.inr ?_) (λid h u=>?_) Zad hp B D
 .grind
 rw[getElem?_set_ne (Ne.symm h)]at u;exact s.obs id _ u
def gG(w:World)(b:Nat)(o:Obj):World:={w with heap:=w.heap.setIfInBounds b o}
def gV(o:Obj){b B:Nat}(h:B≠b):(gG w b o).heap[B]?=w.heap[B]?:=by simp[gG,Array.getElem?_setIfInBounds_ne (Ne.symm h)]
def jf(o:Obj){b:Nat}(h:b<w.heap.size):(gG w b o).heap[b]?=some o:=by simp[gG,h]
def yU(b:Nat)(o:Obj):(gG w b o).heap.size=w.heap.size:=by simp[gG]
def PX(b:Nat)(o B:Obj):gG (gG w b o) b B=gG w b B:=by simp[gG]
def Yq{o:Obj}{b:Nat}(B:Obj.nf o)(a:Addr)(h:w.frozen? a=false):(gG w b o).frozen? a=false:=by
 by_cases u:b<w.heap.size;exact En B (jf o u) (λk c=>gV o c) a h;have:(gG w b o).heap=w.heap:=by simp[gG,Array.setIfInBounds,u]
 unfold frozen? at h⊢;grind
def di.write(s:di I μ H w){id:Nat}{ob ob':Ob}{o:Obj}{p:Pl}(D:H[id]?=some ob)(U:ob.live=true)(hp:μ id=some p)
 (Y:uA I μ (gG w p.b o) id ob')(d:Obj.nf o:=by first|exact uP _ _|exact tq rfl):di I μ (H.set id ob') (gG w p.b o)/\Step I μ H w I μ (H.set id ob') (gG w p.b o):=by
 have z:iV μ H p.b:=⟨id,p,ob,D,U,hp,rfl⟩;have u:∀k x,(H.set id ob')[k]?=some x->∃y,H[k]?=some y/\(x.live=true->y.live=true)/\(k≠id->y=x):=by grind
 have L:∀b,iV μ (H.set id ob') b->iV μ H b:=by rintro b ⟨k,q,x,c,O,X,rfl⟩;have⟨y,Q,B,_⟩:=u k x c;exact⟨k,q,y,Q,B O,X,rfl⟩
 refine⟨⟨?_,?_,?_,?_,s.gl⟩,⟨cE.le_refl _,Mu.le_refl _,Zab,by rw[yU];grind,?_,?_,rfl,⟨rfl,rfl,le_refl _⟩,λa _=>En d (jf o (oK s z)) (λk f=>gV o f) a⟩⟩
 .intro k h;exact s.dom k Zac
 .intro b x h;refine IC.tG (s.imm b x h) (gV o ?_);intro C;rw[C,gL s z]at h;cases h
 .intro k x h
  by_cases e:k=id
  .grind
  rw[getElem?_set_ne (Ne.symm e)]at h;refine(s.obs k x h).mono (cE.le_refl _) (Mu.le_refl _) (λq T G=>⟨gV o ?_,gL s ⟨k,q,x,h,G,T,rfl⟩⟩) (λZ=>by subst Z;exact s.obs k _ h)
  intro C;exact e (s.inj k id x ob q p h D G U T hp C)
 .intro k W x x' q q' c O l1 l2 m1 m2 C;have⟨y,Q,B,_⟩:=u k x c;have⟨g,S,J,_⟩:=u W x' O;exact s.inj k W y g q q' Q S (B l1) (J l2) m1 m2 C
 .intro b _ hn;refine gV o ?_
  grind
 grind
def di.kill(s:di I μ H w){id:Nat}{ob:Ob}(D:H[id]?=some ob):di I μ (H.set id .dead) w/\Step I μ H w I μ (H.set id .dead) w:=by
 have z:=(ζe.1 D).1;have u:∀k x,(H.set id .dead)[k]?=some x->x.live=true->H[k]?=some x/\k≠id:=by intro k x h O;by_cases e:k=id;subst e;rw[getElem?_set_self z]at h;cases h;simp[Ob.live]at O;grind
 refine⟨⟨?_,s.imm,?_,?_,s.gl⟩,⟨cE.le_refl _,Mu.le_refl _,Zab,le_refl _,λ_ _ _=>rfl,?_,rfl,.refl _,λ_ _ h=>h⟩⟩;intro k h;exact s.dom k Zac;intro k x h;by_cases e:k=id;subst e;rw[getElem?_set_self z]at h;cases h;trivial;rw[getElem?_set_ne (Ne.symm e)]at h;exact s.obs k x h;intro k C x G q Q a B J L S T U;exact s.inj k C x G q Q (u k x a J).1 (u C G B L).1 J L S T U;rintro b (h|⟨k,q,x,a,B,W,rfl⟩);grind;exact .inr (.inl ⟨k,q,x,(u k x a B).1,B,W,rfl⟩)
end
section
variable{P:Program}{E:Env}{I:cE}{μ:Mu}{H:bp}{n:Nat}{F:WP}{a:Act}{w:World}
def xF{b:Nat}{c:Array V'}{el:W'}{fr:Nat×Nat}(h:w.heap[b]?=some (.cells c el fr))(k:Nat):w.cell? ⟨b,k,none⟩=c[k]?:=by simp[cell?,h]
def LK{b o:Nat}{c:Array V'}(d:∀k,w.cell? ⟨b,k,none⟩=c[k]?):∀(m i:Nat)(a:Array V'),o+i+m<=c.size->
 (loadCellsFrom ⟨b,o,none⟩ i m a).run P w=.ok (a++((c.toList.drop (o+i)).take m).toArray) w:=by
 intro m
 induction m with
 |zero=>intro i a _;simp[loadCellsFrom]|succ m z=>
  intro i a h;have u:o+i<c.size:=Zaa
  have e:w.cell? ⟨b,o+i,none⟩=some c[o+i]:=by rw[d];simp[u]
  simp only[loadCellsFrom,run_bind,qV,run_load,e,andThen_ok];rw[z (i+1) _ Zaa]
  congr 1
  rw[List.drop_eq_getElem_cons (show o+i<c.toList.length by simpa using u),List.take_succ_cons]
  apply ext';simp[add_assoc]
def FT{b o m:Nat}{c:Array V'}(a:∀k,w.cell? ⟨b,k,none⟩=c[k]?)(h:o+m<=c.size\/m=0):
 (loadCells ⟨b,o,none⟩ m).run P w=.ok ((c.toList.drop o).take m).toArray w:=by
 rcases h with h|h
 .have:=LK (P:=P) a m 0 #[] (o:=o) Zaa
  simpa[loadCells]using this
 subst h;simp[loadCells,loadCellsFrom]
def gC{es:Nat}{xs:T'}(a:∀x∈xs,x.length=es):xs.flatten.length=xs.length*es:=by induction xs with|nil=>simp|cons x xs u=>simp only[flatten_cons,ζi,length_cons];rw[u (λy w=>a y (mem_cons_of_mem _ w)),a x Zab,add_mul];omega
def Gy{es:Nat}:∀{xs:T'}(_:∀x∈xs,x.length=es){el:Nat}{cs:T2},xs[el]?=some cs->(xs.flatten.drop (el*es)).take es=cs:=by intro xs;induction xs with|nil=>intro _ el cs h;simp at h|cons x xs w=>intro a el cs h;have u:x.length=es:=a x Zab;cases el with|zero=>simp at h;subst h;simp[u]|succ el=>have:=w (λy z=>a y (mem_cons_of_mem _ z)) (el:=el) (cs:=cs) (by simpa using h);rw[flatten_cons,show(el+1)*es=x.length+el*es by rw[u,add_mul];omega,<-drop_drop];simpa using this
def KR{es:Nat}:∀{xs:T'}(_:∀x∈xs,x.length=es){el:Nat}(cs:T2),el<xs.length->cs.length=es->
 (xs.set el cs).flatten=xs.flatten.take (el*es)++cs++xs.flatten.drop (el*es+es):=by
 intro xs
 induction xs with
 |nil=>intro _ el cs h;simp at h|cons x xs w=>
  intro a el cs h b;have u:x.length=es:=a x Zab
  cases el with
  |zero=>simp[u]|succ el=>
   have:=w (λy z=>a y (mem_cons_of_mem _ z)) (el:=el) cs (by simpa using h) b
   simp only[List.set_cons_succ,flatten_cons,this];rw[show(el+1)*es=x.length+el*es by rw[u,add_mul];omega]
   rw[show x.length+el*es+es=x.length+(el*es+es)by omega]
   rw[List.take_append,List.drop_append];simp[List.take_of_length_le,List.drop_eq_nil_of_le,Nat.add_sub_cancel_left]
def ye{es:Nat}{xs:T'}(a:∀x∈xs,x.length=es){i j:Nat}{x:T2}{y:V}(b:xs[i]?=some x)(B:x[j]?=some y):xs.flatten[i*es+j]?=some y:=by
 have:=Gy a b;have u:j<es:=by rw[<-a x (mem_of_getElem? b)];exact(ζe.1 B).1
 have e:=congrArg (·[j]?) this;simp only[getElem?_take,u,if_true,getElem?_drop]at e;rw[e];exact B
def gN.elem{p:Pl}{c:Array V'}{es:Nat}{xs:T'}(r:gN I μ p c es xs){el:Nat}{cs:T2}(h:xs[el]?=some cs):
 cU I μ cs ((c.toList.drop (p.o+el*es)).take es)/\cs.length=es/\p.o+el*es+es<=c.size:=by
 have u:=(ζe.1 h).1;have z:=r.qE cs (mem_of_getElem? h);have a:=(r.rel.drop (el*es)).take es;rw[Gy r.qE h]at a;have B:el*es+es<=xs.length*es:=by have:=mul_le_mul_right es (show el+1<=xs.length from u);rwa [add_mul,one_mul]at this
 have w:=r.room;refine⟨?_,z,Zaa⟩
 have e:(((c.toList.drop p.o).take (xs.length*es)).drop (el*es)).take es=(c.toList.drop (p.o+el*es)).take es:=by rw[drop_take,take_take,drop_drop,min_eq_left Zaa]
 rw[e]at a;exact a
def gN.span{p:Pl}{c:Array V'}{es:Nat}{xs:T'}(r:gN I μ p c es xs){off len:Nat}(h:off+len<=xs.length):
 cU I μ ((xs.drop off).take len).flatten ((c.toList.drop (p.o+off*es)).take (len*es))/\p.o+off*es+len*es<=c.size:=by
 have w:=r.room;have B:off*es+len*es<=xs.length*es:=by rw[<-add_mul];exact mul_le_mul_right _ h
 have e1:((xs.drop off).take len).flatten=(xs.flatten.drop (off*es)).take (len*es):=by have u:xs=xs.take off++((xs.drop off).take len++(xs.drop off).drop len):=(by rw[take_append_drop,take_append_drop]);have g1:(xs.take off).flatten.length=off*es:=(by rw[gC (λx u=>r.qE x (mem_of_mem_take u))];rw[length_take,min_eq_left Zaa]);have g2:((xs.drop off).take len).flatten.length=len*es:=(by rw[gC (λx u=>r.qE x (mem_of_mem_drop (mem_of_mem_take u))),length_take,List.length_drop,min_eq_left Zaa]);have z:=congrArg List.flatten u;simp only[flatten_append]at z;rw[z,<-g1,List.drop_left,<-g2,List.take_left]
 have a:=(r.rel.drop (off*es)).take (len*es);rw[e1];refine⟨?_,Zaa⟩
 have e:(((c.toList.drop p.o).take (xs.length*es)).drop (off*es)).take (len*es)=(c.toList.drop (p.o+off*es)).take (len*es):=by rw[drop_take,take_take,drop_drop,min_eq_left Zaa]
 rw[e]at a;exact a
def KF{ob:Ob}{es:Nat}{xs:T'}(h:ob.rows=some (es,xs)):ob=.row es xs\/ob=.frz es xs:=by cases ob<;>simp_all [Ob.rows]
def di.rows(s:di I μ H w){id es:Nat}{xs:T'}(h:(H[id]?).bind Ob.rows=some (es,xs)):
 ∃p c,μ id=some p/\(∀k,w.cell? ⟨p.b,k,none⟩=c[k]?)/\gN I μ p c es xs:=by
 have⟨ob,a,u⟩:=ζg.1 h;have:=s.obs id ob a;rcases KF u with rfl|rfl
 .have⟨p,c,el,g1,_,g3,g4⟩:=this;exact⟨p,c,g1,xF g3,g4⟩
 have⟨p,c,g1,g2,g4⟩:=this;have⟨el,fr,g3⟩:=s.imm _ _ g2;exact⟨p,c,g1,xF g3,g4⟩
def Tc(s:di I μ H w){p:V}{v:V'}(d:bN I μ p v){m:Nat}{cs:T2}(h:eO H p m=some cs):
 ∃(b o:Nat)(c:Array V'),v=.pointer (some ⟨b,o,none⟩)/\(∀k,w.cell? ⟨b,k,none⟩=c[k]?)/\(o+m<=c.size\/m=0)/\cU I μ cs ((c.toList.drop o).take m):=by
 unfold eO at h;split at h
 .rename_i z;have⟨b,o,c,e,G,Q,l⟩:=d.nE;have⟨el,fr,g⟩:=s.imm _ _ G;refine⟨b,o,c,e,xF g,?_⟩;have J:cU I μ z ((c.toList.drop o).take z.length):=by
   refine⟨by simp;omega,λj x y f C=>?_⟩
   have L:=(ζe.1 f).1;rw[getElem?_take,if_pos L,getElem?_drop]at C;exact .c _ _ (l j x y f (by simpa using C))
  rcases CZ J h with⟨g1,g2,g3⟩|⟨g1,g2⟩
  .refine⟨.inl Zaa,?_⟩
   rw[List.drop_zero,take_take,min_eq_left Zaa]at g1
   exact g1
  refine⟨.inr g1,?_⟩;rw[g2,g1];exact .nil
 .rename_i id el off;split at h
  .rename_i es z u;split at h
   .rename_i O B;have⟨p,c,g1,g2,g3⟩:=s.rows u;have⟨q,D,e⟩:=d.vg;rw[g1]at D;cases D;refine⟨_,_,c,e,g2,?_⟩;have⟨k1,k2,k3⟩:=g3.elem B;rw[g3.es_eq];rcases CZ k1 h with⟨a,i,n⟩|⟨a,i⟩
    .refine⟨.inl Zaa,?_⟩
     rw[drop_take,take_take,min_eq_left Zaa,drop_drop]at a
     exact a
    refine⟨.inr a,?_⟩;rw[i,a];exact .nil
   simp at h
  simp at h
 simp at h
def E6(D:eZ P E)(s:di I μ H w){t:W'}{d:TD}(hd:E.tt t=some d){p x:V}{v:V'}(g:bN I μ p v)(h:(eO H p d.size).bind (mk d.agg)=some x):
 ∃u,(loadAt t v).run P w=.ok u w/\bN I μ x u/\∃G,v=.pointer (some G)/\(loadVar t G).run P w=.ok u w:=by
 have⟨cs,i,C⟩:=ζg.1 h;have⟨b,o,c,e,g1,g2,g3⟩:=Tc s g i;have key:∃u,(loadVar t ⟨b,o,none⟩).run P w=.ok u w/\bN I μ x u:=by unfold loadVar;simp only[run_bind,(D.ty hd).OE,andThen_ok];cases z:d.agg with|true=>rw[z]at C;refine⟨.agg ((c.toList.drop o).take d.size).toArray,?_,PA C (by simpa using g3)⟩;simp only[if_true,run_bind,(D.ty hd).lB,andThen_ok,FT g1 g2,run_pure]|false=>rw[z]at C;have⟨u,a,J⟩:=mk_one C g3;refine⟨u,?_,J⟩;have L:d.size≠0:=(by intro j;rw[j]at a;simp at a);have B:c[o]?=some u:=(by have:=congrArg (·[0]?) a;simp only[getElem?_take,getElem?_drop,getElem?_cons_zero]at this;rw[if_pos Zaa]at this;simpa using this);simp only[false_eq_true,if_false,run_load,g1,B]
 have⟨u,f,O⟩:=key;refine⟨u,?_,O,_,e,f⟩;rw[e];unfold loadAt;simp only[run_bind,sureAddr,run_pure,andThen_ok,f]
end
section
variable{P:Program}{E:Env}{I:cE}{μ:Mu}{H:bp}{n:Nat}{F:WP}{a:Act}{w:World}
def di.K2(s:di I μ H w){b:Nat}{x:IC}(h:I b=some x):b<w.heap.size:=IC.vP (s.imm b x h)
def Wd{b es:Nat}{c:Array V'}{xs:T'}(h:cU I μ xs.flatten c.toList)(a:∀x∈xs,x.length=es)(B:∀x∈xs,∀y∈x,V.one y=true):
 gN I μ ⟨b,0,es,c.size⟩ c es xs:=by
 have u:xs.length*es=c.size:=by rw[<-gC a,h.1];simp
 exact⟨rfl,rfl,a,B,by simp[u],by simpa[u,List.take_of_length_le]using h⟩
structure UR(I:cE)(μ:Mu)(w:World)(ob:Ob)(m:Mk)(o:Obj)(p:Pl)(u:Value):Prop where
 b:p.b=w.heap.size
 live:ob.live=true
 nf:Obj.nf o
 len:∀es xs,ob=.row es xs->p.sz=xs.length*es
 rel:∀k,μ k=none->uA I (μ.ir k p) (w.alloc o) k ob/\bN I (μ.ir k p) (m.val k) u
def di.AK(s:di I μ H w):I w.heap.size=none:=by cases h:I w.heap.size with|none=>rfl|some x=>have:=s.K2 h;omega
def yQ(s:di I μ H w){es:Nat}{xs:T'}{c:Array V'}{el:W'}{m:Mk}{u:V'}(h:cU I μ xs.flatten c.toList)(a:∀x∈xs,x.length=es)
 (B:∀x∈xs,∀y∈x,V.one y=true)(d:∀k,bN I (μ.ir k ⟨w.heap.size,0,es,c.size⟩) (m.val k) u):UR I μ w (.row es xs) m (.cells c el) ⟨w.heap.size,0,es,c.size⟩ u where
 nf:=uP _ _
 b:=rfl
 live:=rfl
 len:=λz C e=>by cases e;rw[<-gC a,h.1];simp
 rel:=λk f=>⟨⟨_,c,el,Mu.gP _ _ _,s.AK,nZ _,(Wd h a B).mono (cE.le_refl _) (Mu.sJ f)⟩,d k⟩
def MY(t:W')(v:V'):(newVar t v).run P w=.ok ⟨w.heap.size,0,none⟩ (w.alloc (.cells v.cells t)):=by simp[newVar,newRow]
def yB{z:T2}{B:Array V'}(h:cU I μ z B.toList)(m:Nat):
 cU I μ (replicate m z).flatten (((Array.range (m*B.size)).map (λi=>B[i % B.size]!)).toList):=by
 have G:z.length=B.size:=by simpa using h.1
 have d:∀x∈replicate m z,x.length=z.length:=λx L=>by rw[eq_of_mem_replicate L]
 have w:=gC d;simp only[List.length_replicate]at w;refine⟨by rw[w,G];simp,λj x y a J=>?_⟩
 have C:=(ζe.1 a).1;rw[w]at C;have u:0<z.length:=by rcases eq_zero_or_pos z.length with b|b;rw[b]at C;simp at C;exact b
 have hi:j / z.length<m:=(Nat.div_lt_iff_lt_mul u).2 C;have c:j % z.length<z.length:=mod_lt _ u;have e1:=ye d (i:=j / z.length) (j:=j % z.length) (x:=z) (y:=z[j % z.length]) (by simp[hi]) (by simp[c])
 rw[Nat.mul_comm,Nat.div_add_mod]at e1;rw[e1]at a;cases a;have D:j % B.size<B.size:=by rw[<-G];exact c
 have e2:y=B[j % B.size]:=by have O:j<(Array.range (m*B.size)).size:=(by simp;rw[<-G];exact C);simp only[Array.toList_map,List.getElem?_map,ζf]at J;obtain⟨q,Q,rfl⟩:=J;have:q=j:=(by have:=(ζe.1 Q).2;simpa using this.symm);subst this;simp[D]
 rw[e2];exact h.2 (j % z.length) _ _ (by simp[c]) (by rw[G];simp[D])
def ID{es:Nat}:∀(vs:aZ (Nat×V))(xs ys:T'),(∀x∈xs,x.length=es)->(∀x∈xs,∀y∈x,V.one y=true)->fS es xs vs=some ys->
 vN (λi=>some (i*es,es)) xs.flatten vs=some ys.flatten/\(∀x∈ys,x.length=es)/\(∀x∈ys,∀y∈x,V.one y=true)/\ys.length=xs.length:=by
 intro vs
 induction vs with
 |nil=>intro xs ys a u h;simp only[fS,ζa]at h;subst h;exact⟨rfl,a,u,rfl⟩|cons v vs G=>
  intro xs ys a u h;have⟨i,v⟩:=v;simp only[fS]at h;split at h
  .rename_i hc;have⟨b,D,I⟩:=hc;have w:∀x∈xs.set i v.cells,x.length=es:=λx z=>by
    rcases List.mem_or_eq_of_mem_set z with h|h
    .exact a x h
    rw[h];exact b
   have B:∀x∈xs.set i v.cells,∀y∈x,V.one y=true:=λx z=>by rcases List.mem_or_eq_of_mem_set z with h|h;exact u x h;rw[h];simpa using I
   have⟨g1,g2,g3,g4⟩:=G _ ys w B h;refine⟨?_,g2,g3,by simpa using g4⟩
   rw[KR a _ D b]at g1;have J:i*es+es<=xs.length*es:=by have:=mul_le_mul_right es (show i+1<=xs.length from D);rwa [add_mul,one_mul]at this
   have C:=gC a;simp only[vN];rw[if_neg (by simp[b,C];omega),b]
   exact g1
  simp at h
def D1(J:eZ P E)(r:eV I μ n F a.tmps)(s:di I μ H w)(o:Oper){ob:Ob}{m:Mk}(h:fF E F o.op=some (ob,m)):
 ∃x p u,(execOp a.eval o).run P w=.ok (.value u) (w.alloc x)/\UR I μ w ob m x p u:=by
 have⟨dst,op,ty,pos,after,A⟩:=o;simp only at h
 cases op with
 |alloc t=>
  simp only[fF,ζf,ζc]at h;obtain⟨d,hd,rfl,rfl⟩:=h;have⟨z,U,b,W,L⟩:=(J.ty hd).Fj;refine⟨.cells z.cells t,_,.pointer (some ⟨w.heap.size,0,none⟩),?_,yQ s (by simpa using b I μ) (by simp[W]) (by simpa using L) (λk=>?_)⟩
  .simp only[execOp];refine eU ?_;unfold Instr.alloc;simp only[run_bind,U,andThen_ok,MY,run_pure]
  have:=bN.hptr (I:=I) k 0 0 _ (Mu.gP μ k ⟨w.heap.size,0,d.size,z.cells.size⟩);simp only[zero_mul,add_zero]at this;exact this
 |box t x=>
  simp only[fF]at h;split at h
  .rename_i v hv;split at h
   .rename_i L;simp only[ζa,ζc]at h;obtain⟨rfl,rfl⟩:=h;have b:=dM r hv;refine⟨.cells (a.eval x).cells t,_,.pointer (some ⟨w.heap.size,0,none⟩),?_,yQ s (by simpa using b.cells) Zab (by simpa using L) (λk=>?_)⟩
    .simp only[execOp];refine eU ?_;unfold Instr.box;simp only[run_bind,MY,andThen_ok,run_pure]
    have:=bN.hptr (I:=I) k 0 0 _ (Mu.gP μ k ⟨w.heap.size,0,v.cells.length,(a.eval x).cells.size⟩);simp only[zero_mul,add_zero]at this;exact this
   simp at h
  simp at h
 |makeSlice t l c=>
  simp only[fF]at h;split at h
  .rename_i e k1 ln k2 B q W hc;have⟨d,hd,O⟩:=gu q;have⟨g,V,X,K⟩:=(J.ty hd).dW;rw[O]at X;have:=j7 X;subst this;split at h
   .rename_i G D;split at h
    .rename_i Q;obtain⟨rfl,rfl,am,an,hm,ao⟩:=Q;simp only[ζa,ζc]at h;obtain⟨rfl,rfl⟩:=h;have⟨z,U,b,S,L⟩:=(J.ty D).Fj;have⟨i,_,hi,al,ap,_⟩:=(J.ty D).info;have C:z.cells.size=G.size:=by have:=(b I μ).1;simp at this;omega
     have Y:(0:Int)<=B:=Zaa
     have w1:i64.wrap ln=ln:=by simp[wrap,signed,IntKind.bits];omega
     have w2:i64.wrap B=B:=by simp[wrap,signed,IntKind.bits];omega
     have Z:∀y:Int,0<=y->y<=2147483648->((i.bytes:Int)*y>2 ^ 48)=False:=by
      intro y ad hy;simp only[eq_iff_iff,iff_false,Int.not_lt,gt_iff_lt];have ae:(i.bytes:Int)<=4096:=Zaa
      calc (i.bytes:Int)*y<=4096*2147483648:=Int.mul_le_mul ae hy ad Zaa
       _<=2 ^ 48:=by decide
     have aa:(Instr.makeSlice t (.int .i64 ln) (.int .i64 B)).run P w=
      .ok (.slice (some ⟨w.heap.size,0,none⟩) ln.toNat B.toNat) (w.alloc (.cells ((Array.range (B.toNat*z.cells.size)).map (λi=>z.cells[i % z.cells.size]!)) e)):=by
      unfold Instr.makeSlice;have t1:(decide (B<0)||decide ((i.bytes:Int)*B>2 ^ 48))=false:=by
       rw[Bool.or_eq_false_iff];exact⟨by simp;omega,by simp only[Z B Y hm,decide_false]⟩
      have q1:(((decide (B<0)||decide ((i.bytes:Int)*B>2 ^ 48))||decide (ln<0))||decide (ln>B))=false:=by rw[t1];simp;omega
      simp only[run_bind,K,andThen_ok,asInt,mY,run_pure,qd hi,w1,w2,q1,false_eq_true,if_false,run_askRoom,(J.ty D).lB];rw[C]
      by_cases f:B.toNat*G.size=0
      .have N:Array.range 0=(#[]:Array Nat):=rfl;simp[f,newRow,N]
      simp[f,U,C,newRow]
     refine⟨.cells ((Array.range (B.toNat*z.cells.size)).map (λi=>z.cells[i % z.cells.size]!)) e,_,.slice (some ⟨w.heap.size,0,none⟩) ln.toNat B.toNat,?_,yQ s (yB (b I μ) B.toNat) (λx T=>by rw[eq_of_mem_replicate T,S]) (λx T=>by rw[eq_of_mem_replicate T];simpa using L) (λk=>?_)⟩
     .simp only[execOp];refine eU ?_;rw[(dM r W).gp,(dM r hc).gp];exact aa
     have:=bN.hsl (I:=I) (μ:=μ.ir k ⟨w.heap.size,0,G.size,((Array.range (B.toNat*z.cells.size)).map (λi=>z.cells[i % z.cells.size]!)).size⟩) k 0 ln.toNat B.toNat _ (Mu.gP _ _ _) Zaa (by simp[C])
     simpa[Mk.val]using this
    simp at h
   simp at h
  simp at h
 |buildSlice t len ps=>
  simp only[fF]at h;split at h
  .rename_i e vs q af;have⟨d,hd,O⟩:=gu q;have⟨g,V,X,K⟩:=(J.ty hd).dW;rw[O]at X;have:=j7 X;subst this;split at h
   .rename_i G D;split at h
    .rename_i ah;simp only[ζf,ζc]at h;obtain⟨ys,ai,rfl,rfl⟩:=h;have⟨z,U,b,S,L⟩:=(J.ty D).Fj;have C:z.cells.size=G.size:=by have:=(b I μ).1;simp at this;omega
     have⟨W,aj⟩:=HS r af;have⟨g1,g2,g3,g4⟩:=ID vs _ ys (λx T=>by rw[eq_of_mem_replicate T,S]) (λx T=>by rw[eq_of_mem_replicate T];simpa using L) ai
     have⟨M,j,R⟩:=DJ (place':=λi=>some (i*G.size,G.size)) (λi p hp=>hp) vs _ _ _ ((Array.range (len*z.cells.size)).map (λi=>z.cells[i % z.cells.size]!)) W aj (yB (b I μ) len) g1
     have ab:M.size=len*G.size:=by
      have e1:=R.1;rw[gC g2,g4]at e1;simpa using e1.symm
     refine⟨.cells M e,_,.slice (some ⟨w.heap.size,0,none⟩) len len,?_,yQ s R g2 g3 (λk=>?_)⟩
     .simp only[execOp];refine eU ?_;unfold Instr.buildSlice;have ak:¬(len*G.size>2 ^ 24):=by omega
      simp only[run_bind,K,andThen_ok,(J.ty D).lB,if_neg ak]
      by_cases f:len*G.size=0
      .have e0:(Array.range (len*z.cells.size)).map (λi=>z.cells[i % z.cells.size]!)=#[]:=by rw[C,f];simp
       rw[e0]at j;have N:Array.range 0=(#[]:Array Nat):=rfl;simp only[f,if_true,run_pure,andThen_ok,N,Array.map_empty];rw[j];simp[newRow]
      simp only[if_neg f,run_bind,U,andThen_ok,run_pure];rw[C]at j;rw[C,j];simp[newRow]
     have:=bN.hsl (I:=I) (μ:=μ.ir k ⟨w.heap.size,0,G.size,M.size⟩) k 0 len len _ (Mu.gP _ _ _) (le_refl _) (by simp[ab])
     simpa[Mk.val]using this
    simp at h
   simp at h
  simp at h
 |makeMap t r=>
  cases r with
  |none=>
   simp only[fF,ζa,ζc]at h;obtain⟨rfl,rfl⟩:=h;refine⟨.map #[] 0,⟨w.heap.size,0,0,0⟩,.map (some w.heap.size),?_,⟨rfl,rfl,tq rfl,λ_ _ e=>(nomatch e),λk q=>⟨⟨_,#[],0,Mu.gP _ _ _,s.AK,nZ _,rfl,Zab⟩,?_⟩⟩⟩
   .simp only[execOp];refine eU ?_;unfold Instr.makeMap;simp[run_newObj]
   exact bN.hmap (I:=I) k ⟨w.heap.size,0,0,0⟩ (Mu.gP _ _ _)
  |some x=>simp[fF]at h
 |_=>simp[fF]at h
end
section
variable{P:Program}{E:Env}{I:cE}{μ:Mu}{H H':bp}{n:Nat}{F:WP}{a:Act}{w:World}
def bN.one{x:V}{v:V'}(h:bN I μ x v)(B:x.one=true):v.oneCell'=true:=by
 cases h with
 |c _ _ h=>cases h<;>first|rfl|simp[V.one]at B
 |agg=>simp[V.one]at B|tup=>simp[V.one]at B|_=>rfl
def cU.Ua{xs:T2}{vs:aZ V'}(h:cU I μ xs vs)(B:∀x∈xs,V.one x=true):∀v∈vs,v.oneCell'=true:=by
 intro v a;obtain⟨j,w,rfl⟩:=List.mem_iff_getElem.1 a;have u:j<xs.length:=by rw[h.1];exact w
 exact(h.2 j xs[j] vs[j] (by simp[u]) (by simp[w])).one (B _ (List.getElem_mem u))
def Ql{b:Nat}{o:Obj}(h:w.heap[b]?=some o):gG w b o=w:=by
 unfold gG;have:w.heap.setIfInBounds b o=w.heap:=by apply Array.ext;simp;intro i a u;have⟨z,e⟩:=Array.getElem?_eq_some_iff.1 h;rw[Array.getElem_setIfInBounds];split;subst_vars;rfl;rfl
 rw[this]
def KG{b o:Nat}{c:Array V'}{el:W'}{v:V'}(h:w.heap[b]?=some (.cells c el)):
 w.setCell ⟨b,o,none⟩ v=gG w b (.cells (c.setIfInBounds o v) el):=by
 unfold World.setCell gG
 congr 1
 have⟨B,e⟩:=Array.getElem?_eq_some_iff.1 h;apply Array.ext
 .simp
 intro i a z
 by_cases hi:i=b
 .subst hi;simp[Array.getElem_modify,e]
 have u:i<w.heap.size:=by simpa using z
 rw[Array.getElem_modify_of_ne (Ne.symm hi) _ (by simpa using u),Array.getElem_setIfInBounds]
 .simp[Ne.symm hi]
 exact u
def wP{b o:Nat}{el:W'}:∀(vs:aZ V')(i:Nat)(w:World)(c:Array V'),w.heap[b]?=some (.cells c el)->(∀v∈vs,v.oneCell'=true)->o+i+vs.length<=c.size->
 ∃c',(storeCells ⟨b,o,none⟩ vs i).run P w=.ok () (gG w b (.cells c' el))/\c'.toList=c.toList.take (o+i)++vs++c.toList.drop (o+i+vs.length):=by
 intro vs
 induction vs with
 |nil=>intro i w c h _ _;exact⟨c,by simp[storeCells,Ql h],Zab⟩|cons v vs G=>
  intro i w c h D I;simp only[length_cons]at I;have z:o+i<c.size:=Zaa
  have u:w.cell? ⟨b,o+i,none⟩=some c[o+i]:=by rw[xF h];simp[z]
  have C:w.frozen? ⟨b,o+i,none⟩=false:=by simp[frozen?,h]
  have J:=(Array.getElem?_eq_some_iff.1 h).1;have⟨c',g1,g2⟩:=G (i+1) (gG w b (.cells (c.setIfInBounds (o+i) v) el)) (c.setIfInBounds (o+i) v) (jf _ J) (λx L=>D x (mem_cons_of_mem _ L)) (by simp;omega)
  refine⟨c',?_,?_⟩
  .simp only[storeCells,run_bind,qV,run_store P w _ v _ (D v Zab),u,C,false_eq_true,if_false,andThen_ok,KG h]
   rw[g1,PX]
  rw[g2];have B:o+i<c.toList.length:=by simpa using z
  simp only[Array.toList_setIfInBounds,length_cons];rw[show o+(i+1)=o+i+1 from Zaa,List.take_succ_eq_append_getElem (by simpa using B),List.take_set_of_le Zaa,List.getElem_set_self,List.drop_set_of_lt Zaa]
  simp[append_assoc];omega
structure DG(P:Program)(I:cE)(μ:Mu)(H:bp)(w:World)(s:Sem Next)(x:V)(H':bp):Prop where
 run:∃nx u w' μ',s.run P w=.ok nx w'/\(nx=.value u\/(nx=.skip/\u=undef))/\bN I μ' x u/\di I μ' H' w'/\Step I μ H w I μ' H' w'
def Dh{α:Type}(L vs:aZ α)(o m k:Nat)(D:o+m<=L.length)(a:k+vs.length<=m):
 ((L.take (o+k)++vs++L.drop (o+k+vs.length)).drop o).take m=((L.drop o).take m).take k++vs++((L.drop o).take m).drop (k+vs.length):=by
 obtain⟨A,B,C,rfl,u,w⟩:∃A B C:aZ α,L=A++(B++C)/\A.length=o/\B.length=m:=⟨L.take o,(L.drop o).take m,(L.drop o).drop m,by rw[take_append_drop,take_append_drop],by simp;omega,by simp;omega⟩
 subst u;subst w;have e1:(A++(B++C)).take (A.length+k)=A++B.take k:=by rw[List.take_append,List.take_of_length_le Zaa,Nat.add_sub_cancel_left,List.take_append_of_le_length Zaa]
 have e2:(A++(B++C)).drop (A.length+k+vs.length)=B.drop (k+vs.length)++C:=by rw[List.drop_append,List.drop_eq_nil_of_le Zaa,List.nil_append,List.drop_append_of_le_length Zaa];congr 2;omega
 have e3:((A++(B++C)).drop A.length).take B.length=B:=Zab
 rw[e1,e2,e3];simp only[append_assoc,List.drop_left];have z:(B.take k++(vs++B.drop (k+vs.length))).length=B.length:=by simp;omega
 have:B.take k++(vs++(B.drop (k+vs.length)++C))=(B.take k++(vs++B.drop (k+vs.length)))++C:=by simp[append_assoc]
 rw[this,<-z,List.take_left]
def gN.splice{p:Pl}{c c':Array V'}{es el off:Nat}{xs:T'}{cs ys:T2}{vs:aZ V'}(r:gN I μ p c es xs)(B:xs[el]?=some cs)(U:cU I μ ys vs)
 (W:∀y∈ys,V.one y=true)(Y:off+ys.length<=cs.length)(a:c'.toList=c.toList.take (p.o+el*es+off)++vs++c.toList.drop (p.o+el*es+off+vs.length)):
 gN I μ p c' es (xs.set el (cs.take off++ys++cs.drop (off+ys.length))):=by
 have⟨k1,k2,k3⟩:=r.elem B;have D:=(ζe.1 B).1;have S:=U.1;have u:=r.room;have X:el*es+es<=xs.length*es:=by have:=mul_le_mul_right es (show el+1<=xs.length from D);rwa [add_mul,one_mul]at this
 have G:c'.size=c.size:=by have:=congrArg length a;simp at this;omega
 have J:(cs.take off++ys++cs.drop (off+ys.length)).length=es:=by simp;omega
 have z:∀x∈xs.set el (cs.take off++ys++cs.drop (off+ys.length)),x∈xs\/x=cs.take off++ys++cs.drop (off+ys.length):=λx L=>List.mem_or_eq_of_mem_set L
 refine⟨r.es_eq,by rw[G];exact r.sz,?_,?_,by rw[G];simpa using u,?_⟩
 .intro x L;rcases z x L with h|h
  .exact r.qE x h
  rw[h];exact J
 .intro x L y w;rcases z x L with h|h
  .exact r.one x h y w
  rw[h]at w;have O:=r.one cs (mem_of_getElem? B);simp only[mem_append]at w;rcases w with(h|h)|h
  .exact O y (mem_of_mem_take h)
  .exact W y h
  exact O y (mem_of_mem_drop h)
 rw[KR r.qE _ D J,a,length_set];have C:=r.rel;have Q:=Gy r.qE B;have e:take (xs.length*es) (List.drop p.o (take (p.o+el*es+off) c.toList++vs++List.drop (p.o+el*es+off+vs.length) c.toList))=
  (((c.toList.drop p.o).take (xs.length*es)).take (el*es+off))++vs++(((c.toList.drop p.o).take (xs.length*es)).drop (el*es+off+vs.length)):=by
  have:=Dh c.toList vs p.o (xs.length*es) (el*es+off) (by simpa using u) Zaa
  simpa only[add_assoc]using this
 rw[e];have e2:xs.flatten.take (el*es)++(cs.take off++ys++cs.drop (off+ys.length))++xs.flatten.drop (el*es+es)=
  xs.flatten.take (el*es+off)++ys++xs.flatten.drop (el*es+off+ys.length):=by
  have T:=gC r.qE;have b:xs.flatten.take (el*es+off)=xs.flatten.take (el*es)++cs.take off:=by rw[<-Q,List.take_add,take_take,min_eq_left Zaa]
  have d:xs.flatten.drop (el*es+off+ys.length)=cs.drop (off+ys.length)++xs.flatten.drop (el*es+es):=by rw[<-Q,drop_take];have:xs.flatten.drop (el*es+es)=(xs.flatten.drop (el*es+(off+ys.length))).drop (es-(off+ys.length)):=(by rw[drop_drop];congr 1;omega);rw[this,drop_drop,take_append_drop,add_assoc]
  rw[b,d];simp[append_assoc]
 rw[e2,<-S];exact((C.take _).append U).append (C.drop _)
def R4(U:eZ P E)(r:eV I μ n F a.tmps)(s:di I μ H w){t:W'}{p q:UV}{x:V}(h:dz E F H (.store t p q)=some (x,H')):
 DG P I μ H w (do storeAt t (a.eval p) (a.eval q);pure .skip) x H':=by
 simp only[dz]at h;split at h
 .rename_i d id el off v hd T W;split at h
  .rename_i es O z;split at h
   .rename_i cs B;split at h
    .rename_i hc;have⟨X,Y,D⟩:=hc;simp only[ζa,ζc]at h;obtain⟨rfl,rfl⟩:=h;have⟨pl,c,ty,g1,g2,g3,g4⟩:=s.obs id _ z;have⟨Z,Q,e⟩:=(dM r T).vg;rw[g1]at Q;cases Q;have u:=(dM r W).cells;have S:∀y∈v.cells,V.one y=true:=by simpa using D
     have⟨k1,k2,k3⟩:=g4.elem B;have G:=u.1;have b:pl.o+el*es+off+0+(a.eval q).cells.toList.length<=c.size:=Zaa
     have⟨c',f,g⟩:=wP (P:=P) (o:=pl.o+el*es+off) (a.eval q).cells.toList 0 w c g3 (u.Ua S) b;have C:gN I μ pl c' es (O.set el (cs.take off++v.cells++cs.drop (off+v.cells.length))):=g4.splice B u S Zaa (by simpa using g)
     have J:=(Array.getElem?_eq_some_iff.1 g3).1;have⟨i,j⟩:=s.write (ob':=.row es (O.set el (cs.take off++v.cells++cs.drop (off+v.cells.length)))) (o:=.cells c' ty) z rfl g1
      ⟨pl,c',ty,g1,g2,jf _ J,C⟩
     refine⟨.skip,undef,_,μ,?_,.inr ⟨rfl,rfl⟩,.undef I μ,i,j⟩;rw[e];have L:¬((a.eval q).cells.size≠d.size):=by simp at G;omega
     rw[g4.es_eq];unfold storeAt storeVar;simp only[run_bind,sureAddr,run_pure,andThen_ok,(U.ty hd).lB,if_neg L,f]
    simp at h
   simp at h
  simp at h
 simp at h
end
section
variable{P:Program}{E:Env}{I:cE}{μ:Mu}{H H':bp}{n:Nat}{F:WP}{a:Act}{w:World}
def Bu(s:di I μ H w){x:V}{v:V'}(Y:bN I μ x v){es:Nat}{ys:T'}(h:dQ H es x=some ys):
 ∃D a arr,v=.slice D ys.length a/\ys.length<=a/\(∀G:World,G.heap=w.heap->(firstCells es ys.length v).run P G=.ok arr G)/\cU I μ ys.flatten arr.toList/\(∀y∈ys,y.length=es)/\
  (∀y∈ys,∀z∈y,V.one z=true):=by
 have B:∀(D:a_ Addr)(a:Nat)(G:World),G.heap=w.heap->(firstCells es 0 (.slice D 0 a)).run P G=.ok #[] G:=by intro D a G _;cases D with|none=>rfl|some D=>simp[firstCells,loadCells,loadCellsFrom]
 cases x with
 |dU=>simp only[dQ,ζa]at h;subst h;obtain⟨D,rfl⟩:=Y.tH;exact⟨D,0,#[],rfl,le_refl _,B D 0,.nil,Zab,Zab⟩|bO=>simp only[dQ,ζa]at h;subst h;rw[Y.nj];exact⟨none,0,#[],rfl,le_refl _,B none 0,.nil,Zab,Zab⟩|fsl u L=>
  simp only[dQ]at h;split at h
  .rename_i Z;simp only[ζa]at h;subst h;subst Z;have t:=Y.nh
   cases t with
   |fsl0 _ D a=>exact⟨some D,a,#[],rfl,zero_le _,B (some D) a,.nil,Zab,Zab⟩|fsl _ _ b o a c hI n hu ho r hr=>
    have⟨el,fr,A⟩:=s.imm _ _ hI;refine⟨_,a,((c.toList.drop o).take (L.length*u)).toArray,rfl,n,?_,?_,hu,ho⟩
    .intro G O;simp only[firstCells];exact FT (xF (w:=G) (by rw[O];exact A)) (.inl r)
    have S:=gC hu;refine⟨by simp[S];omega,λj p q g l=>?_⟩
    have T:=(ζe.1 g).1;rw[S]at T;have J:0<u:=by rcases eq_zero_or_pos u with d|d;rw[d]at T;simp at T;exact d
    have hi:j / u<L.length:=(Nat.div_lt_iff_lt_mul J).2 T;have U:j % u<u:=mod_lt _ J;have W:=hu _ (List.getElem_mem hi);have e1:=ye hu (i:=j / u) (j:=j % u) (x:=L[j / u]) (y:=(L[j / u])[j % u]) (by simp[hi]) (by simp[W,U])
    have m:j / u*u+j % u=j:=by rw[Nat.mul_comm,Nat.div_add_mod]
    rw[m,g]at e1;cases e1;simp only[getElem?_take,if_pos T,getElem?_drop]at l;refine .c _ _ (hr (j / u) (j % u) L[j / u] _ q (by simp[hi]) (by simp[W,U]) ?_)
    rw[add_assoc,m];simpa using l
  simp at h
 |hsl id u off len=>
  simp only[dQ]at h;split at h
  .rename_i Z;subst Z;split at h
   .rename_i Q L X;split at h
    .rename_i ab;simp only[ζa]at h;subst h;have⟨p,c,g1,g2,g3⟩:=s.rows X;have C:((L.drop off).take len).length=len:=by simp;omega
     rcases Y.ni with⟨q,a,U,E,n,r,e⟩|⟨d,D,e⟩
     .rw[g1]at U;cases U;have J:Q=u:=by rw[<-g3.es_eq,E]
      subst J;have⟨k1,k2⟩:=g3.span ab;refine⟨_,a,((c.toList.drop (p.o+off*Q)).take (len*Q)).toArray,by rw[e,C],Zaa,?_,by simpa using k1,?_,?_⟩
      .intro G O;rw[e,C];simp only[firstCells];exact FT (λk=>by rw[<-g2 k];simp[cell?,O]) (.inl k2)
      .exact λy f=>g3.qE y (mem_of_mem_drop (mem_of_mem_take f))
      exactλy f=>g3.one y (mem_of_mem_drop (mem_of_mem_take f))
     subst d;simp only[List.take_zero]at C⊢;exact⟨_,0,#[],by rw[e];rfl,le_refl _,by rw[e];exact B _ 0,.nil,Zab,Zab⟩
    simp at h
   simp at h
  simp at h
 |_=>simp[dQ]at h
def rC(z:Array V')(k:Nat):(zeroCells z k).size=k*z.size:=by simp[zeroCells]
def di.drew(s:di I μ H w):di I μ H w.drew:=s.qq rfl
def CW(s:di I μ H w){es B:Nat}{xs ys:T'}{old new rest:Array V'}{el:W'}(Y:cU I μ xs.flatten old.toList)(a:cU I μ ys.flatten new.toList)
 (G:∀x∈xs,x.length=es)(J:∀x∈ys,x.length=es)(U:∀x∈xs,∀y∈x,V.one y=true)(W:∀x∈ys,∀y∈x,V.one y=true)
 (D:xs.length+ys.length<=B)(b:rest.size=(B-(xs.length+ys.length))*es):
 ∃μ',bN I μ' (.hsl H.length es 0 (xs.length+ys.length)) (.slice (some ⟨w.heap.size,0,none⟩) (xs.length+ys.length) B)/\di I μ' (H++[.row es (xs++ys)]) (w.alloc (.cells (old++new++rest) el))/\
  Step I μ H w I μ' (H++[.row es (xs++ys)]) (w.alloc (.cells (old++new++rest) el)):=by
 have L:=gC G;have O:=gC J;have z:=Y.1;have C:=a.1;simp only[length_toList]at z C;have Q:(old++new++rest).size=B*es:=by simp only[Array.size_append];rw[<-z,<-C,L,O,b,<-add_mul,<-add_mul];congr 1;omega
 have u:(xs.length+ys.length)*es<=B*es:=mul_le_mul_right _ D;rw[add_mul]at u;have S:gN I μ ⟨w.heap.size,0,es,(old++new++rest).size⟩ (old++new++rest) es (xs++ys):=by refine⟨rfl,rfl,?_,?_,?_,?_⟩;intro x T;rcases mem_append.1 T with h|h;exact G x h;exact J x h;intro x T;rcases mem_append.1 T with h|h;exact U x h;exact W x h;rw[Q];simp only[ζi,zero_add,add_mul];exact u;have e:((old++new++rest).toList.drop 0).take ((xs++ys).length*es)=old.toList++new.toList:=(by simp only[List.drop_zero,Array.toList_append];rw[List.take_left' (by simp[<-z,<-C,L,O,add_mul])]);rw[e,flatten_append];exact Y.append a
 have⟨X,Z⟩:=s.push (ob:=.row es (xs++ys)) (o:=.cells (old++new++rest) el) (p:=⟨w.heap.size,0,es,(old++new++rest).size⟩) rfl
  ⟨_,_,el,Mu.gP _ _ _,s.AK,nZ _,S.mono (cE.le_refl _) (Mu.sJ (s.dom _ (le_refl _)))⟩
 refine⟨_,?_,X,Z⟩;have:=bN.hsl (I:=I) H.length 0 (xs.length+ys.length) B _ (Mu.gP μ H.length ⟨w.heap.size,0,es,(old++new++rest).size⟩) D (by simp only[zero_add];rw[Q];exact le_refl _)
 simpa using this
def Nq(s:di I μ H w){id:Nat}{ob ob':Ob}{p p':Pl}{o:Obj}(B:H[id]?=some ob)(U:ob.live=true)(hp:μ id=some p)(d:p'.b=p.b)
 (m:uA I (μ.ir H.length p') (gG w p.b o) H.length ob')(n:Obj.nf o:=by first|exact uP _ _|exact tq rfl):di I (μ.ir H.length p') (H.set id .dead++[ob']) (gG w p.b o)/\Step I μ H w I (μ.ir H.length p') (H.set id .dead++[ob']) (gG w p.b o):=by
 have Z:=(ζe.1 B).1;have z:iV μ H p.b:=⟨id,p,ob,B,U,hp,rfl⟩;have c:=s.dom H.length (le_refl _);have u:∀k x,(H.set id .dead++[ob'])[k]?=some x->(k=H.length/\x=ob')\/(k≠H.length/\k=id/\x=.dead)\/(k≠H.length/\k≠id/\H[k]?=some x):=by intro k x h;by_cases e:k<H.length;rw[getElem?_append_left (by simpa using e)]at h;by_cases D:k=id;subst D;rw[getElem?_set_self Z]at h;cases h;exact .inr (.inl ⟨Zaa,rfl,rfl⟩);rw[getElem?_set_ne (Ne.symm D)]at h;exact .inr (.inr ⟨Zaa,D,h⟩);have:=(ζe.1 h).1;simp at this;have e2:k=H.length:=Zaa;subst e2;simp at h;exact .inl ⟨rfl,h.symm⟩
 have C:∀b,iV (μ.ir H.length p') (H.set id .dead++[ob']) b->iV μ H b:=by rintro b ⟨k,q,x,i,Q,T,rfl⟩;rcases u k x i with⟨rfl,rfl⟩|⟨_,_,rfl⟩|⟨e,D,h⟩;rw[Mu.gP]at T;cases T;rw[d];exact z;simp[Ob.live]at Q;rw[Mu.jr _ _ e]at T;exact⟨k,q,x,h,Q,T,rfl⟩
 refine⟨⟨?_,?_,?_,?_,s.gl⟩,⟨cE.le_refl _,Mu.sJ c,Zab,by rw[yU];exact le_refl _,?_,?_,rfl,⟨rfl,rfl,le_refl _⟩,λa _=>En (b:=p.b) n (jf o (oK s z)) (λk c=>gV o c) a⟩⟩
 .intro k h;simp at h;rw[Mu.jr _ _ Zaa]
  exact s.dom k Zaa
 .intro b x h;refine IC.tG (s.imm b x h) (gV o ?_);intro G;rw[G,gL s z]at h;cases h
 .intro k x h;rcases u k x h with⟨rfl,rfl⟩|⟨_,_,rfl⟩|⟨e,D,h⟩
  .exact m
  .trivial
  refine(s.obs k x h).mono (cE.le_refl _) (Mu.sJ c) (λq j S=>⟨gV o ?_,gL s ⟨k,q,x,h,S,j,rfl⟩⟩) (λr=>?_)
  .intro G;exact D (s.inj k id x ob q p h B S U j hp G)
  subst r;rw[Mu.jr _ _ e];exact s.obs k _ h
 .intro k W x X q q' i Q l1 Y L O J;rcases u k x i with⟨rfl,rfl⟩|⟨_,_,rfl⟩|⟨e,D,h⟩
  .rcases u W X Q with⟨rfl,rfl⟩|⟨_,_,rfl⟩|⟨f,l,g⟩
   .rfl
   .simp[Ob.live]at Y
   rw[Mu.gP]at L;cases L;rw[Mu.jr _ _ f]at O;exact absurd (s.inj W id X ob q' p g B Y U O hp (by rw[<-J,d])) l
  .simp[Ob.live]at l1
  rcases u W X Q with⟨rfl,rfl⟩|⟨_,_,rfl⟩|⟨f,l,g⟩
  .rw[Mu.gP]at O;cases O;rw[Mu.jr _ _ e]at L;exact absurd (s.inj k id x ob q p h B l1 U L hp (by rw[J,d])) D
  .simp[Ob.live]at Y
  rw[Mu.jr _ _ e]at L;rw[Mu.jr _ _ f]at O;exact s.inj k W x X q q' h g l1 Y L O J
 .intro b _ hn;refine gV o ?_;rintro rfl;exact hn z
 intro b h;rcases h with h|h
 .exact .inl h
 exact .inr (.inl (C b h))
end
section
variable{P:Program}{E:Env}{I:cE}{μ:Mu}{H H':bp}{n:Nat}{F:WP}{a:Act}{w:World}
def E_(f:eZ P E){t g e:W'}{d:TD}{D:TypeDesc}(h:P.underlying t=some (.slice e))(Y:P.underlying g=some D)(k:∃j,D=.slice j)(hd:E.tt e=some d)
 (W J:a_ Addr)(sl sc B c:Nat)(new:Array V')(l:(firstCells d.size B (.slice J B c)).run P w=.ok new w)(ty:W'):
 (sl+B<=sc->∀w',(match W with|some b=>(storeCells (b.add (sl*d.size)) new.toList).run P w=.ok () w'|none=>w'=w)->
  (append_ #[t,g] ty #[.slice W sl sc,.slice J B c]).run P w=.ok (.slice W (sl+B) sc) w')/\
 (sc<sl+B->sl+B<=2147483648->d.bytes<=4096->0<d.bytes->∀old,(∀U,U.heap=w.heap->(firstCells d.size sl (.slice W sl sc)).run P U=.ok old U)->
  (∀U,U.heap=w.heap->(firstCells d.size B (.slice J B c)).run P U=.ok new U)->
  ∃G rest,sl+B<=G/\rest.size=(G-(sl+B))*d.size/\
   (append_ #[t,g] ty #[.slice W sl sc,.slice J B c]).run P w=.ok (.slice (some ⟨w.heap.size,0,none⟩) (sl+B) G) (w.drew.alloc (.cells (old++new++rest) e))):=by
 have⟨i,z,hi,X,o,m,L,p,_⟩:=(f.ty hd).info;have u:∀w,(zeroValue e).run P w=.ok z w:=λw=>by simp[zeroValue,qd hi,m]
 have O:z.cells.size=d.size:=by have:=(L (λ_=>none) (λ_=>none)).1;grind
 obtain⟨j,rfl⟩:=k;constructor
 .intro Q w' ai;unfold append_;simp only[run_bind,List.getElem?_toArray,getElem?_cons_zero,List.getElem?_cons_succ,dW h,dW Y,andThen_ok,(f.ty hd).lB,run_pure,lenOf,false_eq_true,if_false,Bool.not_false,if_true,if_pos Q,l]
  cases W with
  |none=>simp_all|some b=>simp_all
 intro S Z q r old a C;have T:=nextslicecap_le S;have n:¬(nextslicecap (sl+B) sc*i.bytes>2 ^ 48):=by have:nextslicecap (sl+B) sc*i.bytes<=(2*2147483648)*4096:=mul_le_mul Zaa Zaa;omega
 have I:¬(sl+B<=sc):=Zaa
 refine⟨(appendCap (sl+B) sc e).cut (w.tape w.drawn (appendCap (sl+B) sc e)),zeroCells z.cells (((appendCap (sl+B) sc e).cut (w.tape w.drawn (appendCap (sl+B) sc e)))-(sl+B)),?_,?_,?_⟩
 .simp[Question.cut]
 .rw[rC,O]
 unfold append_;simp only[run_bind,List.getElem?_toArray,getElem?_cons_zero,List.getElem?_cons_succ,dW h,dW Y,andThen_ok,(f.ty hd).lB,run_pure,lenOf,false_eq_true,if_false,Bool.not_false,if_true,if_neg I,qd hi];rw[if_neg Zac]
 simp only[run_bind,qd hi,if_neg n,run_choose,forced,false_eq_true,if_false,andThen_ok,run_askRoom,u,newRow,run_newObj,run_pure];rw[a {w with drawn:=w.drawn+1} rfl];simp only[andThen_ok];rw[C {w with drawn:=w.drawn+1} rfl];rfl
def wrap_small{m:Nat}(h:m<=2147483648):i64.wrap (m:Int)=m:=by simp[wrap,IntKind.bits];omega
def Ig(U:eZ P E){t W e:W'}{d:TD}{kk k:IntKind}(Y:P.underlying t=some (.slice e))(G:P.underlying W=some (.int kk))(hd:E.tt e=some d)(ty:W')(m:Nat)(D:m<=2147483648):
 (m=0->(append_ #[t,W] ty #[.slice none 0 0,.int k m]).run P w=.ok (.slice none 0 0) w)/\
 (0<m->d.bytes<=4096->0<d.bytes->∃B z rest,m<=B/\rest.size=(B-m)*d.size/\cU I μ d.zero z.toList/\
  (append_ #[t,W] ty #[.slice none 0 0,.int k m]).run P w=.ok (.slice (some ⟨w.heap.size,0,none⟩) m B) (w.drew.alloc (.cells (#[]++zeroCells z m++rest) e))):=by
 have⟨i,z,hi,X,l,a,C,n,_⟩:=(U.ty hd).info;have u:∀w,(zeroValue e).run P w=.ok z w:=λw=>by simp[zeroValue,qd hi,a]
 have J:z.cells.size=d.size:=by have:=(C (λ_=>none) (λ_=>none)).1;grind
 have b:=wrap_small D;constructor
 .rintro rfl;unfold append_;have Q:i64.wrap 0=0:=by omega
  simp[dW Y,dW G,(U.ty hd).lB,asInt,qd hi,mY,Q]
 intro Z o p;have S:nextslicecap (0+m) 0<=2*(0+m):=nextslicecap_le Zaa
 have c:¬(nextslicecap (0+m) 0*i.bytes>2 ^ 48):=by have:nextslicecap (0+m) 0*i.bytes<=(2*2147483648)*4096:=mul_le_mul Zaa Zaa;omega
 have f:¬(m*(i.bytes:Int)>2 ^ 48):=by have q:m*i.bytes<=2147483648*4096:=mul_le_mul D Zaa;grind
 have g:¬((0+m:Nat)>i64.max):=by have:i64.max=9223372036854775807:=(by rfl);omega
 have L:¬(0+m<=0):=Zaa
 have O:¬((m:Int)<0):=Zaa
 refine⟨(appendCap (0+m) 0 e).cut (w.tape w.drawn (appendCap (0+m) 0 e)),z.cells,zeroCells z.cells (((appendCap (0+m) 0 e).cut (w.tape w.drawn (appendCap (0+m) 0 e)))-(0+m)),?_,?_,C _ _,?_⟩
 .simp[Question.cut]
 .rw[rC,J,zero_add]
 unfold append_;have T:(if m*d.size=0 then pure #[]else do pure (zeroCells (<-zeroValue e).cells m))=(do pure (zeroCells (<-zeroValue e).cells m))\/(m*d.size=0/\zeroCells z.cells m=#[]):=by by_cases h:m*d.size=0;right;exact⟨h,Array.eq_empty_of_size_eq_zero (by rw[rC,J,h])⟩;left;rw[if_neg h]
 simp only[run_bind,List.getElem?_toArray,getElem?_cons_zero,List.getElem?_cons_succ,dW Y,dW G,andThen_ok,(U.ty hd).lB,run_pure,if_true,asInt,mY,b,if_neg O,qd hi,if_neg f,Int.toNat_natCast,if_neg L,if_false];rw[if_neg (λh=>g h.1)]
 simp only[run_bind,qd hi,if_neg c,run_choose,forced,andThen_ok,u,newRow,firstCells];rcases T with h|⟨h,j⟩
 .rw[h];simp[u,run_newObj]
 rw[if_pos h,j];simp[run_newObj]
def Rn(g:eZ P E)(r:eV I μ n F a.tmps)(s:di I μ H w){args:Array UV}{U:Array W'}{x:V}{ty:W'}
 (h:dz E F H (.call {callee:=.builtin .append,args,argTypes:=U})=some (x,H')):
 DG P I μ H w (do let d<-resolve a.eval {callee:=.builtin .append,args,argTypes:=U} ty;invoke d.target d.args) x H':=by
 simp[dz]at h;split at h
 .rename_i t t' vs vx ay aj;obtain⟨us,ux,W,i,T⟩:=(pg r aj).two;split at h
  .rename_i e e' hk ak;obtain⟨d0,al,am⟩:=gu hk;obtain⟨R,h1,h2,h3⟩:=(g.ty al).dW;rw[am]at h2;have:=j7 h2;subst this;obtain⟨d1,jL,X⟩:=gu ak;obtain⟨an,g1,g2,g3⟩:=(g.ty jL).dW;rw[X]at g2;have:=j7 g2;subst this;have C:∀v w',(append_ #[t,t'] ty #[us,ux]).run P w=.ok v w'->
    (do let d<-resolve a.eval {callee:=.builtin .append,args,argTypes:=U} ty;invoke d.target d.args).run P w=.ok (.value v) w':=by
    simp[resolve,run_bind,run_pure,andThen_ok,invoke,builtin];rw[tU W];have ea:U=#[t,t']:=Zac
    simp_all
   split at h
   .rename_i d hd;split at h
    .
     rename_i xs B ao;obtain⟨ad,f,arr,e1,e2,e3,e4,_⟩:=Bu (P:=P) s i B;obtain⟨ap,Y,D,M,f2,j,o,_⟩:=Bu s T ao;simp at M j;have aA:D=#[]:=by have:=o.1;grind
     have j:=j w rfl;rw[M]at j;have key:=(E_ g h1 g1 ⟨_,rfl⟩ hd ad ap xs.length f 0 Y D j ty).1 Zaa w
      (by
       cases ad with
       |none=>rfl|some b=>simp[aA,storeCells])
     rw[<-M,<-e1,add_zero,<-e1]at key;have aq:x=vs/\H'=H:=by grind
     obtain⟨rfl,rfl⟩:=aq;exact⟨_,us,w,μ,C _ _ key,.inl rfl,i,s,.refl _ _ _ _⟩
    .rename_i xs ys aH B ao;obtain⟨ad,f,arr,e1,e2,e3,e4,e5,e6⟩:=Bu s i B;obtain⟨ap,Y,D,M,f2,j,o,f5,f6⟩:=Bu s T ao;split at h
     .rename_i hc;obtain⟨aB,ar,au⟩:=hc;have aI:0<ys.length:=by
       rcases eq_zero_or_pos ys.length with N|N
       .exact absurd (List.eq_nil_of_length_eq_zero N) aH
       exact N
      have key:=E_ g h1 g1 ⟨_,rfl⟩ hd ad ap xs.length f ys.length Y D (by rw[<-M];exact j w rfl) ty
      rw[<-M,<-e1]at key;have Q:f<xs.length+ys.length->∃G rest,xs.length+ys.length<=G/\rest.size=(G-(xs.length+ys.length))*d.size/\
       (append_ #[t,t'] ty #[us,ux]).run P w=.ok (.slice (some ⟨w.heap.size,0,none⟩) (xs.length+ys.length) G) (w.drew.alloc (.cells (arr++D++rest) e)):=by
       intro av;refine key.2 av aB ar au arr ?_ ?_
       .intro w2 aw;exact e3 w2 aw
       intro w2 aw;exact j w2 aw
      simp at h;obtain⟨H1,L,rfl,rfl⟩:=h
      cases vs with
      |dU=>
       simp[iG]at L;subst L;simp[dQ]at B;subst B;obtain⟨aJ,q⟩:=i.tH;have ah:f=0:=by rw[q]at e1;cases e1;rfl
       obtain⟨G,rest,k1,k2,k3⟩:=Q (by simp;omega)
       obtain⟨μ',m1,A,K⟩:=CW s.drew e4 o e5 f5 e6 f6 k1 k2;refine⟨_,_,_,μ',C _ _ k3,.inl rfl,m1,A,?_⟩;exact Step.trans s.drew (Step.qq rfl rfl ⟨rfl,rfl,le_succ _⟩) K
      |bO=>
       simp[iG]at L;subst L;simp[dQ]at B;subst B;have q:=i.nj;have ah:f=0:=by rw[q]at e1;cases e1;rfl
       obtain⟨G,rest,k1,k2,k3⟩:=Q (by simp;omega)
       obtain⟨μ',m1,A,K⟩:=CW s.drew e4 o e5 f5 e6 f6 k1 k2;refine⟨_,_,_,μ',C _ _ k3,.inl rfl,m1,A,?_⟩;exact Step.trans s.drew (Step.qq rfl rfl ⟨rfl,rfl,le_succ _⟩) K
      |hsl id es off len=>
       simp[iG]at L;split at L
       .rename_i u aK ae;simp at L;subst L;have aC:(H[id]?).bind Ob.rows=some (u,aK):=by rw[ae];rfl
        have aX:=B;simp only[dQ]at B;split at B
        .rename_i aL;rw[aC]at B;simp only at B;split at B
         .rename_i aM;simp at B;obtain⟨p,c,aD,q1,q2,q3,q4⟩:=s.obs id _ ae;have Z:xs.length=len:=by rw[<-B];simp;omega
          have J:f<xs.length+ys.length->DG P I μ H w (do let d<-resolve a.eval {callee:=.builtin .append,args,argTypes:=U} ty;invoke d.target d.args)
           (.hsl H.length d.size 0 (xs.length+ys.length)) (H.set id .dead++[.row d.size (xs++ys)]):=by
           intro av;obtain⟨G,rest,k1,k2,k3⟩:=Q av;obtain⟨s1,s2⟩:=s.drew.kill ae;obtain⟨μ',m1,A,K⟩:=CW s1 e4 o e5 f5 e6 f6 k1 k2;rw[length_set]at m1;exact⟨_,_,_,μ',C _ _ k3,.inl rfl,m1,A,Step.trans s.drew (Step.qq rfl rfl ⟨rfl,rfl,le_succ _⟩) (Step.trans s1 s2 K)⟩
          rcases i.ni with⟨p',S,hm,aN,aY,aO,ee⟩|⟨N,aJ,ee⟩
          .rw[q1]at hm;cases hm;have ax:S=f/\ad=some ⟨p.b,p.o+off*es,none⟩:=by rw[ee]at e1;cases e1;exact⟨rfl,rfl⟩
           obtain⟨rfl,rfl⟩:=ax
           by_cases ai:xs.length+ys.length<=S
           .have aE:u=es:=by rw[<-q4.es_eq,aN]
            subst aE;have O:=aL;obtain⟨r1,r2⟩:=q4.span aM;rw[B]at r1;have af:=o.1;simp only[length_toList]at af;rw[gC f5]at af;have aP:(len+ys.length)*u<=S*u:=mul_le_mul_right _ Zaa
            rw[add_mul]at aP;rw[add_mul]at aO;have aQ:=q4.sz;rw[<-O]at af;have aa:p.o+off*u+len*u+0+D.toList.length<=c.size:=by simp;omega
            obtain⟨c',u1,u2⟩:=wP D.toList 0 w c q3 (o.Ua (λx T=>by
             obtain⟨l,hl,aR⟩:=mem_flatten.1 T;exact f6 l hl x aR)) aa
            have aF:c'.size=c.size:=by have:=congrArg length u2;simp at this aa;omega
            have aG:=key.1 ai (gG w p.b (.cells c' aD)) (by
             simp[qV,Z];rw[<-O];exact u1)
            have ab:gN I μ ⟨p.b,p.o+off*u,u,p.sz⟩ c' u (xs++ys):=by refine⟨rfl,by rw[aF];exact aQ,?_,?_,?_,?_⟩;intro x T;rcases mem_append.1 T with h|h;exact(e5 x h).trans O.symm;exact(f5 x h).trans O.symm;intro x T;rcases mem_append.1 T with h|h;exact e6 x h;exact f6 x h;rw[aF,ζi,Z,add_mul];simp only;omega;have e:(c'.toList.drop (p.o+off*u)).take ((xs++ys).length*u)=(c.toList.drop (p.o+off*u)).take (len*u)++D.toList:=(by rw[u2,ζi,Z,add_mul,af];simp only[add_zero];have aS:(take (p.o+off*u+len*u) c.toList).length=p.o+off*u+len*u:=(by simp;omega);rw[append_assoc,List.drop_append_of_le_length (by rw[aS];omega),drop_take,show p.o+off*u+len*u-(p.o+off*u)=len*u by omega];have aT:(take (len*u) (List.drop (p.o+off*u) c.toList)).length=len*u:=(by simp;omega);rw[<-append_assoc,List.take_left' (by rw[ζi,aT];simp)]);rw[e,flatten_append];exact r1.append o
            obtain⟨s1,s2⟩:=Nq (ob':=.row u (xs++ys)) (p':=⟨p.b,p.o+off*u,u,p.sz⟩) s ae rfl q1 rfl
             ⟨_,c',aD,Mu.gP _ _ _,q2,jf _ (Array.getElem?_eq_some_iff.1 q3).1,ab.mono (cE.le_refl _) (Mu.sJ (s.dom _ (le_refl _)))⟩
            rw[<-O];refine⟨_,_,_,_,C _ _ aG,.inl rfl,?_,s1,s2⟩;have:=bN.hsl (I:=I) H.length 0 (xs.length+ys.length) S _ (Mu.gP μ H.length ⟨p.b,p.o+off*u,u,p.sz⟩) ai (by simp;omega)
            simpa using this
           exact J Zaa
          have ah:=by rw[ee]at e1;simp[Value.slice.injEq]at e1;exact e1.2.2.symm
          exact J Zaa
         simp at B
        simp at B
       simp at L
      |_=>simp[iG]at L
     grind
    grind
   grind
  .
   rename_i e kk hk ak;obtain⟨d0,al,am⟩:=gu hk;obtain⟨R,h1,h2,h3⟩:=(g.ty al).dW;rw[am]at h2;have:=j7 h2;subst this;obtain⟨d1,jL,X⟩:=gu ak;obtain⟨an,g1,g2,g3⟩:=(g.ty jL).dW;rw[X]at g2;have:=E3 g2;subst this;have C:∀v w',(append_ #[t,t'] ty #[us,ux]).run P w=.ok v w'->
    (do let d<-resolve a.eval {callee:=.builtin .append,args,argTypes:=U} ty;invoke d.target d.args).run P w=.ok (.value v) w':=by
    intro v w' hv;simp[resolve,run_bind,run_pure,andThen_ok,invoke,builtin];rw[tU W];have ea:U=#[t,t']:=by apply ext';simpa using ay
    rw[ea,hv];rfl
   split at h
   .rename_i d hd;unfold mkApp at h;split at h
    .rename_i k m;have q:=i.nj;subst q;have q:=T.gp;subst q;split at h
     .rename_i N;subst N;cases h;have key:=(Ig (μ:=μ) (I:=I) (w:=w) (k:=k) g h1 g1 hd ty 0 Zaa).1 rfl
      exact⟨_,_,w,μ,C _ _ key,.inl rfl,i,s,.refl _ _ _ _⟩
     split at h
     .rename_i hc;obtain⟨aU,aB,ar,au⟩:=hc;cases h;obtain⟨m,rfl⟩:=Int.eq_ofNat_of_zero_le (Int.le_of_lt aU);obtain⟨G,z,rest,k1,k2,k3,k4⟩:=(Ig g h1 g1 hd ty m Zaa).2 Zaa ar au
      have aV:=(g.ty hd).info.choose_spec.choose_spec.2.2.2.2.2.1;have aW:=(g.ty hd).info.choose_spec.choose_spec.2.2.2.2.2.2.1;have hu:∀x∈replicate m d.zero,x.length=d.size:=λx T=>by rw[eq_of_mem_replicate T];exact aV
      have ho:∀x∈replicate m d.zero,∀y∈x,V.one y=true:=λx T y hy=>by rw[eq_of_mem_replicate T]at hy;exact all_eq_true.1 aW y hy
      obtain⟨μ',m1,A,K⟩:=CW (xs:=[]) (ys:=replicate m d.zero) (old:=#[]) (new:=zeroCells z m) (rest:=rest) s.drew .nil (yB k3 m) Zab hu Zab ho (by simpa using k1) (by simpa using k2)
      simp at m1 A K;refine⟨_,_,_,μ',C _ _ k4,.inl rfl,by simpa using m1,by simpa using A,?_⟩
      exact Step.trans s.drew (Step.qq rfl rfl ⟨rfl,rfl,le_succ _⟩) (by simpa using K)
     cases h
    cases h
   cases h
  grind
 grind
def BH{es:Nat}{xs:T'}(a:∀x∈xs,x.length=es)(k:Nat)(b:k<=xs.length):(xs.take k).flatten=xs.flatten.take (k*es)/\(xs.drop k).flatten=xs.flatten.drop (k*es):=by
 have u:xs.flatten=(xs.take k).flatten++(xs.drop k).flatten:=by rw[<-flatten_append,take_append_drop]
 have g1:(xs.take k).flatten.length=k*es:=by rw[gC (λx u=>a x (mem_of_mem_take u)),length_take,min_eq_left b]
 grind
def Ub(k:eZ P E)(r:eV I μ n F a.tmps)(s:di I μ H w){args:Array UV}{D:Array W'}{x:V}{ty:W'}
 (h:dz E F H (.call {callee:=.builtin .clear,args,argTypes:=D})=some (x,H')):
 DG P I μ H w (do let d<-resolve a.eval {callee:=.builtin .clear,args,argTypes:=D} ty;invoke d.target d.args) x H':=by
 simp[dz]at h;split at h
 .rename_i t v af O;have⟨u,hu,g⟩:=(pg r O).one;split at h
  .rename_i e hk;have⟨d0,ah,ai⟩:=gu hk;have⟨m,h1,A,h3⟩:=(k.ty ah).dW;rw[ai]at A;have:=j7 A;split at h
   .rename_i d hd;have⟨i,z,hi,au,aw,hz,T,aj,ak,_⟩:=(k.ty hd).info;have al:∀w,(zeroValue e).run P w=.ok z w:=λw=>by simp[zeroValue,qd hi,hz]
    have am:z.cells.size=d.size:=by have:=(T (λ_=>none) (λ_=>none)).1;grind
    have L:∀v w',(clear_ D ty #[u]).run P w=.ok v w'->
     (do let d<-resolve a.eval {callee:=.builtin .clear,args,argTypes:=D} ty;invoke d.target d.args).run P w=.ok (.value v) w':=by
     intro v w' hv;simp[resolve,run_bind,run_pure,andThen_ok,invoke,builtin];rw[tU hu,hv];rfl
    have U:∀W f,u=.slice W 0 f->DG P I μ H w (do let d<-resolve a.eval {callee:=.builtin .clear,args,argTypes:=D} ty;invoke d.target d.args) .undef H:=λW f q=>by subst q;refine⟨_,.tuple #[],w,μ,L (.tuple #[]) w ?_,.inl rfl,bN.undef _ _,s,.refl _ _ _ _⟩;unfold clear_;cases W<;>simp[af,h3]
    unfold EH at h;split at h
    .cases h;exact U _ _ g.nj
    .have⟨W,q⟩:=g.tH;grind
    .rename_i id es off len;split at h
     .rename_i Q;subst Q;split at h
      .rcases g.ni with⟨p,f,_,_,_,_,q⟩|⟨_,W,q⟩
       .grind
       grind
      rename_i len;split at h
      .rename_i an S X;split at h
       .rename_i Y;cases h;have⟨p,c,el,hp,hI,C,B⟩:=s.obs id _ X;rcases g.ni with⟨q,f,K,ao,av,ap,rfl⟩|⟨h0,_⟩
        .rw[hp]at K;cases K;have Q:an=d.size:=by rw[<-B.es_eq,ao]
         subst Q;have J:(zeroCells z.cells (len+1)).size=(len+1)*d.size:=by rw[rC,am]
         have ax:=B.room;have Z:(off+(len+1))*d.size<=S.length*d.size:=mul_le_mul_right _ Y;rw[add_mul]at Z;have G:=yB (T I μ) (len+1);have aq:∀x∈replicate (len+1) d.zero,x.length=d.size:=λx b=>by rw[eq_of_mem_replicate b];exact aj
         have M:∀x∈replicate (len+1) d.zero,∀y∈x,V.one y=true:=λx b y N=>by rw[eq_of_mem_replicate b]at N;exact all_eq_true.1 ak y N
         have⟨c',u1,j⟩:=wP (P:=P) (o:=p.o+off*d.size) (zeroCells z.cells (len+1)).toList 0 w c C (cU.Ua G (λx b=>by
          have⟨l,hl,ar⟩:=mem_flatten.1 b;exact M l hl x ar)) (by simp[J];omega)
         rw[add_zero]at j;have R:c'.size=c.size:=by have:=congrArg length j;simp[J]at this;omega
         have⟨s2,st2⟩:=s.write (ob':=.row d.size (S.take off++replicate (len+1) d.zero++S.drop (off+(len+1)))) X rfl hp
          ⟨p,c',el,hp,hI,jf _ (Array.getElem?_eq_some_iff.1 C).1,by
           have ae:(S.take off++replicate (len+1) d.zero++S.drop (off+(len+1))).length=S.length:=by simp;omega
           refine⟨B.es_eq,by rw[R];exact B.sz,?_,?_,by rw[ae,R];exact B.room,?_⟩
           .intro x b;rcases mem_append.1 b with b|b
            .rcases mem_append.1 b with b|b
             .exact B.qE x (mem_of_mem_take b)
             exact aq x b
            exact B.qE x (mem_of_mem_drop b)
           .intro x b;rcases mem_append.1 b with b|b
            .rcases mem_append.1 b with b|b
             .exact B.one x (mem_of_mem_take b)
             exact M x b
            exact B.one x (mem_of_mem_drop b)
           rw[ae,j];have hL:=Dh c.toList (zeroCells z.cells (len+1)).toList p.o (S.length*d.size) (off*d.size) (by simp;omega) (by simp[J];omega)
           rw[hL,flatten_append,flatten_append,(BH B.qE off Zaa).1,(BH B.qE _ Y).2]
           have e:off*d.size+(zeroCells z.cells (len+1)).toList.length=(off+(len+1))*d.size:=by simp[J,add_mul]
           rw[e];exact((B.rel.take _).append G).append (B.rel.drop _)⟩
         refine⟨_,.tuple #[],_,μ,L (.tuple #[]) (gG w p.b (.cells c' el)) ?_,.inl rfl,bN.undef _ _,s2,st2⟩;unfold clear_;simp_all
        simp_all
       simp_all
      simp_all
     simp_all
    simp_all
   simp_all
  simp_all
 simp_all
end
section
variable{P:Program}{E:Env}{I:cE}{μ:Mu}{H H':bp}{n:Nat}{F:WP}{a:Act}{w:World}
def aao(s t:U')(h:(s==t)=true):s=t:=by
 cases s with|mk a=>cases t with|mk b=>
 have u:(a==b)=true:=h;grind
inductive Aq(P:Program)(E:Env)(t:TypeId):V->Value->Prop
 |int(k:IntKind)(m:Int)(h:P.underlying t=some (.int k)):Aq P E t (.int k m) (.int k m)|str(s:ByteArray)(h:P.underlying t=some .string):Aq P E t (.str s) (.string s)|agg(m:Nat)(cs:List V)(l:List Int)(h:xQ P t m)(hl:l.length=m)(hi:i_ cs=some l):Aq P E t (.agg cs) (.agg (ic l))
def Qb(B:eZ P E){t:W'}{k:V}{v:V'}(h:Cn E t k=true)(b:bN I μ k v):Aq P E t k v:=by
 unfold Cn at h;split at h;rename_i k1 k2 m c;have⟨d,hd,u⟩:=gu c;have⟨a,f,w,D⟩:=(B.ty hd).dW;rw[u]at w;have:=E3 w;subst this;have e:k1=k2:=by grind
 subst e;rw[b.gp];exact .int _ _ f;next s c=>have⟨d,hd,u⟩:=gu c;have⟨a,f,w,D⟩:=(B.ty hd).dW;rw[u]at w;have:=BZ w;subst this;rw[b.vl];exact .str _ f
 rename_i cs _;split at h;next m z=>simp[isSome_iff_exists]at h;have⟨G,l,hi⟩:=h;obtain⟨J,rfl,C⟩:=b.jl;obtain⟨rfl,e⟩:=rP hi C;exact .agg m cs l (B.eqN _ _ z) Zaa hi
 grind;grind
def Q_(d:Nat)(e:X'){t:W'}{k:IntKind}{m:Int}(h:P.underlying t=some (.int k)):(checkKey e (d+1) t (.int k m)).run P w=.ok () w:=by simp[checkKey,run_bind,dW h,andThen_ok,run_pure]
def PW(d:Nat)(e:X'){t:W'}{m:U'}(h:P.underlying t=some .string):(checkKey e (d+1) t (.string m)).run P w=.ok () w:=by simp[checkKey,run_bind,dW h,andThen_ok,run_pure]
def Ah{t:W'}{k:V}{v:V'}(h:Aq P E t k v)(e:X'):(checkKey e 10000 t v).run P w=.ok () w:=by cases h with|int k m h=>exact Q_ 9999 e h|str s h=>exact PW 9999 e h|agg m cs l h u hi=>exact h.check w e l u
def ng(I:cE)(μ:Mu)(es:aZ MapEntry)(i:Nat):a_ (Nat×V)->a_ (Nat×V')->Prop
 |none,none=>True|some (j,x),some (B,v)=>j=B/\bN I μ x v/\i<=j/\∃e,es[j-i]?=some e/\e.val=v|_,_=>False
def Ei{d:TypeDesc}{k:V}{v:V'}(hd:(∃kk m,d=.int kk/\k=.int kk m/\v=.int kk m)\/(∃s,d=.string/\k=.str s/\v=.string s)):
 ∀(B:aZ (V×V))(es:aZ MapEntry)(i:Nat)(r:a_ (Nat×V)),B.length=es.length->(∀(j:Nat)q e,B[j]?=some q->es[j]?=some e->bN I μ q.1 e.key/\bN I μ q.2 e.val)->
 iT k B i=some r->∃D,findNow d v es i=some D/\ng I μ es i r D/\∀j x,r=some (j,x)->∃e,es[j-i]?=some e/\e.key=v:=by
 intro B
 induction B with
 |nil=>
  intro es i r O _ h
  cases es with
  |nil=>simp only[iT,ζa]at h;subst h;exact⟨none,rfl,trivial,Zab⟩|cons _ _=>simp_all
 |cons q B Q=>
  intro es i r O f h
  cases es with
  |nil=>simp_all|cons e es=>
   have⟨G,S⟩:=q;have⟨g1,g2⟩:=f 0 (G,S) e rfl rfl;simp only[iT]at h;have u:∀b,yM k G=some b->sameNow d v e.key=some b/\(b=true->e.key=v):=by
    intro b w;rcases hd with⟨kk,m,rfl,rfl,rfl⟩|⟨s,rfl,rfl,rfl⟩
    .cases G<;>simp only[yM]at w<;>(try grind);rename_i k2 o;split at w;(next J=>simp only[ζa]at w;subst w;subst J;rw[g1.gp];exact⟨by simp[sameNow],by simp;grind⟩);grind
    cases G<;>simp only[yM]at w<;>(try (simp at w;done));simp only[ζa]at w;subst w;rw[g1.vl];exact⟨by simp[sameNow],λT=>by rw[aao _ _ T]⟩
   split at h
   .rename_i hk;have⟨c,g⟩:=u true hk;simp only[ζa]at h;subst h;refine⟨some (i,e.val),by simp[findNow,c],⟨rfl,g2,le_refl _,e,Zab,rfl⟩,?_⟩
    intro j x C;simp only[ζa,ζc]at C;obtain⟨rfl,_⟩:=C;exact⟨e,Zab,g rfl⟩
   .rename_i hk;have⟨c,_⟩:=u false hk;have⟨D,p1,p2,p3⟩:=Q es (i+1) r (by simpa using O) (λj a b x y=>f (j+1) a b (by simpa using x) (by simpa using y)) h
    refine⟨D,by simp[findNow,c,p1],?_,?_⟩
    .cases r with
     |none=>cases D<;>simp_all [ng]|some z=>
      cases D with
      |none=>simp[ng]at p2|some U=>have⟨W,X,p,L,Y,Z⟩:=p2;exact⟨W,X,Zaa,L,by rw[show z.1-i=(z.1-(i+1))+1 by omega];simpa using Y,Z⟩
    intro j x C;have⟨L,l,n⟩:=p3 j x C;subst C;have:i+1<=j:=by cases D with|none=>simp[ng]at p2|some U=>exact p2.2.2.1
    exact⟨L,by rw[show j-i=(j-(i+1))+1 by omega];simpa using l,n⟩
   grind
def NX{t:W'}{m:Nat}(U:xQ P t m){cs:T2}{l:ST}(W:l.length=m)(hi:i_ cs=some l):
 ∀(B:aZ (V×V))(es:aZ MapEntry)(i:Nat)(r:a_ (Nat×V)),B.length=es.length->(∀(j:Nat)q e,B[j]?=some q->es[j]?=some e->bN I μ q.1 e.key/\bN I μ q.2 e.val)->
 iT (.agg cs) B i=some r->∃D,(findAsking t (.agg (ic l)) es i).run P w=.ok D w/\ng I μ es i r D/\∀j x,r=some (j,x)->∃e,es[j-i]?=some e/\e.key=.agg (ic l):=by
 intro B
 induction B with
 |nil=>
  intro es i r C _ h
  cases es with
  |nil=>simp[iT]at h;subst h;exact⟨none,rfl,trivial,Zab⟩|cons _ _=>simp_all
 |cons q B T=>
  intro es i r C d h
  cases es with
  |nil=>simp_all|cons e es=>
   have⟨G,X⟩:=q;have⟨g1,g2⟩:=d 0 (G,X) e rfl rfl;simp[iT]at h;have u:∀b,yM (.agg cs) G=some b->(equal t (.agg (ic l)) e.key).run P w=.ok b w/\(b=true->e.key=.agg (ic l)):=by intro b J;cases G<;>simp[yM]at J<;>(try (simp at J));obtain⟨s,Y,Q,x2,v,rfl⟩:=zo J;rw[hi]at Q;cases Q;have⟨A,ev,L⟩:=g1.jl;obtain⟨rfl,e2⟩:=rP x2 L;rw[ev];refine⟨U.key w l Y W Zaa,?_⟩;grind
   split at h
   .rename_i hk;have⟨c,E⟩:=u true hk;simp at h;subst h;refine⟨some (i,e.val),by simp[findAsking,c],⟨rfl,g2,le_refl _,e,Zab,rfl⟩,?_⟩
    grind
   .rename_i hk;have⟨c,_⟩:=u false hk;have⟨D,p1,p2,p3⟩:=T es (i+1) r Zac (λj a b x y=>d (j+1) a b Zac (by simpa using y)) h
    refine⟨D,by simp[findAsking,c,p1],?_,?_⟩
    .cases r with
     |none=>cases D<;>simp_all [ng]|some z=>
      cases D with
      |none=>simp[ng]at p2|some Z=>have⟨f,g,F,O,k,n⟩:=p2;exact⟨f,g,Zaa,O,by rw[show z.1-i=(z.1-(i+1))+1 by omega];simpa using k,n⟩
    intro j x S;have⟨O,o,p⟩:=p3 j x S;subst S;have:=by cases D with|none=>simp[ng]at p2|some Z=>exact p2.2.2.1
    exact⟨O,by rw[show j-i=(j-(i+1))+1 by omega];simpa using o,p⟩
   grind
def xm{t:W'}{k:V}{v:V'}(h:Aq P E t k v){B:aZ (V×V)}{es:Array MapEntry}(a:xh I μ B es){r:a_ (Nat×V)}(G:iT k B 0=some r):
 ∃D,(findKey t v es.toList).run P w=.ok D w/\ng I μ es.toList 0 r D/\∀j x,r=some (j,x)->∃e,es[j]?=some e/\e.key=v:=by
 have u:=by simpa using a.1
 have z:∀(j:Nat)q e,B[j]?=some q->es.toList[j]?=some e->bN I μ q.1 e.key/\bN I μ q.2 e.val:=λj q e x y=>a.2 j q e x Zac
 have fin:∀(D:a_ (Nat×V')),(∀j x,r=some (j,x)->∃e,es.toList[j-0]?=some e/\e.key=v)->∀j x,r=some (j,x)->∃e,es[j]?=some e/\e.key=v:=by grind
 cases h with
 |int kk m h=>have⟨D,g1,g2,g3⟩:=Ei (.inl ⟨kk,m,rfl,rfl,rfl⟩) B es.toList 0 r u z G;exact⟨D,by simp[findKey,run_bind,dW h,andThen_ok,g1,run_pure],g2,fin D g3⟩|str s h=>have⟨D,g1,g2,g3⟩:=Ei (.inr ⟨s,rfl,rfl,rfl⟩) B es.toList 0 r u z G;exact⟨D,by simp[findKey,run_bind,dW h,andThen_ok,g1,run_pure],g2,fin D g3⟩|agg m cs l h L hi=>
  have⟨D,g1,g2,g3⟩:=NX (w:=w) h L hi B es.toList 0 r u z G;have⟨d,hd,C⟩:=h.kind;refine⟨D,?_,g2,fin D g3⟩;simp[findKey,run_bind,dW hd,andThen_ok]
  cases J:es.toList with
  |nil=>rw[J]at g1;simp[findNow,run_pure];simpa[findAsking]using g1|cons e rest=>
   have:findNow d (.agg (ic l)) (e::rest) 0=none:=by rcases C with⟨_,_,rfl⟩|⟨_,rfl⟩<;>simp[findNow,sameNow]
   grind
def Bb{b:Nat}{o:Obj}(h:w.heap[b]?=some o)(B:∀c e f,o≠.cells c e f):(getObj b).run P w=.ok o w:=by simp[getObj,Sem.run,h]
def T9(s:di I μ H w){m:V}{v:V'}(d:bN I μ m v){B:aZ (V×V)}(h:nJ H m=some B):
 (v=.map none/\B=[])\/∃b es a,v=.map (some b)/\w.heap[b]?=some (.map es a)/\xh I μ B es:=by
 cases m with
 |gM=>simp only[nJ,ζa]at h;exact .inl ⟨d.TE,h.symm⟩|fmap k=>
  simp[nJ]at h;subst h
  cases d with
  |c _ _ d=>cases d with
   |fmap _ b es C D hk u=>have⟨f,g⟩:=s.imm _ _ C;exact .inr ⟨b,es,f,rfl,g,D,λj q e x y=>⟨.c _ _ (hk j q e x y),.c _ _ (u j q e x y)⟩⟩
 |hmap id=>
  simp[nJ]at h;split at h
  .rename_i G z;simp at h;have⟨p,es,f,g1,g2,g3,g4⟩:=s.obs id _ z;have⟨q,J,e⟩:=d.Dz
   grind
  grind
 |_=>simp[nJ]at h
def Ry(U:eZ P E)(r:eV I μ n F a.tmps)(s:di I μ H w){t:W'}{m k:UV}{ok:X'}{x:V}(h:ez E F H (.lookup t m k ok)=some x):
 ∃v,(Instr.lookup t (a.eval m) (a.eval k) ok).run P w=.ok v w/\bN I μ x v:=by
 simp[ez]at h;split at h
 .rename_i kt et mv kv hk hm Q;obtain⟨d,hd,S⟩:=gu hk;obtain⟨c,l,e,f⟩:=(U.ty hd).dW;rw[S]at e;have:=BY e;subst this;split at h
  .rename_i de T W J;split at h
   .rename_i X;have D:=Qb U X (dM r Q);obtain⟨z,g,Y⟩:=(U.ty W).Xf;obtain⟨es,L,G⟩:∃es:Array MapEntry,xh I μ T es/\∀u,(findKey kt (a.eval k) es.toList).run P w=.ok u w->(Instr.lookup t (a.eval m) (a.eval k) ok).run P w=
     .ok (if ok then .tuple #[(u.map (·.2)).getD z,.bool u.isSome]else(u.map (·.2)).getD z) w:=by
     rcases T9 s (dM r hm) J with⟨e1,rfl⟩|⟨b,es,o,e1,e2,e3⟩
     .refine⟨#[],⟨rfl,Zab⟩,λu C=>?_⟩
      unfold Instr.lookup;rw[e1];simp[run_bind,f,andThen_ok,run_pure,Ah D,C];cases u<;>cases ok<;>simp[g]
     refine⟨es,e3,λu C=>?_⟩
     unfold Instr.lookup;rw[e1];simp[run_bind,f,andThen_ok,run_pure,Bb e2 Zab,Ah D,C]
     cases u<;>cases ok<;>simp[g]
    split at h
    .rename_i j y _ B;simp at h;obtain⟨u,Z,O,_⟩:=xm D L B
     cases u with
     |none=>simp[ng]at O|some q=>
      obtain⟨_,i,_⟩:=O;refine⟨_,G _ Z,?_⟩;subst h
      cases ok with
      |true=>exact .Vp (.cons i (.cons (.c _ _ (.bool _)) .nil))|false=>exact i
    .rename_i y B hy;simp at h;obtain⟨u,Z,O,_⟩:=xm D L B
     cases u with
     |some q=>simp[ng]at O|none=>
      refine⟨_,G _ Z,?_⟩;subst h
      cases ok with
      |true=>exact .Vp (.cons (Y _ _ _ hy) (.cons (.c _ _ (.bool _)) .nil))|false=>grind
    grind
   grind
  grind
 grind
end
section
variable{P:Program}{E:Env}{I:cE}{μ:Mu}{H H':bp}{n:Nat}{F:WP}{a:Act}{w:World}
def LH(l:ST)(d:Nat):sameBits (d+2) (.agg (ic l)) (.agg (ic l))=true:=by simp only[sameBits,beq_self_eq_true,Bool.true_and,all_eq_true];intro p u;obtain⟨j,w,rfl⟩:=List.mem_iff_getElem.1 u;simp[ic,sameBits]
def S6{t:W'}{k:V}{v:V'}(h:Aq P E t k v):(Instr.keyThatStays v v).run P w=.ok v w:=by
 have:sameBits 10000 v v=true:=by cases h with|int k m h=>simp[sameBits]|str s h=>simp[sameBits];exact(by cases s;exact beq_self_eq_true (α:=Array UInt8) _)|agg m cs l h u hi=>exact LH l 9998
 unfold Instr.keyThatStays;rw[this];rfl
def Il{b:Nat}{es:Array MapEntry}{a:Nat}(o:Obj)(h:w.heap[b]?=some (.map es a)):(setObj b o).run P w=.ok () (gG w b o):=by simp only[setObj,Sem.run,h];rfl
def B1(K:eZ P E)(r:eV I μ n F a.tmps)(s:di I μ H w){t:W'}{m k y:UV}{x:V}(h:dz E F H (.mapUpdate t m k y)=some (x,H')):
 DG P I μ H w (do Instr.mapUpdate t (a.eval m) (a.eval k) (a.eval y);pure .skip) x H':=by
 simp only[dz]at h;split at h
 .rename_i kt et id Z yv hk hm W hy;have⟨d,hd,aa⟩:=gu hk;have⟨M,b,B,N⟩:=(K.ty hd).dW;rw[aa]at B;have:=BY B;subst this;split at h
  .rename_i D U;split at h
   .rename_i ab;simp only[ζf,ζc]at h;obtain⟨af,u,rfl,rfl⟩:=h;have G:=Qb K ab (dM r W);have⟨p,es,c,g1,g2,g3,g4⟩:=s.obs id _ U;have⟨q,R,em⟩:=(dM r hm).Dz;rw[g1]at R;cases R;have T:=(Array.getElem?_eq_some_iff.1 g3).1;have ah:∀(f:Unit->Sem Next),True:=λ_=>trivial
    unfold qY at u;have J:=dM r W;have L:=dM r hy;split at u
    .rename_i j z C;simp only[ζa]at u;subst u;have⟨O,l,g,q3⟩:=xm (w:=w) G g4 C
     cases O with
     |none=>simp[ng]at g|some O=>
      have⟨j',zv⟩:=O;obtain⟨rfl,_,_,e',ai,_⟩:=g;have⟨e2,X,ad⟩:=q3 j z rfl;have hj:=(Array.getElem?_eq_some_iff.1 X).1;have Q:xh I μ (D.set j (Z,yv)) (es.modify j λe=>{e with key:=a.eval k,val:=a.eval y}):=by refine⟨by simpa using g4.1,λi q e b B=>?_⟩;by_cases S:i=j;subst S;rw[getElem?_set_self (by rw[g4.1];exact hj)]at b;cases b;rw[Array.getElem?_modify]at B;simp only[if_true,ζf]at B;obtain⟨_,_,rfl⟩:=B;exact⟨J,L⟩;rw[getElem?_set_ne (Ne.symm S)]at b;rw[Array.getElem?_modify]at B;rw[if_neg (Ne.symm S)]at B;exact g4.2 i q e b B
      have⟨v,A⟩:=s.write (ob':=.map (D.set j (Z,yv))) (o:=.map (es.modify j λe=>{e with key:=a.eval k,val:=a.eval y}) c) U rfl g1
       ⟨p,_,c,g1,g2,jf _ T,Q⟩
      refine⟨.skip,undef,_,μ,?_,.inr ⟨rfl,rfl⟩,.undef I μ,v,A⟩;unfold Instr.mapUpdate;rw[em];have Y:((es[j]?).map (·.key)).getD (a.eval k)=a.eval k:=by rw[X];simpa using ad
      simp only[run_bind,N,andThen_ok,Bb g3 Zab,Ah G,l,Y,S6 G,Il _ g3,run_pure]
    .rename_i C;simp only[ζa]at u;subst u;have⟨O,l,g,q3⟩:=xm (w:=w) G g4 C
     cases O with
     |some q=>simp[ng]at g|none=>
      have Q:xh I μ (D++[(Z,yv)]) (es.push {key:=a.eval k,val:=a.eval y,born:=c}):=by refine⟨by simp[g4.1],λi q e b B=>?_⟩;by_cases S:i<D.length;rw[getElem?_append_left S]at b;rw[Array.getElem?_push]at B;rw[if_neg (by rw[<-g4.1];omega)]at B;exact g4.2 i q e b B;have ae:=(ζe.1 b).1;simp at ae;have:i=D.length:=Zaa;subst this;simp at b;subst b;rw[Array.getElem?_push,if_pos g4.1]at B;cases B;exact⟨J,L⟩
      have⟨v,A⟩:=s.write (ob':=.map (D++[(Z,yv)])) (o:=.map (es.push {key:=a.eval k,val:=a.eval y,born:=c}) (c+1)) U rfl g1
       ⟨p,_,_,g1,g2,jf _ T,Q⟩
      refine⟨.skip,undef,_,μ,?_,.inr ⟨rfl,rfl⟩,.undef I μ,v,A⟩;unfold Instr.mapUpdate;rw[em];simp only[run_bind,N,andThen_ok,Bb g3 Zab,Ah G,l,Il _ g3,run_pure]
    simp at u
   simp at h
  simp at h
 simp at h
def VJ(B:eZ P E)(r:eV I μ n F a.tmps)(s:di I μ H w)(o:Oper){x:V}(h:ez E F H o.op=some x):
 ∃v,(execOp a.eval o).run P w=.ok (.value v) w/\bN I μ x v:=by
 have⟨dst,op,ty,pos,after,b⟩:=o;simp only at h
 cases op with
 |load t p=>
  simp only[ez]at h;split at h
  next d D hd C=>have⟨u,c,z,_⟩:=E6 B s hd (dM r C) h;exact⟨u,eU c,z⟩
  simp at h
 |lookup t m k ok=>have⟨u,c,z⟩:=Ry B r s h;exact⟨u,eU c,z⟩|_=>simp[ez]at h
def Wz(B:eZ P E)(r:eV I μ n F a.tmps)(s:di I μ H w)(o:Oper){x:V}(h:dz E F H o.op=some (x,H')):DG P I μ H w (execOp a.eval o) x H':=by
 have⟨dst,op,ty,pos,after,d⟩:=o;simp only at h
 cases op with
 |store t p q=>exact R4 B r s h|mapUpdate t m k y=>exact B1 B r s h|insert t m k y=>exact B1 (t:=t) (m:=m) (k:=k) (y:=y) B r s h|call c=>
  have⟨callee,args,u⟩:=c
  cases callee with
  |builtin b=>cases b with|append=>exact Rn B r s h|clear=>exact Ub B r s h|_=>simp[dz]at h
  |_=>simp[dz]at h
 |_=>simp[dz]at h
end
def vL{xs:T2}(h:V.mg xs=true):∀x∈xs,V.closed x=true:=by induction xs with|nil=>simp|cons x r u=>simp[V.mg]at h;grind
def vG{xs:T2}(h:V.c8 xs=true):∀x∈xs,V.scalar x=true:=by induction xs with|nil=>simp|cons x r u=>simp[V.c8]at h;grind
section
variable{I I':cE}{μ:Mu}{H H':bp}{w:World}
def bN.closed{x:V}{v:V'}(h:bN I μ x v)(d:x.closed=true):eY I x v:=by induction h with|c x v h=>omega|hsl id off len cap p w h1 O=>simp[V.closed]at d|hsl0 id es off a=>simp[V.closed]at d|hptr id el off p w=>simp[V.closed]at d|yld id p w=>simp[V.closed]at d|hmap id p w=>simp[V.closed]at d|clo f x y u v J L _ _ z B=>simp[V.closed]at d;exact .clo f x y u v J L (λj a b p q=>z j a b p q (vL d.1 a (mem_of_getElem? p))) (λj a b p q=>B j a b p q (vL d.2 a (mem_of_getElem? p)))|agg cs C D _ G=>exact .agg cs C D λj a b p q=>G j a b p q (vL d a (mem_of_getElem? p))|tup cs C D _ G=>exact .tup cs C D λj a b p q=>G j a b p q (vL d a (mem_of_getElem? p))
def eY.scalar{x:V}{v:V'}(h:eY I x v)(B:x.scalar=true):eY I' x v:=by induction h with|bool b=>exact .bool b|int k n=>exact .int k n|str s=>exact .str s|dU a=>exact .dU a|bO=>exact .bO|iR=>exact .iR|gM=>exact .gM|tE=>exact .tE|agg cs u w _ z=>exact .agg cs u w λj a b p q=>z j a b p q (vG B a (mem_of_getElem? p))|tup cs u w _ z=>exact .tup cs u w λj a b p q=>z j a b p q (vG B a (mem_of_getElem? p))|_=>simp[V.scalar]at B
def jB{f:V->a_ V}:∀{xs ys:T2},je f xs=some ys->ys.length=xs.length/\∀(j:Nat)y,ys[j]?=some y->∃x,xs[j]?=some x/\f x=some y:=by intro xs;induction xs with|nil=>intro ys h;simp[je]at h;grind|cons x xs u=>intro ys h;simp[je]at h;split at h;grind;grind
def N9{f:V->a_ V}:∀{xs ys:T'},mO f xs=some ys->ys.length=xs.length/\∀(j:Nat)y,ys[j]?=some y->∃x,xs[j]?=some x/\je f x=some y:=by intro xs;induction xs with|nil=>intro ys h;simp[mO]at h;grind|cons x xs u=>intro ys h;simp[mO]at h;grind
def OX{f:V->a_ V}:∀{xs ys:aZ (V×V)},mH f xs=some ys->ys.length=xs.length/\∀(j:Nat)y,ys[j]?=some y->∃x,xs[j]?=some x/\f x.1=some y.1/\f x.2=some y.2:=by intro xs;induction xs with|nil=>intro ys h;simp only[mH]at h;grind|cons x xs u=>intro ys h;simp only[mH]at h;grind
def Obj.ic:Obj->a_ IC
 |.cells c _ _=>some (.cells c)|.map es _=>some (.map es)|_=>none
def CJ(μ:Mu)(H:bp)(T:S')(b:Nat):Prop:=∃id p ob,id∈T/\H[id]?=some ob/\ob.live=true/\μ id=some p/\p.b=b
open Classical in
noncomputable def plus(I:cE)(μ:Mu)(H:bp)(w:World)(T:S'):cE:=λb=>
 match I b with
 |some x=>some x|none=>if CJ μ H T b then(w.heap[b]?).bind Obj.ic else none
def qw(I:cE)(μ:Mu)(H:bp)(w:World)(T:S'):cE.le I (plus I μ H w T):=by intro b x h;simp[plus,h]
def vi(s:di I μ H w)(T:S'):∀b x,plus I μ H w T b=some x->x.at w b:=by
 intro b x h;unfold plus at h;split at h;next y B=>cases h;exact s.imm b _ B
 split at h;have⟨o,z,u⟩:=ζg.1 h;cases o<;>simp[Obj.ic]at u;subst u;exact⟨_,_,z⟩;subst u;exact⟨_,z⟩;grind
def An{T:S'}{b:Nat}(h:(plus I μ H w T b).isSome=true):(I b).isSome=true\/CJ μ H T b:=by unfold plus at h;grind
def C1{T:S'}{b:Nat}(h:CJ μ H T b):iV μ H b:=by have⟨id,p,ob,_,h1,u,w,z⟩:=h;exact⟨id,p,ob,h1,u,w,z⟩
def DT(s:di I μ H w){T:S'}{id es:Nat}{xs:T'}(B:id∈T)(h:(H[id]?).bind Ob.rows=some (es,xs)):
 ∃p c,μ id=some p/\plus I μ H w T p.b=some (.cells c)/\gN I μ p c es xs:=by
 have⟨ob,a,z⟩:=ζg.1 h;have u:=s.obs id ob a;rcases KF z with rfl|rfl
 .have⟨p,c,el,g1,g2,g3,g4⟩:=u;refine⟨p,c,g1,?_,g4⟩;have C:CJ μ H T p.b:=⟨id,p,_,B,a,rfl,g1,rfl⟩;unfold plus;rw[g2];simp[C,g3,Obj.ic]
 have⟨p,c,g1,g2,g4⟩:=u;exact⟨p,c,g1,qw _ _ _ _ _ _ _ g2,g4⟩
def gN.idx{p:Pl}{c:Array V'}{es:Nat}{xs:T'}(r:gN I μ p c es xs){i j:Nat}{x:T2}{y:V}{v:V'}(a:xs[i]?=some x)(B:x[j]?=some y)
 (D:c[p.o+i*es+j]?=some v):bN I μ y v:=by
 have w:=ye r.qE a B;refine r.rel.2 (i*es+j) y v w ?_;have u:=(ζe.1 w).1;rw[gC r.qE]at u
 grind
def kZ{f:V->S'}{xs:T2}{x:V}{k:Nat}(B:x∈xs)(a:k∈f x):k∈c9 f xs:=by induction xs with|nil=>simp_all|cons y r u=>simp[c9];grind
def k_(n:Nat)(H:bp){x:V}(h:x.closed=true):borrow n H x=some x:=by cases n<;>simp[borrow,h]
def wh(s:di I μ H w)(T:S'):∀(n:Nat)(x y:V)(v:V'),borrow n H x=some y->(∀k∈cw n H x,k∈T)->bN I μ x v->
 eY (plus I μ H w T) y v/\(x.one=true->y.one=true):=by
 intro n
 induction n with
 |zero=>
  intro x y v h _ g;simp only[borrow]at h;split at h
  next E=>simp at h;subst h;exact⟨(g.closed E).mono (qw _ _ _ _ _),id⟩
  grind
 |succ n ih=>
  intro x y v h O g;simp[borrow]at h;split at h
  next E=>simp at h;subst h;exact⟨(g.closed E).mono (qw _ _ _ _ _),id⟩
  rename_i al;simp[cw,if_neg al]at O;split at h
  .
   rename_i id es off len;split at h
   .rename_i B xs J;split at h
    .rename_i E;obtain⟨rfl,am⟩:=E;simp only[J]at O;simp at h;obtain⟨U,l,rfl⟩:=h;have⟨R,W⟩:=N9 l;refine⟨?_,λ_=>rfl⟩
     have aj:U.length=len:=Zac
     rcases g.ni with⟨p,F,t,hp,ar,o,rfl⟩|⟨h0,a,rfl⟩
     .have⟨p',c,g1,g2,g3⟩:=DT s (O id Zab) J
      rw[t]at g1;cases g1;have X:∀i z,U[i]?=some z->∃Q,xs[off+i]?=some Q/\je (borrow n H) Q=some z:=by grind
      have ak:∀i Q,i<len->xs[off+i]?=some Q->∀q∈Q,∀k∈cw n H q,k∈T:=by intro i Q hi an q K k d;refine O k ?_;refine mem_cons_of_mem _ (kZ (mem_flatten.2 ⟨Q,mem_of_getElem? (i:=i) ?_,K⟩) d);rw[getElem?_take,if_pos hi,getElem?_drop];exact an
      have au:eY (plus I μ H w T) (.fsl B U) (.slice (some ⟨p.b,p.o+off*B,none⟩) U.length F):=by refine .fsl B U p.b (p.o+off*B) F c g2 Zaa ?_ ?_ ?_ ?_;intro z af;have⟨i,hi⟩:=List.mem_iff_getElem?.1 af;have⟨Q,G,Y⟩:=X i z hi;rw[(jB Y).1];exact g3.qE Q (mem_of_getElem? G);intro z af q K;have⟨i,hi⟩:=List.mem_iff_getElem?.1 af;have⟨Q,G,Y⟩:=X i z hi;have⟨j,m⟩:=List.mem_iff_getElem?.1 K;have⟨L,D,Z⟩:=(jB Y).2 j q m;have ad:=mem_of_getElem? G;have ae:=mem_of_getElem? D;have ao:=g3.room;have aw:=g3.qE Q ad;have ax:=(ζe.1 D).1;have ap:=(ζe.1 G).1;have av:(off+i)*B+B<=xs.length*B:=(by have:=mul_le_mul_right B (ap);grind);have aq:=Zaa;have M:=g3.idx G D (v:=c[p.o+(off+i)*B+j]) (by simp[aq]);exact(ih L q _ Z (ak i Q (by have:=(ζe.1 hi).1;omega) G L ae) M).2 (g3.one Q ad L ae);have A:=(g3.span am).2;grind;intro i j z q u hi m hu;have⟨Q,G,Y⟩:=X i z hi;have⟨L,D,Z⟩:=(jB Y).2 j q m;have M:=g3.idx G D (v:=u) Zac;exact(ih L q u Z (ak i Q (by have:=(ζe.1 hi).1;omega) G L (mem_of_getElem? D)) M).1
      grind
     subst h0;have:=List.eq_nil_of_length_eq_zero aj;subst this;exact .fsl0 B _ _
    grind
   grind
  .
   rename_i id el off;split at h
   .rename_i B xs J;split at h
    .rename_i cs ah;split at h
     .simp only[J]at O;simp at h;obtain⟨U,l,rfl⟩:=h;have⟨R,W⟩:=jB l;refine⟨?_,λ_=>rfl⟩
      obtain⟨p,t,rfl⟩:=g.vg;have⟨p',c,g1,g2,g3⟩:=DT s (O id Zab) J
      rw[t]at g1;cases g1;have⟨k1,k2,k3⟩:=g3.elem ah;rw[g3.es_eq];refine .fptr U p.b _ c g2 ?_ ?_
      .rw[R,List.length_drop];omega
      intro j q u m hu;have⟨L,D,Z⟩:=W j q m;rw[getElem?_drop]at D;have M:=g3.idx ah D (by rw[<-add_assoc];exact hu)
      refine(ih L q u Z (λk d=>O k ?_) M).1
      exact mem_cons_of_mem _ (kZ (mem_of_getElem? (i:=j) (by rw[ah,getD_some,getElem?_drop];exact D)) d)
     simp at h
    simp at h
   simp at h
  .
   rename_i id;split at h
   .rename_i ay ai;simp at h;obtain⟨U,l,rfl⟩:=h;simp only[ai]at O;have⟨R,W⟩:=OX l;refine⟨?_,λ_=>rfl⟩
    obtain⟨p,t,rfl⟩:=g.Dz;have⟨p',es,cl,g1,g2,g3,g4⟩:=s.obs id _ ai;rw[t]at g1;cases g1;have ht:CJ μ H T p.b:=⟨id,p,_,O id Zab,ai,rfl,t,rfl⟩
    have hI:plus I μ H w T p.b=some (.map es):=by unfold plus;rw[g2];simp[ht,g3,Obj.ic]
    refine .fmap U p.b es hI (by rw[R];exact g4.1) ?_ ?_
    .intro j q e m he;have⟨L,A,h2,h3⟩:=W j q m;refine(ih L.1 q.1 e.key h2 (λk d=>O k ?_) (g4.2 j L e A he).1).1
     exact mem_cons_of_mem _ (mem_append.2 (.inl (kZ (mem_map.2 ⟨L,mem_of_getElem? A,rfl⟩) d)))
    intro j q e m he;have⟨L,A,h2,h3⟩:=W j q m;refine(ih L.2 q.2 e.val h3 (λk d=>O k ?_) (g4.2 j L e A he).2).1
    exact mem_cons_of_mem _ (mem_append.2 (.inr (kZ (mem_map.2 ⟨L,mem_of_getElem? A,rfl⟩) d)))
   simp at h
  .rename_i f p q;split at h
   .rename_i p' q' hp K;simp at h;subst h;obtain⟨N,u2,rfl,r1,r2⟩:=g.kU;have⟨P,m1⟩:=jB hp;have⟨l2,m2⟩:=jB K;refine⟨.clo f p' q' N u2 (by rw[P];simpa using r1.1) (by rw[l2];simpa using r2.1) ?_ ?_,λ_=>rfl⟩
    .intro j a b r o;have⟨a0,C,S⟩:=m1 j a r;exact(ih a0 a b S (λk d=>O k (mem_append.2 (.inl (kZ (mem_of_getElem? C) d)))) (r1.2 j a0 b C (by simpa using o))).1
    intro j a b r o;have⟨a0,C,S⟩:=m2 j a r;exact(ih a0 a b S (λk d=>O k (mem_append.2 (.inr (kZ (mem_of_getElem? C) d)))) (r2.2 j a0 b C (by simpa using o))).1
   simp at h
  .rename_i cs;simp at h;obtain⟨U,l,rfl⟩:=h;have⟨P,m1⟩:=jB l;obtain⟨N,rfl,r1⟩:=g.jl;refine⟨.agg U N (by rw[P];simpa using r1.1) ?_,λh=>by simp[V.one]at h⟩
   intro j a b r o;have⟨a0,C,S⟩:=m1 j a r;exact(ih a0 a b S (λk d=>O k (kZ (mem_of_getElem? C) d)) (r1.2 j a0 b C (by simpa using o))).1
  .rename_i cs;simp at h;obtain⟨U,l,rfl⟩:=h;have⟨P,m1⟩:=jB l;obtain⟨N,rfl,r1⟩:=g.rN;refine⟨.tup U N (by rw[P];simpa using r1.1) ?_,λh=>by simp[V.one]at h⟩
   intro j a b r o;have⟨a0,C,S⟩:=m1 j a r;exact(ih a0 a b S (λk d=>O k (kZ (mem_of_getElem? C) d)) (r1.2 j a0 b C (by simpa using o))).1
  grind
end
def fr(ro:a_ Nat):Fence:={fn:=λ_=>True,depth:=none,alive:=false,round:=ro}
def z7(I:cE)(μ:Mu)(H:bp)(w:World)(r:V)(H':bp):Ending->World->Prop:=λe w'=>∃u I' μ',e=.returned u/\bN I' μ' r u/\di I' μ' H' w'/\Step I μ H w I' μ' H' w'
def Au(P:Program)(f:Y'):Prop:=∃fn,P.funcs[f]?=some fn/\fn.body.isSome=true/\(fn.name== "runtime.NumGoroutine")=false
structure lZ(P:Program)(call:dL):Prop where
 fn:∀f args H r H',call (.fn f) args H=some (r,H')->Au P f/\∀I μ w vs,di I μ H w->cU I μ args vs->CallsIn (fr none) 0 P f vs.toArray w (z7 I μ H w r H')
 yld:∀id args H r H',call (.yld id) args H=some (r,H')->∀I μ w vs p,di I μ H w->cU I μ args vs->μ id=some p->
  ∃l f tmps assign body,(Instr.yield p.b vs.toArray).run P w=.ok (.round l f tmps assign body) w/\RoundIn (fr none) 0 P l f tmps assign body w (z7 I μ H w r H')
def uE:Ob->Ob
 |.row es xs=>.frz es xs|.map _=>.dead|o=>o
def Ix(H:bp)(k id:Nat):(wC H k)[id]?=(H[id]?).map λob=>if id=k then uE ob else ob:=by
 unfold wC;by_cases e:id=k;subst e;cases h:H[id]?with|none=>simp[h]|some ob=>have u:=(ζe.1 h).1;cases ob<;>simp[uE,u]<;>exact(ζe.1 h).2
 grind
def C5(o:Ob):uE (uE o)=uE o:=by cases o<;>rfl
def jo:∀(T:S')(H:bp)(id:Nat),(cT H T)[id]?=(H[id]?).map λob=>if id∈T then uE ob else ob:=by intro T;induction T with|nil=>simp[cT]|cons k T u=>intro H id;have:=u (wC H k) id;simp[cT]at this⊢;rw[this,Ix];cases h:H[id]?with|none=>simp|some ob=>by_cases e:id=k<;>by_cases w:id∈T<;>simp[C5]<;>(simp_all)<;>simp_all [C5]
def kV(T:S')(H:bp):(cT H T).length=H.length:=by induction T generalizing H with|nil=>rfl|cons k T u=>simp[cT]at u⊢;rw[u];unfold wC;grind
section
variable{P:Program}{I I':cE}{μ μ':Mu}{H H':bp}{w w':World}
def di.kept(s:di I μ H w)(a:∀b,b<w.heap.size->w'.heap[b]?=w.heap[b]?):di I μ H w' where
 dom:=s.dom
 imm:=λb x h=>IC.tG (s.imm b x h) (a b (s.K2 h))
 obs:=λid ob h=>(s.obs id ob h).mono (cE.le_refl _) (Mu.le_refl _) (λp z B=>by
  have u:iV μ H p.b:=⟨id,p,ob,h,B,z,rfl⟩;exact⟨a _ (oK s u),gL s u⟩) (λC=>by subst C;exact s.obs id _ h)
 inj:=s.inj
 gl:=s.gl
def s6(μ:Mu)(b:Nat):¬iV μ [] b:=by rintro⟨id,p,ob,h,_⟩;simp_all
def EJ{call:dL}(M:lZ P call){f:Y'}{args:T2}{y:V}(h:ct call f args H=some y)(s:di I μ H w){vs:aZ V'}(o:cU I μ args vs):
 Au P f/\CallsIn (fr none) 0 P f vs.toArray w (z7 I μ H w y (if y.scalar then H else cT H (c9 (cw call.lv H) args))):=by
 unfold ct at h;split at h
 .rename_i az has;split at h
  .rename_i r H1 X;split at h
   .rename_i y' hy;split at h
    .rename_i aa;simp at h;subst h;generalize N:c9 (cw call.lv H) args=T;obtain⟨R,D⟩:=jB has;have s0:di (plus I μ H w T) (λ_=>none) [] w:=⟨λ_ _=>rfl,vi s T,Zab,Zab,s.gl.mono (qw I μ H w T)⟩
     have Y:cU (plus I μ H w T) (λ_=>none) az vs:=by refine⟨R.trans o.1,λj a b d z=>?_⟩;obtain⟨x,O,af⟩:=D j a d;refine .c _ _ (wh s T call.lv x a b af (λk t=>?_) (o.2 j x b O z)).1;rw[<-N];exact kZ (mem_of_getElem? O) t
     obtain⟨hf,Q⟩:=M.fn f az [] r H1 X;refine⟨hf,(Q _ _ w vs s0 Y).mono ?_⟩;rintro e w' ⟨u,I1,v,rfl,hr,i,st⟩;have B:=λb D=>st.frame b D (s6 _ _)
     generalize ak:cw call.lv H1 r=T1;have A:=(wh i T1 call.lv r y' u hy (λk t=>Zac) hr).1
     cases ah:y'.scalar with
     |true=>exact⟨u,I,μ,rfl,.c _ _ (A.scalar ah),s.kept B,⟨cE.le_refl _,Mu.le_refl _,le_refl _,st.size,λb D _=>B b D,λ_ h=>h.elim .inl λh=>.inr (.inl h),st.os,st.out,st.fz⟩⟩|false=>
      simp only[false_eq_true,if_false]
      let I2:=plus I1 v H1 w' T1
      have G:cE.le I I2:=cE.le_trans (qw I μ H w T) (cE.le_trans st.le (qw _ _ _ _ _));have J:∀b,(I2 b).isSome=true->(I b).isSome=true\/CJ μ H T b\/w.heap.size<=b:=by intro b D;have d:(I1 b).isSome=true\/iV v H1 b:=(by rcases An D with h|h;grind;exact .inr (C1 h));rcases st.terr b d with h|h|h;rcases An h with h|h;grind;grind;exact absurd h (s6 _ _);grind
      have Z:∀id ob p,H[id]?=some ob->ob.live=true->id∉T->μ id=some p->I2 p.b=none:=by intro id ob p d z h3 h4;cases E:I2 p.b with|none=>rfl|some x=>have F:iV μ H p.b:=⟨id,p,ob,d,z,h4,rfl⟩;rcases J p.b Zac with h|⟨S,p',ai,g0,g1,g2,g3,g4⟩|h;rw[gL s F]at h;cases h;have:=s.inj S id ai ob p' p g1 d g2 z g3 h4 g4;simp_all;have:=oK s F;omega
      have U:∀id x,(cT H T)[id]?=some x->∃ob,H[id]?=some ob/\x=(if id∈T then uE ob else ob):=by intro id x O;rw[jo]at O;obtain⟨ob,d,z⟩:=ζf.1 O;exact⟨ob,d,z.symm⟩
      have C:∀id x,(cT H T)[id]?=some x->x.live=true->H[id]?=some x/\(id∉T\/∃r,x=.loop r):=by intro id x O g;obtain⟨ob,d,z⟩:=U id x O;by_cases W:id∈T;rw[if_pos W]at z;cases ob<;>simp[uE]at z<;>subst z<;>simp[Ob.live]at g;exact⟨d,.inr ⟨_,rfl⟩⟩;rw[if_neg W]at z;subst z;exact⟨d,.inl W⟩
      refine⟨u,I2,μ,rfl,.c _ _ A,⟨?_,?_,?_,?_,s.gl.mono G⟩,⟨G,Mu.le_refl _,by rw[kV];exact le_refl _,st.size,λb D _=>B b D,?_,st.os,st.out,st.fz⟩⟩
      .intro id h;rw[kV]at h;exact s.dom id h
      .exact vi i T1
      .intro id x O;obtain⟨ob,d,z⟩:=U id x O;have L:=s.obs id ob d
       by_cases W:id∈T
       .rw[if_pos W]at z
        cases ob with
        |row es xs=>
         subst z;obtain⟨p,c,g1,g2,g3⟩:=DT s W (by rw[d];rfl)
         exact⟨p,c,g1,qw _ _ _ _ _ _ _ (st.le _ _ g2),g3.mono G (Mu.le_refl _)⟩
        |frz es xs=>subst z;exact L.mono G (Mu.le_refl _) (λp _ g=>by simp[Ob.live]at g) (λm=>by cases m)|map al=>subst z;trivial|free=>simp[uE]at z;subst z;exact L|dead=>subst z;trivial|loop r=>
         simp[uE]at z;subst z;obtain⟨p,l,g1,g2,g3,g4⟩:=L;refine⟨p,l,g1,?_,?_,g4.mono G (Mu.le_refl _)⟩
         .
          cases E:I2 p.b with
          |none=>rfl|some x=>
           have K:=vi i T1 p.b x E;have aj:=(Array.getElem?_eq_some_iff.1 g3).1;have n:=B p.b aj;rw[g3]at n
           cases x with
           |cells c=>obtain⟨_,_,q⟩:=K;rw[n]at q;cases q|map es=>obtain⟨_,q⟩:=K;rw[n]at q;cases q
         rw[B p.b (Array.getElem?_eq_some_iff.1 g3).1];omega
       rw[if_neg W]at z;subst z;refine L.mono G (Mu.le_refl _) (λp hp g=>⟨B _ (oK s ⟨id,p,x,d,g,hp,rfl⟩),Z id x p d g W hp⟩) (λm=>by subst m;exact L)
      .intro id S o1 o2 p p' d z l1 l2 m1 m2 D;exact s.inj id S o1 o2 p p' (C id o1 d l1).1 (C S o2 z l2).1 l1 l2 m1 m2 D
      intro b D;rcases D with h|⟨id,p,x,d,z,h3,rfl⟩
      .rcases J b h with h|h|h
       .exact .inl h
       .exact .inr (.inl (C1 h))
       exact .inr (.inr h)
      exact .inr (.inl ⟨id,p,x,(C id x d z).1,z,h3,rfl⟩)
    grind
   grind
  grind
 grind
def bN.scalar{x:V}{v:V'}(h:bN I μ x v)(B:x.scalar=true):bN I' μ' x v:=by
 have key:∀(l:T2)(u:aZ V'),(∀x∈l,∀v,bN I μ x v->x.scalar=true->bN I' μ' x v)->V.c8 l=true->(∀(j:Nat)a b,l[j]?=some a->u[j]?=some b->bN I μ a b)->
  ∀(j:Nat)a b,l[j]?=some a->u[j]?=some b->bN I' μ' a b:=by
  intro l
  induction l with
  |nil=>grind|cons x l C=>
   intro u g J L j a b D w;simp only[V.c8,ζh]at J
   cases j with
   |zero=>grind|succ j=>
    cases u with
    |nil=>simp at w|cons v u=>exact C u (λy z=>g y (mem_cons_of_mem _ z)) J.2 (λj a b p q=>L (j+1) a b Zac Zac) j a b Zac (by simpa using w)
 have d:∀(k:Nat)(x:V)(v:V'),SizeOf.sizeOf x<k->bN I μ x v->x.scalar=true->bN I' μ' x v:=by intro k;induction k with|zero=>grind|succ k C=>intro x v f h B;cases h with|c _ _ h=>exact .c _ _ (h.scalar B)|agg cs u G h=>refine .agg cs u G (λj a b D w=>key cs u.toList (λy z v e B=>C y v ?_ e B) B (λj a b p q=>h j a b p (by simpa using q)) j a b D (by simpa using w));have:=List.sizeOf_lt_of_mem z;simp at f;omega|tup cs u G h=>refine .tup cs u G (λj a b D w=>key cs u.toList (λy z v e B=>C y v ?_ e B) B (λj a b p q=>h j a b p (by simpa using q)) j a b D (by simpa using w));have:=List.sizeOf_lt_of_mem z;simp at f;omega|_=>simp[V.scalar]at B
 exact d (SizeOf.sizeOf x+1) x v Zaa h B
def di.Nq(s:di I μ H w){ob:Ob}{p:Pl}(U:ob≠.free)(Y:I p.b=none)(G:¬iV μ H p.b)(W:uA I (μ.ir H.length p) w H.length ob):
 di I (μ.ir H.length p) (H++[ob]) w:=by
 have a:=s.dom _ (le_refl _);have u:∀id x,(H++[ob])[id]?=some x->(id≠H.length/\H[id]?=some x)\/(id=H.length/\x=ob):=by grind
 refine⟨?_,s.imm,?_,?_,s.gl⟩
 .intro id h;simp at h;rw[Mu.jr _ _ Zaa];exact s.dom id Zaa
 .intro id x h;rcases u id x h with⟨e,h⟩|⟨rfl,rfl⟩
  .refine(s.obs id x h).mono (cE.le_refl _) (Mu.sJ a) (λq Q S=>?_) (λT=>by subst T;rw[Mu.jr _ _ e];exact s.obs id _ h)
   exact⟨rfl,gL s ⟨id,q,x,h,S,Q,rfl⟩⟩
  grind
 intro id z o1 o2 q J h1 X L O B C D;rcases u id o1 h1 with⟨e1,k1⟩|⟨a1,Z⟩<;>rcases u z o2 X with⟨e2,k2⟩|⟨a2,b⟩
 .rw[Mu.jr _ _ e1]at B;rw[Mu.jr _ _ e2]at C;exact s.inj id z o1 o2 q J k1 k2 L O B C D
 .subst a2;rw[Mu.jr _ _ e1]at B;rw[Mu.gP]at C;cases C;exact absurd ⟨id,q,o1,k1,L,B,D⟩ G
 .subst a1;rw[Mu.jr _ _ e2]at C;rw[Mu.gP]at B;cases B;exact absurd ⟨z,J,o2,k2,O,C,D.symm⟩ G
 grind
def XX{call:dL}(hc:lZ P call){f:Y'}{args:T2}{y:V}(h:lI call f args H=some (y,H'))(s:di I μ H w){vs:aZ V'}(N:cU I μ args vs):
 Au P f/\CallsIn (fr none) 0 P f vs.toArray w (z7 I μ H w y H'):=by
 unfold lI at h;split at h
 .rename_i az has;split at h
  .rename_i r H1 O;generalize hT:c9 (cw call.lv H) args=T;have⟨X,B⟩:=jB has;have s0:di (plus I μ H w T) (λ_=>none) [] w:=⟨λ_ _=>rfl,vi s T,Zab,Zab,s.gl.mono (qw I μ H w T)⟩
   have Q:cU (plus I μ H w T) (λ_=>none) az vs:=by refine⟨X.trans N.1,λj a b g Y=>?_⟩;have⟨x,d,ae⟩:=B j a g;refine .c _ _ (wh s T call.lv x a b ae (λk hk=>?_) (N.2 j x b d Y)).1;rw[<-hT];exact kZ (mem_of_getElem? d) hk
   have⟨hf,G⟩:=hc.fn f az [] r H1 O;refine⟨hf,(G _ _ w vs s0 Q).mono ?_⟩;rintro e w' ⟨u,I1,μ1,rfl,F,s1,st⟩;have z:∀b,b<w.heap.size->w'.heap[b]?=w.heap[b]?:=λb B=>st.frame b B (s6 _ _)
   have R:di I μ H w':=s.kept z;have af:Step I μ H w I μ H w':=⟨cE.le_refl _,Mu.le_refl _,le_refl _,st.size,λb B _=>z b B,λ_ h=>h.elim .inl λh=>.inr (.inl h),st.os,st.out,st.fz⟩
   split at h
   next ah=>simp only[ζa,ζc]at h;obtain⟨rfl,rfl⟩:=h;exact⟨u,I,μ,rfl,F.scalar ah,R,af⟩

   have key:∀(id es off len:Nat)(v:V)(ob:Ob)(u:V'),sH H.length H1 id es off len=some (v,ob)->bN I1 μ1 (.hsl id es off len) u->
    ∃p,bN I (μ.ir H.length p) v u/\di I (μ.ir H.length p) (H++[ob]) w'/\Step I μ H w I (μ.ir H.length p) (H++[ob]) w':=by
    intro id es off len v ob u C hu;unfold sH at C;split at C
    .rename_i Z xs L;split at C
     .rename_i S;obtain⟨rfl,an⟩:=S;obtain⟨rfl,rfl⟩:=C;have⟨p,c,el,g1,g2,g3,g4⟩:=s1.obs id _ L;have aa:w.heap.size<=p.b:=by
       rcases st.terr p.b (.inr ⟨id,p,_,L,rfl,g1,rfl⟩)with h|h|h
       .have⟨x,d⟩:=isSome_iff_exists.1 h;have:=st.le _ _ d
        grind
       .exact absurd h (s6 _ _)
       simp_all
      have hI:I p.b=none:=by cases d:I p.b with|none=>rfl|some x=>have:=s.K2 d;omega
      have hn:¬iV μ H p.b:=λho=>by have:=oK s ho;omega
      have ai:gN I (μ.ir H.length p) p c Z xs:=by refine⟨g4.es_eq,g4.sz,g4.qE,g4.one,g4.room,g4.rel.1,λj a b C B=>(g4.rel.2 j a b C B).scalar ?_⟩;have n:=mem_of_getElem? C;rw[mem_flatten]at n;grind
      have sa:=R.Nq (ob:=.row Z xs) Zab hI hn ⟨p,c,el,Mu.gP _ _ _,hI,g3,ai⟩
      refine⟨p,?_,sa,⟨cE.le_refl _,Mu.sJ (s.dom _ (le_refl _)),Zab,st.size,λb B _=>z b B,?_,st.os,st.out,st.fz⟩⟩
      .rcases hu.ni with⟨p',K,n,aj,ak,al,M⟩|⟨h0,ad,M⟩
       .rw[g1]at n;cases n;rw[M];subst aj;exact .hsl _ off len K p (Mu.gP _ _ _) ak al
       rw[M,h0];exact .hsl0 _ _ _ _
      rintro b (h|⟨k,q,x,g,Y,o,rfl⟩)
      .exact .inl h
      by_cases e:k=H.length
      .subst e;rw[Mu.gP]at o;cases o;exact .inr (.inr aa)
      rw[Mu.jr _ _ e]at o;have am:k<H.length:=by have:=(ζe.1 g).1;simp at this;omega
      rw[getElem?_append_left am]at g;exact .inr (.inl ⟨k,q,x,g,Y,o,rfl⟩)
     grind
    grind
   split at h
   next id es off len _=>simp only[ζf]at h;obtain⟨⟨v,ob⟩,C,rfl,rfl⟩:=h;have⟨p,k1,k2,k3⟩:=key id es off len v ob u C F;exact⟨u,I,_,rfl,k1,k2,k3⟩
   .rename_i id es off len rest _;split at h
    .rename_i U;simp only[ζf,ζc]at h;obtain⟨⟨v,ob⟩,C,rfl,rfl⟩:=h;obtain⟨t,rfl,D⟩:=F.rN;have ab:0<t.toList.length:=by have:=D.1;simp at this⊢;omega
     obtain⟨A,E,W⟩:∃A E,t.toList=A::E:=by cases i:t.toList with|nil=>rw[i]at ab;simp at ab|cons a b=>exact⟨a,b,rfl⟩
     rw[W]at D;have⟨p,k1,k2,k3⟩:=key id es off len v ob A C (D.2 0 _ _ rfl rfl);refine⟨_,I,_,rfl,.tup _ _ ?_ ?_,k2,k3⟩
     .have:=D.1;simp at this;have Y:t.toList.length=E.length+1:=by rw[W];rfl
      simp at Y⊢;omega
     intro j a b m B;have J:(A::E)[j]?=some b:=by rw[<-W];simpa using B
     cases j with
     |zero=>simp at m J;subst m;subst J;exact k1|succ j=>
      simp at m J;refine(D.2 (j+1) a b (by simpa using m) (by simpa using J)).scalar ?_
      have:∀(l:T2),V.c8 l=true->∀x∈l,x.scalar=true:=by intro l;induction l with|nil=>intro _ x d;simp at d|cons y l ih=>intro i x d;simp[V.c8]at i;rcases mem_cons.1 d with rfl|d;exact i.1;exact ih i.2 x d
      exact this rest U a (mem_of_getElem? m)
    simp at h
   grind
  grind
 grind
def XS{E:Env}{call:dL}(a:lZ P call){f:Y'}{args:T2}{y:V}(h:fI E call f args H=some (y,H'))(s:di I μ H w){vs:aZ V'}(b:cU I μ args vs):
 Au P f/\CallsIn (fr none) 0 P f vs.toArray w (z7 I μ H w y H'):=by
 unfold fI at h;split at h
 .exact XX a h s b
 have⟨k1,k2⟩:=a.fn f args H y H' h
 grind
end
def Ob.mp:Ob->a_ (aZ (V×V))
 |.map B=>some B|_=>none
def nX(H H2:bp):Prop:=∀id:Nat,(H[id]?).bind Ob.rows=(H2[id]?).bind Ob.rows/\(H[id]?).bind Ob.mp=(H2[id]?).bind Ob.mp
def nX.refl(H:bp):nX H H:=λ_=>⟨rfl,rfl⟩
def nX.symm{H H2:bp}(h:nX H H2):nX H2 H:=λid=>⟨(h id).1.symm,(h id).2.symm⟩
def nX.trans{H H2 B:bp}(h:nX H H2)(k:nX H2 B):nX H B:=λid=>⟨(h id).1.trans (k id).1,(h id).2.trans (k id).2⟩
def nX.of_eq{H H2:bp}(h:H=H2):nX H H2:=by subst h;exact .refl _
def LB{H H2:bp}(h:nX H H2):∀n,borrow n H=borrow n H2:=by
 intro n
 induction n with
 |zero=>funext x;rfl|succ n u=>
  funext x
  cases x with
  |hsl id es off len=>simp only[borrow,(h id).1,u]|hptr id el off=>simp only[borrow,(h id).1,u]|hmap id=>
   have:=(h id).2;simp only[borrow,u];split;rfl
   cases a:H[id]?with
   |none=>cases w:H2[id]?with|none=>rfl|some o2=>rw[a,w]at this;cases o2<;>simp[Ob.mp]at this<;>rfl
   |some o=>cases w:H2[id]?with|none=>rw[a,w]at this;cases o<;>simp[Ob.mp]at this<;>rfl|some o2=>rw[a,w]at this;cases o<;>cases o2<;>simp[Ob.mp]at this<;>first|rfl|(subst this;rfl)
  |_=>simp only[borrow,u]
def NU{H H2:bp}(h:nX H H2):∀n,cw n H=cw n H2:=by
 intro n
 induction n with
 |zero=>funext x;rfl|succ n u=>
  funext x
  cases x with
  |hsl id es off len=>simp only[cw,(h id).1,u]|hptr id el off=>simp only[cw,(h id).1,u]|hmap id=>
   have:=(h id).2;simp only[cw,u];split;rfl
   cases a:H[id]?with
   |none=>cases w:H2[id]?with|none=>rfl|some o2=>rw[a,w]at this;cases o2<;>simp[Ob.mp]at this<;>rfl
   |some o=>cases w:H2[id]?with|none=>rw[a,w]at this;cases o<;>simp[Ob.mp]at this<;>rfl|some o2=>rw[a,w]at this;cases o<;>cases o2<;>simp[Ob.mp]at this<;>first|rfl|(subst this;rfl)
  |_=>simp only[cw,u]
def A8{H H2:bp}(h:nX H H2)(call:dL)(f:Y')(args:T2):ct call f args H=ct call f args H2:=by unfold ct borrows;rw[LB h]
def JO{H H2:bp}(h:nX H H2)(p:V)(n:Nat):eO H p n=eO H2 p n:=by cases p with|hptr id el off=>simp only[eO,(h id).1]|_=>rfl
def NP{H H2:bp}(h:nX H H2)(p:V):nJ H p=nJ H2 p:=by
 cases p with
 |hmap id=>
  have:=(h id).2;simp only[nJ]
  cases a:H[id]?with
  |none=>cases u:H2[id]?with|none=>rfl|some o2=>rw[a,u]at this;cases o2<;>simp[Ob.mp]at this<;>rfl
  |some o=>cases u:H2[id]?with|none=>rw[a,u]at this;cases o<;>simp[Ob.mp]at this<;>rfl|some o2=>rw[a,u]at this;cases o<;>cases o2<;>simp[Ob.mp]at this<;>first|rfl|(subst this;rfl)
 |_=>rfl
def AZ{E:Env}{F:WP}{H H2:bp}(h:nX H H2)(op:Op):ez E F H op=ez E F H2 op:=by cases op<;>simp only[ez,JO h,NP h]
def wE{H H2:bp}(h:nX H H2)(T:S'):jv H T=jv H2 T:=by unfold jv;congr 1;funext id;rw[(h id).1]
def BS{H:bp}{T:S'}(h:jv H T=true){id:Nat}(hi:id∈T):∃es xs,H[id]?=some (.row es xs)\/H[id]?=some (.frz es xs):=by unfold jv at h;rw[all_eq_true]at h;have:=h id hi;cases a:H[id]?with|none=>rw[a]at this;simp at this|some o=>rw[a]at this;cases o<;>simp[Ob.rows]at this<;>exact⟨_,_,by first|exact .inl rfl|exact .inr rfl⟩
def rj{H:bp}{b id:Nat}:(H.take b)[id]?=if id<b then H[id]?else none:=by rw[getElem?_take]
def sB{H:bp}{T:S'}{b:Nat}(h:jv (H.take b) T=true):nX (cT H T) H:=by intro id;rw[jo];by_cases hi:id∈T;have⟨es,w,a⟩:=BS h hi;rw[rj]at a;by_cases u:id<b;rw[if_pos u]at a;rcases a with a|a<;>simp[a,hi,uE,Ob.rows,Ob.mp];rw[if_neg u]at a;rcases a with a|a<;>cases a;cases H[id]?<;>simp[hi]
def nX.take{H H2:bp}(h:nX H H2)(b:Nat):nX (H.take b) (H2.take b):=by intro id;rw[rj,rj];by_cases u:id<b;rw[if_pos u,if_pos u];exact h id;rw[if_neg u,if_neg u];exact⟨rfl,rfl⟩
def Bl{H:bp}{T:S'}{b:Nat}(h:jv (H.take b) T=true){id:Nat}(hi:id∈T):id<b:=by have⟨es,w,a⟩:=BS h hi;rw[rj]at a;by_cases u:id<b;exact u;rw[if_neg u]at a;rcases a with a|a<;>cases a
def E5{H:bp}{T:S'}{k:Nat}{ob:Ob}(h:k∉T):cT (H.set k ob) T=(cT H T).set k ob:=by apply List.ext_getElem?;intro i;rw[jo];by_cases e:i=k;subst e;by_cases u:i<H.length;rw[getElem?_set_self u,getElem?_set_self (by rw[kV];exact u)];simp[h];rw[List.getElem?_eq_none (by simp;omega),List.getElem?_eq_none (by rw[length_set,kV];omega)];rfl;rw[getElem?_set_ne (Ne.symm e),getElem?_set_ne (Ne.symm e),jo]
def LJ(H:bp)(T B:S'):cT (cT H T) B=cT (cT H B) T:=by apply List.ext_getElem?;intro i;simp only[jo];cases H[i]?with|none=>rfl|some o=>by_cases a:i∈T<;>by_cases u:i∈B<;>simp[a,u]
def O6{H:bp}{b:Nat}:∀(n:Nat)(x:V),(∀id∈cw n (H.take b) x,id<b)->cw n H x=cw n (H.take b) x:=by
 intro n
 induction n with
 |zero=>intro x _;rfl|succ n B=>
  have u:∀l:T2,(∀id∈c9 (cw n (H.take b)) l,id<b)->c9 (cw n H) l=c9 (cw n (H.take b)) l:=by intro l;induction l with|nil=>intro _;rfl|cons x r z=>intro h;simp only[c9,mem_append]at h⊢;rw[B x λid hi=>h id (.inl hi),z λid hi=>h id (.inr hi)]
  intro x h;simp only[cw]at h⊢;split;rfl;rename_i e;rw[if_neg e]at h
  cases x with
  |hsl id es off len=>simp only at h⊢;have w:id<b:=h id (mem_cons_self ..);rw[rj,if_pos w]at h⊢;cases d:(H[id]?).bind Ob.rows with|none=>rfl|some q=>rw[d]at h;simp only at h⊢;rw[u _ λi hi=>h i (mem_cons_of_mem _ hi)]
  |hptr id el off=>simp only at h⊢;have w:id<b:=h id (mem_cons_self ..);rw[rj,if_pos w]at h⊢;cases d:(H[id]?).bind Ob.rows with|none=>rfl|some q=>rw[d]at h;simp only at h⊢;rw[u _ λi hi=>h i (mem_cons_of_mem _ hi)]
  |hmap id=>simp only at h⊢;have w:id<b:=h id (mem_cons_self ..);rw[rj,if_pos w]at h⊢;split;(next C g=>rw[g]at h;simp only[mem_cons,mem_append]at h;rw[u _ λi hi=>h i (.inr (.inl hi)),u _ λi hi=>h i (.inr (.inr hi))]);rfl|clo f a c=>simp only[mem_append]at h⊢;rw[u _ λi hi=>h i (.inl hi),u _ λi hi=>h i (.inr hi)]|agg cs=>simp only at h⊢;exact u _ h|tup cs=>simp only at h⊢;exact u _ h|_=>rfl
def vz{H:bp}{b n:Nat}:∀(l:T2),(∀id∈c9 (cw n (H.take b)) l,id<b)->c9 (cw n H) l=c9 (cw n (H.take b)) l
 |[],_=>rfl|x::r,h=>by simp only[c9,mem_append]at h⊢;rw[O6 n x λid hi=>h id (.inl hi),vz r λid hi=>h id (.inr hi)]
def Sx{H:bp}{b id:Nat}{ob:Ob}(h:(H.take b)[id]?=some ob):H[id]?=some ob:=by grind
def Hp{H:bp}{b id es:Nat}{xs:T'}(h:((H.take b)[id]?).bind Ob.rows=some (es,xs)):(H[id]?).bind Ob.rows=some (es,xs):=by grind
def I5{H:bp}{b:Nat}{p:V}{n:Nat}{cs:T2}(h:eO (H.take b) p n=some cs):eO H p n=some cs:=by unfold eO at h⊢;split at h;omega;grind;grind
def NQ{H:bp}{b:Nat}{m:V}{B:aZ (V×V)}(h:nJ (H.take b) m=some B):nJ H m=some B:=by unfold nJ at h⊢;grind
def A2{E:Env}{F:WP}{H:bp}{b:Nat}{op:Op}{x:V}(h:ez E F (H.take b) op=some x):ez E F H op=some x:=by cases op with|load t a=>simp[ez]at h⊢;split at h;have⟨cs,c,w⟩:=ζg.1 h;rw[I5 c];exact w;grind|lookup t m k ok=>simp[ez]at h⊢;split at h;split at h;(next hd u=>rw[hd,NQ u];omega);grind;grind|_=>simp[ez]at h
def nV{f g:V->a_ V}(B:∀x y,f x=some y->g x=some y):∀{xs ys:T2},je f xs=some ys->je g xs=some ys:=by intro xs;induction xs with|nil=>intro ys h;exact h|cons x xs u=>intro ys h;simp[je]at h⊢;grind
def LL{f g:V->a_ V}(B:∀x y,f x=some y->g x=some y):∀{xs ys:T'},mO f xs=some ys->mO g xs=some ys:=by intro xs;induction xs with|nil=>intro ys h;exact h|cons x xs u=>intro ys h;simp[mO]at h⊢;split at h;(next y s w z=>rw[nV B w,u z];omega);grind
def LX{f g:V->a_ V}(B:∀x y,f x=some y->g x=some y):∀{xs ys:aZ (V×V)},mH f xs=some ys->mH g xs=some ys:=by intro xs;induction xs with|nil=>intro ys h;exact h|cons x xs u=>intro ys h;simp[mH]at h⊢;grind
def Di{H:bp}{b:Nat}:∀(n:Nat)(x y:V),borrow n (H.take b) x=some y->borrow n H x=some y:=by intro n;induction n with|zero=>intro x y h;exact h|succ n z=>intro x y h;simp[borrow]at h⊢;split at h;grind;rename_i c;rw[if_neg c];split at h;split at h;rename_i a;simp only[Hp a];split at h;(next B=>rw[if_pos B];have⟨C,w,u⟩:=ζf.1 h;rw[LL z w,<-u];rfl);grind;grind;split at h;rename_i a;simp[Hp a];split at h;split at h;(next D=>rw[if_pos D];have⟨C,w,u⟩:=ζf.1 h;rw[nV z w,<-u];rfl);grind;grind;grind;split at h;(next a=>simp only[Sx a];have⟨C,w,u⟩:=ζf.1 h;rw[LX z w,<-u];rfl);grind;split at h;(next d G=>rw[nV z d,nV z G];omega);grind;have⟨C,w,u⟩:=ζf.1 h;rw[nV z w,<-u];rfl;have⟨C,w,u⟩:=ζf.1 h;rw[nV z w,<-u];rfl;grind
def qO{call:dL}{f:Y'}{args:T2}{H:bp}{b:Nat}{y:V}(h:ct call f args (H.take b)=some y):ct call f args H=some y:=by
 unfold ct borrows at h⊢;split at h;next az a=>rw[nV (Di call.lv) a];omega
 grind
def JJ(n:Nat)(H:bp){x:V}(h:x.closed=true):cw n H x=[]:=by cases n with|zero=>rfl|succ n=>simp[cw,h]
section
variable{P:Program}{E:Env}{I I':cE}{μ μ':Mu}{H H':bp}{n:Nat}{F:WP}{a:Act}{w w':World}
def zd{f:Y'}(h:Au P f)(args:Array V'):(callFunc f args).run P w=.ok (.enter f args) w:=by have⟨fn,a,B,u⟩:=h;unfold callFunc;have z:fn.body.isNone=false:=Zad;simp only[run_bind,run_program,andThen_ok,a,u,z,false_eq_true,if_false,run_pure]
def EN{o:Oper}{ro:a_ Nat}{K:Act->World->Prop}{Q:Exit->Act->World->Prop}{f:Y'}{args:Array V'}{r:V}
 (B:CallsIn (fr none) 0 P f args w (z7 I μ H w r H'))(D:∀u I' μ' w',bN I' μ' r u->di I' μ' H' w'->Step I μ H w I' μ' H' w'->K (a.put o.dst u) w'):
 o.uponIn (fr ro) 0 P a K Q (.ok (.enter f args) w):=by
 refine⟨λh=>by simp[fr]at h,?_⟩
 have z:=B;refine z.mono ?_;rintro e w' ⟨u,I',μ',rfl,b,z,C⟩
 grind
def IF{x:V}(h:x.scalar=true){I:cE}{μ:Mu}{v:V'}(r:bN I μ x v):eY I x v:=by induction r with|c x v B=>omega|agg cs u w _ z=>exact .agg cs u w λj a b p q=>z j a b p q (vG h a (mem_of_getElem? p))|tup cs u w _ z=>exact .tup cs u w λj a b p q=>z j a b p q (vG h a (mem_of_getElem? p))|_=>simp[V.scalar]at h
def WY(K:eZ P E)(r:eV I μ n F a.tmps)(s:di I μ H w)(o:Oper){x:V}(h:qH E F o.op=some x):
 ∃u I' w',(execOp a.eval o).run P w=.ok (.value u) w'/\bN I' μ x u/\di I' μ H w'/\Step I μ H w I' μ H w':=by
 unfold qH at h;split at h
 rotate_left
 .cases h
 rename_i es C B n Z;split at h
 rotate_left
 .cases h
 rename_i M;obtain⟨rfl,rfl,N⟩:=M;have⟨obj,p,u,R,Y⟩:=D1 K r s o Z;have ab:=Y.len _ _ rfl;have⟨⟨q,c,el,g1,g2,g3,g4⟩,g⟩:=Y.rel _ (s.dom _ (le_refl _));rw[Mu.gP]at g1;cases g1;have L:=Y.b;have S:obj=.cells c el:=by rw[L,nZ]at g3;cases g3;rfl
 subst S
 let I':cE:=λb=>if b=w.heap.size then some (.cells c)else I b
 have D:cE.le I I':=λb y G=>by show(if b=w.heap.size then some (IC.cells c)else I b)=some y;rw[if_neg (λe=>by have:=IC.vP (s.imm b y G);omega)];exact G
 have J:I' p.b=some (.cells c):=by show(if p.b=w.heap.size then some (IC.cells c)else I p.b)=_;rw[if_pos L]
 have ad:∀y∈C,∀z∈y,z.scalar=true:=λy G z hz=>all_eq_true.1 (all_eq_true.1 N y G) z hz
 have l:∀b,b<w.heap.size->(w.alloc (.cells c el)).heap[b]?=w.heap[b]?:=λb f=>mW _ b f
 have ae:∀b,b<w.heap.size->I' b=I b:=λb f=>by show(if b=w.heap.size then some (IC.cells c)else I b)=_;rw[if_neg Zaa]
 refine⟨u,I',_,R,?_,⟨s.dom,?_,?_,s.inj,s.gl.mono D⟩,⟨D,Mu.le_refl _,le_refl _,Zab,λb f _=>l b f,?_,rfl,⟨rfl,rfl,le_refl _⟩,λa f=>Ra Y.nf a⟩⟩
 .refine .c _ _ ?_;have af:∀d,C.length<=d->p.o+(0+d)*B<=p.sz->u=.slice (some ⟨p.b,p.o+0*B,none⟩) C.length d->eY I' x u:=by
   rintro d k1 k2 rfl;rw[zero_mul,add_zero];have m:eY I' (.fsl B C) (.slice (some ⟨p.b,p.o,none⟩) C.length d):=.fsl B C p.b p.o d c J k1 g4.qE g4.one g4.room λi j y z v m1 t m3=>eY.mono D (IF (ad y (mem_of_getElem? m1) z (mem_of_getElem? t)) (g4.idx m1 t m3))
   split at h
   .split at h
    .rename_i Q;split at h
     rotate_left
     .cases h
     rename_i T;simp only[ζa]at h;subst h;simp only[List.isEmpty_iff,bne_iff_ne,ne_eq]at Q T;subst Q;have:d=0:=by simp only[List.length_nil,zero_mul]at ab;rcases eq_zero_or_pos d with k|k;exact k;have:=Nat.mul_pos k (Nat.pos_of_ne_zero T);rw[zero_add]at k2;omega
     subst this;exact .dU _
    simp only[ζa]at h;subst h;exact m
   simp only[ζa]at h;subst h;exact m
  have hp:p.es=B:=g4.es_eq;change bN I _ (.hsl H.length B 0 C.length) u at g;generalize U:C.length=ln at g
  cases g with
  |c _ _ ah=>cases ah|hsl id off len d p' hm k1 k2=>rw[Mu.gP]at hm;cases hm;rw[hp]at *;subst U;exact af d k1 k2 rfl|hsl0 id es off a=>
   have Q:C=[]:=List.length_eq_zero_iff.1 U;subst Q;split at h
   .split at h
    .split at h
     .simp only[ζa]at h;subst h;exact .dU _
     cases h
    rename_i Q;exact absurd rfl Q
   simp only[ζa]at h;subst h;exact .fsl0 _ _ _
 .intro b y G
  by_cases e:b=w.heap.size
  .subst e;have:y=.cells c:=by have:=J;rw[L]at this;rw[this]at G;cases G;rfl
   subst this;exact⟨el,_,nZ _⟩
  have W:I b=some y:=by have:(if b=w.heap.size then some (IC.cells c)else I b)=some y:=G;rw[if_neg e]at this;exact this
  exact IC.tG (s.imm b y W) (l b (IC.vP (s.imm b y W)))
 .intro id ob O;refine(s.obs id ob O).mono D (Mu.le_refl _) (λq hq hl=>?_) (λe=>by subst e;exact s.obs id _ O)
  have A:iV μ H q.b:=⟨id,q,ob,O,hl,hq,rfl⟩;have X:=oK s A;exact⟨l _ X,by rw[ae _ X];exact gL s A⟩
 intro b f;rcases f with f|f
 .by_cases e:b=w.heap.size
  .exact .inr (.inr Zaa)
  have:(if b=w.heap.size then some (IC.cells c)else I b).isSome=true:=f;rw[if_neg e]at this;exact .inl this
 exact .inr (.inl f)
def He:∀{ys:T'}{l:ST},mE ys=some l->ys.flatten=l.map (V.int .u8)/\l.length=ys.length
 |[],l,h=>by cases h;exact⟨rfl,rfl⟩|x::r,l,h=>by unfold mE at h;split at h;(next e=>cases e);(next n B e=>cases e;obtain⟨k,a,rfl⟩:=ζf.1 h;have⟨u,w⟩:=He a;exact⟨by simp[u],by simp[w]⟩);cases h
def Xc(U:eZ P E)(r:eV I μ n F a.tmps)(s:di I μ H w)(o:Oper){x:V}(h:evalConv E F H o.op=some x):∃u,(execOp a.eval o).run P w=.ok (.value u) w/\bN I μ x u:=by
 unfold evalConv at h;split at h;rename_i st O y B;split at h;rename_i e v Q hd f;split at h;rename_i S;obtain⟨J,g,T⟩:=ζg.1 h;obtain⟨l,W,rfl⟩:=ζf.1 T;obtain⟨X,i⟩:=He W;have C:∀{t:W'}{k:TK},E.kindOf t=some k->∃d b,E.tt t=some d/\P.underlying t=some b/\ny b=k:=λ{t k}hk=>by unfold Env.kindOf at hk;obtain⟨d,g1,g2⟩:=ζf.1 hk;obtain⟨b,D,G,_⟩:=(U.ty g1).dW;exact⟨d,b,g1,D,by rw[G,g2]⟩
 obtain⟨_,m,_,p1,D⟩:=C Q;obtain⟨_,p,_,p2,G⟩:=C hd;obtain⟨_,A,_,p3,Y⟩:=C S;rw[j7 D]at p1;rw[BZ G]at p2;rw[E3 Y]at p3;obtain⟨L,c,arr,e1,_,e2,e3,_⟩:=Bu s (dM r f) g;have z:arr=(l.map (Value.int .u8)).toArray:=by apply ext';rw[X]at e3;refine List.ext_getElem (by simpa using e3.1.symm) λj g1 g2=>?_;have g3:j<l.length:=(by simpa using g2);have:=e3.2 j (V.int .u8 l[j]) arr.toList[j] (by simp[g3]) (ζd g1);rw[this.gp];simp
 refine⟨.string (nG l),?_,.c _ _ (.str _)⟩;rw[show execOp a.eval o=_ from by unfold execOp;rw[B]];refine eU ?_;rw[e1];rw[run_convert_bytes_string w st O e L J.length c p1 p3 p2];cases L with|none=>have:=e2 w rfl;rw[e1]at this;simp only[firstCells,run_pure]at this;cases this;have Z:l=[]:=(by have:=congrArg Array.size z;simp at this;exact List.eq_nil_of_length_eq_zero this.symm);subst Z;rfl|some q=>have:=e2 w rfl;rw[e1]at this;simp only[firstCells,Nat.mul_one]at this;rw[z]at this;exact run_bytesToString w q J.length c l this
 cases h;cases h;cases h
def SS(W:eZ P E){call:dL}(N:lZ P call){ops:R'}{place:a_ (Nat×Nat)}{o:Oper}{x:V}(h:dJ E call ops place F H o.op=some (x,H'))
 (r:eV I μ n F a.tmps)(s:di I μ H w)(ro:a_ Nat){K:Act->World->Prop}{Q:Exit->Act->World->Prop}
 (k:∀u I' μ' w',bN I' μ' x u->di I' μ' H' w'->Step I μ H w I' μ' H' w'->K (a.put o.dst u) w'):o.wpIn (fr ro) 0 P a w K Q:=by
 refine⟨λ_ _=>trivial,?_⟩
 have ad:∀c,o.op≠.defer c:=by intro c ae;rw[ae]at h;simp[dJ,dF,uF,bV]at h;cases place<;>simp[evalConv]at h
 show o.uponIn (fr ro) 0 P a K Q ((o.semAt ro a.eval).run P w);rw[Oper.semAt_eq ro a.eval o ad];have aa:∀v,(execOp a.eval o).run P w=.ok (.value v) w->bN I μ x v->H'=H->o.uponIn (fr ro) 0 P a K Q ((execOp a.eval o).run P w):=by intro v e j hH;rw[e,Oper.uponIn_value];subst hH;exact k v I μ w j s (.refl _ _ _ _)
 unfold dJ at h;split at h
 .
  simp at h;obtain⟨v,j,rfl,rfl⟩:=h;unfold uF at j;split at j
  .rename_i hp;cases j;have⟨u,d,B⟩:=VG (w:=w) W r o hp
   grind
  split at j
  .have⟨u,d,B⟩:=Xc W r s o j;exact aa u d B rfl
  cases j
 .
  have hr:ez E F H o.op=some x/\H'=H:=by split at h;simp at h;grind;split at h;split at h;(next v j=>obtain⟨rfl,rfl⟩:=h;exact⟨A2 j,rfl⟩);split at h;simp at h;grind;grind;grind
  have⟨u,d,B⟩:=VJ W r s o hr.1
  grind
 .
  by_cases J:sR E ops place=true
  .rw[if_pos J]at h;have⟨v,j,e⟩:=ζf.1 h;have⟨u,I',w',k1,k2,k3,k4⟩:=WY W r s o j;rw[k1,Oper.uponIn_value]
   grind
  rw[if_neg J]at h;split at h
  .rename_i ob m X;have⟨obj,p,u,d,B⟩:=D1 W r s o X;rw[d,Oper.uponIn_value];have⟨g1,g2⟩:=B.rel _ (s.dom _ (le_refl _));have⟨s1,s2⟩:=s.push B.b g1 B.nf
   grind
  .rename_i ob m b i X;split at h
   .rename_i L;have⟨obj,p,u,d,B⟩:=D1 W r s o X;rw[d,Oper.uponIn_value];have⟨g1,g2⟩:=B.rel _ (s.obs _ _ L);have⟨s1,s2⟩:=s.fill L B.b g1 B.nf
    grind
   grind
  grind
 .
  have hl:dz E F H o.op=some (x,H'):=by split at h;exact h;split at h;exact h;simp at h
  have⟨nx,u,w',μ',d,B,t,M,h5⟩:=(Wz W r s o hl).run;rw[d];rcases B with rfl|⟨rfl,rfl⟩
  .exact k u I μ' w' t M h5
  exact k _ I μ' w' t M h5

 have C:∀c args,kP F o.op=some (c,args)->∃S:aZ V',cU I μ args S/\
  (∀f,c=.fn f->Au P f->(execOp a.eval o).run P w=.ok (.enter f S.toArray) w)/\
  (∀id,c=.yld id->∃p,μ id=some p/\(execOp a.eval o).run P w=(Instr.yield p.b S.toArray).run P w):=by
  intro c args z;have⟨dst,op,ty,pos,after,R⟩:=o
  cases op with
  |call cl=>
   have⟨callee,O,aj⟩:=cl
   cases callee with
   |value f=>
    simp only[kP]at z;split at z
    .rename_i g p q S hf Y;obtain⟨rfl,rfl⟩:=z;have⟨u,v,ef,hu,j⟩:=(dM r hf).kU;have D:=pg r Y;refine⟨u.toList++O.toList.map a.eval++v.toList,(hu.append D).append j,?_,Zab⟩
     intro f' af ah;cases af;simp[execOp,resolve,run_bind];rw[ef];simp only[Deferred.ofValue,run_pure,andThen_ok,invoke,zd ah]
     congr 2
     apply ext';simp
    .rename_i id S hf Y;simp at z;obtain⟨rfl,rfl⟩:=z;have⟨p,hm,ef⟩:=(dM r hf).VY;have D:=pg r Y;refine⟨O.toList.map a.eval,D,Zab,?_⟩
     intro ak ab;cases ab;refine⟨p,hm,?_⟩;simp[execOp,resolve,run_bind];rw[ef];simp[Deferred.ofValue,run_pure,andThen_ok,invoke]
     congr 1
     congr 1
     apply ext';simp
    simp at z
   |_=>simp[kP]at z
  |_=>simp[kP]at z
 have G:∀f args y,kP F o.op=some (.fn f,args)->ct call f args H=some y->x=y->H'=(if y.scalar then H else cT H (c9 (cw call.lv H) args))->
  o.uponIn (fr ro) 0 P a K Q ((execOp a.eval o).run P w):=by
  intro f args y d B t M;have⟨S,g1,g2,_⟩:=C _ _ d;have⟨k1,k2⟩:=EJ N B s g1;rw[g2 f rfl k1];subst t;subst M;exact EN k2 k
 have T:∀f args,kP F o.op=some (.fn f,args)->fI E call f args H=some (x,H')->o.uponIn (fr ro) 0 P a K Q ((execOp a.eval o).run P w):=by intro f args d B;have⟨S,g1,g2,_⟩:=C _ _ d;have⟨k1,k2⟩:=XS N B s g1;rw[g2 f rfl k1];exact EN k2 k
 have U:∀id args,kP F o.op=some (.yld id,args)->call (.yld id) args H=some (x,H')->o.uponIn (fr ro) 0 P a K Q ((execOp a.eval o).run P w):=by intro id args d B;have⟨S,g1,_,g3⟩:=C _ _ d;have⟨p,hm,e⟩:=g3 id rfl;have⟨l,f,tmps,assign,body,k1,k2⟩:=N.yld id args H x H' B I μ w S p s g1 hm;rw[e,k1,Oper.uponIn_round];refine⟨λh=>by simp[fr]at h,?_⟩;have B:=k2;refine B.mono ?_;rintro e w' ⟨u,I',μ',rfl,d,B,t⟩;exact k u I' μ' w' d B t
 split at h
 .rename_i f args z;split at h
  .split at h
   .exact T f args z h
   split at h
   .exact T f args z h
   simp at h
  split at h
  .split at h
   next y A=>simp at h;exact G f args y z A h.1.symm h.2.symm
   simp at h
  split at h
  .rename_i y A;split at h
   next Z=>simp at h;refine G f args y z (qO A) h.1.symm ?_;rw[<-h.2,if_pos Z]
   rename_i Z;split at h
   next ai=>simp at h;refine G f args y z (qO A) h.1.symm ?_;rw[<-h.2,if_neg Z,vz _ λid hi=>Bl ai hi]
   simp at h
  split at h
  .split at h
   next y A=>simp at h;exact G f args y z A h.1.symm h.2.symm
   simp at h
  simp at h
 .rename_i id args z;split at h
  .exact U id args z h
  split at h
  .exact U id args z h
  simp at h
 simp at h
end
structure kS(B:Nat)(ds:List Deferred)(w:World):Prop where
 all:∀d∈ds,∃r,d.target=.collected r/\B<=r/\w.heap[r]?=some (.deferred (some []))
 apart:ds.Pairwise λd d'=>∀r,d.target=.collected r->d'.target≠.collected r
section
variable{P:Program}{E:Env}{I I' I'':cE}{μ μ' μ'':Mu}{H H' H'':bp}{n B:Nat}{F F':WP}{a:Act}{w w' w'':World}
def vV(s:di I μ H w){r:Nat}{c:a_ (aZ Deferred)}(h:w.heap[r]?=some (.deferred c)):¬iV μ H r:=by rintro⟨id,p,ob,h1,C,B,rfl⟩;have:=s.obs id ob h1;cases ob with|row es G=>have⟨q,c,el,u,_,z,_⟩:=this;rw[B]at u;cases u;rw[h]at z;cases z|map D=>have⟨q,c,el,u,_,z,_⟩:=this;rw[B]at u;cases u;rw[h]at z;cases z|loop x=>have⟨q,c,u,_,z,_⟩:=this;rw[B]at u;cases u;rw[h]at z;cases z|_=>simp[Ob.live]at C
def kS.step{ds:aZ Deferred}(h:kS B ds w)(s:di I μ H w)(st:Step I μ H w I' μ' H' w'):kS B ds w' where
 all:=by intro d hd;have⟨r,a,z,u⟩:=h.all d hd;refine⟨r,a,z,?_⟩;rw[st.frame r (Array.getElem?_eq_some_iff.1 u).1 (vV s u)];exact u
 apart:=h.apart
def PT(r:eV I μ n F a.tmps)(ops:Array Oper)(o:Oper):gD ops.toList F o=Region.wanted o (yielded ops a.tmps):=by unfold gD Region.wanted;cases i:o.guard with|none=>rfl|some g=>have⟨j,b⟩:=g;simp only;unfold yielded;have e:ops.toList[j]?=ops[j]?:=Zab;rw[e];cases hd:(ops[j]?).bind (·.dst)with|none=>simp|some d=>simp only[ζb];have f:=r.2 d;by_cases w:d<a.tmps.size;have u:a.tmps[d]?=some a.tmps[d]:=(by simp[w]);have z:a.tmps.getD d undef=a.tmps[d]:=(by simp[w]);rw[z]at f;rw[u];(cases B:get F d with|bool c=>rw[B]at f;rw[f.tv];cases c<;>cases b<;>rfl|_=>cases h:a.tmps[d]with|bool c=>rw[h]at f;have:=f.of_bool;rw[B]at this;cases this|_=>rfl);have u:a.tmps[d]?=none:=getElem?_eq_none (Nat.le_of_not_lt w);have z:a.tmps.getD d undef=undef:=(by simp[w]);rw[z]at f;rw[u];cases B:get F d with|bool c=>rw[B]at f;have:=f.tv;simp[undef]at this|_=>rfl
def ED(U:eZ P E){call:dL}(b:lZ P call){ops:Array Oper}{place:a_ (Nat×Nat)}{o:Oper}(h:gW E call n ops.toList place o F H=some (F',H'))
 (r:eV I μ n F a.tmps)(s:di I μ H w)(ro:a_ Nat){K:Act->World->Prop}{Q:Exit->Act->World->Prop}
 (J:∀a' I' μ' w',eV I' μ' n F' a'.tmps->a'.defers=a.defers->di I' μ' H' w'->Step I μ H w I' μ' H' w'->K a' w'):
 if Region.wanted o (yielded ops a.tmps)then o.wpIn (fr ro) 0 P a w K Q else(∀f,o.about P w a.eval=some f->(fr ro).fn f)/\K (a.put o.dst undef) w:=by
 unfold gW at h;rw[<-PT r];have z:∀v,(a.put o.dst v).defers=a.defers:=λv=>by cases o.dst<;>rfl
 split at h
 .rename_i C;rw[if_pos C];split at h
  .rename_i x H2 D;simp only[ζf,ζc]at h;obtain⟨L,G,rfl,rfl⟩:=h;refine SS U b D r s ro (λu I' μ' w' O S B=>?_)
   exact J _ I' μ' w' ((r.mono B.le B.mu).put O G) (z u) S B
  simp at h
 rename_i C;rw[if_neg C];simp only[ζf,ζc]at h;obtain⟨L,G,rfl,rfl⟩:=h;exact⟨λ_ _=>trivial,J _ I μ w (r.put (.undef I μ) G) (z _) s (.refl _ _ _ _)⟩
def P_(U:eZ P E){call:dL}(b:lZ P call){ops:Array Oper}(ro:a_ Nat){Q:Exit->Act->World->Prop}:∀(rest:R')(k:Nat)(I:cE)(μ:Mu)(F:WP)(H:bp)(a:Act)(w:World),
 (∀j,rest[j]?=ops[k+j]?)->nk E call n ops.toList rest F H=some (F',H')->eV I μ n F a.tmps->di I μ H w->
 (∀a' I' μ' w',eV I' μ' n F' a'.tmps->a'.defers=a.defers->di I' μ' H' w'->Step I μ H w I' μ' H' w'->Q .normal a' w')->
 wpOpsIn (fr ro) 0 P ops Q (List.range' k rest.length) a w:=by
 intro rest
 induction rest with
 |nil=>intro k I μ F H a w _ h r s C;simp only[nk,ζa,ζc]at h;obtain⟨rfl,rfl⟩:=h;exact C a I μ w r rfl s (.refl _ _ _ _)|cons o rest S=>
  intro k I μ F H a w u h r s C;simp only[nk]at h;split at h
  .rename_i F1 H1 z;have c:ops[k]?=some o:=by simpa using(u 0).symm
   simp only[length_cons,List.range'_succ,wpOpsIn,c];refine ED U b z r s ro (λa' I' μ' w' d hd O D=>?_)
   refine S (k+1) I' μ' F1 H1 a' w' (λj=>by have:=u (j+1);simpa[add_assoc,Nat.add_comm 1 j]using this) h d O ?_
   intro a2 I2 T W G J L B;exact C a2 I2 T W G (J.trans hd) L (Step.trans O D B)
  simp at h
end
def pn(F F':WP)(op:Op):Prop:=∀x∈op.operands,ev F x=ev F' x
def tP{F F':WP}:∀{l:aZ UV},(∀x∈l,ev F x=ev F' x)->fU F l=fU F' l:=by intro l;induction l with|nil=>intro _;rfl|cons x l u=>simp[fU];grind
def Ca{F F':WP}:∀{l:aZ (Nat×UV)},(∀x∈l,ev F x.2=ev F' x.2)->nv F l=nv F' l:=by intro l;induction l with|nil=>intro _;rfl|cons x l u=>intro h;simp[nv];simp_all
def zn{F F':WP}{o:a_ UV}(h:∀x∈o.toArray,ev F x=ev F' x):kG F o=kG F' o:=by cases o with|none=>rfl|some x=>simp[kG];grind
def Gq{E:Env}{F F':WP}{op:Op}(h:pn F F' op):bV E F op=bV E F' op:=by
 cases op with
 |move x=>exact h x (by simp[operands])|assign x=>exact h x (by simp[operands])|pick c a b=>simp[bV];rw[h c (by simp[operands]),h a (by simp[operands]),h b (by simp[operands])]|nilCheck x=>simp[bV];rw[h x (by simp[operands])]|binOp op t x y B=>simp[bV];rw[h x (by simp[operands]),h y (by simp[operands])]|unOp op t x=>simp[bV];rw[h x (by simp[operands])]|convert s d x=>simp[bV];rw[h x (by simp[operands])]|fieldAddr s x f=>simp[bV];rw[h x (by simp[operands])]|field s x f=>simp[bV];rw[h x (by simp[operands])]|indexAddr t x i=>simp[bV];rw[h x (by simp[operands]),h i (by simp[operands])]|index t x i=>simp[bV];rw[h x (by simp[operands]),h i (by simp[operands])]|slice t x lo hi C=>
  simp[bV];rw[h x (by simp[operands]),zn (λy u=>h y (by simp[operands]at u⊢;simp_all)),zn (λy u=>h y (by simp[operands]at u⊢;simp_all)),
   zn (λy u=>h y (by simp[operands]at u⊢;simp_all))]
 |build t ps=>simp[bV];rw[Ca (λx w=>h x.2 (by simp[operands];grind))]|makeFunc f a b=>cases f with|func f=>simp[bV];rw[tP (λx w=>h x (by simp[operands];grind)),tP (λx w=>h x (by simp[operands];grind))]|_=>rfl
 |extract x i=>simp[bV];rw[h x (by simp[operands])]|call c=>have⟨callee,args,z⟩:=c;cases callee with|builtin b=>simp[bV];rw[tP (λx w=>h x (by simp[operands,Call.operands];grind))]|_=>rfl
 |_=>rfl
def zB{E:Env}{F F':WP}{H:bp}{op:Op}(h:pn F F' op):ez E F H op=ez E F' H op:=by cases op with|load t x=>simp[ez];rw[h x (by simp[operands])]|lookup t m k ok=>simp[ez];rw[h m (by simp[operands]),h k (by simp[operands])]|_=>rfl
def yP{E:Env}{F F':WP}{op:Op}(h:pn F F' op):fF E F op=fF E F' op:=by cases op with|alloc t=>rfl|box t x=>simp[fF];rw[h x (by simp[operands])]|makeSlice t l c=>simp[fF];rw[h l (by simp[operands]),h c (by simp[operands])]|buildSlice t len ps=>simp[fF];rw[Ca (λx u=>h x.2 (by simp[operands];grind))]|makeMap t r=>cases r<;>rfl|_=>rfl
def GH{E:Env}{F F':WP}{H:bp}{op:Op}(h:pn F F' op):dz E F H op=dz E F' H op:=by
 cases op with
 |store t p x=>simp[dz];rw[h p (by simp[operands]),h x (by simp[operands])]|mapUpdate t m k x=>simp[dz];rw[h m (by simp[operands]),h k (by simp[operands]),h x (by simp[operands])]|insert t m k x=>simp[dz];rw[h m (by simp[operands]),h k (by simp[operands]),h x (by simp[operands])]|call c=>
  have⟨callee,args,u⟩:=c
  cases callee with
  |builtin b=>cases b with|append=>simp[dz];rw[tP (λx w=>h x (by simp[operands,Call.operands];grind))]|clear=>simp[dz];rw[tP (λx w=>h x (by simp[operands,Call.operands];grind))]|_=>rfl
  |_=>rfl
 |_=>rfl
def Gs{F F':WP}{op:Op}(h:pn F F' op):kP F op=kP F' op:=by
 cases op with
 |call c=>have⟨callee,args,u⟩:=c;cases callee with|value f=>simp[kP];rw[h f (by simp[operands,Call.operands]),tP (λx w=>h x (by simp[operands,Call.operands];grind))]|_=>rfl
 |_=>rfl
def L8{E:Env}{F F':WP}{op:Op}(h:pn F F' op):qH E F op=qH E F' op:=by unfold qH;rw[yP h]
def O8{F F':WP}{ops:R'}{i b:Nat}{H:bp}{op:Op}(h:pn F F' op):AT ops i b F H op=AT ops i b F' H op:=by
 have:qP F op=qP F' op:=by
  unfold qP;split;rename_i args _;split;rename_i x r u;rw[h x (by
   have:x∈args.toList:=by rw[u];simp
   simp only[operands,Call.operands,Array.mem_append];right;simpa using this)]
  rfl;rfl
 unfold AT;rw[this]
def Ma{E:Env}{place:a_ (Nat×Nat)}{F F':WP}{H:bp}{op:Op}(h:pn F F' op):uF E F H place op=uF E F' H place op:=by
 unfold uF;rw[Gq h];have:evalConv E F H op=evalConv E F' H op:=by unfold evalConv;split;rw[h _ (by simp[operands])];rfl
 rw[this]
def wT{E:Env}{b:Nat×Nat}{F:WP}{H:bp}{op:Op}:uF E F H (some b) op=bV E F op:=by unfold uF;split<;>simp_all
def Fi{E:Env}{call:dL}{ops:R'}{place:a_ (Nat×Nat)}{F F':WP}{H:bp}{op:Op}(h:pn F F' op)(B:∀b i,place=some (b,i)->s_ ops i F=s_ ops i F'/\pK ops i F op=pK ops i F' op):dJ E call ops place F H op=dJ E call ops place F' H op:=by
 unfold dJ;rw[Ma h,yP h,GH h,Gs h,zB (H:=H) h,L8 h];split<;>(try rfl)
 .split<;>(try rfl);rename_i i;rw[zB h,(B _ i rfl).2]
 split<;>(try rfl);rename_i b i;rw[(B _ i rfl).1,O8 h]
section
variable{E:Env}{call:dL}{n:Nat}{ops:R'}{base:Nat}
def OQ{o:Oper}{t:Nat}(h:.tmp t∈o.op.operands):t∈tmpsOf o ops:=by refine mem_append.2 (.inl (List.mem_filterMap.2 ⟨.tmp t,Zac,rfl⟩))
def HZ{F F':WP}{o:Oper}{dst:a_ Nat}{v:V}(hp:kO n F dst v=some F')(h:∀d,dst=some d->d∉tmpsOf o ops):pn F' F o.op:=by
 intro x w
 cases x with
 |tmp t=>cases dst with|none=>simp[kO]at hp;grind|some d=>simp only[kO]at hp;split at hp;simp at hp;subst hp;have u:d≠t:=λe=>h d rfl (by rw[e];exact OQ w);simp[ev];rw[jY _ _ u];grind
 |const v=>rfl|func f=>rfl|global g=>rfl
def C7{F F':WP}{o:Oper}{dst:a_ Nat}{v:V}(hp:kO n F dst v=some F')(h:∀d,dst=some d->d∉tmpsOf o ops):gD ops F' o=gD ops F o:=by unfold gD;cases a:o.guard with|none=>rfl|some g=>have⟨j,b⟩:=g;simp only;cases hd:(ops[j]?).bind (·.dst)with|none=>rfl|some t=>simp only;cases dst with|none=>simp[kO]at hp;grind|some d=>simp only[kO]at hp;split at hp;simp at hp;subst hp;have u:d≠t:=λe=>h d rfl (by unfold tmpsOf;grind);rw[jY _ _ u];grind
def QN{F F1 J:WP}{d G:a_ Nat}{u v:V}(a:kO n F d u=some F1)(B:kO n F1 G v=some J)(U:∀x,d=some x->G≠some x):
 ∃D,kO n F G v=some D/\kO n D d u=some J:=by
 cases d with
 |none=>simp[kO]at a;subst a;exact⟨J,B,rfl⟩|some x=>
  cases G with
  |none=>simp[kO]at B;subst B;exact⟨F,rfl,a⟩|some y=>
   simp only[kO]at a B⊢;split at a
   .rename_i w;split at B
    .simp at a B;subst a;subst B;have:x≠y:=λe=>U x rfl (by rw[e])
     exact⟨set F y v,Zac,by rw[if_pos w,Lo _ _ _ (Ne.symm this)]⟩
    grind
   grind
def zk{i k:Nat}{B ok:Oper}(h:dO ops i=true)(hi:ops[i]?=some B)(a:ops[k]?=some ok)(D:k≠i):dF ok.op=.pure\/(if k<i then before ops i k else before ops k i)=true\/(isApp B.op=true/\dF ok.op=.alloc/\i<k):=by unfold dO at h;grind
def yT{H:bp}{j es:Nat}{ob:Ob}{x:V}{xs:T'}(B:H[j]?=some .free)(h:dQ H es x=some xs):dQ (H.set j ob) es x=some xs:=by
 unfold dQ at h⊢;split at h<;>first|omega|skip
 rename_i id u off len;by_cases e:j=id;subst e;rw[B]at h;simp only[ζb,Ob.rows]at h;grind;grind
def TV{H H1:bp}{j:Nat}{ob:Ob}{x:V}(h:iG H x=some H1):H1.length=H.length/\(H1[j]?=some .free->H[j]?=some .free)/\(H[j]?=some .free->iG (H.set j ob) x=some (H1.set j ob)):=by unfold iG at h⊢;split at h;grind;grind;rename_i id a b c;split at h;rename_i d;cases h;refine⟨Zab,λh=>?_,λh=>?_⟩;grind;have e:id≠j:=λe=>Zac;rw[getElem?_set_ne (Ne.symm e),d];rw[set_comm _ _ e];simp_all;simp_all
def Ji{H:bp}{o:Ob}{j:Nat}(B:o≠.free)(h:(H++[o])[j]?=some .free):j<H.length/\H[j]?=some .free:=by grind
def VN{F:WP}{H H1:bp}{op:Op}{v:V}{j:Nat}{ob:Ob}(J:isApp op=true)(h:dz E F H op=some (v,H1))(B:H1[j]?=some .free):H[j]?=some .free/\dz E F (H.set j ob) op=some (v,H1.set j ob):=by
 unfold isApp at J;split at J;simp only[dz]at h⊢;split at h;split at h;rename_i e _ w u;split at h;rename_i d hd;split at h;next D G=>obtain⟨rfl,rfl⟩:=h;refine⟨B,?_⟩;simp[w,u,hd,yT B D,yT B G]
 rename_i Q S L D G;split at h;obtain⟨H0,a,O⟩:=ζf.1 h;obtain⟨rfl,rfl⟩:=O;obtain⟨I,z⟩:=Ji Zab B;obtain⟨g1,g2,g3⟩:=TV (ob:=ob) a;have C:=g2 z;simp[w,u,hd,yT C D,yT C G];grind;simp_all;simp_all;simp_all;rename_i e _ w u;split at h;rename_i d hd;unfold mkApp at h;split at h;split at h;obtain⟨rfl,rfl⟩:=h;simp only[w,u,hd,mkApp];grind;split at h;obtain⟨rfl,rfl⟩:=h;obtain⟨I,z⟩:=Ji Zab B;simp only[u,mkApp];grind;simp_all;simp_all;simp_all;simp_all;simp_all;simp_all
def vC{i:Nat}{F:WP}{H H':bp}{op:Op}{v:V}(h:dJ E call ops (some (base,i)) F H op=some (v,H'))(U:dO ops i=false)(B:dF op≠.loud):
 (H'=H/\∀H2:bp,nX (H2.take base) (H.take base)->dJ E call ops (some (base,i)) F H2 op=some (v,H2))\/
 (∃ob,H[base+i]?=some .free/\H'=H.set (base+i) ob/\∀H2:bp,H2[base+i]?=some .free->dJ E call ops (some (base,i)) F H2 op=some (v,H2.set (base+i) ob))\/
 (∃T,jv (H.take base) T=true/\H'=cT H T/\∀H2:bp,nX (H2.take base) (H.take base)->dJ E call ops (some (base,i)) F H2 op=some (v,cT H2 T)):=by
 unfold dJ at h;split at h
 .rename_i J;simp at h;obtain⟨x,D,rfl,rfl⟩:=h;refine .inl ⟨rfl,λH2 _=>?_⟩
  rw[wT]at D;unfold dJ;rw[J];simp only[wT,D,map_some]
 .rename_i B;simp only at h;split at h
  .rename_i L;split at h
   .rename_i x D;obtain⟨rfl,rfl⟩:=h;refine .inl ⟨rfl,λH2 u=>?_⟩
    unfold dJ;rw[B];simp[AZ u,D,L]
   grind
  grind
 .split at h
  .have⟨x,D,e⟩:=ζf.1 h;obtain⟨rfl,rfl⟩:=e;refine .inl ⟨rfl,λH2 _=>?_⟩
   unfold dJ;grind
  split at h
  .grind
  .rename_i ob m W X S O;obtain⟨rfl,rfl⟩:=O;split at h
   .rename_i w;obtain⟨rfl,rfl⟩:=h;refine .inr (.inl ⟨ob,w,rfl,λH2 u=>?_⟩)
    unfold dJ;grind
   grind
  grind
 .grind
 rename_i B;split at h
 .rename_i f args G;split at h
  .grind
  rename_i z;simp only at h;split at h
  .rename_i y Q;split at h
   .rename_i C;obtain⟨rfl,rfl⟩:=h;refine .inl ⟨rfl,λH2 u=>?_⟩
    unfold dJ;rw[B];simp[G];rw[if_neg z];simp[A8 u,Q,C]
   split at h
   .rename_i I;obtain⟨rfl,rfl⟩:=h;refine .inr (.inr ⟨_,I,rfl,λH2 u=>?_⟩)
    unfold dJ;simp[G];simp[A8 u,Q,NU u,wE u,I]
    grind
   grind
  grind
 .grind
 grind
def Im{i:Nat}:∀{r l:S'},DQ ops i r=some l->∀k∈r,∃a,II ops i k=some a/\∀s∈a,s∈l
 |[],l,h,k,c=>Zad|q::r,l,h,k,c=>by simp[DQ]at h;split at h;rename_i a b d B;simp at h;rcases mem_cons.1 c with rfl|c;grind;have⟨a',g1,g2⟩:=Im B k c;grind;grind
def Lm{i:Nat}:∀{r l:S'},DQ ops i r=some l->∀s∈l,s∉dstsOf ops
 |[],l,h,s,c=>by simp[DQ]at h;grind|q::r,l,h,s,c=>by simp[DQ]at h;split at h;rename_i a b d B;simp at h;subst h;rcases mem_append.1 c with c|c;unfold II at d;grind;exact Lm B s c;grind
def HB{i a:Nat}{l:S'}{B:Oper}(hi:ops[i]?=some B)(h:BB ops i=some (a,l)):(∃t x,B.op=.store t (.tmp a) x)/\a∉dstsOf ops/\(∀s∈l,s∉dstsOf ops)/\
 ∀k ok,ops[k]?=some ok->k≠i->dF ok.op=.pure\/(if k<i then before ops i k else before ops k i)=true\/∃D a',ok.op=.load D (.tmp a')/\(a'∈l\/a'∈dstsOf ops):=by
 unfold BB at h;rw[hi]at h;simp at h;split at h
 .rename_i t a0 x w;simp at w;split at h
  .simp_all
  have⟨G,z,e⟩:=ζf.1 h;obtain⟨rfl,rfl⟩:=e;refine⟨⟨t,x,w⟩,Zac,Lm z,λk ok d C=>?_⟩
  have⟨b,c,I⟩:=Im z k (List.mem_range.2 (ζe.1 d).1);unfold II at c;rw[d]at c;simp only at c;split at c
  .rename_i u;simp at u;rcases u with(u|u)|u
   .grind
   .grind
   exact .inr (.inl u)
  split at c
  .grind
  grind
 grind
def Jf{F F':WP}{dst:a_ Nat}{v:V}{s:Nat}(hp:kO n F dst v=some F')(h:∀d,dst=some d->s≠d):get F' s=get F s:=by unfold kO at hp;split at hp;grind;rename_i d;split at hp;simp at hp;subst hp;exact jY _ _ (Ne.symm (h d rfl));grind
def K6{k d:Nat}{ok:Oper}(a:ops[k]?=some ok)(hd:ok.dst=some d):d∈dstsOf ops:=List.mem_filterMap.2 ⟨ok,mem_of_getElem? a,hd⟩
def Hw{F F':WP}{k i:Nat}{ok B:Oper}{v:V}(b:ops[k]?=some ok)(hi:ops[i]?=some B)(hp:kO n F ok.dst v=some F'):s_ ops i F'=s_ ops i F:=by unfold s_;cases u:BB ops i with|none=>rfl|some w=>have⟨a,l⟩:=w;have⟨_,C,D,_⟩:=HB hi u;have c:∀s,s∉dstsOf ops->get F' s=get F s:=λs z=>Jf hp λd hd e=>z (e▸K6 b hd);grind
def Qk{i k a a':Nat}{t:W'}{x:UV}{B:Oper}(hi:ops[i]?=some B)(e1:B.op=.store t (.tmp a) x)(b:a'∈dstsOf ops)(D:a∉dstsOf ops)(G:xP ops i k=false):a∈qL ops k a':=by unfold qL;grind
def Ax{k a' s:Nat}(h:s∈qL ops k a'):s∉dstsOf ops/\∃i B t x,ops[i]?=some B/\B.op=.store t (.tmp s) x/\xP ops i k=false:=by unfold qL at h;grind
def Ih{F F':WP}{k i:Nat}{ok:Oper}{op:Op}{v:V}(b:ops[k]?=some ok)(hp:kO n F ok.dst v=some F')(B:pn F' F op):pK ops i F' op=pK ops i F op:=by
 have a:∀s,s∉dstsOf ops->get F' s=get F s:=λs h=>Jf hp λd hd e=>h (e▸K6 b hd);unfold pK;split;rename_i t u;have w:=by have:=B (.tmp u) (by simp[operands]);simpa[ev]using this
 rw[w,Bool.eq_iff_iff];simp;exact⟨λh s B=>by rw[<-a s (Ax B).1];grind,λh s B=>by rw[a s (Ax B).1];grind⟩;rfl
def Ft{k a':Nat}{ok:Oper}{t:W'}(a:ops[k]?=some ok)(e:ok.op=.load t (.tmp a'))(h:dO ops k=true):qL ops k a'=[]:=by refine List.eq_nil_iff_forall_not_mem.2 λs w=>?_;have⟨_,i,C,D,x,b,z,B⟩:=Ax w;have u:i≠k:=λe2=>Zac;rcases zk h a b u with g|g|g;rw[z]at g;cases g;unfold xP at B;grind;rw[e]at g;exact absurd g.1 (by simp[isApp])
def LS{F:WP}{H H':bp}{t:W'}{a:Nat}{x:UV}{id el off:Nat}{u:V}(B:get F a=.hptr id el off)(h:dz E F H (.store t (.tmp a) x)=some (u,H')):∃r,H'=H.set id r:=by simp only[dz,ev]at h;split at h;grind;grind
def Oy{F:WP}{H:bp}{t:W'}{a id b:Nat}{r:Ob}(B:sE id (get F a)=true):ez E F ((H.set id r).take b) (.load t (.tmp a))=ez E F (H.take b) (.load t (.tmp a)):=by
 have:∀m,eO ((H.set id r).take b) (get F a) m=eO (H.take b) (get F a) m:=λm=>by unfold sE at B;split at B;rename_i u el off c;rw[c];simp[eO];grind;(next cs c=>rw[c];rfl);grind
 unfold ez;simp[ev];grind
def JM{k i:Nat}{ok G:Oper}(f:ops[k]?=some ok)(hi:ops[i]?=some G)(W:k≠i)(J:(if k<i then before ops i k else before ops k i)=false)(lk:dO ops k=false)(g:dF ok.op≠.pure)(j:dF G.op=.loud)(m:dO ops i=false)(Y:isApp G.op=false)
 {F:WP}{H0 H1 H2 d U:bp}{u v:V}(D:dJ E call ops (some (base,i)) F d G.op=some (u,U))(B:dJ E call ops (some (base,k)) F H0 ok.op=some (v,H1)):
 H1=H0/\∃id,(∀(H:bp)(r:Ob),ez E F ((H.set id r).take base) ok.op=ez E F (H.take base) ok.op)/\(∃r,U=d.set id r)/\dF ok.op=.read/\ez E F (H0.take base) ok.op=some v/\pK ops k F ok.op=true:=by
 unfold dJ at D;rw[j]at D;simp only[m,Bool.false_or,show∀F b H,AT ops i b F H G.op=false fromλF b H=>by unfold AT;rw[Y];simp,Bool.or_false]at D
 split at D
 .rename_i C;unfold s_ at C;split at C
  .rename_i a l L;split at C
   .rename_i id el off hg;have⟨⟨t,x,I⟩,T,p,X⟩:=HB hi L;rcases X k ok f W with h|h|⟨q,S,w,c⟩
    .exact absurd h g
    .rw[J]at h;cases h
    unfold dJ at B;rw[w]at B;simp only[dF]at B;split at B
    rotate_left
    .simp at B
    rename_i z;have O:sE id (get F S)=true:=by rcases c with c|c;exact all_eq_true.1 C S c;have Q:xP ops i k=false:=(by unfold xP;by_cases e:k<i;rw[if_pos e]at J⊢;exact J;rw[if_neg e]at J⊢;exact J);have Z:=Qk hi I c T Q;unfold pK at z;simp only[all_eq_true]at z;have:=z a Z;rw[hg]at this;exact this
    rw[I]at D;have⟨r,n⟩:=LS hg D;split at B
    next s o=>simp only[ζa,ζc]at B;obtain⟨rfl,rfl⟩:=B;refine⟨rfl,id,λH r=>by rw[w];exact Oy O,⟨r,n⟩,by rw[w];rfl,by rw[w];exact o,by rw[w];exact z⟩
    rw[lk]at B;simp at B
   simp at C
  simp at C
 simp at D
def Eh{place:Nat×Nat}{F:WP}{H H':bp}{op:Op}{v:V}(B:dF op=.pure\/dF op=.alloc/\sR E ops (some place)=true)(h:dJ E call ops (some place) F H op=some (v,H')):
 H'=H/\∀H2:bp,dJ E call ops (some place) F H2 op=some (v,H2):=by
 rcases B with B|⟨B,u⟩
 rotate_left
 .unfold dJ at h;rw[B]at h;simp only[u]at h;have⟨x,w,e⟩:=ζf.1 h;obtain⟨rfl,rfl⟩:=e;refine⟨rfl,λH2=>?_⟩
  unfold dJ;grind
 unfold dJ at h;rw[B]at h;simp at h;obtain⟨x,w,rfl,rfl⟩:=h;refine⟨rfl,λH2=>?_⟩
 rw[wT]at w;unfold dJ;rw[B];simp only[wT,w,map_some]
def take_set_of_le{H:bp}{b k:Nat}{x:Ob}(h:b<=k):(H.set k x).take b=H.take b:=List.take_set_of_le h
def apart_spec{a b:Oper}(h:zJ ops a b=true):(∀d,a.dst=some d->d∉tmpsOf b ops/\b.dst≠some d)/\(∀d,b.dst=some d->d∉tmpsOf a ops):=by unfold zJ at h;grind
def Fh{i k:Nat}{ok:Oper}(h:yS ops i=true)(a:ops[k]?=some ok)(B:k≠i)(D:xP ops i k=false):dF ok.op=.pure\/dF ok.op=.read\/dF ok.op=.alloc/\(CP ops k=true\/i<k):=by unfold yS at h;split at h;simp only[ζh,all_eq_true,List.mem_range]at h;have:=h.2 k (ζe.1 a).1;rw[a]at this;simp only[Bool.or_eq_true,beq_iff_eq,ζh,decide_eq_true_eq,D,false_eq_true,or_false]at this;rcases this with((h|h)|h)|h;exact absurd h B;exact .inl h;exact .inr (.inl h);exact .inr (.inr h);cases h
def Bh{op:Op}(h:isApp op=true):dF op=.loud:=by unfold isApp at h;split at h;rfl;cases h
def JL{F:WP}{H H1:bp}{op:Op}{v:V}{b:Nat}(D:isApp op=true)(B:qP F op=true)(G:b<=H.length)(h:dz E F H op=some (v,H1)):H1.take b=H.take b:=by
 unfold isApp at D;split at D;rotate_left;cases D;rename_i args z;simp only[dz]at h;split at h;rotate_left;cases h;rename_i t L s x C u;have I:s=.dU\/s=.bO:=by simp only[qP]at B;split at B;rename_i y r J;rw[J]at u;have c:ev F y=some s:=(by simp only[fU]at u;split at u;(next a b c w=>simp only[ζa,List.cons.injEq]at u;rw[c,u.1]);cases u);rw[c]at B;cases s<;>simp at B<;>simp;cases B
 have d:∀H2,iG H s=some H2->H2=H:=λH2 h=>by rcases I with rfl|rfl<;>(simp only[iG,ζa]at h;exact h.symm)
 split at h;split at h;split at h;simp only[ζa,ζc]at h;rw[h.2];split at h;have⟨H0,c,w⟩:=ζf.1 h;simp only[ζc]at w;rw[<-w.2,d H0 c,List.take_append_of_le_length G];cases h;cases h;cases h;split at h;unfold mkApp at h;split at h;split at h;simp only[ζa,ζc]at h;rw[h.2];split at h;simp only[ζa,ζc]at h;rw[<-h.2,List.take_append_of_le_length G];cases h;cases h;cases h;cases h
def Gc{i:Nat}{F:WP}{H H':bp}{op:Op}{u:V}(B:isApp op=true)(D:dO ops i=false)(hi:(ops[i]?).map Oper.op=some op)(h:dJ E call ops (some (base,i)) F H op=some (u,H')):
 yS ops i=true/\qP F op=true/\base<=H.length/\dz E F H op=some (u,H'):=by
 unfold dJ at h;rw[Bh B]at h;have w:s_ ops i F=false:=by unfold s_ BB;rw[hi];unfold isApp at B;split at B;rfl;cases B
 simp only[D,w,Bool.false_or]at h;split at h
 next a=>unfold AT at a;simp only[ζh,decide_eq_true_eq]at a;exact⟨a.1,a.2.1.2,a.2.2,h⟩
 cases h
def PE{i:Nat}{F:WP}{H H':bp}{op:Op}{u:V}(B:isApp op=true)(h:dz E F H op=some (u,H'))(a:dO ops i=true\/yS ops i=true/\qP F op=true/\base<=H.length):dJ E call ops (some (base,i)) F H op=some (u,H'):=by
 unfold dJ;rw[Bh B];rcases a with a|⟨b,w,z⟩;simp only[a,Bool.true_or,if_true,h];have:AT ops i base F H op=true:=by unfold AT;simp[b,B,w,z]
 simp only[this,Bool.or_true,if_true,h]
def EF{i:Nat}{F:WP}{H H':bp}{op:Op}{v:V}(B:dF op=.read)(D:dO ops i=false)(h:dJ E call ops (some (base,i)) F H op=some (v,H')):
 H'=H/\∀H2:bp,nX (H2.take base) (H.take base)->dJ E call ops (some (base,i)) F H2 op=some (v,H2):=by
 unfold dJ at h;rw[B]at h;simp only at h;split at h
 .rename_i u;split at h
  .rename_i x w;simp only[ζa,ζc]at h;obtain⟨rfl,rfl⟩:=h;refine⟨rfl,λH2 z=>?_⟩
   unfold dJ;rw[B];simp only[AZ z,w,u,if_true]
  rw[D]at h;simp at h
 simp at h
def swap{k i:Nat}{ok D:Oper}(p:ops[k]?=some ok)(hi:ops[i]?=some D)(V:k<i)(U:before ops i k=false)(J:zJ ops ok D=true){F F1 R:WP}{H H1 H2:bp}
 (s:gW E call n ops (some (base,k)) ok F H=some (F1,H1))(l:gW E call n ops (some (base,i)) D F1 H1=some (R,H2)):
 ∃G B,gW E call n ops (some (base,i)) D F H=some (G,B)/\gW E call n ops (some (base,k)) ok G B=some (R,H2):=by
 have⟨a1,a2⟩:=apart_spec J;have ad:∃v,kO n F ok.dst v=some F1/\((gD ops F ok=true/\dJ E call ops (some (base,k)) F H ok.op=some (v,H1))\/(gD ops F ok=false/\v=.undef/\H1=H)):=by unfold gW at s;split at s;rename_i y;split at s;(next v H' hd=>simp only[ζf,ζc]at s;obtain⟨Fx,hp,rfl,rfl⟩:=s;exact⟨v,hp,.inl ⟨y,hd⟩⟩);simp at s;rename_i y;simp only[ζf,ζc]at s;obtain⟨Fx,hp,rfl,rfl⟩:=s;exact⟨_,hp,.inr ⟨by simpa using y,rfl,rfl⟩⟩
 have ae:∃v,kO n F1 D.dst v=some R/\((gD ops F1 D=true/\dJ E call ops (some (base,i)) F1 H1 D.op=some (v,H2))\/(gD ops F1 D=false/\v=.undef/\H2=H1)):=by unfold gW at l;split at l;rename_i y;split at l;(next v H' hd=>simp only[ζf,ζc]at l;obtain⟨Fx,hp,rfl,rfl⟩:=l;exact⟨v,hp,.inl ⟨y,hd⟩⟩);simp at l;rename_i y;simp only[ζf,ζc]at l;obtain⟨Fx,hp,rfl,rfl⟩:=l;exact⟨_,hp,.inr ⟨by simpa using y,rfl,rfl⟩⟩
 have⟨v,Q,jL⟩:=ad;have⟨u,av,af⟩:=ae;have aw:gD ops F1 D=gD ops F D:=C7 Q λd hd=>(a1 d hd).1
 have an:pn F1 F D.op:=HZ Q λd hd=>(a1 d hd).1
 have ax:∀(b j:Nat),(some (base,i):a_ (Nat×Nat))=some (b,j)->s_ ops j F1=s_ ops j F/\pK ops j F1 D.op=pK ops j F D.op:=λb j e=>by cases e;exact⟨Hw p hi Q,Ih p Q an⟩
 rw[aw,Fi an ax]at af;have⟨G,O,ao⟩:=QN Q av λx hx=>(a1 x hx).2
 have ay:gD ops G ok=gD ops F ok:=C7 O λd hd=>a2 d hd
 have ap:pn G F ok.op:=HZ O λd hd=>a2 d hd
 have aA:∀(b j:Nat),(some (base,k):a_ (Nat×Nat))=some (b,j)->s_ ops j G=s_ ops j F/\pK ops j G ok.op=pK ops j F ok.op:=λb j e=>by cases e;exact⟨Hw hi p O,Ih hi O ap⟩
 have fin:∀B,((gD ops F D=true/\dJ E call ops (some (base,i)) F H D.op=some (u,B))\/(gD ops F D=false/\u=.undef/\B=H))->
  ((gD ops F ok=true/\dJ E call ops (some (base,k)) F B ok.op=some (v,H2))\/(gD ops F ok=false/\v=.undef/\H2=B))->
  ∃G B,gW E call n ops (some (base,i)) D F H=some (G,B)/\gW E call n ops (some (base,k)) ok G B=some (R,H2):=by
  intro B e1 e2;refine⟨G,B,?_,?_⟩
  .unfold gW;rcases e1 with⟨A,x2⟩|⟨A,x2,x3⟩
   .rw[if_pos A,x2];simp[O]
   rw[if_neg (by simp[A])];subst x2;subst x3;simp[O]
  unfold gW;rw[ay];rcases e2 with⟨A,x2⟩|⟨A,x2,x3⟩
  .rw[if_pos A,Fi ap aA,x2];simp[ao]
  rw[if_neg (by simp[A])];subst x2;subst x3;simp[ao]
 rcases jL with⟨z,g⟩|⟨z,rfl,rfl⟩
 .rcases af with⟨w,f⟩|⟨w,rfl,rfl⟩
  .by_cases pk:dF ok.op=.pure\/dF ok.op=.alloc/\sR E ops (some (base,k))=true
   .obtain⟨rfl,q⟩:=Eh pk g;exact fin H2 (.inl ⟨w,f⟩) (.inl ⟨z,q H2⟩)
   by_cases P:dF D.op=.pure\/dF D.op=.alloc/\sR E ops (some (base,i))=true
   .obtain⟨rfl,q⟩:=Eh P f;exact fin H (.inl ⟨w,q H⟩) (.inl ⟨z,g⟩)
   by_cases J:isApp ok.op=true/\dF D.op=.alloc
   .
    have⟨J,ah⟩:=J;have aB:=Bh J;have ai:(dO ops k=true\/yS ops k=true/\qP F ok.op=true/\base<=H.length)/\dz E F H ok.op=some (v,H1):=by cases N:dO ops k with|true=>refine⟨.inl rfl,?_⟩;unfold dJ at g;rw[aB]at g;simpa only[N,Bool.true_or,if_true]using g|false=>have⟨a,b,c,d⟩:=Gc J N (by rw[p];rfl) g;exact⟨.inr ⟨a,b,c⟩,d⟩
    have⟨ai,e1⟩:=ai;have aq:sR E ops (some (base,i))=false:=by cases hc:sR E ops (some (base,i))with|false=>rfl|true=>exact absurd (.inr ⟨ah,hc⟩) P
    have e2:∃ob m,fF E F D.op=some (ob,m)/\H1[base+i]?=some .free/\u=m.val (base+i)/\H2=H1.set (base+i) ob:=by unfold dJ at f;rw[ah]at f;simp only[aq,false_eq_true,if_false]at f;split at f;(next aj=>cases aj);rename_i ob m b' i' ak aj;cases aj;split at f;(next C=>simp only[ζa,ζc]at f;exact⟨ob,m,ak,C,f.1.symm,f.2.symm⟩);cases f;cases f
    obtain⟨ob,m,ak,C,rfl,rfl⟩:=e2;have⟨f0,f1⟩:=VN (ob:=ob) J e1 C;refine fin (H.set (base+i) ob) (.inl ⟨w,?_⟩) (.inl ⟨z,?_⟩)
    .unfold dJ;rw[ah];simp only[aq,false_eq_true,if_false,ak,f0]
    exact PE J f1 (ai.imp id λ⟨a,b,c⟩=>⟨a,b,by rw[length_set];exact c⟩)
   have lk:dO ops k=false:=by cases N:dO ops k with|false=>rfl|true=>rcases zk N p hi Zaa with h|h|h;exact absurd (.inl h) P;rw[if_neg Zaa]at h;rw[U]at h;cases h;exact absurd ⟨h.1,h.2.1⟩ J
   have K:dO ops i=false:=by cases N:dO ops i with|false=>rfl|true=>rcases zk N hi p Zaa with h|h|h;exact absurd (.inl h) pk;rw[if_pos V]at h;rw[U]at h;cases h;exact absurd h.2.2 Zaa
   by_cases al:isApp D.op=true
   .have⟨g1,g2,g3,g4⟩:=Gc al K (by rw[hi];rfl) f
    rcases Fh g1 p Zaa (by unfold xP;rw[if_pos V];exact U)with h|h|⟨h,l⟩
    .exact absurd (.inl h) pk
    .obtain⟨rfl,q⟩:=EF h lk g;exact fin H2 (.inl ⟨w,f⟩) (.inl ⟨z,q H2 (nX.of_eq (JL al g2 g3 g4))⟩)
    rcases l with l|l
    .exact absurd (.inr ⟨h,show(CP ops k||Vh E ops k)=true by rw[l];rfl⟩) pk
    omega
   by_cases Y:isApp ok.op=true
   .have⟨g1,g2,g3,g4⟩:=Gc Y lk (by rw[p];rfl) g
    rcases Fh g1 hi Zaa (by unfold xP;rw[if_neg Zaa];exact U)with h|h|⟨h,l⟩
    .exact absurd (.inl h) P
    .obtain⟨rfl,q⟩:=EF h K f;exact fin H (.inl ⟨w,q H (nX.of_eq (JL Y g2 g3 g4).symm)⟩) (.inl ⟨z,g⟩)
    exact absurd ⟨Y,h⟩ J
   by_cases I:dF D.op=.loud
   .obtain⟨rfl,id,q1,⟨r,hr⟩,q3,q4,q5⟩:=JM (H2:=H2) p hi Zaa (by rw[if_pos V];exact U) lk (λh=>pk (.inl h)) I K (by simpa using al) f g
    refine fin H2 (.inl ⟨w,f⟩) (.inl ⟨z,?_⟩);unfold dJ;rw[q3];subst hr;simp only[q1,q4,q5,if_true]
   by_cases aa:dF ok.op=.loud
   .obtain⟨rfl,id,q1,⟨r,hr⟩,q3,q4,q5⟩:=JM (H2:=H2) hi p Zaa (by rw[if_neg Zaa];exact U) K (λh=>P (.inl h)) aa lk (by simpa using Y) g f
    refine fin H (.inl ⟨w,?_⟩) (.inl ⟨z,g⟩);unfold dJ;rw[q3];subst hr;rw[q1]at q4;simp only[q4,q5,if_true]
   have tk:∀(X:bp)(k:Nat)(o:Ob),nX ((X.set (base+k) o).take base) (X.take base):=λX k o=>nX.of_eq (take_set_of_le Zaa)
   rcases vC g lk aa with⟨rfl,t⟩|⟨ob,fk,rfl,t⟩|⟨T,tr,rfl,t⟩
   .rcases vC f K I with⟨rfl,L⟩|⟨Z,fi,rfl,L⟩|⟨M,S,rfl,L⟩
    .exact fin H2 (.inl ⟨w,f⟩) (.inl ⟨z,g⟩)
    .exact fin _ (.inl ⟨w,f⟩) (.inl ⟨z,t _ (tk _ _ _)⟩)
    exact fin _ (.inl ⟨w,f⟩) (.inl ⟨z,t _ ((sB S).take base)⟩)
   .rcases vC f K I with⟨rfl,L⟩|⟨Z,fi,rfl,L⟩|⟨M,S,rfl,L⟩
    .refine fin H (.inl ⟨w,L H (tk _ _ _).symm⟩) (.inl ⟨z,g⟩)
    .have am:H[base+i]?=some .free:=by rw[getElem?_set_ne Zaa]at fi;exact fi
     refine fin (H.set (base+i) Z) (.inl ⟨w,L H am⟩) (.inl ⟨z,?_⟩);rw[t _ (by rw[getElem?_set_ne Zaa];exact fk)]
     rw[set_comm _ _ Zaa]
    have W:jv (H.take base) M=true:=by rw[<-wE (tk H k ob)];exact S
    have ar:base+k∉M:=λhm=>absurd (Bl W hm) Zaa
    refine fin (cT H M) (.inl ⟨w,L H (tk _ _ _).symm⟩) (.inl ⟨z,?_⟩);rw[t _ (by rw[jo,fk];simp[ar]),E5 ar]
   rcases vC f K I with⟨rfl,L⟩|⟨Z,fi,rfl,L⟩|⟨M,S,rfl,L⟩
   .refine fin H (.inl ⟨w,L H ((sB tr).take base).symm⟩) (.inl ⟨z,g⟩)
   .have au:base+i∉T:=λhm=>absurd (Bl tr hm) Zaa
    have am:H[base+i]?=some .free:=by rw[jo]at fi;have⟨o,ho,hf⟩:=ζf.1 fi;rw[if_neg au]at hf;rw[ho,hf]
    refine fin (H.set (base+i) Z) (.inl ⟨w,L H am⟩) (.inl ⟨z,?_⟩);rw[t _ (tk _ _ _),E5 au]
   have W:jv (H.take base) M=true:=by rw[<-wE ((sB tr).take base)];exact S
   refine fin (cT H M) (.inl ⟨w,L H ((sB tr).take base).symm⟩) (.inl ⟨z,?_⟩);rw[t _ ((sB W).take base),LJ]
  exact fin H (.inr ⟨w,rfl,rfl⟩) (.inl ⟨z,g⟩)
 rcases af with⟨w,f⟩|⟨w,rfl,rfl⟩
 .exact fin H2 (.inl ⟨w,f⟩) (.inr ⟨z,rfl,rfl⟩)
 exact fin _ (.inr ⟨w,rfl,rfl⟩) (.inr ⟨z,rfl,rfl⟩)
def LY(h:xW ops=true){k i:Nat}{ok B:Oper}(a:ops[k]?=some ok)(hi:ops[i]?=some B)(D:k<i):Gw B k=true\/zJ ops ok B=true:=by unfold xW at h;simp at h;grind
def SZ(hd:xW ops=true){i:Nat}{B:Oper}(hi:ops[i]?=some B):∀(l r:S'),(∀k∈l,k<i/\Gw B k=false/\before ops i k=false)->∀{F F':WP}{H H':bp},
 kH E call n ops base (l++i::r) F H=some (F',H')->kH E call n ops base (i::(l++r)) F H=some (F',H'):=by
 intro l
 induction l with
 |nil=>grind|cons k l D=>
  intro r C F F' H H' h;have⟨u,G,w⟩:=C k Zab
  simp[kH]at h;split at h
  .rename_i ok hk;split at h
   .rename_i F1 H1 h1;have:=D r (λx I=>C x (mem_cons_of_mem _ I)) h
    simp[kH,hi]at this;split at this
    .rename_i Q H2 J;have z:zJ ops ok B=true:=by
      rcases LY hd hk hi u with h|h
      .grind
      omega
     have⟨L,O,g1,g2⟩:=swap hk hi u w z h1 J;simp[kH,hi,g1,hk,g2];simp_all
    grind
   grind
  grind
inductive Reach(ops:List Oper):Nat->Nat->Prop
 |one(i k:Nat)(o:Oper)(e:Edge)(hi:ops[i]?=some o)(he:e∈o.after)(hb:mw e=true)(hk:e.on=k):Reach ops i k|more(i j k:Nat)(o:Oper)(e:Edge)(hi:ops[i]?=some o)(he:e∈o.after)(hb:mw e=true)(hk:e.on=j)(h:Reach ops j k):Reach ops i k
def FH:∀(B l:S')(k:Nat),k∈B.foldl (λl k=>if l.contains k then l else k::l) l->k∈B\/k∈l
 |[],_,_,h=>.inr h|x::B,l,k,h=>by rcases FH B _ k h with h|h;grind;grind
def N0{a:aZ S'}{o:Oper}{k:Nat}(h:k∈Kp a o):∃e∈o.after,mw e=true/\(k=e.on\/∃S,a[e.on]?=some S/\k∈S):=by
 have key:∀(es:aZ Edge)(l:S'),k∈es.foldl (λl e=>(e.on::(a[e.on]?).getD []).foldl (λl k=>if l.contains k then l else k::l) l) l->k∈l\/∃e∈es,k=e.on\/∃S,a[e.on]?=some S/\k∈S:=by intro es;induction es with|nil=>grind|cons e es w=>intro l h;rcases w _ h with h|⟨z,b,u⟩;rcases FH _ _ _ h with h|h;refine .inr ⟨e,Zab,?_⟩;rcases mem_cons.1 h with h|h;grind;(cases c:a[e.on]?with|none=>rw[c]at h;simp at h|some S=>grind);grind;exact .inr ⟨z,mem_cons_of_mem _ b,u⟩
 rcases key _ _ h with h|⟨e,b,u⟩;simp at h;grind
def zz(ops:R'):∀(l:R')(a:aZ S')(pre:R'),ops=pre++l->a.length=pre.length->(∀(i:Nat)S,a[i]?=some S->∀k∈S,Reach ops i k)->
 ∀(i:Nat)S,(l.foldl (λa o=>a++[Kp a o]) a)[i]?=some S->∀k∈S,Reach ops i k
 |[],_,_,_,_,h=>h|o::l,a,pre,D,G,h=>by refine zz ops l _ (pre++[o]) Zad Zad ?_;intro i S c k b;by_cases hi:i<a.length;grind;rw[List.getElem?_append_right Zaa]at c;have B:i=a.length:=(by grind);subst B;simp at c;subst c;have u:ops[a.length]?=some o:=Zac;have⟨e,w,z,b⟩:=N0 b;rcases b with b|⟨S,c,b⟩;exact .one _ _ o e u w z b.symm;exact .more _ e.on _ o e u w z rfl (h _ S c k b)
def K3{i k:Nat}(h:before ops i k=true):Reach ops i k:=by unfold before at h;cases a:(Ks ops)[i]?with|none=>grind|some S=>exact zz ops ops [] [] rfl rfl Zab i S a k Zac
end
section
variable{P:Program}{E:Env}{I I':cE}{μ μ':Mu}{H H':bp}{n B:Nat}{F F':WP}{a:Act}{w w':World}
def Hy(e:Edge):Region.binds .any e=mw e:=by unfold Region.binds mw;grind
def todo(ops:Array Oper)(a:Array X'):S':=(range ops.size).filter λi=> !a.getD i true
def zj(ops:Array Oper)(a:Array X'):(todo ops a).Pairwise (·<·):=List.pairwise_lt_range.filter _
def T8{ops:Array Oper}{a:Array X'}{i:Nat}(G:a.size=ops.size)(hi:i<ops.size){B D:S'}(h:todo ops a=B++i::D):
 todo ops (a.setIfInBounds i true)=B++D:=by
 have I:∀j∈range ops.size,(!(a.setIfInBounds i true).getD j true)=((!a.getD j true)&&(j != i)):=by intro j _;by_cases e:j=i;simp_all;have:(a.setIfInBounds i true).getD j true=a.getD j true:=(by simp[Array.getElem?_setIfInBounds_ne (Ne.symm e)]);grind
 have:todo ops (a.setIfInBounds i true)=(todo ops a).filter (· != i):=by unfold todo;rw[List.filter_filter];grind
 rw[this,h];have u:=zj ops a;rw[h]at u;rw[List.pairwise_append]at u;have⟨_,z,C⟩:=u;rw[List.pairwise_cons]at z;rw[List.filter_append,List.filter_cons];simp;rw[List.filter_eq_self.2 (λx w=>by have:=C x w i Zab;simp;omega),List.filter_eq_self.2 (λx w=>Zac)]
def Down(ops:Array Oper)(a:Array X'):Prop:=∀j o,a.getD j false=true->ops[j]?=some o->∀e∈o.after,mw e=true->a.getD e.on false=true
def Np{ops:Array Oper}{a:Array X'}(hd:Down ops a){i k:Nat}(h:Reach ops.toList i k)(hi:∀o,ops[i]?=some o->∀e∈o.after,mw e=true->a.getD e.on false=true):a.getD k false=true:=by induction h with|one i k o e B w z hk=>grind|more i j k o e B w z hk _ C=>subst hk;exact C λD u=>hd _ _ (hi o Zac e w z) u
def Ij(hE:eZ P E){call:dL}(hc:lZ P call){ops:Array Oper}(hd:xW ops.toList=true)(p:BU ops.toList=true)(ro:a_ Nat){Q:Exit->Act->World->Prop}(base:Nat):
 ∀(D:Nat)(b:Array X')(I:cE)(μ:Mu)(F:WP)(H:bp)(a:Act)(w:World),b.size=ops.size->Down ops b->(todo ops b).length=D->
 kH E call n ops.toList base (todo ops b) F H=some (F',H')->eV I μ n F a.tmps->di I μ H w->
 (∀a' I' μ' w',eV I' μ' n F' a'.tmps->a'.defers=a.defers->di I' μ' H' w'->Step I μ H w I' μ' H' w'->Q .normal a' w')->
 wpAnyIn (fr ro) 0 P .any ops Q D b a w:=by
 intro D
 induction D with
 |zero=>
  intro b I μ F H a w O L c h r s q;have S:todo ops b=[]:=List.eq_nil_of_length_eq_zero c;rw[S]at h;obtain⟨rfl,rfl⟩:=h;refine⟨?_,q a I μ w r rfl s (.refl _ _ _ _)⟩;unfold Region.ready;rw[List.filter_eq_nil_iff];intro i hi;have:i∉todo ops b:=Zac
  unfold todo at this
  grind
 |succ D ih=>
  intro b I μ F H a w O L c h r s q;have W:∀i,i∈Region.ready .any ops b->i<ops.size/\i∈todo ops b/\∃o,ops[i]?=some o/\∀e∈o.after,mw e=true->b.getD e.on false=true:=by intro i hi;unfold Region.ready at hi;rw[mem_filter]at hi;have⟨t,h2⟩:=hi;simp only[ζh]at h2;have G:i<ops.size:=Zac;refine⟨G,by unfold todo;grind,ops[i],Zad,?_⟩;have K:(ops[i].after.all λe=> !Region.binds .any e||b.getD e.on false)=true:=(by grind);rw[Array.all_eq_true_iff_forall_mem]at K;intro e U X;have:=K e U;rw[Hy,X]at this;grind
  refine⟨?_,?_⟩
  .
   intro S
   cases Y:todo ops b with
   |nil=>rw[Y]at c;simp at c|cons Z rest=>
    have z:Z∈todo ops b:=by rw[Y];simp
    have f:=zj ops b;rw[Y,List.pairwise_cons]at f;unfold todo at z;rw[mem_filter]at z;have G:Z<ops.size:=by simpa using z.1
    have:Z∈Region.ready .any ops b:=by unfold Region.ready;rw[mem_filter];refine⟨z.1,?_⟩;simp only[ζh];refine⟨z.2,?_⟩;have e0:ops[Z]?=some ops[Z]:=(by simp[G]);rw[e0];simp only[map_some,getD_some];rw[Array.all_eq_true_iff_forall_mem];intro e U;rw[Hy];cases am:mw e with|false=>simp|true=>simp only[Bool.not_true];have an:e.on<Z:=(by unfold BU at p;simp only[all_eq_true]at p;have:=p Z (by simpa using G);have e1:ops.toList[Z]?=some ops[Z]:=(by simp[G]);rw[e1]at this;simp only[Array.all_eq_true_iff_forall_mem]at this;have:=this e U;rw[am]at this;simpa using this);cases ao:b.getD e.on false with|true=>rfl|false=>exfalso;have M:e.on∈todo ops b:=(by unfold todo;rw[mem_filter];refine⟨by simp;omega,?_⟩;have aj:e.on<b.size:=Zaa;have:b.getD e.on true=b.getD e.on false:=(by simp[aj]);rw[this,ao];rfl);rw[Y]at M;rcases mem_cons.1 M with h|h;omega;have:=f.1 _ h;omega
    rw[S]at this;simp at this
  intro i hi;have⟨G,z,o,g,C⟩:=W i hi;have⟨N,l2,u⟩:=List.append_of_mem z;have J:=zj ops b;rw[u,List.pairwise_append]at J;have aa:∀k∈N,k<i/\Gw o k=false/\before ops.toList i k=false:=by intro k v;have ap:b.getD k false=false:=(by have B:k∈todo ops b:=(by rw[u];simp[v]);unfold todo at B;rw[mem_filter]at B;have x:k<b.size:=(by rw[O];simpa using B.1);have:b.getD k true=b.getD k false:=(by simp[x]);rw[this]at B;simpa using B.2);refine⟨J.2.2 k v i Zab,?_,?_⟩;rotate_left;(cases aq:before ops.toList i k with|false=>rfl|true=>have:=Np L (K3 aq) (λo' l=>by rw[g]at l;cases l;exact C);rw[ap]at this;cases this);cases U:Gw o k with|false=>rfl|true=>exfalso;unfold Gw at U;rw[Array.any_eq_true]at U;have⟨ix,ar,m⟩:=U;have R:o.after[ix]∈o.after:=Array.getElem_mem ar;generalize o.after[ix]=e at R m;simp only[ζh,beq_iff_eq]at m;have t:=C e R m.2;rw[m.1]at t;have B:k∈todo ops b:=(by rw[u];simp[v]);unfold todo at B;rw[mem_filter]at B;have x:k<b.size:=(by rw[O];simpa using B.1);have:b.getD k true=b.getD k false:=(by simp[x]);rw[this,t]at B;simp at B
  rw[u]at h;have d:=SZ hd (by simpa using g) N l2 aa h
  simp only[kH]at d;have l:ops.toList[i]?=some o:=by simpa using g
  rw[l]at d;simp only at d;split at d
  .rename_i F1 H1 af;unfold wpOpIn;rw[g];simp only;refine ED hE hc af r s ro (λa' I' μ' w' hr au f av=>?_)
   have V:=T8 O G u;refine ih (b.setIfInBounds i true) I' μ' F1 H1 a' w' (by simpa using O) ?_ ?_ (by rw[V];exact d) hr f ?_
   .have T:∀j,b.getD j false=true->(b.setIfInBounds i true).getD j false=true:=by
     intro j y
     by_cases e:i=j
     .subst e;simp[O,G]
     simpa[getD_eq_getD_getElem?,Array.getElem?_setIfInBounds_ne e]using y
    intro j oj y A e U X
    by_cases e':i=j
    .subst e';rw[g]at A;cases A;exact T _ (C e U X)
    refine T _ (L j oj ?_ A e U X);simpa[getD_eq_getD_getElem?,Array.getElem?_setIfInBounds_ne e']using y
   .rw[V];rw[u]at c;simp at c⊢;omega
   intro a2 I2 μ2 w2 aw ax ay al;exact q a2 I2 μ2 w2 aw (ax.trans au) ay (Step.trans f av al)
  simp at d
def di.IW(s:di I μ H w)(k:Nat):di I μ (H++replicate k .free) w:=by
 have u:∀id ob,(H++replicate k Ob.free)[id]?=some ob->H[id]?=some ob\/(ob=.free/\H.length<=id):=by grind
 refine⟨λid h=>s.dom id Zac,s.imm,?_,?_,s.gl⟩;intro id ob h;rcases u id ob h with h|⟨rfl,z⟩;exact s.obs id ob h;exact s.dom id z;intro id B ob C p J a z D G;rcases u id ob a with a|⟨rfl,_⟩;rcases u B C z with z|⟨rfl,_⟩;exact s.inj id B ob C p J a z D G;simp[Ob.live]at G;simp[Ob.live]at D
def Lx(k:Nat)(b:Nat):iV μ (H++replicate k .free) b↔iV μ H b:=by constructor;rintro⟨id,p,ob,h1,u,w,z⟩;by_cases B:id<H.length;rw[getElem?_append_left B]at h1;exact⟨id,p,ob,h1,u,w,z⟩;rw[List.getElem?_append_right Zaa,List.getElem?_replicate]at h1;split at h1;simp at h1;subst h1;simp[Ob.live]at u;grind;rintro⟨id,p,ob,h1,u,w,z⟩;exact⟨id,p,ob,Zac,u,w,z⟩
def Step.IW(k:Nat):Step I μ H w I μ (H++replicate k .free) w:=⟨cE.le_refl _,Mu.le_refl _,Zab,le_refl _,λ_ _ _=>rfl,λb h=>h.elim .inl λh=>.inr (.inl ((Lx k b).1 h)),rfl,.refl _,λ_ _ h=>h⟩
def Kg(D:eZ P E)(U:P.follows .mixedOrders=true){call:dL}(b:lZ P call){id:Nat}{ops:Array Oper}{B:X'}(ro:a_ Nat){Q:Exit->Act->World->Prop}
 (h:kq E call n ops.toList B F H=some (F',H'))(r:eV I μ n F a.tmps)(s:di I μ H w)
 (G:∀a' I' μ' w',eV I' μ' n F' a'.tmps->a'.defers=a.defers->di I' μ' H' w'->Step I μ H w I' μ' H' w'->Q .normal a' w'):
 (Code.region id ops B).wpIn (fr ro) 0 P Q a w:=by
 unfold kq at h
 cases B with
 |false=>refine wpIn_region ?_;rw[List.range_eq_range',<-length_toList];exact P_ D b ro ops.toList 0 I μ F H a w Zab h r s G|true=>
  simp only[if_true]at h;split at h
  .rename_i u;simp at u;refine wpIn_region_draw λt=>?_
   simp[Region.schedule,U];have s0:di I μ H {w with drawn:=w.drawn+1}:=s.qq rfl;have st0:Step I μ H w I μ H {w with drawn:=w.drawn+1}:=Step.qq rfl rfl ⟨rfl,rfl,le_succ _⟩;have z:todo ops (Array.replicate ops.size false)=range ops.toList.length:=by unfold todo;simp_all
   have C:Down ops (Array.replicate ops.size false):=by intro j o S;simp[Array.getElem?_replicate]at S;grind
   refine wpAnyIn_sound ops.size t _ a _ ?_;split at h
   .refine Ij D b u.1 u.2 ro H.length ops.size _ I μ F (H++replicate ops.toList.length .free) a _ Zab C Zac (by rw[z];omega) r (s0.IW _) ?_
    intro a' I' μ' w' c J L O;exact G a' I' μ' w' c J L (Step.trans s0 st0 (Step.trans (s0.IW _) (Step.IW _) O))
   refine Ij D b u.1 u.2 ro H.length ops.size _ I μ F H a _ Zab C Zac (by rw[z];omega) r s0 ?_
   intro a' I' μ' w' c J L O;exact G a' I' μ' w' c J L (Step.trans s0 st0 O)
  grind
end
end Go.VE
