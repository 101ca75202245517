/- Engine, values. -/
import Derived.RangeFuncLeaves
import Derived.Sort.Defs
import Derived.Lib.BitFns
import Derived.Laws.Sem
import Derived.Laws.World
import Derived.Laws.Append
import Derived.Laws.BytesString
import Derived.OrdersIn
import Derived.RangeFuncRecord
set_option linter.all false
open BitVec(ofInt)
open Go.IntKind(i64 wrap)
open Go.Op(bytesLess equal equalIn intArith intBits intCmp operands)
open List(all_eq_true drop_drop drop_take eq_of_mem_replicate finRange flatten_append getElem?_drop getElem?_set_ne getElem?_take length mem_append mem_cons mem_cons_of_mem mem_filter mem_flatten mem_map mem_of_getElem? mem_of_mem_drop mem_of_mem_take range replicate set_comm take_append_drop)
open Go.Instr(checkKey fieldAt fill findAsking findKey findNow indexAt loadAt sameBits sameNow sliceAt sliceBound sliceBounds storeAt sureAddr)
open Go.Sem(run_bind run_ite run_pure)
open Go.Result(andThen andThen_ok)
open Bool(false_eq_true)
open Option(getD_some isSome_iff_exists map_some)
open Nat(add_assoc add_mul add_zero le_refl le_succ le_trans mod_lt mul_le_mul mul_le_mul_right one_mul zero_le zero_mul)
open Go.Builtin(append_ cap_ clear_ firstCells lenOf len_ max2 max_ min2 min_ nextslicecap zeroCells)
open Go.World(cell? frozen?)
open Go.Question(appendCap forced)
namespace Go.VE
abbrev Zs:=IntKind
abbrev Zr:=Operand
abbrev Zq:=ByteArray
abbrev Zp:=Value
abbrev Zm:=TypeId
abbrev Zl:=Bool
abbrev Zk:=FuncId
def Za{p:Prop}(h:p:=by omega):p:=h
def Zc{p:Prop}(h:p:=by simp):p:=h
def Zd{p:Prop}(h:p:=by grind):p:=h
def Ze{p:Prop}(h:p:=by simp_all):p:=h
def ζa{α:Type _}(a b:α):(some a=some b)=(a=b):=Option.some.injEq a b
def ζb{α β:Type _}(a:α)(f:α->Option β):(some a).bind f=f a:=rfl
def ζc{α β:Type _}(a:α)(b:β)(c:α)(d:β):((a,b)=(c,d))=(a=c/\b=d):=Prod.mk.injEq a b c d
def ζd{α:Type _}{l:List α}{i:Nat}(h:i<l.length):l[i]?=some l[i]:=List.getElem?_eq_getElem h
def ζe{α:Type _}{l:List α}{i:Nat}{a:α}:l[i]?=some a↔∃h:i<l.length,l[i]=a:=List.getElem?_eq_some_iff
theorem ζf{α β:Type _}{b:β}{x:Option α}{f:α->β}:x.map f=some b↔∃a,x=some a/\f a=b:=Option.map_eq_some_iff
theorem ζg{α β:Type _}{b:β}{x:Option α}{f:α->Option β}:x.bind f=some b↔∃a,x=some a/\f a=some b:=Option.bind_eq_some_iff
def ζh(a b:Zl):((a&&b)=true)=(a=true/\b=true):=Bool.and_eq_true a b
def ζi{α:Type _}{a b:List α}:(a++b).length=a.length+b.length:=List.length_append
abbrev aX:=@List
abbrev Zz:=aX Oper
abbrev Zx:=aX Int
abbrev Zv:=aX Nat
abbrev aY:=@Option
abbrev Z6:=aY Int
inductive V where
 |bool(b:Bool)|int(k:IntKind)(n:Int)|str(s:ByteArray)|c7|bD|fsl(es:Nat)(xs:List (List V))|hsl(id es off len:Nat)|gL|fptr(cs:List V)|hptr(id el off:Nat)|clo(f:FuncId)(first cap:List V)|yld(id:Nat)|f_|qK|fmap(kvs:List (V×V))|hmap(id:Nat)|agg(cs:List V)|tup(vs:List V)
 deriving Inhabited
abbrev Zu:=aX V
abbrev Zt:=aX (aX V)
def V.undef:V:=.tup []
def V.one:V->Zl
 |.agg _|.tup _=>false|_=>true
def V.cells:V->Zu
 |.agg cs=>cs|v=>[v]
mutual
def V.scalar:V->Zl
 |.bool _|.int ..|.str _|.gL|.f_|.qK|.c7|.bD=>true|.agg cs=>V.cM cs|.tup cs=>V.cM cs|_=>false
def V.cM:Zu->Zl
 |[]=>true|v::r=>V.scalar v&&V.cM r
end
mutual
def V.closed:V->Zl
 |.hsl ..|.hptr ..|.yld ..|.hmap ..=>false|.clo _ a b=>V.gN a&&V.gN b|.agg cs=>V.gN cs|.tup cs=>V.gN cs|_=>true
def V.gN:Zu->Zl
 |[]=>true|v::r=>V.closed v&&V.gN r
end
inductive TK where
 |bool|int (k:IntKind)|str|ptr (e:TypeId)|slice (e:TypeId)|struct(fs:List (Nat×TypeId))|array (n:Nat) (e:TypeId)|map (k e:TypeId)|other
 deriving Inhabited
structure TD where
 size:Nat
 bytes:Nat
 zero:List V
 kind:TK
 deriving Inhabited
def TD.agg(d:TD):Zl:=match d.kind with|.struct _|.array _ _=>true|_=>false
abbrev Frame:=aX V
abbrev Zo:=Frame
def get:Zo->Nat->V
 |[],_=>.undef|x::_,0=>x|_::r,i+1=>get r i
def set:Zo->Nat->V->Zo
 |[],0,v=>[v]|[],i+1,v=>.undef::set [] i v|_::r,0,v=>v::r|x::r,i+1,v=>x::set r i v
inductive z8 where
 |ready|busy|done
inductive Out where
 |norm|exit(id:Nat)|ret
 deriving DecidableEq,Inhabited
structure uo where
 st:z8
 pend:Option Out
 frame:Frame
 nt:Nat
 params:List Nat
 assign:Code
 body:Code
inductive Ob where
 |free|dead|row(es:Nat)(xs:List (List V))|frz(es:Nat)(xs:List (List V))|map(kvs:List (V×V))|loop(r:uo)
def Ob.rows:Ob->aY (Nat×Zt)
 |.row es xs|.frz es xs=>some (es,xs)|_=>none
abbrev bh:=aX Ob
structure FI where
 ntmps:Nat
 results:List ResultVar
 body:Code
structure Env where
 tt:TypeId->Option TD
 ft:FuncId->Option FI
 keep:FuncId->Bool
 own:FuncId->Bool
 eqN:TypeId->Option Nat
 sort:FuncId->Bool
 known:FuncId->List V->Option V:=λ_ _=>none
def Env.kindOf(E:Env)(t:Zm):aY TK:=(E.tt t).map TD.kind
def ofValue:Nat->Zp->aY V
 |0,_=>none|n+1,v=>
  match v with
  |.bool b=>some (.bool b)|.int k n=>some (.int k n)|.string s=>some (.str s)|.pointer none=>some .gL|.slice none 0 0=>some .bD|.map none=>some .f_|.nilFunc=>some .qK|.agg cs=>(cs.toList.mapM (ofValue n)).map .agg|_=>none
class bL where
 gl:Nat->Option (List V)
 sc:∀g cs,gl g=some cs->∃(k:IntKind)(l:List Int),cs=l.map (V.int k)
variable[bL]
def ev(F:Zo):Zr->aY V
 |.tmp t=>some (get F t)|.const v=>ofValue 4 v|.func f=>some (.clo f [] [])|.global g=>(bL.gl g).map .fptr
def fe(F:Zo):aX Zr->aY Zu
 |[]=>some []|x::r=>match ev F x,fe F r with
  |some v,some vs=>some (v::vs)|_,_=>none
def mk(agg:Zl)(cs:Zu):aY V:=if agg then some (.agg cs)else match cs with|[v]=>some v|_=>none
def cut(cs:Zu)(off n:Nat):aY Zu:=
 let r:=(cs.drop off).take n
 if r.length=n then some r else none
def gP:Zu->aY Zx
 |[]=>some []|.int .i64 a::r=>(gP r).map (a::·)|_=>none
def jR(az B:Zu):aY Zl:=
 match gP az,gP B with
 |some a,some b=>if a.length=b.length then some (a==b)else none|_,_=>none
def qz(op:BinOp)(x y:Int):aY Zl:=
 match op with
 |.eql=>some (x==y)|.neq=>some (x != y)|.lss=>some (decide (x<y))|.leq=>some (decide (x<=y))|.gtr=>some (decide (x>y))|.geq=>some (decide (x>=y))|_=>none
def tf(k:TK)(x y:V):aY Zl:=
 match k,x,y with
 |.slice _,.bD,.bD=>some true|.slice _,.fsl ..,.bD=>some false|.slice _,.hsl ..,.bD=>some false|.ptr _,.gL,.gL=>some true|.ptr _,.fptr _,.gL=>some false|.ptr _,.hptr ..,.gL=>some false|.map ..,.f_,.f_=>some true|.map ..,.fmap _,.f_=>some false|.map ..,.hmap _,.f_=>some false|_,_,_=>none
def Fa(E:Env)(op:BinOp)(t:Zm)(x y:V):aY V:=
 match x,y with
 |.int k a,.int u b=>
  match op with
  |.shl=>if b<0 then none else some (.int k (k.wrap (a*2 ^ (min b.toNat k.bits))))|.shr=>if b<0 then none else some (.int k (a.fdiv (2 ^ (min b.toNat k.bits))))|_=>if k=u then
   match op with
   |.add=>some (.int k (k.wrap (a+b)))|.sub=>some (.int k (k.wrap (a-b)))|.mul=>some (.int k (k.wrap (a*b)))|.quo=>if b=0 then none else some (.int k (k.wrap (a.tdiv b)))|.rem=>if b=0 then none else some (.int k (a.tmod b))|.and=>some (.int k (k.wrap (ofInt k.bits a &&& ofInt k.bits b).toNat))|.or=>some (.int k (k.wrap (ofInt k.bits a ||| ofInt k.bits b).toNat))|.xor=>some (.int k (k.wrap (ofInt k.bits a ^^^ ofInt k.bits b).toNat))|.andNot=>some (.int k (k.wrap (ofInt k.bits a &&& ~~~ ofInt k.bits b).toNat))|op=>(qz op a b).map .bool
   else none
 |.str a,.str b=>
  match op with
  |.add=>if((a.size+b.size:Nat):Int)>i64.max then none else some (.str (a++b))|.eql=>some (.bool (a.toList==b.toList))|.neq=>some (.bool !(a.toList==b.toList))|.lss=>some (.bool (bytesLess a.toList b.toList))|.leq=>some (.bool (bytesLess a.toList b.toList||a.toList==b.toList))|.gtr=>some (.bool !(bytesLess a.toList b.toList||a.toList==b.toList))|.geq=>some (.bool !(bytesLess a.toList b.toList))|_=>none
 |.bool a,.bool b=>
  match E.kindOf t,op with
  |some .bool,.eql=>some (.bool (a==b))|some .bool,.neq=>some (.bool !(a==b))|_,_=>none
 |.agg a,.agg b=>
  match E.eqN t,op with
  |some n,.eql=>if a.length=n then(jR a b).map .bool else none|some n,.neq=>if a.length=n then(jR a b).map (λt=>.bool !t)else none|_,_=>none
 |x,y=>
  match E.kindOf t,op with
  |some k,.eql=>(tf k x y).map .bool|some k,.neq=>(tf k x y).map λt=>.bool !t|_,_=>none
def sR(place:Nat->aY (Nat×Nat))(cells:Zu):aX (Nat×V)->aY Zu
 |[]=>some cells|(i,v)::rest=>
  match place i with
  |none=>none|some (off,size)=>
   if v.cells.length≠size||off+v.cells.length>cells.length then none
   else sR place (cells.take off++v.cells++cells.drop (off+v.cells.length)) rest
def lz(F:Zo):aX (Nat×Zr)->aY (aX (Nat×V))
 |[]=>some []|(i,x)::r=>match ev F x,lz F r with
  |some v,some vs=>some ((i,v)::vs)|_,_=>none
def mb(E:Env):aX (Nat×Zm)->aY (aX (Nat×Nat))
 |[]=>some []|(off,t)::r=>match E.tt t,mb E r with
  |some d,some ps=>some ((off,d.size)::ps)|_,_=>none
def jr(F:Zo):aY Zr->aY Z6
 |none=>some none|some x=>match ev F x with
  |some (.int _ n)=>some (some n)|_=>none
def dx(len:Nat)(B D:Z6):aY (Nat×Nat):=
 let h:=D.getD len
 let l:=B.getD 0
 if 0<=h/\h<=len/\0<=l/\l<=h then some (l.toNat,h.toNat)else none
def AO(a b:Int):Int:=if b>a then b else a
def bF(E:Env)(F:Zo)(op:Op):aY V:=
 match op with
 |.move x|.assign x=>ev F x|.pick c a b=>match ev F c with
  |some (.bool t)=>if t then ev F a else ev F b|_=>none
 |.nilCheck x=>match ev F x with
  |some (.hptr id el off)=>some (.hptr id el off)|some (.fptr u)=>some (.fptr u)|some (.clo f a b)=>some (.clo f a b)|_=>none
 |.binOp op t x y _=>match ev F x,ev F y with
  |some a,some b=>Fa E op t a b|_,_=>none
 |.unOp op _ x=>match op,ev F x with
  |.not,some (.bool b)=>some (.bool !b)|.neg,some (.int k n)=>some (.int k (k.wrap (0-n)))|_,_=>none
 |.convert s d x=>match E.tt s,E.tt d,ev F x with
  |some _,some D,some (.int _ n)=>match D.kind with
   |.int k=>some (.int k (k.wrap n))|_=>none
  |_,_,_=>none
 |.fieldAddr s x f=>match E.kindOf s,ev F x with
  |some (.struct fs),some p=>match fs[f]?with
   |some (off,t)=>match E.tt t with
    |some d=>if d.size=0 then none else match p with
     |.fptr u=>if off<=u.length then some (.fptr (u.drop off))else none|.hptr id el o=>some (.hptr id el (o+off))|_=>none
    |none=>none
   |none=>none
  |_,_=>none
 |.field s x f=>match E.kindOf s,ev F x with
  |some (.struct fs),some (.agg u)=>match fs[f]?with
   |some (off,t)=>match E.tt t with
    |some d=>(cut u off d.size).bind (mk d.agg)|none=>none
   |none=>none
  |_,_=>none
 |.indexAddr t x i=>match E.kindOf t,ev F x,ev F i with
  |some (.slice e),some s,some (.int _ n)=>match E.tt e with
   |some d=>if n<0 then none else match s with
    |.fsl es w=>if es=d.size then(w[n.toNat]?).map .fptr else none|.hsl id es off len=>if es=d.size/\n.toNat<len then some (.hptr id (off+n.toNat) 0)else none|_=>none
   |none=>none
  |some (.array len e),some p,some (.int _ n)=>match E.tt e with
   |some d=>if 0<=n/\n<len then match p with
    |.fptr u=>if n.toNat*d.size<=u.length then some (.fptr (u.drop (n.toNat*d.size)))else none|.hptr id el o=>some (.hptr id el (o+n.toNat*d.size))|_=>none
    else none
   |none=>none
  |_,_,_=>none
 |.index t x i=>match E.kindOf t,ev F x,ev F i with
  |some .str,some (.str s),some (.int _ n)=>if 0<=n then(s[n.toNat]?).map (λb=>.int .u8 b.toNat)else none|some (.array len e),some (.agg u),some (.int _ n)=>match E.tt e with
   |some d=>if 0<=n/\n<len then(cut u (n.toNat*d.size) d.size).bind (mk d.agg)else none|none=>none
  |_,_,_=>none
 |.slice t x G I J=>match E.kindOf t,ev F x,jr F G,jr F I,jr F J with
  |some .str,some (.str s),some l,some h,some none=>(dx s.size l h).map λ(l,h)=>.str (s.extract l h)|some (.slice e),some v,some l,some h,some none=>match E.tt e with
   |some d=>match v with
    |.fsl es w=>if es=d.size then(dx w.length l h).map λ(l,h)=>.fsl es ((w.take h).drop l)else none|.hsl id es off len=>if es=d.size then(dx len l h).map λ(l,h)=>.hsl id es (off+l) (h-l)else none|.c7=>(dx 0 l h).map λ_=>.c7|.bD=>(dx 0 l h).map λ_=>.bD|_=>none
   |none=>none
  |some (.slice e),some v,some none,some (some 0),some (some 0)=>match E.tt e,v with
   |some _,.fsl ..|some _,.hsl ..|some _,.c7|some _,.bD=>some .c7|_,_=>none
  |_,_,_,_,_=>none
 |.build t ps=>match E.tt t,lz F ps.toList with
  |some d,some z=>match d.kind with
   |.struct fs=>match mb E fs with
    |some pl=>(sR (λi=>pl[i]?) d.zero z).map .agg|none=>none
   |.array _ e=>match E.tt e with
    |some C=>(sR (λi=>some (i*C.size,C.size)) d.zero z).map .agg|none=>none
   |_=>none
  |_,_=>none
 |.makeFunc (.func f) a b=>match fe F a.toList,fe F b.toList with
  |some a,some b=>some (.clo f a b)|_,_=>none
 |.extract x i=>match ev F x with
  |some (.tup z)=>z[i]?|_=>none
 |.call {callee:=.builtin b,args,argTypes}=>match b,fe F args.toList,argTypes[0]?with
  |.len,some [v],some t=>match E.kindOf t,v with
   |some .str,.str s=>some (.int .i64 s.size)|some (.slice _),.fsl _ w=>some (.int .i64 w.length)|some (.slice _),.hsl _ _ _ len=>some (.int .i64 len)|some (.slice _),.c7=>some (.int .i64 0)|some (.slice _),.bD=>some (.int .i64 0)|_,_=>none
  |.cap,some [v],some t=>match E.kindOf t,v with
   |some (.slice _),.bD=>some (.int .i64 0)|some (.slice _),.c7=>some (.int .i64 0)|_,_=>none
  |.max,some [.int k a,.int B b],_=>if k=B then some (.int k (if b>a then b else a))else none|.max,some [.int k a,.int k1 b,.int k2 c,.int k3 d],_=>if k=k1/\k=k2/\k=k3 then some (.int k (AO (AO (AO a b) c) d))else none|.min,some [.int k a,.int B b],_=>if k=B then some (.int k (if b<a then b else a))else none|_,_,_=>none
 |_=>none
def dZ(H:bh)(p:V)(n:Nat):aY Zu:=
 match p with
 |.fptr u=>cut u 0 n|.hptr id el off=>match(H[id]?).bind Ob.rows with
  |some (_,w)=>match w[el]?with
   |some u=>cut u off n|none=>none
  |none=>none
 |_=>none
def vi:V->V->aY Zl
 |.int k a,.int B b=>if k=B then some (a==b)else none|.str a,.str b=>some (a==b)|.agg a,.agg b=>jR a b|_,_=>none
def ig(k:V):aX (V×V)->Nat->aY (aY (Nat×V))
 |[],_=>some none|(B,v)::r,i=>match vi k B with
  |some true=>some (some (i,v))|some false=>ig k r (i+1)|none=>none
def zF(E:Env)(t:Zm)(k:V):Zl:=
 match E.kindOf t,k with
 |some (.int k),.int w _=>k==w|some .str,.str _=>true|some _,.agg u=>match E.eqN t with|some n=>u.length==n&&(gP u).isSome|none=>false
 |_,_=>false
def l_(H:bh):V->aY (aX (V×V))
 |.f_=>some []|.fmap B=>some B|.hmap id=>match H[id]?with
  |some (.map B)=>some B|_=>none
 |_=>none
def dD(E:Env)(F:Zo)(H:bh)(op:Op):aY V:=
 match op with
 |.load t a=>match E.tt t,ev F a with
  |some d,some p=>(dZ H p d.size).bind (mk d.agg)|_,_=>none
 |.lookup t m k ok=>match E.kindOf t,ev F m,ev F k with
  |some (.map w B),some m,some k=>match E.tt B,l_ H m with
   |some d,some u=>if zF E w k then match ig k u 0,mk d.agg d.zero with
    |some (some (_,v)),_=>some (if ok then .tup [v,.bool true]else v)|some none,some z=>some (if ok then .tup [z,.bool false]else z)|_,_=>none
    else none
   |_,_=>none
  |_,_,_=>none
 |_=>none
inductive Mk where
 |ptr|sl (es len:Nat)|map
def Mk.val(id:Nat):Mk->V
 |.ptr=>.hptr id 0 0|.sl es len=>.hsl id es 0 len|.map=>.hmap id
def eR(es:Nat)(xs:Zt):aX (Nat×V)->aY Zt
 |[]=>some xs|(i,v)::r=>if v.cells.length=es/\i<xs.length/\v.cells.all V.one=true then eR es (xs.set i v.cells) r else none
def ey(E:Env)(F:Zo)(op:Op):aY (Ob×Mk):=
 match op with
 |.alloc t=>(E.tt t).map λd=>(.row d.size [d.zero],.ptr)|.box _ x=>match ev F x with
  |some v=>if v.cells.all V.one then some (.row v.cells.length [v.cells],.ptr)else none|none=>none
 |.makeSlice t l c=>match E.kindOf t,ev F l,ev F c with
  |some (.slice e),some (.int k n),some (.int u m)=>match E.tt e with
   |some d=>if k=.i64/\u=.i64/\0<=n/\n<=m/\m<=2147483648/\d.bytes<=4096 then some (.row d.size (replicate m.toNat d.zero),.sl d.size n.toNat)else none|none=>none
  |_,_,_=>none
 |.buildSlice t len ps=>match E.kindOf t,lz F ps.toList with
  |some (.slice e),some w=>match E.tt e with
   |some d=>if len*d.size<=16777216 then(eR d.size (replicate len d.zero) w).map λz=>(.row d.size z,.sl d.size len)else none|none=>none
  |_,_=>none
 |.makeMap _ none=>some (.map [],.map)|_=>none
def nY(E:Env)(F:Zo)(op:Op):aY V:=
 match ey E F op with
 |some (.row es u,.sl w n)=>if w=es/\n=u.length/\(u.all λx=>x.all V.scalar)=true then match op with
  |.buildSlice ..=>if u.isEmpty then(if es != 0 then some .c7 else none)else some (.fsl es u)|_=>some (.fsl es u)
  else none
 |_=>none
def dg(H:bh)(es:Nat):V->aY Zt
 |.c7=>some []|.bD=>some []|.fsl B xs=>if B=es then some xs else none|.hsl id B off len=>if B=es then match(H[id]?).bind Ob.rows with
  |some (_,xs)=>if off+len<=xs.length then some ((xs.drop off).take len)else none|none=>none
  else none
 |_=>none
def ox(k v:V)(B:aX (V×V)):aY (aX (V×V)):=
 match ig k B 0 with
 |some (some (j,_))=>some (B.set j (k,v))|some none=>some (B++[(k,v)])|none=>none
def fP(H:bh):V->aY bh
 |.c7=>some H|.bD=>some H|.hsl id _ _ _=>match H[id]?with
  |some (.row _ _)=>some (H.set id .dead)|_=>none
 |_=>none
def mkApp(H:bh)(size bytes:Nat)(zero:Zu)(s x:V):aY (V×bh):=
 match s,x with
 |.bD,.int _ n=>if n=0 then some (.bD,H)else if 0<n/\n<=2147483648/\bytes<=4096/\0<bytes then some (.hsl H.length size 0 n.toNat,H++[.row size (replicate n.toNat zero)])else none|_,_=>none
def Bu(H:bh)(size:Nat)(zero:Zu):V->aY (V×bh)
 |.bD|.c7=>some (.undef,H)|.hsl id es off len=>if es=size then match len with
  |0=>some (.undef,H)|len+1=>match H[id]?with
   |some (.row B xs)=>if off+(len+1)<=xs.length then some (.undef,H.set id (.row B (xs.take off++replicate (len+1) zero++xs.drop (off+(len+1)))))else none|_=>none
  else none
 |_=>none
def cq(E:Env)(F:Zo)(H:bh)(op:Op):aY (V×bh):=
 match op with
 |.store t a x=>match E.tt t,ev F a,ev F x with
  |some d,some (.hptr id el off),some v=>match H[id]?with
   |some (.row es w)=>match w[el]?with
    |some z=>if v.cells.length=d.size/\off+d.size<=z.length/\v.cells.all V.one=true then
     some (.undef,H.set id (.row es (w.set el (z.take off++v.cells++z.drop (off+v.cells.length)))))else none
    |none=>none
   |_=>none
  |_,_,_=>none
 |.mapUpdate t m k x|.insert t m k x=>match E.kindOf t,ev F m,ev F k,ev F x with
  |some (.map C _),some (.hmap id),some k,some v=>match H[id]?with
   |some (.map u)=>if zF E C k then(ox k v u).map λu=>(.undef,H.set id (.map u))else none|_=>none
  |_,_,_,_=>none
 |.call {callee:=.builtin .append,args,argTypes}=>match argTypes.toList,fe F args.toList with
  |[t,D],some [s,x]=>match E.kindOf t,E.kindOf D with
   |some (.slice e),some (.slice _)=>match E.tt e with
    |some d=>match dg H d.size s,dg H d.size x with
     |some _,some []=>some (s,H)|some w,some B=>
      if w.length+B.length<=2147483648/\d.bytes<=4096/\0<d.bytes then
       (fP H s).map λH1=>(.hsl H.length d.size 0 (w.length+B.length),H1++[.row d.size (w++B)])
      else none
     |_,_=>none
    |none=>none
   |some (.slice e),some (.int _)=>match E.tt e with
    |some d=>mkApp H d.size d.bytes d.zero s x|none=>none
   |_,_=>none
  |_,_=>none
 |.call {callee:=.builtin .clear,args,argTypes}=>match argTypes[0]?,fe F args.toList with
  |some t,some [v]=>match E.kindOf t with
   |some (.slice e)=>match E.tt e with
    |some d=>Bu H d.size d.zero v|none=>none
   |_=>none
  |_,_=>none
 |_=>none
def kA:Zt->aY Zx
 |[]=>some []|[.int .u8 n]::r=>(kA r).map (n::·)|_=>none
def pN(l:Zx):Zq:=l.foldl (λr n=>r.push (UInt8.ofNat n.toNat)) ByteArray.empty
def evalConv(E:Env)(F:Zo)(H:bh)(op:Op):aY V:=
 match op with
 |.convert s d x=>match E.kindOf s,E.kindOf d,ev F x with
  |some (.slice e),some .str,some v=>match E.kindOf e with
   |some (.int .u8)=>(dg H 1 v).bind λu=>(kA u).map λl=>.str (pN l)|_=>none
  |_,_,_=>none
 |_=>none
def rD(E:Env)(F:Zo)(H:bh)(place:aY (Nat×Nat))(op:Op):aY V:=
 match bF E F op with
 |some v=>some v|none=>match place with
  |none=>evalConv E F H op|some _=>none
inductive Callee where
 |fn(f:FuncId)|yld(id:Nat)
def jk(F:Zo)(op:Op):aY (Callee×Zu):=
 match op with
 |.call {callee:=.value f,args,..}=>match ev F f,fe F args.toList with
  |some (.clo g a b),some u=>some (.fn g,a++u++b)|some (.yld id),some u=>some (.yld id,u)|_,_=>none
 |_=>none
inductive PM where
 |pure|read|alloc|loud|call
 deriving DecidableEq
def cz:Op->PM
 |.load ..|.lookup ..=>.read|.alloc ..|.box ..|.makeSlice ..|.buildSlice ..|.makeMap ..=>.alloc|.store ..|.mapUpdate ..|.insert ..=>.loud|.call {callee:=.builtin .append,..}=>.loud|.call {callee:=.builtin .clear,..}=>.loud|.call {callee:=.value _,..}=>.call|_=>.pure
def gR(f:V->aY V):Zu->aY Zu
 |[]=>some []|x::r=>match f x,gR f r with
  |some y,some s=>some (y::s)|_,_=>none
def kI(f:V->aY V):Zt->aY Zt
 |[]=>some []|x::r=>match gR f x,kI f r with
  |some y,some s=>some (y::s)|_,_=>none
def kG(f:V->aY V):aX (V×V)->aY (aX (V×V))
 |[]=>some []|(k,x)::r=>match f k,f x,kG f r with
  |some k,some y,some s=>some ((k,y)::s)|_,_,_=>none
def borrow:Nat->bh->V->aY V
 |0,_,x=>if x.closed then some x else none|n+1,H,x=>
  if x.closed then some x else
  match x with
  |.hsl id es off len=>match(H[id]?).bind Ob.rows with
   |some (B,xs)=>if B=es/\off+len<=xs.length then(kI (borrow n H) ((xs.drop off).take len)).map (.fsl es)else none|none=>none
  |.hptr id el off=>match(H[id]?).bind Ob.rows with
   |some (_,xs)=>match xs[el]?with
    |some cs=>if off<=cs.length then(gR (borrow n H) (cs.drop off)).map .fptr else none|none=>none
   |none=>none
  |.hmap id=>match H[id]?with
   |some (.map D)=>(kG (borrow n H) D).map .fmap|_=>none
  |.clo f a b=>match gR (borrow n H) a,gR (borrow n H) b with
   |some a,some b=>some (.clo f a b)|_,_=>none
  |.agg cs=>(gR (borrow n H) cs).map .agg|.tup cs=>(gR (borrow n H) cs).map .tup|_=>none
def borrows(n:Nat)(H:bh)(l:Zu):aY Zu:=gR (borrow n H) l
def cH(f:V->Zv):Zu->Zv
 |[]=>[]|x::r=>f x++cH f r
def bY:Nat->bh->V->Zv
 |0,_,_=>[]|n+1,H,x=>
  if x.closed then[]else
  match x with
  |.hsl id _ off len=>id::(match(H[id]?).bind Ob.rows with|some (_,xs)=>cH (bY n H) ((xs.drop off).take len).flatten|none=>[])|.hptr id el off=>id::(match(H[id]?).bind Ob.rows with|some (_,xs)=>cH (bY n H) (((xs[el]?).getD []).drop off)|none=>[])|.hmap id=>id::(match H[id]?with|some (.map B)=>cH (bY n H) (B.map (·.1))++cH (bY n H) (B.map (·.2))|_=>[])|.clo _ a b=>cH (bY n H) a++cH (bY n H) b|.agg cs=>cH (bY n H) cs|.tup cs=>cH (bY n H) cs|_=>[]
def tA(H:bh)(id:Nat):bh:=
 match H[id]?with
 |some (.row es u)=>H.set id (.frz es u)|some (.map _)=>H.set id .dead|_=>H
def cD(H:bh)(l:Zv):bh:=l.foldl tA H
structure di where
 lv:Nat
 go:Callee->List V->bh->Option (V×bh)
instance:CoeFun di λ_=>Callee->Zu->bh->aY (V×bh):=⟨di.go⟩
def iu(H:bh)(T:Zv):Zl:=T.all λid=>((H[id]?).bind Ob.rows).isSome
def bS(call:di)(f:Zk)(args:Zu)(H:bh):aY V:=
 match borrows call.lv H args with
 |some az=>match call (.fn f) az []with
  |some (r,H1)=>match borrow call.lv H1 r with
   |some y=>if y.closed then some y else none|none=>none
  |none=>none
 |none=>none
def rE(k:Nat)(H1:bh)(id es off len:Nat):aY (V×Ob):=
 match H1[id]?with
 |some (.row u w)=>if u=es/\(w.all λx=>x.all V.scalar)=true then some (.hsl k es off len,.row es w)else none|_=>none
def kX(call:di)(f:Zk)(args:Zu)(H:bh):aY (V×bh):=
 match borrows call.lv H args with
 |some az=>match call (.fn f) az []with
  |some (r,H1)=>
   if r.scalar then some (r,H)else
   match r with
   |.hsl id es off len=>(rE H.length H1 id es off len).map λ(v,ob)=>(v,H++[ob])|.tup (.hsl id es off len::rest)=>if V.cM rest then(rE H.length H1 id es off len).map λ(v,ob)=>(.tup (v::rest),H++[ob])else none|_=>none
  |none=>none
 |none=>none
def gf(E:Env)(call:di)(f:Zk)(args:Zu)(H:bh):aY (V×bh):=if E.own f then kX call f args H else call (.fn f) args H
def kg(e:Edge):Zl:=match e.ground with|.textOnly _|.gcOnly _=>false|_=>true
def CS(o:Oper)(i:Nat):Zl:=o.after.any λe=>e.on==i&&kg e
def Gv(a:aX Zv)(o:Oper):Zv:=(o.after.toList.filter kg).foldl (λl e=>(e.on::(a[e.on]?).getD []).foldl (λl k=>if l.contains k then l else k::l) l) []
def Gq(ops:Zz):aX Zv:=ops.foldl (λa o=>a++[Gv a o]) []
def before(ops:Zz)(i k:Nat):Zl:=(((Gq ops)[i]?).getD []).contains k
def isApp:Op->Zl
 |.call {callee:=.builtin .append,..}=>true|_=>false
def dn(ops:Zz)(i:Nat):Zl:=
 match ops[i]?with
 |some o=>(range ops.length).all λk=>match ops[k]?with
  |some p=>k==i||cz p.op==.pure||(if k<i then before ops i k else before ops k i)||(isApp o.op&&cz p.op==.alloc&&decide (i<k))|none=>true
 |none=>false
def dstsOf(ops:Zz):Zv:=ops.filterMap (·.dst)
def qq(ops:Zz)(i k:Nat):Zl:=if k<i then before ops i k else before ops k i
def Eu(g:Zl)(ops:Zz)(i k:Nat):aY Zv:=
 match ops[k]?with
 |some p=>
  if k==i||cz p.op==.pure||qq ops i k then some []else
  match p.op with
  |.load _ (.tmp a)=>if(dstsOf ops).contains a then some []else some [a]|o=>if g&&(cz o==.alloc||cz o==.call)then some []else none
 |none=>some []
def AA(g:Zl)(ops:Zz)(i:Nat):Zv->aY Zv
 |[]=>some []|k::r=>match Eu g ops i k,AA g ops i r with
  |some a,some b=>some (a++b)|_,_=>none
def qB(g:Zl)(ops:Zz)(i:Nat):aY (Nat×Zv):=
 match(ops[i]?).map Oper.op with
 |some (.store _ (.tmp a) _)=>if(dstsOf ops).contains a then none else(AA g ops i (range ops.length)).map λl=>(a,l)|_=>none
def mO(id:Nat):V->Zl
 |.hptr B _ _=>B != id|.fptr _=>true|_=>false
def oK(ops:Zz)(i:Nat)(F:Zo):Zl:=
 match qB false ops i with
 |some (a,l)=>match get F a with
  |.hptr id _ _=>l.all λs=>mO id (get F s)|_=>false
 |none=>false
def qA(ops:Zz)(b i:Nat)(F:Zo):Zl:=
 match qB true ops i with
 |some (a,l)=>match get F a with
  |.hptr id _ _=>decide (id<b)&&l.all λs=>mO id (get F s)|_=>false
 |none=>false
def EG(ops:Zz)(k:Nat):Zl:=(range ops.length).any λi=> !qq ops i k&&(qB true ops i).isSome
def uL(ops:Zz)(place:aY (Nat×Nat))(args:Zu):Zl:=match place with|some (_,i)=> !EG ops i||V.gN args|none=>true
def oh(ops:Zz)(k a':Nat):Zv:=
 if(dstsOf ops).contains a' then(range ops.length).filterMap λi=>match(ops[i]?).map Oper.op with
  |some (.store _ (.tmp a) _)=>if qq ops i k||(dstsOf ops).contains a then none else some a|_=>none
 else[]
def mV(ops:Zz)(k:Nat)(F:Zo)(op:Op):Zl:=
 match op with
 |.load _ (.tmp u)=>(oh ops k u).all λa=>match get F a with
  |.hptr id _ _=>mO id (get F u)|_=>true
 |_=>true
def yY(d:Nat)(op:Op):Zl:=op.operands.any λx=>match x with|.tmp t=>t==d|_=>false
def Nc(d:Nat):Op->Zl
 |.call {callee:=.builtin .append,args,..}=>match args.toList with
  |.tmp t::r=>t==d&&r.all λx=>match x with|.tmp t=>t != d|_=>true
  |_=>false
 |_=>false
def zD(ops:Zz)(i:Nat):Zl:=
 match ops[i]?with
 |some o=>match o.op,o.dst with
  |.makeSlice ..,some d=>(ops.any λp=>yY d p.op)&&ops.all λp=> !yY d p.op||cz p.op==.call|.buildSlice _ len ps,some d=>len==0&&ps.size==0&&((range ops.length).any λk=>match ops[k]?with|some p=>yY d p.op&& !dn ops k|none=>false)&&ops.all λp=> !yY d p.op||Nc d p.op|_,_=>false
 |none=>false
def ON(E:Env)(ops:Zz)(i:Nat):Zl:=
 match ops[i]?with
 |some o=>match o.op,o.dst with
  |.buildSlice t len _,some d=>decide (0<len)&&(match E.kindOf t with
   |some (.slice e)=>(match E.kindOf e with|some .bool|some (.int _)|some .str=>true|_=>false)|_=>false)&&(ops.any λp=>yY d p.op)&&ops.all λp=> !yY d p.op||cz p.op==.call
  |_,_=>false
 |none=>false
def BD(E:Env)(ops:Zz)(i:Nat):Zl:=zD ops i||ON E ops i
def mw(E:Env)(ops:Zz):aY (Nat×Nat)->Zl
 |some (_,i)=>BD E ops i|none=>false
def jX(E:Env)(ops:Zz)(place:aY (Nat×Nat))(f:Zk):Zl:=E.keep f&&(match place with|none=>true|some (_,i)=>dn ops i|| !E.own f)
def ve(ops:Zz)(i:Nat):Zl:=
 match ops[i]?with
 |some o=>isApp o.op&&(range ops.length).all λk=>match ops[k]?with
  |some p=>k==i||cz p.op==.pure||qq ops i k||cz p.op==.read||(cz p.op==.alloc&&(zD ops k||decide (i<k)))|none=>true
 |none=>false
def oH(F:Zo):Op->Zl
 |.call {callee:=.builtin .append,args,..}=>match args.toList with
  |x::_=>match ev F x with|some .c7|some .bD=>true|_=>false
  |_=>false
 |_=>false
def xR(ops:Zz)(i b:Nat)(F:Zo)(H:bh)(op:Op):Zl:=ve ops i&&(isApp op&&oH F op&&decide (b<=H.length))
def dI(E:Env)(call:di)(ops:Zz)(place:aY (Nat×Nat))(f:Zk)(args:Zu)(H:bh):aY (V×bh):=
 if jX E ops place f then
  match place with
  |none=>gf E call f args H|some (_,i)=>if dn ops i then gf E call f args H else none
 else match place with
  |none=>match bS call f args H with
   |some y=>some (y,if y.scalar then H else cD H (cH (bY call.lv H) args))|none=>none
  |some (b,i)=>match bS call f args (H.take b)with
   |some y=>if y.scalar then some (y,H)else if iu (H.take b) (cH (bY call.lv (H.take b)) args)then some (y,cD H (cH (bY call.lv (H.take b)) args))else none|none=>if dn ops i then match bS call f args H with
    |some y=>some (y,if y.scalar then H else cD H (cH (bY call.lv H) args))|none=>none
    else none
def cE(E:Env)(call:di)(ops:Zz)(place:aY (Nat×Nat))(F:Zo)(H:bh)(op:Op):aY (V×bh):=
 match cz op with
 |.pure=>(rD E F H place op).map λv=>(v,H)|.read=>match place with
  |none=>(dD E F H op).map λv=>(v,H)|some (b,i)=>if mV ops i F op then match dD E F (H.take b) op with
   |some v=>some (v,H)|none=>if dn ops i then(dD E F H op).map λv=>(v,H)else none
   else none
 |.alloc=>if mw E ops place then(nY E F op).map λv=>(v,H)else match ey E F op,place with
  |some (ob,m),none=>some (m.val H.length,H++[ob])|some (ob,m),some (b,i)=>match H[b+i]?with
   |some .free=>some (m.val (b+i),H.set (b+i) ob)|_=>none
  |none,_=>none
 |.loud=>match place with
  |none=>cq E F H op|some (b,i)=>if dn ops i||oK ops i F||qA ops b i F||xR ops i b F H op then cq E F H op else none
 |.call=>match jk F op with
  |some (.fn f,args)=>if uL ops place args then dI E call ops place f args H else none|some (.yld id,args)=>match place with
   |none=>call (.yld id) args H|some (_,i)=>if dn ops i then call (.yld id) args H else none
  |none=>none
def jl(n:Nat)(F:Zo)(dst:aY Nat)(v:V):aY Zo:=
 match dst with
 |none=>some F|some d=>if d<n then some (set F d v)else none
def fA(ops:Zz)(F:Zo)(o:Oper):Zl:=
 match o.guard with
 |none=>true|some (j,b)=>match(ops[j]?).bind (·.dst)with
  |some d=>match get F d with
   |.bool c=>c==b|_=>false
  |none=>false
def fT(E:Env)(call:di)(n:Nat)(ops:Zz)(place:aY (Nat×Nat))(o:Oper)(F:Zo)(H:bh):aY (Zo×bh):=
 if fA ops F o then
  match cE E call ops place F H o.op with
  |some (v,H')=>(jl n F o.dst v).map λF'=>(F',H')|none=>none
 else(jl n F o.dst .undef).map λF'=>(F',H)
def lu(E:Env)(call:di)(n:Nat)(ops:Zz):Zz->Zo->bh->aY (Zo×bh)
 |[],F,H=>some (F,H)|o::r,F,H=>match fT E call n ops none o F H with
  |some (F',H')=>lu E call n ops r F' H'|none=>none
def jm(E:Env)(call:di)(n:Nat)(ops:Zz)(base:Nat):Zv->Zo->bh->aY (Zo×bh)
 |[],F,H=>some (F,H)|i::r,F,H=>match ops[i]?with
  |some o=>match fT E call n ops (some (base,i)) o F H with
   |some (F',H')=>jm E call n ops base r F' H'|none=>none
  |none=>none
def tmpsOf(o:Oper)(ops:Zz):Zv:=
 (o.op.operands.toList.filterMap λ|.tmp t=>some t|_=>none)++
 (match o.guard with|some (g,_)=>((ops[g]?).bind (·.dst)).toList|none=>[])
def vM(ops:Zz)(a b:Oper):Zl:=
 (match a.dst with|some d=> !(tmpsOf b ops).contains d&&b.dst != some d|none=>true)&&
 (match b.dst with|some d=> !(tmpsOf a ops).contains d|none=>true)
def uD(ops:Zz):Zl:=
 (range ops.length).all λj=>(range j).all λi=>
  match ops[i]?,ops[j]?with
  |some a,some b=>CS b i||vM ops a b|_,_=>false
def yI(ops:Zz):Zl:=
 (range ops.length).all λj=>match ops[j]?with
  |some o=>o.after.all λe=> !kg e||decide (e.on<j)|none=>true
def qv(ops:Zz):Zl:=ops.any λo=>cz o.op==.alloc
def jb(E:Env)(call:di)(n:Nat)(ops:Zz)(B:Zl)(F:Zo)(H:bh):aY (Zo×bh):=if B then if uD ops&&yI ops then jm E call n ops H.length (range ops.length) F (if qv ops then H++replicate ops.length .free else H)else none else lu E call n ops ops F H
def jQ(step:Zo->bh->aY (Out×Zo×bh)):Nat->Zo->bh->aY (Out×Zo×bh)
 |0,_,_=>none|k+1,F,H=>match step F H with
  |some (.norm,F',H')=>jQ step k F' H'|r=>r
def lJ:Out->aY Code
 |.norm=>none|.ret=>some .ret|.exit id=>some (.exit id)
def exec(E:Env)(call:di)(lf:Nat)(ro:Zl)(n:Nat):Code->Zo->bh->aY (Out×Zo×bh)
 |.skip,F,H=>some (.norm,F,H)|.label _,F,H=>some (.norm,F,H)|.region _ ops B,F,H=>(jb E call n ops.toList B F H).map λ(F',H')=>(.norm,F',H')|.seq a b,F,H=>match exec E call lf ro n a F H with
  |some (.norm,F',H')=>exec E call lf ro n b F' H'|r=>r
 |.cond c x y,F,H=>match ev F c with
  |some (.bool t)=>if t then exec E call lf ro n x F H else exec E call lf ro n y F H|_=>none
 |.block id c,F,H=>match exec E call lf ro n c F H with
  |some (.exit D,F',H')=>if D=id then some (.norm,F',H')else some (.exit D,F',H')|r=>r
 |.loop c,F,H=>jQ (exec E call lf ro n c) lf F H|.rangeFunc g ps assign body,F,H=>match ro,ev F g with
  |false,some (.clo f a b)=>
   match call (.fn f) (a++.yld H.length::b) (H++[.loop ⟨.ready,none,F,n,ps.toList,assign,body⟩])with
   |some (_,H')=>match H'[H.length]?with
    |some (.loop r)=>match r.st with
     |.busy=>none|_=>some (r.pend.getD .norm,F,H'.set H.length .dead)
    |_=>none
   |none=>none
  |_,_=>none
 |.exit id,F,H=>some (.exit id,F,H)|.ret,F,H=>some (.ret,F,H)|_,_,_=>none
def gX(E:Env)(F:Zo)(H:bh):aX ResultVar->aY Zu
 |[]=>some []|.tmp t::r=>(gX E F H r).map (get F t::·)|.cell a t::r=>match E.tt t,gX E F H r with
  |some d,some vs=>((dZ H (get F a) d.size).bind (mk d.agg)).map (·::vs)|_,_=>none
def result:Zu->V
 |[v]=>v|vs=>.tup vs
def vQ:Zv->Zu->Zo->Zo
 |t::B,v::vs,F=>vQ B vs (set F t v)|_,_,F=>F
def Gc{α:Type}[Inhabited α](lt:α->α->Zl):Nat->Nat->Array α->Array α
 |0,_,d=>d|k+1,i,d=>Gc lt k (i+1) (Sort.insInner lt 0 i d)
def o8(n:Nat)(lt:Fin (n+1)->Fin (n+1)->Zl):Array (Fin (n+1)):=if n<12 then Gc lt n 1 (finRange (n+1)).toArray else Sort.pdq lt (finRange (n+1)).toArray 0 (n+1) (Lib.bitLen (n+1)) true true
def iE(call:di)(g:Zk)(D B:Zu)(n:Nat)(i j:Fin (n+1)):Z6:=
 match D[i.1]?,D[j.1]?with
 |some a,some b=>match bS call g (a::b::B) []with
  |some (.int .i64 c)=>some c|_=>none
 |_,_=>none
def n_{n:Nat}(t:Fin (n+1)->Fin (n+1)->Z6)(i j:Fin (n+1)):Zl:=decide ((t i j).getD 0<0)
def za{n:Nat}(t:Fin (n+1)->Fin (n+1)->Z6):Zl:=
 let l:=finRange (n+1)
 l.all λi=> !n_ t i i&&l.all λj=>(t i j).isSome&&l.all λk=>(!(n_ t i j&&n_ t j k)||n_ t i k)&&((n_ t i j||n_ t j k)|| !n_ t i k)
def qe(xs:Zt)(off n:Nat)(l:aX (Fin (n+1))):Zt:=xs.take off++l.map (λi=>(xs[off+i.1]?).getD [])++xs.drop (off+(n+1))
def oV(keep:Zk->Zl)(call:di)(args:Zu)(H:bh):aY (V×bh):=
 match args with
 |[s,c]=>match s with
  |.bD|.c7=>some (.undef,H)|.hsl id es off len=>match len,c with
   |0,_=>some (.undef,H)|n+1,.clo g [] cb=>match H[id]?with
    |some (.row w z)=>if es=1/\w=1/\off+(n+1)<=z.length/\n<2147483648/\keep g=false then
     match borrows call.lv (H.set id .dead) ((z.drop off).take (n+1)).flatten,borrows call.lv (H.set id .dead) cb with
     |some B,some u=>if za (iE call g B u n)then some (.undef,H.set id (.row 1 (qe z off n (o8 n (n_ (iE call g B u n))).toList)))else none|_,_=>none
     else none
    |_=>none
   |_,_=>none
  |_=>none
 |_=>none
def jo(E:Env)(c:di)(n:Nat):Callee->Zu->bh->aY (V×bh)
 |.fn f,args,H=>match E.ft f with
  |some fi=>if args.length<=fi.ntmps then
   match exec E c n false fi.ntmps fi.body args H with
   |some (.exit _,_,_)=>none|some (_,F',H')=>(gX E F' H' fi.results).map λvs=>(result vs,H')|none=>none
   else none
  |none=>if E.sort f then oV E.keep c args H else(E.known f args).map λy=>(y,H)
 |.yld id,args,H=>match H[id]?with
  |some (.loop r)=>match r.st with
   |.ready=>if args.length=r.params.length/\r.params.all (·<r.nt)then
    match exec E c n true r.nt r.assign (vQ r.params args r.frame) H with
    |some (.norm,D,H2)=>match H2[id]?with
     |some (.loop r2)=>match r2.st with
      |.ready=>match exec E c n true r.nt r.body D (H2.set id (.loop {r2 with st:=.busy}))with
       |some (o,_,B)=>match B[id]?with
        |some (.loop r4)=>some (.bool (o==.norm),B.set id (.loop {r4 with st:=(if o==.norm then .ready else .done),pend:=(if o==.norm then none else some o)}))|_=>none
       |none=>none
      |_=>none
     |_=>none
    |_=>none
    else none
   |_=>none
  |_=>none
def run(E:Env):Nat->di
 |0=>⟨0,λ_ _ _=>none⟩|n+1=>⟨n+1,jo E (run E n) n⟩
def EB{E:Env}{n:Nat}{x:Callee}{a:Zu}{H:bh}:run E (n+1) x a H=jo E (run E n) n x a H:=rfl
end Go.VE
namespace Go.VE
variable[bL]
@[simp] def get_nil(i:Nat):get [] i=.undef:=by cases i<;>rfl
@[simp] def rz(F:Zo)(i:Nat)(v:V):get (set F i v) i=v:=by
 induction F generalizing i with
 |nil=>induction i with
  |zero=>rfl|succ i u=>grind[set,get]
 |cons x r u=>cases i with
  |zero=>rfl|succ i=>grind[set,get]
theorem iQ(F:Zo){i j:Nat}(v:V)(h:i≠j):get (set F i v) j=get F j:=by
 induction F generalizing i j with
 |nil=>
  induction i generalizing j with
  |zero=>cases j with
   |zero=>grind|succ j=>simp[set,get]
  |succ i u=>cases j with
   |zero=>simp[set,get]|succ j=>grind[set,get]
 |cons x r u=>cases i with
  |zero=>cases j with
   |zero=>grind|succ j=>simp[set,get]
  |succ i=>cases j with
   |zero=>simp[set,get]|succ j=>grind[set,get]
def EH(F:Zo){i j:Nat}(u v:V)(h:i≠j):set (set F i u) j v=set (set F j v) i u:=by
 induction F generalizing i j with
 |nil=>
  induction i generalizing j with
  |zero=>cases j with
   |zero=>grind|succ j=>simp[set]
  |succ i w=>cases j with
   |zero=>simp[set]|succ j=>grind[set]
 |cons x r w=>cases i with
  |zero=>cases j with
   |zero=>grind|succ j=>simp[set]
  |succ i=>cases j with
   |zero=>simp[set]|succ j=>grind[set]
inductive IC where
 |cells(c:Array Value)|map(es:Array MapEntry)
abbrev b_:=Nat->aY IC
def IC.at(x:IC)(w:World)(b:Nat):Prop:=
 match x with
 |.cells c=>∃el fr,w.heap[b]?=some (.cells c el fr)|.map es=>∃a,w.heap[b]?=some (.map es a)
def b_.le(I I':b_):Prop:=∀b x,I b=some x->I' b=some x
def b_.le_refl(I:b_):b_.le I I:=λ_ _ h=>h
def b_.le_trans{I J K:b_}(h:b_.le I J)(B:b_.le J K):b_.le I K:=λb x e=>B b x (h b x e)
inductive dX(I:b_):V->Value->Prop
 |bool(b:Bool):dX I (.bool b) (.bool b)|int(k:IntKind)(n:Int):dX I (.int k n) (.int k n)|str(s:ByteArray):dX I (.str s) (.string s)|c7(a:Option Addr):dX I .c7 (.slice a 0 0)|bD:dX I .bD (.slice none 0 0)|fsl0(es:Nat)(a:Addr)(cap:Nat):dX I (.fsl es []) (.slice (some a) 0 cap)|fsl(es:Nat)(xs:List (List V))(b o cap:Nat)(c:Array Value)(hI:I b=some (.cells c))(hc:xs.length<=cap)
  (hu:∀x∈xs,x.length=es) (ho:∀x∈xs,∀y∈x,V.one y=true) (hb:o+xs.length*es<=c.size)
  (hr:∀(i j:Nat)x y v,xs[i]?=some x->x[j]?=some y->c[o+i*es+j]?=some v->dX I y v):
  dX I (.fsl es xs) (.slice (some ⟨b,o,none⟩) xs.length cap)
 |gL:dX I .gL (.pointer none)|fptr(cs:List V)(b o:Nat)(c:Array Value)(hI:I b=some (.cells c))(hb:o+cs.length<=c.size)
  (hr:∀(j:Nat)y v,cs[j]?=some y->c[o+j]?=some v->dX I y v):dX I (.fptr cs) (.pointer (some ⟨b,o,none⟩))
 |clo(f:FuncId)(x y:List V)(u v:Array Value)(hx:x.length=u.size)(hy:y.length=v.size)
  (h1:∀(j:Nat)a b,x[j]?=some a->u[j]?=some b->dX I a b) (h2:∀(j:Nat)a b,y[j]?=some a->v[j]?=some b->dX I a b):
  dX I (.clo f x y) (.func (.func f) u v)
 |f_:dX I .f_ (.map none)|qK:dX I .qK .nilFunc|fmap(kvs:List (V×V))(b:Nat)(es:Array MapEntry)(hI:I b=some (.map es))(hl:kvs.length=es.size)
  (hk:∀(j:Nat)p e,kvs[j]?=some p->es[j]?=some e->dX I p.1 e.key)
  (hv:∀(j:Nat)p e,kvs[j]?=some p->es[j]?=some e->dX I p.2 e.val):dX I (.fmap kvs) (.map (some b))
 |agg(cs:List V)(vs:Array Value)(hl:cs.length=vs.size)(h:∀(j:Nat)a b,cs[j]?=some a->vs[j]?=some b->dX I a b):
  dX I (.agg cs) (.agg vs)
 |tup(cs:List V)(vs:Array Value)(hl:cs.length=vs.size)(h:∀(j:Nat)a b,cs[j]?=some a->vs[j]?=some b->dX I a b):
  dX I (.tup cs) (.tuple vs)
structure Pl where
 b:Nat
 o:Nat
 es:Nat
 sz:Nat
abbrev Mu:=Nat->aY Pl
inductive bC(I:b_)(μ:Mu):V->Value->Prop
 |c(x:V)(v:Value)(h:dX I x v):bC I μ x v|hsl(id off len cap:Nat)(p:Pl)(hm:μ id=some p)(hc:len<=cap)(hb:p.o+(off+cap)*p.es<=p.sz):
  bC I μ (.hsl id p.es off len) (.slice (some ⟨p.b,p.o+off*p.es,none⟩) len cap)
 |hsl0(id es off:Nat)(a:Addr):bC I μ (.hsl id es off 0) (.slice (some a) 0 0)|hptr(id el off:Nat)(p:Pl)(hm:μ id=some p):bC I μ (.hptr id el off) (.pointer (some ⟨p.b,p.o+el*p.es+off,none⟩))|yld(id:Nat)(p:Pl)(hm:μ id=some p):bC I μ (.yld id) (.func (.yield p.b) #[] #[])|hmap(id:Nat)(p:Pl)(hm:μ id=some p):bC I μ (.hmap id) (.map (some p.b))|clo(f:FuncId)(x y:List V)(u v:Array Value)(hx:x.length=u.size)(hy:y.length=v.size)
  (h1:∀(j:Nat)a b,x[j]?=some a->u[j]?=some b->bC I μ a b) (h2:∀(j:Nat)a b,y[j]?=some a->v[j]?=some b->bC I μ a b):
  bC I μ (.clo f x y) (.func (.func f) u v)
 |agg(cs:List V)(vs:Array Value)(hl:cs.length=vs.size)(h:∀(j:Nat)a b,cs[j]?=some a->vs[j]?=some b->bC I μ a b):
  bC I μ (.agg cs) (.agg vs)
 |tup(cs:List V)(vs:Array Value)(hl:cs.length=vs.size)(h:∀(j:Nat)a b,cs[j]?=some a->vs[j]?=some b->bC I μ a b):
  bC I μ (.tup cs) (.tuple vs)
def Mu.le(μ μ':Mu):Prop:=∀id p,μ id=some p->μ' id=some p
def Mu.le_refl(μ:Mu):Mu.le μ μ:=λ_ _ h=>h
def dX.mono{I I':b_}(h:b_.le I I'){x:V}{v:Zp}(r:dX I x v):dX I' x v:=by induction r with|bool b=>exact .bool b|int k n=>exact .int k n|str s=>exact .str s|c7 a=>exact .c7 a|bD=>exact .bD|fsl0 es a cap=>exact .fsl0 es a cap|fsl es Q b o cap c C hc hu S J _ w=>exact .fsl es Q b o cap c (h _ _ C) hc hu S J w|gL=>exact .gL|fptr D b o c C J _ w=>exact .fptr D b o c (h _ _ C) J w|clo f x y u v T U _ _ z B=>exact .clo f x y u v T U z B|f_=>exact .f_|qK=>exact .qK|fmap L b es C G _ _ z B=>exact .fmap L b es (h _ _ C) G z B|agg D O G _ w=>exact .agg D O G w|tup D O G _ w=>exact .tup D O G w
def bC.mono{I I':b_}{μ μ':Mu}(h:b_.le I I')(B:Mu.le μ μ'){x:V}{v:Zp}(r:bC I μ x v):bC I' μ' x v:=by induction r with|c x v r=>exact .c _ _ (r.mono h)|hsl id off len cap p w hc O=>exact .hsl id off len cap p (B _ _ w) hc O|hsl0 id es off a=>exact .hsl0 id es off a|hptr id el off p w=>exact .hptr id el off p (B _ _ w)|yld id p w=>exact .yld id p (B _ _ w)|hmap id p w=>exact .hmap id p (B _ _ w)|clo f x y u v Q S _ _ z C=>exact .clo f x y u v Q S z C|agg D G J _ L=>exact .agg D G J L|tup D G J _ L=>exact .tup D G J L
def cr(I:b_)(μ:Mu)(xs:Zu)(vs:aX Zp):Prop:=xs.length=vs.length/\∀(j:Nat)a b,xs[j]?=some a->vs[j]?=some b->bC I μ a b
def cr.nil{I:b_}{μ:Mu}:cr I μ [] []:=⟨rfl,Zc⟩
def cr.cons{I:b_}{μ:Mu}{x:V}{v:Zp}{xs:Zu}{vs:aX Zp}(h:bC I μ x v)(r:cr I μ xs vs):cr I μ (x::xs) (v::vs):=by refine⟨by simp[r.1],?_⟩;intro j a b c u;cases j with|zero=>grind|succ j=>exact r.2 j a b Zd Zd
def cr.cons_inv{I:b_}{μ:Mu}{x:V}{xs:Zu}{B:aX Zp}(r:cr I μ (x::xs) B):∃v vs,B=v::vs/\bC I μ x v/\cr I μ xs vs:=by have⟨u,h⟩:=r;cases B with|nil=>simp_all|cons v vs=>refine⟨v,vs,rfl,h 0 x v Zc Zc,Zd,?_⟩;intro j a b c w;exact h (j+1) a b Zd Zd
def cr.uw{I:b_}{μ:Mu}{B:aX Zp}(r:cr I μ [] B):B=[]:=by have:=r.1;grind
def cr.append{I:b_}{μ:Mu}{xs ys:Zu}{B vs:aX Zp}(h:cr I μ xs B)(D:cr I μ ys vs):cr I μ (xs++ys) (B++vs):=by induction xs generalizing B with|nil=>rw[cr.uw h];exact D|cons x xs u=>obtain⟨v,B,rfl,a,b⟩:=h.cons_inv;exact .cons a (u b)
def cr.mono{I I':b_}{μ μ':Mu}(h:b_.le I I')(B:Mu.le μ μ'){xs:Zu}{vs:aX Zp}(r:cr I μ xs vs):cr I' μ' xs vs:=⟨r.1,λj a b c u=>(r.2 j a b c u).mono h B⟩
def cr.take{I:b_}{μ:Mu}{xs:Zu}{vs:aX Zp}(r:cr I μ xs vs)(n:Nat):cr I μ (xs.take n) (vs.take n):=by refine⟨by simp[r.1],λj a b c u=>?_⟩;rw[getElem?_take]at c u;split at c<;>simp_all;exact r.2 j a b c u
def cr.drop{I:b_}{μ:Mu}{xs:Zu}{vs:aX Zp}(r:cr I μ xs vs)(n:Nat):cr I μ (xs.drop n) (vs.drop n):=by refine⟨by simp[r.1],λj a b c u=>?_⟩;rw[getElem?_drop]at c u;exact r.2 _ a b c u
def bC.cells{I:b_}{μ:Mu}{x:V}{v:Zp}(r:bC I μ x v):cr I μ x.cells v.cells.toList:=by
 cases r with
 |c x v h=>cases h with|agg w C z h=>exact⟨by grind[V.cells,Value.cells],λj a b d D=>.c _ _ (h j a b d (by grind[Value.cells]))⟩|bool b=>exact .cons (.c _ _ (.bool b)) .nil|int k n=>exact .cons (.c _ _ (.int k n)) .nil|str s=>exact .cons (.c _ _ (.str s)) .nil|c7 a=>exact .cons (.c _ _ (.c7 a)) .nil|bD=>exact .cons (.c _ _ .bD) .nil|fsl0 es a cap=>exact .cons (.c _ _ (.fsl0 es a cap)) .nil|fsl es S b o cap c G hc hu T J hr=>exact .cons (.c _ _ (.fsl es S b o cap c G hc hu T J hr)) .nil|gL=>exact .cons (.c _ _ .gL) .nil|fptr w b o c G J hr=>exact .cons (.c _ _ (.fptr w b o c G J hr)) .nil|clo f x y u v L O d D=>exact .cons (.c _ _ (.clo f x y u v L O d D)) .nil|f_=>exact .cons (.c _ _ .f_) .nil|qK=>exact .cons (.c _ _ .qK) .nil|fmap Q b es G z hk hv=>exact .cons (.c _ _ (.fmap Q b es G z hk hv)) .nil|tup w C z h=>exact .cons (.c _ _ (.tup w C z h)) .nil
 |hsl id off len cap p B hc J=>exact .cons (.hsl id off len cap p B hc J) .nil|hsl0 id es off a=>exact .cons (.hsl0 id es off a) .nil|hptr id el off p B=>exact .cons (.hptr id el off p B) .nil|yld id p B=>exact .cons (.yld id p B) .nil|hmap id p B=>exact .cons (.hmap id p B) .nil|clo f x y u v L O d D=>exact .cons (.clo f x y u v L O d D) .nil|agg w C z h=>exact⟨by grind[V.cells,Value.cells],λj a b d D=>h j a b d (by grind[Value.cells])⟩|tup w C z h=>exact .cons (.tup w C z h) .nil
def bC.El{I:b_}{μ:Mu}{cs:Zu}{vs:Array Zp}(h:cr I μ cs vs.toList):bC I μ (.agg cs) (.agg vs):=.agg cs vs (by simpa using h.1) λj a b c u=>h.2 j a b c Zd
def bC.PJ{I:b_}{μ:Mu}{cs:Zu}{vs:Array Zp}(h:cr I μ cs vs.toList):bC I μ (.tup cs) (.tuple vs):=.tup cs vs (by simpa using h.1) λj a b c u=>h.2 j a b c Zd
section inv
variable{I:b_}{μ:Mu}
def bC.qp{b:Zl}{v:Zp}(h:bC I μ (.bool b) v):v=.bool b:=by cases h with|c _ _ h=>cases h;rfl
def bC.eV{k:Zs}{n:Int}{v:Zp}(h:bC I μ (.int k n) v):v=.int k n:=by cases h with|c _ _ h=>cases h;rfl
def bC.r_{s:Zq}{v:Zp}(h:bC I μ (.str s) v):v=.string s:=by cases h with|c _ _ h=>cases h;rfl
def bC.qD{v:Zp}(h:bC I μ .c7 v):∃a,v=.slice a 0 0:=by cases h with|c _ _ h=>cases h;grind
def bC.kW{es:Nat}{xs:Zt}{v:Zp}(h:bC I μ (.fsl es xs) v):dX I (.fsl es xs) v:=by cases h with|c _ _ h=>omega
def bC.lB{cs:Zu}{v:Zp}(h:bC I μ (.fptr cs) v):∃b o c,v=.pointer (some ⟨b,o,none⟩)/\I b=some (.cells c)/\o+cs.length<=c.size/\
 (∀(j:Nat)y u,cs[j]?=some y->c[o+j]?=some u->dX I y u):=by
 cases h with|c _ _ h=>cases h with|fptr cs b o c w z hr=>grind
def bC.kU{v:Zp}(h:bC I μ .bD v):v=.slice none 0 0:=by cases h with|c _ _ h=>cases h;rfl
def bC.NZ{v:Zp}(h:bC I μ .f_ v):v=.map none:=by cases h with|c _ _ h=>cases h;rfl
def bC.sD{id el off:Nat}{v:Zp}(h:bC I μ (.hptr id el off) v):∃p,μ id=some p/\v=.pointer (some ⟨p.b,p.o+el*p.es+off,none⟩):=by cases h with|c _ _ h=>cases h|hptr _ _ _ p u=>grind
def bC.QE{id:Nat}{v:Zp}(h:bC I μ (.yld id) v):∃p,μ id=some p/\v=.func (.yield p.b) #[] #[]:=by cases h with|c _ _ h=>cases h|yld _ p u=>grind
def bC.AT{id:Nat}{v:Zp}(h:bC I μ (.hmap id) v):∃p,μ id=some p/\v=.map (some p.b):=by cases h with|c _ _ h=>cases h|hmap _ p u=>grind
def bC.kZ{id es off len:Nat}{v:Zp}(h:bC I μ (.hsl id es off len) v):
 (∃p b,μ id=some p/\p.es=es/\len<=b/\p.o+(off+b)*es<=p.sz/\v=.slice (some ⟨p.b,p.o+off*es,none⟩) len b)\/(len=0/\∃a,v=.slice (some a) 0 0):=by
 cases h with
 |c _ _ h=>cases h|hsl _ _ _ b p u hc w=>simp_all|hsl0 _ _ _ a=>grind
def bC.h_{cs:Zu}{v:Zp}(h:bC I μ (.agg cs) v):∃vs,v=.agg vs/\cr I μ cs vs.toList:=by
 cases h with
 |c _ _ h=>cases h with|agg _ vs u h=>exact⟨vs,rfl,Zd,λj a b d w=>.c _ _ (h j a b d Zd)⟩
 |agg _ vs u h=>exact⟨vs,rfl,Zd,λj a b d w=>h j a b d Zd⟩
def bC.oT{cs:Zu}{v:Zp}(h:bC I μ (.tup cs) v):∃vs,v=.tuple vs/\cr I μ cs vs.toList:=by
 cases h with
 |c _ _ h=>cases h with|tup _ vs u h=>exact⟨vs,rfl,Zd,λj a b d w=>.c _ _ (h j a b d Zd)⟩
 |tup _ vs u h=>exact⟨vs,rfl,Zd,λj a b d w=>h j a b d Zd⟩
def bC.jy{f:Zk}{x y:Zu}{v:Zp}(h:bC I μ (.clo f x y) v):∃a b,v=.func (.func f) a b/\cr I μ x a.toList/\cr I μ y b.toList:=by
 cases h with
 |c _ _ h=>cases h with
  |clo _ _ _ u v z B h1 w=>exact⟨u,v,rfl,⟨Zd,λj a b p q=>.c _ _ (h1 j a b p Zd)⟩,⟨Zd,λj a b p q=>.c _ _ (w j a b p Zd)⟩⟩
 |clo _ _ _ u v z B h1 w=>exact⟨u,v,rfl,⟨Zd,λj a b p q=>h1 j a b p Zd⟩,⟨Zd,λj a b p q=>w j a b p Zd⟩⟩
def bC.of_bool{x:V}{b:Zl}(h:bC I μ x (.bool b)):x=.bool b:=by cases h with|c _ _ h=>cases h;rfl
end inv
def s7(I:b_):Prop:=∀g u,bL.gl g=some u->dX I (.fptr u) (.pointer (some ⟨g,0,none⟩))
def s7.mono{I I':b_}(h:b_.le I I')(r:s7 I):s7 I':=λg u a=>(r g u a).mono h
structure dS(I:b_)(μ:Mu)(n:Nat)(F:Frame)(tmps:Array Value):Prop where
 size:tmps.size=n
 rel:∀t,bC I μ (get F t) (tmps.getD t undef)
 gl:s7 I
theorem bC.undef(I:b_)(μ:Mu):bC I μ .undef Go.undef:=.c _ _ (.tup [] #[] rfl Zc)
def dS.mono{I I':b_}{μ μ':Mu}{n:Nat}{F:Zo}{tmps:Array Zp}(h:b_.le I I')(B:Mu.le μ μ')(r:dS I μ n F tmps):dS I' μ' n F tmps:=⟨r.1,λt=>(r.2 t).mono h B,r.gl.mono h⟩
def dS.put{I:b_}{μ:Mu}{n:Nat}{F F':Zo}{a:Act}{dst:aY Nat}{x:V}{v:Zp}(r:dS I μ n F a.tmps)(h:bC I μ x v)
 (B:jl n F dst x=some F'):dS I μ n F' (a.put dst v).tmps:=by
 cases dst with
 |none=>simp[jl]at B;subst B;exact r|some d=>
  simp only[jl]at B;split at B
  .simp at B;subst B;refine⟨by simp[Act.put,r.1],λt=>?_,r.gl⟩
   by_cases u:d=t
   .subst u;have:d<a.tmps.size:=by rw[r.1];omega
    simp_all[Act.put]
   have:=r.2 t;rw[iQ _ _ u];simp_all[Act.put]
  grind
def Ab{I:b_}:∀(n:Nat)(v:Zp)(x:V),ofValue n v=some x->dX I x v:=by intro n;induction n with|zero=>grind[ofValue]|succ n B=>intro v x h;unfold ofValue at h;split at h<;>(try (simp at h;subst h;constructor))<;>(try grind);simp at h;obtain⟨C,w,rfl⟩:=h;have key:∀(l:aX Zp)(u:Zu),l.mapM (ofValue n)=some u->u.length=l.length/\∀(j:Nat)a b,u[j]?=some a->l[j]?=some b->dX I a b:=(by intro l;induction l with|nil=>grind|cons v l z=>grind[ζg]);have⟨D,c⟩:=key _ _ w;exact .agg _ _ Zd λj a b d G=>c j a b d Zd
def c8{I:b_}{μ:Mu}{n:Nat}{F:Zo}{a:Act}(r:dS I μ n F a.tmps){o:Zr}{x:V}(h:ev F o=some x):bC I μ x (a.eval o):=by cases o with|tmp t=>simp[ev]at h;subst h;exact r.2 t|const v=>exact .c _ _ (Ab 4 _ _ h)|func f=>simp[ev]at h;subst h;exact .c _ _ (.clo f [] [] #[] #[] rfl rfl Zc Zc)|global g=>obtain⟨u,b,rfl⟩:=ζf.1 h;exact .c _ _ (r.gl g u b)
def mX{I:b_}{μ:Mu}{n:Nat}{F:Zo}{a:Act}(r:dS I μ n F a.tmps):∀{l:aX Zr}{xs:Zu},fe F l=some xs->cr I μ xs (l.map a.eval):=by intro l;induction l with|nil=>intro xs h;simp[fe]at h;subst h;exact .nil|cons o l u=>intro xs h;simp[fe]at h;split at h;(next v z b w=>simp at h;subst h;exact .cons (c8 r b) (u w));grind
def IG{I:b_}{μ:Mu}{n:Nat}{F:Zo}{a:Act}(r:dS I μ n F a.tmps):∀{l:aX (Nat×Zr)}{xs:aX (Nat×V)},lz F l=some xs->
 xs.length=l.length/\∀(j:Nat)x y,xs[j]?=some x->l[j]?=some y->x.1=y.1/\bC I μ x.2 (a.eval y.2):=by
 intro l
 induction l with
 |nil=>grind[lz]|cons o l z=>
  intro xs h;simp[lz]at h;split at h
  .rename_i v D h1 B;simp at h;subst h;have⟨C,b⟩:=z B;refine⟨by simp[C],λj x y u w=>?_⟩
   cases j with
   |zero=>simp at u w;subst u;subst w;exact⟨rfl,c8 r h1⟩|succ j=>grind
  grind
def lp:TypeDesc->TK
 |.bool=>.bool|.int k=>.int k|.string=>.str|.pointer e=>.ptr e|.slice e=>.slice e|.struct fs=>.struct (fs.toList.map λf=>(f.offset,f.type))|.array n e=>.array n e|.map k e=>.map k e|_=>.other
def B9:Zp->Zl
 |.agg _=>true|_=>false
def uO(P:Program)(t:Zm):aY TD:=
 match P.info? t,P.underlying t with
 |some i,some d=>match i.zero with
  |some z=>match z.cells.toList.mapM (ofValue 4)with
   |some u=>if u.length=i.size/\u.all V.one=true/\B9 z=(TD.mk i.size i.bytes u (lp d)).agg then some ⟨i.size,i.bytes,u,lp d⟩else none|none=>none
  |none=>none
 |_,_=>none
def ic(a:Zx):Array Zp:=(a.map (Value.int .i64)).toArray
structure uA(P:Program)(t:TypeId)(n:Nat):Prop where
 eq:∀(w:World)(x y:Operand)(a b:List Int),a.length=n->b.length=n->
  (do eqGuard .eql t x y (.agg (ic a)) (.agg (ic b));binOp .eql t (.agg (ic a)) (.agg (ic b))).run P w=.ok (.bool (a==b)) w
 ne:∀(w:World)(x y:Operand)(a b:List Int),a.length=n->b.length=n->
  (do eqGuard .neq t x y (.agg (ic a)) (.agg (ic b));binOp .neq t (.agg (ic a)) (.agg (ic b))).run P w=.ok (.bool !(a==b)) w
 key:∀(w:World)(a b:List Int),a.length=n->b.length=n->(equal t (.agg (ic a)) (.agg (ic b))).run P w=.ok (a==b) w
 check:∀(w:World)(e:Bool)(a:List Int),a.length=n->(checkKey e 10000 t (.agg (ic a))).run P w=.ok () w
 kind:∃d,P.underlying t=some d/\((∃n e,d=.array n e)\/(∃fs,d=.struct fs))
structure dV(P:Program)(E:Env):Prop where
 tt:∀t d,E.tt t=some d->uO P t=some d
 ft:∀f fi,E.ft f=some fi->∃fn,P.funcs[f]?=some fn/\fn.body=some fi.body/\fn.ntmps=fi.ntmps/\fn.results.toList=fi.results/\(fn.name== "runtime.NumGoroutine")=false
 eqN:∀t n,E.eqN t=some n->uA P t n
structure oP(P:Program)(t:TypeId)(d:TD):Prop where
 info:∃i z,P.info? t=some i/\i.size=d.size/\i.bytes=d.bytes/\i.zero=some z/\(∀I μ,cr I μ d.zero z.cells.toList)/\d.zero.length=d.size/\d.zero.all V.one=true/\B9 z=d.agg
 und:∃desc,P.underlying t=some desc/\lp desc=d.kind
def OF{I:b_}{μ:Mu}:∀(l:aX Zp)(ys:Zu),l.mapM (ofValue 4)=some ys->cr I μ ys l:=by intro l;induction l with|nil=>intro ys h;simp at h;subst h;exact .nil|cons v l u=>intro ys h;simp only[List.mapM_cons,Option.pure_def,Option.bind_eq_bind,ζg,ζa]at h;obtain⟨y,w,z,B,rfl⟩:=h;exact .cons (.c _ _ (Ab 4 _ _ w)) (u z B)
def dV.ty{P:Program}{E:Env}(h:dV P E){t:Zm}{d:TD}(B:E.tt t=some d):oP P t d:=by
 have:=h.tt t d B;unfold uO at this;split at this;rename_i i a u w;split at this;rename_i z C;split at this;rename_i G b;split at this;next D=>simp only[ζa]at this;subst this;exact⟨⟨i,z,u,rfl,rfl,C,λI μ=>OF _ _ b,D⟩,⟨a,w,rfl⟩⟩
 grind;grind;grind;grind
section runs
variable{P:Program}{w:World}{t:Zm}{d:TD}
theorem dw{a:TypeDesc}(h:P.underlying t=some a):(underlying t).run P w=.ok a w:=by simp[underlying,h]
def nJ{i:TypeInfo}(h:P.info? t=some i):(typeInfo t).run P w=.ok i w:=by simp[typeInfo,h]
def oP.jI(h:oP P t d):(sizeOf t).run P w=.ok d.size w:=by have⟨i,z,u,B,_⟩:=h.info;simp_all[sizeOf,nJ]
def oP.dw(h:oP P t d):∃a,P.underlying t=some a/\lp a=d.kind/\∀w,(underlying t).run P w=.ok a w:=by have⟨a,b,u⟩:=h.und;grind[VE.dw]
def oP.Kr(h:oP P t d):(isAgg t).run P w=.ok d.agg w:=by have⟨a,b,u⟩:=h.und;unfold isAgg;simp only[run_bind,VE.dw b,andThen_ok];cases a<;>simp[TD.agg,<-u,lp]
def oP.BW(h:oP P t d):∃z,(∀w,(zeroValue t).run P w=.ok z w)/\(∀I μ,cr I μ d.zero z.cells.toList)/\d.zero.length=d.size/\d.zero.all V.one=true:=by have⟨i,z,u,_,_,B,a,C,b,_⟩:=h.info;simp_all[zeroValue,nJ]
end runs
def oP.Rl{P:Program}{t:Zm}{d:TD}(h:oP P t d):∃z,(∀w,(zeroValue t).run P w=.ok z w)/\∀I μ x,VE.mk d.agg d.zero=some x->bC I μ x z:=by
 have⟨i,z,G,_,_,J,a,L,b,u⟩:=h.info;refine⟨z,λw=>by simp_all[zeroValue,nJ],λI μ x C=>?_⟩;have B:=a I μ;cases D:d.agg with|true=>rw[D]at C u;cases z<;>simp[B9]at u;simp only[VE.mk,if_true,ζa]at C;subst C;exact .El (by grind[Value.cells])|false=>
  rw[D]at C u;simp only[VE.mk,false_eq_true,if_false]at C;split at C
  .rename_i v hv;simp only[ζa]at C;subst C;rw[hv]at B;have e:z.cells.toList=[z]:=(by cases z<;>first|rfl|grind[B9]);rw[e]at B;exact B.2 0 _ _ rfl rfl
  simp at C
def eU{E:Env}{t:Zm}{k:TK}(h:E.kindOf t=some k):∃d,E.tt t=some d/\d.kind=k:=by grind[Env.kindOf,ζf]
def A7{d:TypeDesc}{k:Zs}(h:lp d=.int k):d=.int k:=by cases d<;>simp_all [lp]
def Ic{d:TypeDesc}(h:lp d=.bool):d=.bool:=by cases d<;>simp_all [lp]
def xV{d:TypeDesc}(h:lp d=.str):d=.string:=by cases d<;>simp_all [lp]
def iU{d:TypeDesc}{e:Zm}(h:lp d=.slice e):d=.slice e:=by cases d<;>simp_all [lp]
def AJ{d:TypeDesc}{n:Nat}{e:Zm}(h:lp d=.array n e):d=.array n e:=by cases d<;>simp_all [lp]
def yK{d:TypeDesc}{k e:Zm}(h:lp d=.map k e):d=.map k e:=by cases d<;>simp_all [lp]
def yj{d:TypeDesc}{fs:aX (Nat×Zm)}(h:lp d=.struct fs):∃B,d=.struct B/\fs=B.toList.map λf=>(f.offset,f.type):=by cases d<;>simp_all [lp]
def zB{I:b_}{μ:Mu}{cs r:Zu}{vs:aX Zp}{off n:Nat}(h:cr I μ cs vs)(a:cut cs off n=some r):
 cr I μ r ((vs.drop off).take n)/\r.length=n/\off+n<=cs.length\/(n=0/\r=[]):=by
 unfold cut at a;simp only at a;split at a
 .rename_i u;simp only[ζa]at a;subst a
  by_cases w:n=0
  .grind
  left;refine⟨(h.drop off).take n,u,?_⟩
  grind
 simp at a
def Lx{I:b_}{μ:Mu}{cs:Zu}{x:V}{vs:Array Zp}(h:mk true cs=some x)(r:cr I μ cs vs.toList):bC I μ x (.agg vs):=by simp only[mk,if_true,ζa]at h;subst h;exact .El r
def mk_one{I:b_}{μ:Mu}{cs:Zu}{x:V}{vs:aX Zp}(h:mk false cs=some x)(r:cr I μ cs vs):∃v,vs=[v]/\bC I μ x v:=by simp only[mk,false_eq_true,if_false]at h;split at h;simp only[ζa]at h;subst h;obtain⟨v,u,rfl,a,b⟩:=r.cons_inv;exact⟨v,by rw[b.uw],a⟩;simp at h
def E_{P:Program}{w:World}{I:b_}{μ:Mu}{t:Zm}{d:TD}{cs r:Zu}{vs:Array Zp}{x:V}{off:Nat}(D:oP P t d)(h:cr I μ cs vs.toList)
 (b:cut cs off d.size=some r)(B:mk d.agg r=some x):∃u,(part t vs off).run P w=.ok u w/\bC I μ x u:=by
 unfold part;simp only[run_bind,D.Kr,andThen_ok]
 cases z:d.agg with
 |true=>
  rw[z]at B;refine⟨.agg (vs.extract off (off+d.size)),by simp[D.jI],?_⟩
  refine Lx B ?_;have e:(vs.extract off (off+d.size)).toList=(vs.toList.drop off).take d.size:=Zc
  rw[e];rcases zB h b with⟨a,_⟩|⟨C,rfl⟩
  .exact a
  rw[C];exact .nil
 |false=>
  rw[z]at B;rcases zB h b with⟨a,L,_⟩|⟨C,rfl⟩
  .have⟨v,hv,G⟩:=mk_one B a;refine⟨v,?_,G⟩;have J:d.size=1:=by
    have:=a.1;rw[hv]at this;grind
   rw[J]at hv;have:vs[off]?=some v:=by have:=congrArg (·[0]?) hv;grind
   simp[this]
  grind[mk]
def JL{I:b_}{μ:Mu}:∀(az:Zu)(a:Zx)(B:aX Zp),gP az=some a->cr I μ az B->B=a.map (Value.int .i64)/\a.length=az.length:=by intro az;induction az with|nil=>intro a B h u;simp only[gP,ζa]at h;subst h;rw[u.uw];simp|cons x az w=>intro a B h u;obtain⟨v,B,rfl,c,d⟩:=u.cons_inv;have z:∃y,x=.int .i64 y:=(by cases x with|int k y=>cases k<;>simp[gP]at h⊢|_=>simp[gP]at h);obtain⟨y,rfl⟩:=z;simp only[gP,ζf]at h;obtain⟨b,C,rfl⟩:=h;have⟨g1,g2⟩:=w _ _ C d;have:=c.eV;grind
def pz{I:b_}{μ:Mu}{az:Zu}{a:Zx}{B:Array Zp}(h:gP az=some a)(D:cr I μ az B.toList):B=ic a/\a.length=az.length:=by have⟨b,u⟩:=JL _ _ _ h D;refine⟨?_,u⟩;have:=congrArg List.toArray b;grind[ic]
def vm{az B:Zu}{r:Zl}(h:jR az B=some r):∃a b,gP az=some a/\gP B=some b/\a.length=b.length/\r=(a==b):=by grind[jR]
section
variable{P:Program}{E:Env}{I:b_}{μ:Mu}{n:Nat}{F:Zo}{a:Act}{w:World}
def K9(f:BinOp)(t:Zm)(p q:Zr)(k B:Zs)(m m':Int):(eqGuard f t p q (.int k m) (.int B m')).run P w=.ok () w:=by simp_all[eqGuard]
def Lh(f:BinOp)(t:Zm)(p q:Zr)(s B:Zq):(eqGuard f t p q (.string s) (.string B)).run P w=.ok () w:=by simp_all[eqGuard]
def Kx(f:BinOp)(t:Zm)(p q:Zr)(s B:Zl):(eqGuard f t p q (.bool s) (.bool B)).run P w=.ok () w:=by simp_all[eqGuard]
def EL(d:Nat){t:Zm}(x y:Zl)(h:P.underlying t=some .bool):(equalIn (d+1) t (.bool x) (.bool y)).run P w=.ok (x==y) w:=by simp_all[equalIn,dw]
theorem BJ{t:Zm}(x y:Zl)(h:P.underlying t=some .bool):(equal t (.bool x) (.bool y)).run P w=.ok (x==y) w:=EL 9999 x y h
def zZ(d:Nat){t:Zm}{k:Zs}(x y:Int)(h:P.underlying t=some (.int k)):(equalIn (d+1) t (.int k x) (.int k y)).run P w=.ok (x==y) w:=by simp_all[equalIn,dw]
def D_(d:Nat){t e:Zm}(B:aY Addr)(l c:Nat)(h:P.underlying t=some (.slice e)):(equalIn (d+1) t (.slice B l c) (.slice none 0 0)).run P w=.ok B.isNone w:=by cases B<;>simp only[equalIn,run_bind,dw h,andThen_ok,run_pure]<;>rfl
def G0(d:Nat){t e:Zm}(B:aY Addr)(h:P.underlying t=some (.pointer e)):(equalIn (d+1) t (.pointer B) (.pointer none)).run P w=.ok B.isNone w:=by cases B<;>simp only[equalIn,run_bind,dw h,andThen_ok,run_pure]<;>rfl
def Hl(d:Nat){t e D:Zm}(B:aY Nat)(h:P.underlying t=some (.map e D)):(equalIn (d+1) t (.map B) (.map none)).run P w=.ok B.isNone w:=by cases B<;>simp only[equalIn,run_bind,dw h,andThen_ok,run_pure]<;>rfl
def Di(O:dV P E){t:Zm}{k:TK}{x y:V}{u v:Zp}{b:Zl}(i:E.kindOf t=some k)(h:tf k x y=some b)(B:bC I μ x u)(D:bC I μ y v):
 (equal t u v).run P w=.ok b w/\(∀op p q,(eqGuard op t p q u v).run P w=.ok () w)/\binOp .eql t u v=(do pure (.bool (<-equal t u v)))/\binOp .neq t u v=(do pure (.bool (!(<-equal t u v)))):=by
 have⟨d,Q,J⟩:=eU i;have⟨a,m,C,_⟩:=(O.ty Q).dw;rw[J]at C;have j:∀(e:Zm)(z:aY Addr)(l c:Nat),P.underlying t=some (.slice e)->b=z.isNone->
  (equal t (.slice z l c) (.slice none 0 0)).run P w=.ok b w/\(∀op p q,(eqGuard op t p q (.slice z l c) (.slice none 0 0)).run P w=.ok () w)/\binOp .eql t (.slice z l c) (.slice none 0 0)=(do pure (.bool (<-equal t (.slice z l c) (.slice none 0 0))))/\binOp .neq t (.slice z l c) (.slice none 0 0)=(do pure (.bool (!(<-equal t (.slice z l c) (.slice none 0 0))))):=by
  intro e z l c f G;refine⟨?_,λop p q=>by simp_all[eqGuard],rfl,rfl⟩
  rw[G];exact D_ 9999 z l c f
 have S:∀(e:Zm)(z:aY Addr),P.underlying t=some (.pointer e)->b=z.isNone->
  (equal t (.pointer z) (.pointer none)).run P w=.ok b w/\(∀op p q,(eqGuard op t p q (.pointer z) (.pointer none)).run P w=.ok () w)/\binOp .eql t (.pointer z) (.pointer none)=(do pure (.bool (<-equal t (.pointer z) (.pointer none))))/\binOp .neq t (.pointer z) (.pointer none)=(do pure (.bool (!(<-equal t (.pointer z) (.pointer none))))):=by
  intro e z f G;refine⟨?_,λop p q=>by simp_all[eqGuard],rfl,rfl⟩
  rw[G];exact G0 9999 z f
 have T:∀(e L:Zm)(z:aY Nat),P.underlying t=some (.map e L)->b=z.isNone->
  (equal t (.map z) (.map none)).run P w=.ok b w/\(∀op p q,(eqGuard op t p q (.map z) (.map none)).run P w=.ok () w)/\binOp .eql t (.map z) (.map none)=(do pure (.bool (<-equal t (.map z) (.map none))))/\binOp .neq t (.map z) (.map none)=(do pure (.bool (!(<-equal t (.map z) (.map none))))):=by
  intro e L z f G;refine⟨?_,λop p q=>by simp_all[eqGuard],rfl,rfl⟩
  rw[G];exact Hl 9999 z f
 unfold tf at h;split at h<;>(try (simp only[ζa]at h;subst h))
 .have:=iU C;subst this;rw[B.kU,D.kU];grind
 .have:=iU C;subst this;rw[D.kU];have U:=B.kW
  cases U with
  |fsl0 _ z g=>grind|fsl=>grind
 .have:=iU C;subst this;rw[D.kU];rcases B.kZ with⟨p,g,_,_,_,_,W⟩|⟨_,z,W⟩
  all_goals grind
 .obtain⟨e,rfl⟩:∃e,a=.pointer e:=by cases a<;>simp_all [lp]
  cases B with|c _ _ B=>cases B;cases D with|c _ _ D=>cases D;grind
 .obtain⟨e,rfl⟩:∃e,a=.pointer e:=by cases a<;>simp_all [lp]
  cases D with|c _ _ D=>cases D;cases B with|c _ _ B=>cases B;grind
 .obtain⟨e,rfl⟩:∃e,a=.pointer e:=by cases a<;>simp_all [lp]
  cases D with
  |c _ _ D=>
   cases D
   cases B with
   |c _ _ B=>cases B|hptr=>grind
 .have:=yK C;subst this;cases B with|c _ _ B=>cases B;cases D with|c _ _ D=>cases D;grind
 .have:=yK C;subst this;cases D with|c _ _ D=>cases D;cases B with|c _ _ B=>cases B;grind
 .have:=yK C;subst this
  cases D with
  |c _ _ D=>
   cases D
   cases B with
   |c _ _ B=>cases B|hmap=>grind
 cases h
def Rj(J:dV P E){op:BinOp}{t:Zm}{x y z:V}{u v:Zp}(p q:Zr)(h:Fa E op t x y=some z)(O:bC I μ x u)(T:bC I μ y v):
 ∃r,(do eqGuard op t p q u v;binOp op t u v).run P w=.ok r w/\bC I μ z r:=by
 unfold Fa at h;split at h
 .
  rename_i k m i m';rw[O.eV,T.eV];simp only[run_bind,K9,andThen_ok];split at h
  .
   split at h
   .simp at h
   rename_i C;simp only[ζa]at h;subst h;exact⟨_,by simp[binOp,Op.shift,C],.c _ _ (.int _ _)⟩
  .split at h
   .simp at h
   rename_i C;simp only[ζa]at h;subst h;exact⟨_,by simp[binOp,Op.shift,C],.c _ _ (.int _ _)⟩
  split at h
  .rename_i Y Z a;subst a
   cases op with
   |shl=>grind|shr=>grind|add=>simp only[ζa]at h;subst h;exact⟨_,by simp[binOp,intArith],.c _ _ (.int _ _)⟩|sub=>simp only[ζa]at h;subst h;exact⟨_,by simp[binOp,intArith],.c _ _ (.int _ _)⟩|mul=>simp only[ζa]at h;subst h;exact⟨_,by simp[binOp,intArith],.c _ _ (.int _ _)⟩|quo=>
    simp only at h;split at h
    .simp at h
    rename_i C;simp only[ζa]at h;subst h;exact⟨_,by simp[binOp,Op.intDiv,C],.c _ _ (.int _ _)⟩
   |rem=>
    simp only at h;split at h
    .simp at h
    rename_i C;simp only[ζa]at h;subst h;exact⟨_,by simp[binOp,Op.intDiv,C],.c _ _ (.int _ _)⟩
   |and=>simp only[ζa]at h;subst h;exact⟨_,by simp[binOp,intBits],.c _ _ (.int _ _)⟩|or=>simp only[ζa]at h;subst h;exact⟨_,by simp[binOp,intBits],.c _ _ (.int _ _)⟩|xor=>simp only[ζa]at h;subst h;exact⟨_,by simp[binOp,intBits],.c _ _ (.int _ _)⟩|andNot=>simp only[ζa]at h;subst h;exact⟨_,by simp[binOp,intBits],.c _ _ (.int _ _)⟩|eql=>simp only[qz,map_some,ζa]at h;subst h;exact⟨_,by simp[binOp,intCmp],.c _ _ (.bool _)⟩|neq=>simp only[qz,map_some,ζa]at h;subst h;exact⟨_,by simp[binOp,intCmp],.c _ _ (.bool _)⟩|lss=>simp only[qz,map_some,ζa]at h;subst h;exact⟨_,by simp[binOp,intCmp],.c _ _ (.bool _)⟩|leq=>simp only[qz,map_some,ζa]at h;subst h;exact⟨_,by simp[binOp,intCmp],.c _ _ (.bool _)⟩|gtr=>simp only[qz,map_some,ζa]at h;subst h;exact⟨_,by simp[binOp,intCmp],.c _ _ (.bool _)⟩|geq=>simp only[qz,map_some,ζa]at h;subst h;exact⟨_,by simp[binOp,intCmp],.c _ _ (.bool _)⟩
  simp at h
 .
  rename_i s j;rw[O.r_,T.r_];simp only[run_bind,Lh,andThen_ok];split at h
  .split at h
   .simp at h
   rename_i C;simp only[ζa]at h;subst h;exact⟨_,by simp_all[binOp,Op.stringOp],.c _ _ (.str _)⟩
  all_goals first
   |(simp only[ζa]at h;subst h;exact⟨_,by simp[binOp,Op.stringOp],.c _ _ (.bool _)⟩)|simp at h
 .
  rename_i b l;rw[O.qp,T.qp];simp only[run_bind,Kx,andThen_ok];split at h
  next a=>have⟨d,U,D⟩:=eU a;have⟨e,c,B,_⟩:=(J.ty U).dw;rw[D]at B;have:=Ic B;subst this;simp only[ζa]at h;subst h;exact⟨_,by grind[binOp,run_bind,BJ,andThen_ok,run_pure],.c _ _ (.bool _)⟩
  next a=>have⟨d,U,D⟩:=eU a;have⟨e,c,B,_⟩:=(J.ty U).dw;rw[D]at B;have:=Ic B;subst this;simp only[ζa]at h;subst h;exact⟨_,by grind[binOp,run_bind,BJ,andThen_ok,run_pure],.c _ _ (.bool _)⟩
  simp at h
 .
  rename_i az n;obtain⟨o,rfl,L⟩:=O.h_;obtain⟨A,rfl,Q⟩:=T.h_;split at h
  .rename_i m G;split at h
   next g=>simp only[ζf]at h;obtain⟨r,f,rfl⟩:=h;obtain⟨W,X,c,B,S,rfl⟩:=vm f;obtain⟨rfl,e1⟩:=pz c L;obtain⟨rfl,e2⟩:=pz B Q;exact⟨_,(J.eqN _ _ G).eq w p q W X Za Za,.c _ _ (.bool _)⟩
   simp at h
  .rename_i m G;split at h
   next g=>simp only[ζf]at h;obtain⟨r,f,rfl⟩:=h;obtain⟨W,X,c,B,S,rfl⟩:=vm f;obtain⟨rfl,e1⟩:=pz c L;obtain⟨rfl,e2⟩:=pz B Q;exact⟨_,(J.eqN _ _ G).ne w p q W X Za Za,.c _ _ (.bool _)⟩
   simp at h
  simp at h

 split at h
 next k a=>simp only[ζf]at h;obtain⟨b,C,rfl⟩:=h;have⟨c,B,S,_⟩:=Di (w:=w) J a C O T;exact⟨.bool b,by rw[run_bind,B,S];simp[andThen,c],.c _ _ (.bool _)⟩
 next k a=>simp only[ζf]at h;obtain⟨b,C,rfl⟩:=h;have⟨c,B,_,S⟩:=Di (w:=w) J a C O T;exact⟨.bool !b,by rw[run_bind,B,S];simp[andThen,c],.c _ _ (.bool _)⟩
 simp at h
def Hw(off:Nat):∀(l:aX Zp)(k:Nat)(cells:Array Zp),off+k+l.length<=cells.size->
 ((l.zipIdx k).foldl (λcs(p:Zp×Nat)=>cs.setIfInBounds (off+p.2) p.1) cells).toList=cells.toList.take (off+k)++l++cells.toList.drop (off+k+l.length):=by
 intro l
 induction l with
 |nil=>simp_all|cons v l u=>
  intro k cells h;simp at h;simp;rw[u (k+1) _ (by simp;omega)]
  grind[List.take_succ_eq_append_getElem,List.take_set_of_le,List.drop_set_of_lt]
def Je{cs xs:Zu}{cells:Array Zp}{v:Zp}{off:Nat}(h:cr I μ cs cells.toList)(B:cr I μ xs v.cells.toList)(D:off+xs.length<=cs.length):
 cr I μ (cs.take off++xs++cs.drop (off+xs.length)) (v.cells.zipIdx.foldl (λcs(p:Zp×Nat)=>cs.setIfInBounds (off+p.2) p.1) cells).toList:=by
 have e:v.cells.zipIdx.foldl (λcs p=>cs.setIfInBounds (off+p.2) p.1) cells=(v.cells.toList.zipIdx 0).foldl (λcs p=>cs.setIfInBounds (off+p.2) p.1) cells:=by rw[<-Array.foldl_toList];simp
 have a:=h.1;have u:=B.1;rw[e,Hw off _ 0 _ Zd]
 rw[<-u];exact((h.take off).append B).append (h.drop _)
def AQ{place place':Nat->aY (Nat×Nat)}(W:∀i p,place i=some p->place' i=some p):∀(vs:aX (Nat×V))(B:aX (Nat×Zp))(cs r:Zu)(cells:Array Zp),
 vs.length=B.length->(∀(j:Nat)x y,vs[j]?=some x->B[j]?=some y->x.1=y.1/\bC I μ x.2 y.2)->cr I μ cs cells.toList->sR place cs vs=some r->
 ∃D,fill place' cells B=some D/\cr I μ r D.toList:=by
 intro vs
 induction vs with
 |nil=>
  intro B cs r cells J _ c w
  cases B with
  |nil=>simp[sR]at w;subst w;exact⟨cells,rfl,c⟩|cons _ _=>simp_all
 |cons x vs L=>
  intro B cs r cells J d c w
  cases B with
  |nil=>simp_all|cons y B=>
   have⟨i,x⟩:=x;have⟨O,y⟩:=y;have⟨C,z⟩:=d 0 (i,x) (O,y) rfl rfl;subst C;simp only at z;simp only[sR]at w;split at w
   .simp at w
   rename_i off size Q;split at w
   .simp at w
   rename_i S;have u:=z.cells;have G:x.cells.length=y.cells.size:=by simpa using u.1
   have T:cs.length=cells.size:=by simpa using c.1
   have U:¬(decide (y.cells.size≠size)||decide (off+y.cells.size>cells.size))=true:=by grind
   simp at S;have⟨D,e,X⟩:=L B _ r _ Zd (λj a b p q=>d (j+1) a b (by simpa using p) (by simpa using q)) (Je c u Za) w
   grind[fill]
def Mi(ps:Array (Nat×Zr))(f:Zr->Zp):(ps.map λ(i,x)=>(i,f x)).toList=ps.toList.map λp=>(p.1,f p.2):=Zc
def DZ{ps:Array (Nat×Zr)}{vs:aX (Nat×V)}(r:dS I μ n F a.tmps)(h:lz F ps.toList=some vs):
 vs.length=(ps.map λ(i,x)=>(i,a.eval x)).toList.length/\∀(j:Nat)x y,vs[j]?=some x->(ps.map λ(i,x)=>(i,a.eval x)).toList[j]?=some y->x.1=y.1/\bC I μ x.2 y.2:=by
 have⟨u,b⟩:=IG r h;rw[Mi]
 grind
def Lz(D:dV P E):∀(B:aX Field)(pl:aX (Nat×Nat)),mb E (B.map λf=>(f.offset,f.type))=some pl->
 ((B.mapM λf=>do pure (f.offset,<-sizeOf f.type)):Sem (aX (Nat×Nat))).run P w=.ok pl w:=by
 intro B
 induction B with
 |nil=>simp_all[mb]|cons f B z=>
  intro pl h;simp[mb]at h;split at h
  next d ps C u=>simp at h;subst h;have:=z _ u;simp only[List.mapM_cons,run_bind,(D.ty C).jI,andThen_ok,run_pure,this]
  grind
def Ko(D:dV P E)(B:Array Field)(pl:aX (Nat×Nat))(h:mb E (B.toList.map λf=>(f.offset,f.type))=some pl):
 ((B.mapM λf=>do pure (f.offset,<-sizeOf f.type)):Sem (Array (Nat×Nat))).run P w=.ok pl.toArray w:=by
 rw[Array.mapM_eq_mapM_toList];simp only[Sem.run_map,Lz D _ _ h,andThen_ok]
def N2(B:dV P E)(r:dS I μ n F a.tmps){t:Zm}{ps:Array (Nat×Zr)}{x:V}(h:bF E F (.build t ps)=some x):
 ∃v,(Instr.build t (ps.map λ(i,x)=>(i,a.eval x))).run P w=.ok v w/\bC I μ x v:=by
 simp[bF]at h;split at h
 .rename_i d S T D;have⟨U,b⟩:=DZ r D;have⟨z,X,u,_⟩:=(B.ty T).BW;have⟨c,f,C,Y⟩:=(B.ty T).dw;unfold Instr.build;simp[run_bind,X,Y,andThen_ok];split at h
  .rename_i fs hk;rw[hk]at C;obtain⟨Z,rfl,rfl⟩:=yj C;split at h
   .rename_i pl G;simp at h;obtain⟨J,L,rfl⟩:=h;have⟨O,g1,g2⟩:=AQ (place':=λi=>pl.toArray[i]?) Zd S _ d.zero J z.cells U b (u I μ) L
    refine⟨.agg O,?_,.El g2⟩;have:=Ko (w:=w) B Z pl G;simp_all
   grind
  .rename_i e hk;rw[hk]at C;have:=AJ C;subst this;split at h
   .rename_i W Q;simp at h;obtain⟨J,L,rfl⟩:=h;have⟨O,g1,g2⟩:=AQ (place':=λi=>some (i*W.size,W.size)) Zd S _ d.zero J z.cells U b (u I μ) L
    refine⟨.agg O,?_,.El g2⟩;simp[run_bind,(B.ty Q).jI,andThen_ok];simp_all
   grind
  grind
 grind
def oy(b o k:Nat):(⟨b,o,none⟩:Addr).add k=⟨b,o+k,none⟩:=by grind[Addr.add]
theorem DV{cs:Zu}{b o:Nat}{c:Array Zp}(k:Nat)(B:I b=some (.cells c))(D:o+cs.length<=c.size)
 (a:∀(j:Nat)y u,cs[j]?=some y->c[o+j]?=some u->dX I y u)(d:k<=cs.length):bC I μ (.fptr (cs.drop k)) (.pointer (some ⟨b,o+k,none⟩)):=
 .c _ _ (.fptr _ b (o+k) c B (by simp;omega) λj y u e w=>a (k+j) y u Zd Zd)
def JO(G:dV P E)(r:dS I μ n F a.tmps){s:Zm}{o:Zr}{f:Nat}{x:V}(h:bF E F (.fieldAddr s o f)=some x):
 ∃v,(fieldAt s (a.eval o) f).run P w=.ok v w/\bC I μ x v:=by
 simp[bF]at h;split at h
 .rename_i fs p hk Q;have⟨d,S,B⟩:=eU hk;have⟨i,k,J,T⟩:=(G.ty S).dw;rw[B]at J;obtain⟨U,rfl,rfl⟩:=yj J;have j:=c8 r Q;split at h
  .rename_i off t L;simp at L;obtain⟨g,W,rfl,rfl⟩:=L;have z:U[f]?=some g:=by grind
   split at h
   .rename_i Z C;split at h
    .simp_all
    rename_i D;have O:∀(b u:Nat),(fieldAt s (.pointer (some ⟨b,u,none⟩)) f).run P w=.ok (.pointer (some ⟨b,u+g.offset,none⟩)) w:=by intro b u;unfold fieldAt;simp[run_bind,T,andThen_ok,z,sureAddr,run_pure,fieldPlace,(G.ty C).jI,if_neg D,oy]
    split at h
    .split at h
     .rename_i X;simp at h;subst h;have⟨b,u,c,e,l,m,q⟩:=j.lB;rw[e]
      grind[DV]
     grind
    .rename_i id el u;simp at h;have⟨p,Y,e⟩:=j.sD;rw[e];have:=bC.hptr (I:=I) id el (u+g.offset) p Y
     grind
    grind
   grind
  grind
 grind
def N6(D:dV P E)(r:dS I μ n F a.tmps){s:Zm}{o:Zr}{f:Nat}{x:V}(h:bF E F (.field s o f)=some x):
 ∃v,(Instr.field s (a.eval o) f).run P w=.ok v w/\bC I μ x v:=by
 simp[bF]at h;split at h
 .rename_i fs X hk O;have⟨d,Q,z⟩:=eU hk;have⟨b,g,G,Y⟩:=(D.ty Q).dw;rw[z]at G;obtain⟨S,rfl,rfl⟩:=yj G;have⟨Z,e,B⟩:=(c8 r O).h_;rw[e];split at h
  .rename_i off t J;simp at J;obtain⟨c,T,rfl,rfl⟩:=J;have L:S[f]?=some c:=by grind
   split at h
   .rename_i dt C;simp[ζg]at h;have⟨q,U,W⟩:=h;have⟨u,i,j⟩:=E_ (w:=w) (D.ty C) B U W
    grind[Instr.field,run_bind,andThen_ok,asAgg]
   grind
  grind
 grind
def kQ(k:Zs)(m:Int):(asIntOf (.int k m)).run P w=.ok (k,m) w:=rfl
def I4(T:dV P E)(r:dS I μ n F a.tmps){t:Zm}{o i:Zr}{x:V}(h:bF E F (.indexAddr t o i)=some x):
 ∃v,(indexAt t (a.eval o) (a.eval i)).run P w=.ok v w/\bC I μ x v:=by
 simp[bF]at h;split at h
 .
  rename_i e s k m K X Y;have⟨d,Z,G⟩:=eU K;have⟨l,h1,Q,M⟩:=(T.ty Z).dw;rw[G]at Q;have:=iU Q;subst this;have A:=c8 r X;have J:=(c8 r Y).eV;rw[J];split at h
  .rename_i U L;split at h
   .simp_all
   have D:∀(b z len f:Nat),m.toNat<len->(indexAt t (.slice (some ⟨b,z,none⟩) len f) (.int k m)).run P w=.ok (.pointer (some ⟨b,z+m.toNat*U.size,none⟩)) w:=by intro b z len f B;unfold indexAt;have H:0<=m/\m<(len):=Za;simp[run_bind,kQ,M,andThen_ok,run_pure,(T.ty L).jI,run_ite,if_pos H,oy]
   split at h
   .rename_i es xs;split at h
    .rename_i C;simp only[ζf]at h;obtain⟨W,O,rfl⟩:=h;have B:m.toNat<xs.length:=(ζe.1 O).1;have R:=A.kW;generalize hg:a.eval o=g at R
     cases R with
     |fsl0=>simp_all|fsl _ _ b z f c hI H hu ho hb hr=>refine⟨_,D b z _ _ B,?_⟩;have S:W∈xs:=mem_of_getElem? O;have ab:=hu W S;have aa:(m.toNat+1)*es<=xs.length*es:=mul_le_mul_right _ B;rw[add_mul]at aa;rw[<-C];exact .c _ _ (.fptr W b _ c hI Za λj y u p q=>hr m.toNat j W y u O p q)
    grind
   .rename_i id es off len;split at h
    .rename_i C;simp only[ζa]at h;have⟨C,B⟩:=C;rcases A.kZ with⟨p,f,N,he,H,hb,e⟩|⟨h0,_⟩
     .rw[e];have:=bC.hptr (I:=I) (μ:=μ) id (off+m.toNat) 0 p N
      grind
     omega
    grind
   grind
  grind
 .
  rename_i len e p k m K X Y;have⟨d,Z,G⟩:=eU K;have⟨l,h1,Q,M⟩:=(T.ty Z).dw;rw[G]at Q;have:=AJ Q;subst this;have A:=c8 r X;have J:=(c8 r Y).eV;rw[J];split at h
  .rename_i U L;split at h
   .rename_i H;have D:∀(b z:Nat),(indexAt t (.pointer (some ⟨b,z,none⟩)) (.int k m)).run P w=.ok (.pointer (some ⟨b,z+m.toNat*U.size,none⟩)) w:=by
     intro b z;unfold indexAt;simp only[run_bind,kQ,M,andThen_ok,run_pure,sureAddr,(T.ty L).jI,run_ite,if_pos H,oy]
    split at h
    .split at h
     .rename_i ad;simp only[ζa]at h;subst h;have⟨b,z,c,e,hI,hb,hr⟩:=A.lB;rw[e]
      grind[DV]
     grind
    .rename_i id el z;simp only[ζa]at h;have⟨p,N,e⟩:=A.sD;rw[e];have:=bC.hptr (I:=I) (μ:=μ) id el (z+m.toNat*U.size) p N
     grind
    grind
   grind
  grind
 grind
def Oh(D:dV P E)(r:dS I μ n F a.tmps){t:Zm}{o i:Zr}{x:V}(h:bF E F (.index t o i)=some x):
 ∃v,(Instr.index t (a.eval o) (a.eval i)).run P w=.ok v w/\bC I μ x v:=by
 simp[bF]at h;split at h
 .rename_i s k m hk G J;have⟨d,L,z⟩:=eU hk;have⟨c,g,B,Q⟩:=(D.ty L).dw;rw[z]at B;have:=xV B;subst this;rw[(c8 r J).eV,(c8 r G).r_];split at h
  next f=>simp at h;obtain⟨b,W,rfl⟩:=h;refine⟨.int .u8 b.toNat,?_,.c _ _ (.int _ _)⟩;simp_all[Instr.index,kQ]
  grind
 .rename_i len e X k m hk G J;have⟨d,L,z⟩:=eU hk;have⟨c,g,B,Q⟩:=(D.ty L).dw;rw[z]at B;have:=AJ B;subst this;have⟨Y,ev,O⟩:=(c8 r G).h_;rw[(c8 r J).eV,ev];split at h
  .rename_i Z C;split at h
   next f=>simp[ζg]at h;have⟨q,S,T⟩:=h;have⟨u,j,U⟩:=E_ (w:=w) (D.ty C) O S T;refine⟨u,?_,U⟩;unfold Instr.index;simp[run_bind,kQ,Q,andThen_ok,run_ite,if_pos f,(D.ty C).jI,j]
   grind
  grind
 grind
def Km(B:dV P E)(r:dS I μ n F a.tmps){s d:Zm}{o:Zr}{x:V}(h:bF E F (.convert s d o)=some x):
 ∃v,(convert s d (a.eval o)).run P w=.ok v w/\bC I μ x v:=by
 simp[bF]at h;split at h
 .rename_i G J k m z C D;split at h
  next L b=>simp at h;subst h;have⟨c,g1,_,g3⟩:=(B.ty z).dw;have⟨e,f,u,O⟩:=(B.ty C).dw;rw[b]at u;have:=A7 u;subst this;rw[(c8 r D).eV];refine⟨_,?_,.c _ _ (.int _ _)⟩;simp_all[convert,Conv.intToInt]
  grind
 grind
theorem oN(r:dS I μ n F a.tmps){o:aY Zr}{m:Z6}(h:jr F o=some m):
 (m=none/\o.map a.eval=none)\/∃k z,m=some z/\o.map a.eval=some (.int k z):=by
 cases o with
 |none=>grind[jr]|some x=>
  simp[jr]at h;split at h
  next k z u=>simp at h;subst h;exact .inr ⟨k,z,rfl,by simp[(c8 r u).eV]⟩
  grind
theorem tS(k:Zs)(z:Int)(y:Nat)(code:BoundsCode)(B:0<=z)(a:z<=y):(sliceBound (.int k z) y code).run P w=.ok z.toNat w:=by simp_all[sliceBound,kQ]
def kT(r:dS I μ n F a.tmps){G J:aY Zr}{l h:Z6}(e1:jr F G=some l)(e2:jr F J=some h)(D:Zl)(len b L H:Nat)(c:len<=b)
 (B:dx len l h=some (L,H)):(sliceBounds D len b (G.map a.eval) (J.map a.eval) none).run P w=.ok (L,H,b) w/\L<=H/\H<=len:=by
 unfold dx at B;simp only at B;split at B
 .rename_i u;obtain⟨rfl,rfl⟩:=B;have⟨O,Q,S,T⟩:=u;refine⟨?_,Za,Za⟩
  unfold sliceBounds;rcases oN r e1 with⟨rfl,z⟩|⟨k1,U,rfl,z⟩<;>rcases oN r e2 with⟨rfl,C⟩|⟨k2,W,rfl,C⟩<;>
   simp only[z,C,getD_some]at O Q S T⊢
  all_goals grind[run_pure,andThen_ok,run_bind,tS]
 grind
def C2{es:Nat}{xs:Zt}{v:Zp}{L H:Nat}(h:dX I (.fsl es xs) v)(d:L<=H)(D:H<=xs.length):
 ∃B len a,v=.slice B len a/\len=xs.length/\len<=a/\dX I (.fsl es ((xs.take H).drop L)) (.slice (if a=L then B else B.map (·.add (L*es))) (H-L) (a-L)):=by
 cases h with
 |fsl0 _ B a=>
  simp at D;have z:L=0:=Za
  subst D;subst z;refine⟨some B,0,a,rfl,rfl,zero_le _,?_⟩;have:=dX.fsl0 (I:=I) es B a
  grind[Addr.add]
 |fsl _ _ b o a c C hc hu G O hr=>
  refine⟨_,_,a,rfl,rfl,hc,?_⟩;have u:((xs.take H).drop L).length=H-L:=Ze
  by_cases J:H-L=0
  .have:(xs.take H).drop L=[]:=List.eq_nil_of_length_eq_zero Zd
   rw[this,J];split
   .exact .fsl0 es _ _
   exact .fsl0 es _ _
  simp[oy];have e:dX I (.fsl es ((xs.take H).drop L)) (.slice (some ⟨b,o+L*es,none⟩) ((xs.take H).drop L).length (a-L)):=by refine .fsl es _ b (o+L*es) (a-L) c C Zd (λx w=>hu x (mem_of_mem_take (mem_of_mem_drop w))) (λx w=>G x (mem_of_mem_take (mem_of_mem_drop w))) ?_ ?_;rw[u];have:L*es+(H-L)*es<=xs.length*es:=(by rw[<-add_mul];simp_all[mul_le_mul_right]);omega;grind
  grind
def M7(i:dV P E)(r:dS I μ n F a.tmps){t:Zm}{o:Zr}{j m Y:aY Zr}{x:V}(h:bF E F (.slice t o j m Y)=some x):
 ∃v,(sliceAt t (a.eval o) (j.map a.eval) (m.map a.eval) (Y.map a.eval)).run P w=.ok v w/\bC I μ x v:=by
 simp[bF]at h;split at h
 .
  rename_i s l R y A W C aa;obtain⟨d,K,S⟩:=eU y;obtain⟨f,h1,X,M⟩:=(i.ty K).dw;rw[S]at X;have:=xV X;rw[(c8 r A).r_];simp only[ζf]at h;obtain⟨⟨L,H⟩,J,rfl⟩:=h;obtain⟨g,_,_⟩:=kT (P:=P) (w:=w) r W C false s.size s.size L H (le_refl _) J;have hm:Y.map a.eval=none:=by grind[oN]
  refine⟨.string (s.extract L H),?_,.c _ _ (.str _)⟩;simp_all[sliceAt,Instr.slice]
 .rename_i e v l R y A W C aa;obtain⟨d,K,S⟩:=eU y;obtain⟨f,h1,X,M⟩:=(i.ty K).dw;rw[S]at X;have:=iU X;subst this;have c:=c8 r A;have hm:Y.map a.eval=none:=by grind[oN]
  have B:∀(D:aY Addr)(len b L H:Nat)(O:TD),E.tt e=some O->len<=b->dx len l R=some (L,H)->
   (sliceAt t (.slice D len b) (j.map a.eval) (m.map a.eval) (Y.map a.eval)).run P w=.ok (.slice (if b=L then D else D.map (·.add (L*O.size))) (H-L) (b-L)) w:=by
   intro D len b L H O u N J;obtain⟨g,_,_⟩:=kT (P:=P) (w:=w) r W C true len b L H N J;unfold sliceAt Instr.slice;simp[run_bind,M,andThen_ok,hm,g,(i.ty u).jI,run_pure]
  split at h
  .rename_i O u;split at h
   .rename_i es xs;split at h
    next Z=>simp only[ζf]at h;obtain⟨⟨L,H⟩,J,rfl⟩:=h;obtain⟨_,T,U⟩:=kT (P:=P) (w:=w) r W C true xs.length xs.length L H (le_refl _) J;obtain⟨D,len,b,e1,e2,e3,e4⟩:=C2 c.kW T U;rw[e1];subst e2;refine⟨_,B D _ b L H O u e3 J,?_⟩;rw[<-Z];exact .c _ _ e4
    grind
   .rename_i id es off len;split at h
    .rename_i Z;simp only[ζf]at h;obtain⟨⟨L,H⟩,J,rfl⟩:=h;obtain⟨_,T,U⟩:=kT (P:=P) (w:=w) r W C true len len L H (le_refl _) J;rcases c.kZ with⟨p,b,ab,he,N,ae,G⟩|⟨h0,D,G⟩
     .rw[G];refine⟨_,B _ _ b L H O u N J,?_⟩
      by_cases hz:b=L
      .have:H-L=0:=by omega
       rw[if_pos hz,this,show b-L=0 by omega]
       exact .hsl0 id es (off+L) _
      rw[if_neg hz];simp only[map_some,oy];rw[<-Z];subst he;have:=bC.hsl (I:=I) (μ:=μ) id (off+L) (H-L) (b-L) p ab Za (by
       grind)
      rwa [add_mul,<-add_assoc]at this
     grind
    grind
   .simp only[ζf]at h;obtain⟨⟨L,H⟩,J,rfl⟩:=h;obtain⟨_,T,U⟩:=kT (P:=P) (w:=w) r W C true 0 0 L H (le_refl _) J;obtain⟨D,G⟩:=c.qD;rw[G]
    grind
   .simp only[ζf]at h;obtain⟨⟨L,H⟩,J,rfl⟩:=h;obtain⟨_,T,U⟩:=kT (P:=P) (w:=w) r W C true 0 0 L H (le_refl _) J;have G:=c.kU;rw[G]
    grind
   grind
  grind
 .rename_i e v y A W C aa;obtain⟨d,K,S⟩:=eU y;obtain⟨f,h1,X,M⟩:=(i.ty K).dw;rw[S]at X;have:=iU X;subst this;have c:=c8 r A;have q1:j.map a.eval=none:=by grind[oN]
  obtain⟨k2,q2⟩:∃k,m.map a.eval=some (.int k 0):=by rcases oN r C with⟨q,_⟩|⟨k,z,e,q⟩;all_goals grind
  obtain⟨k3,q3⟩:∃k,Y.map a.eval=some (.int k 0):=by grind[oN]
  have B:∀(D:aY Addr)(len b:Nat)(O:TD),E.tt e=some O->∃Q,(sliceAt t (.slice D len b) (j.map a.eval) (m.map a.eval) (Y.map a.eval)).run P w=.ok (.slice Q 0 0) w:=by intro D len b O u;refine⟨D,?_⟩;unfold sliceAt Instr.slice sliceBounds;simp only[run_bind,M,andThen_ok,q1,q2,q3,tS k3 0 b _ (Int.le_refl _) Za,tS k2 0 _ _ (Int.le_refl _) Zc,(i.ty u).jI];simp
  split at h
  next O es xs u=>simp at h;subst h;obtain⟨D,len,b,e1,_⟩:=C2 c.kW (le_refl _) (zero_le _);rw[e1];obtain⟨Q,g⟩:=B D len b _ u;exact⟨_,g,.c _ _ (.c7 _)⟩
  .rename_i O id es off len u;simp at h;subst h;rcases c.kZ with⟨p,b,_,_,_,_,G⟩|⟨_,D,G⟩
   .rw[G];obtain⟨Q,g⟩:=B _ _ _ _ u;exact⟨_,g,.c _ _ (.c7 _)⟩
   rw[G];obtain⟨Q,g⟩:=B _ _ _ _ u;exact⟨_,g,.c _ _ (.c7 _)⟩
  next O u=>simp at h;subst h;obtain⟨D,G⟩:=c.qD;rw[G];obtain⟨Q,g⟩:=B _ _ _ _ u;exact⟨_,g,.c _ _ (.c7 _)⟩
  next O u=>simp only[ζa]at h;subst h;have G:=c.kU;rw[G];obtain⟨Q,g⟩:=B _ _ _ _ u;exact⟨_,g,.c _ _ (.c7 _)⟩
  simp at h
 grind
def cr.one{x:V}{vs:aX Zp}(h:cr I μ [x] vs):∃v,vs=[v]/\bC I μ x v:=by obtain⟨v,r,rfl,a,b⟩:=h.cons_inv;exact⟨v,by rw[b.uw],a⟩
def cr.two{x y:V}{vs:aX Zp}(h:cr I μ [x,y] vs):∃u v,vs=[u,v]/\bC I μ x u/\bC I μ y v:=by obtain⟨u,r,rfl,b,a⟩:=h.cons_inv;obtain⟨v,rfl,c⟩:=a.one;grind
def cr.four{x y z t:V}{vs:aX Zp}(h:cr I μ [x,y,z,t] vs):∃u v p q,vs=[u,v,p,q]/\bC I μ x u/\bC I μ y v/\bC I μ z p/\bC I μ t q:=by obtain⟨u,r,rfl,b,a⟩:=h.cons_inv;obtain⟨v,r2,rfl,c,a⟩:=a.cons_inv;obtain⟨p,q,rfl,w,B⟩:=a.two;grind
theorem qR{args:Array Zr}{l:aX Zp}(h:args.toList.map a.eval=l):args.map a.eval=l.toArray:=by grind
def vG:aY TK->V->aY V
 |some .str,.str s=>some (.int .i64 s.size)|some (.slice _),.fsl _ xs=>some (.int .i64 xs.length)|some (.slice _),.hsl _ _ _ len=>some (.int .i64 len)|some (.slice _),.c7=>some (.int .i64 0)|some (.slice _),.bD=>some (.int .i64 0)|_,_=>none
def Sh(T:dV P E){t:Zm}{x z:V}{v:Zp}{ty:Zm}{D:Array Zm}(U:D[0]?=some t)(G:bC I μ x v)
 (h:vG (E.kindOf t) x=some z):∃u,(len_ D ty #[v]).run P w=.ok u w/\bC I μ z u:=by
 cases b:E.kindOf t with
 |none=>rw[b]at h;grind[vG]|some k=>
  rw[b]at h;have⟨d,S,O⟩:=eU b;have⟨c,f,Q,X⟩:=(T.ty S).dw;rw[O]at Q
  cases k with
  |str=>
   have:=xV Q;subst this
   cases x with
   |str s=>simp only[vG,ζa]at h;subst h;rw[G.r_];refine⟨_,?_,.c _ _ (.int _ _)⟩;simp_all[len_,goInt]|_=>simp[vG]at h
  |slice e=>
   have:=iU Q;subst this;have B:∀J(len a:Nat),(len_ D ty #[.slice J len a]).run P w=.ok (.int .i64 len) w:=by simp_all[len_,goInt]
   cases x with
   |fsl es Y=>simp only[vG,ζa]at h;subst h;have⟨J,len,a,e1,e2,_⟩:=C2 (L:=0) (H:=0) G.kW (le_refl _) (zero_le _);rw[e1,<-e2];exact⟨_,B _ _ _,.c _ _ (.int _ _)⟩|hsl id es off len=>
    simp only[vG,ζa]at h;subst h;rcases G.kZ with⟨p,a,_,_,_,_,C⟩|⟨W,J,C⟩
    .rw[C];exact⟨_,B _ _ _,.c _ _ (.int _ _)⟩
    rw[C,W];exact⟨_,B _ _ _,.c _ _ (.int _ _)⟩
   |c7=>simp only[vG,ζa]at h;subst h;have⟨J,C⟩:=G.qD;rw[C];exact⟨_,B _ _ _,.c _ _ (.int _ _)⟩|bD=>simp only[vG,ζa]at h;subst h;rw[G.kU];exact⟨_,B _ _ _,.c _ _ (.int _ _)⟩|_=>simp[vG]at h
  |_=>simp[vG]at h
def R1:aY TK->V->aY V
 |some (.slice _),.bD=>some (.int .i64 0)|some (.slice _),.c7=>some (.int .i64 0)|_,_=>none
def R_(O:dV P E){t:Zm}{x z:V}{v:Zp}{ty:Zm}{B:Array Zm}(T:B[0]?=some t)(G:bC I μ x v)
 (h:R1 (E.kindOf t) x=some z):∃u,(cap_ B ty #[v]).run P w=.ok u w/\bC I μ z u:=by
 have key:∀e C,E.kindOf t=some (.slice e)->v=.slice C 0 0->(cap_ B ty #[v]).run P w=.ok (.int .i64 0) w:=λe C a c=>by have⟨d,L,D⟩:=eU a;have⟨b,f,J,Q⟩:=(O.ty L).dw;rw[D]at J;have:=iU J;simp_all[cap_,goInt]
 unfold R1 at h;split at h
 next _ _ e a=>cases h;exact⟨_,key _ _ a G.kU,.c _ _ (.int _ _)⟩
 next _ _ e a=>cases h;have⟨C,q⟩:=G.qD;exact⟨_,key _ _ a q,.c _ _ (.int _ _)⟩
 cases h
theorem fD{s:Sem Zp}{v:Zp}{w':World}(h:s.run P w=.ok v w'):(do pure (Next.value (<-s)):Sem Next).run P w=.ok (.value v) w':=by rw[run_bind,h];rfl
def Qh(G:dV P E)(r:dS I μ n F a.tmps)(o:Oper){x:V}(h:bF E F o.op=some x):
 ∃v,(execOp a.eval o).run P w=.ok (.value v) w/\bC I μ x v:=by
 obtain⟨dst,op,ty,pos,after,M⟩:=o;simp only at h
 cases op with
 |move y=>exact⟨_,rfl,c8 r (by simp_all[bF])⟩|assign y=>exact⟨_,rfl,c8 r (by simp_all[bF])⟩|pick c y z=>
  simp only[bF]at h;simp only[execOp];split at h
  .rename_i t hc;have e:=(c8 r hc).qp;simp only[e,asBool,run_bind,run_pure,andThen_ok]
   cases t with
   |true=>simp only[if_true]at h⊢;exact⟨_,rfl,c8 r h⟩|false=>simp only[false_eq_true,if_false]at h⊢;exact⟨_,rfl,c8 r h⟩
  simp at h
 |nilCheck y=>
  simp only[bF]at h;simp only[execOp];split at h
  next id el off D=>simp only[ζa]at h;subst h;have l:=c8 r D;obtain⟨p,_,e⟩:=l.sD;rw[e]at l⊢;simp_all
  next Z D=>simp only[ζa]at h;subst h;have l:=c8 r D;obtain⟨b,o,c,e,_⟩:=l.lB;rw[e]at l⊢;simp_all
  next f u v D=>simp only[ζa]at h;subst h;have l:=c8 r D;obtain⟨b,c,e,_⟩:=l.jy;rw[e]at l⊢;simp_all
  simp at h
 |binOp op t y z yt=>
  simp only[bF]at h;split at h
  next u v A l=>obtain⟨q,O,H⟩:=Rj (w:=w) G y z h (c8 r A) (c8 r l);exact⟨q,fD O,H⟩
  simp at h
 |unOp op t y=>
  simp only[bF]at h;simp only[execOp];split at h
  next b D=>simp only[ζa]at h;subst h;rw[(c8 r D).qp];exact⟨_,fD (by simp_all[Op.unary]),.c _ _ (.bool _)⟩
  next k m D=>simp only[ζa]at h;subst h;rw[(c8 r D).eV];exact⟨_,fD (by simp only[Op.unary,intArith];rfl),by simpa using bC.c _ _ (.int k _)⟩
  simp at h
 |convert s d y=>obtain⟨v,g,C⟩:=Km (w:=w) G r h;exact⟨v,fD g,C⟩|fieldAddr s y f=>obtain⟨v,g,C⟩:=JO (w:=w) G r h;exact⟨v,fD g,C⟩|field s y f=>obtain⟨v,g,C⟩:=N6 (w:=w) G r h;exact⟨v,fD g,C⟩|indexAddr t y i=>obtain⟨v,g,C⟩:=I4 (w:=w) G r h;exact⟨v,fD g,C⟩|index t y i=>obtain⟨v,g,C⟩:=Oh (w:=w) G r h;exact⟨v,fD g,C⟩|slice t y lo hi mx=>obtain⟨v,g,C⟩:=M7 (w:=w) G r h;exact⟨v,fD g,C⟩|build t ps=>obtain⟨v,g,C⟩:=N2 (w:=w) G r h;exact⟨v,fD g,C⟩|makeFunc f u v=>
  cases f with
  |func f=>
   simp only[bF]at h;split at h
   next Q x2 g C=>simp only[ζa]at h;subst h;have r1:=mX r g;have r2:=mX r C;refine⟨.func (.func f) (u.map a.eval) (v.map a.eval),rfl,?_⟩;refine .clo f _ _ _ _ (by simpa using r1.1) (by simpa using r2.1) (λj p q s t=>r1.2 j p q s (by simpa using t)) (λj p q s t=>r2.2 j p q s (by simpa using t))
   simp at h
  |_=>simp[bF]at h
 |extract y i=>
  simp only[bF]at h;simp only[execOp];split at h
  .rename_i vs D;obtain⟨S,e,T⟩:=(c8 r D).oT;rw[e];have U:=(ζe.1 h).1;have L:i<S.size:=by have:=T.1;grind
   refine⟨S[i],fD (by simp_all[Instr.extract]),T.2 i x _ h (by simp[L])⟩
  simp at h
 |call c=>
  obtain⟨callee,args,W⟩:=c
  cases callee with
  |builtin b=>
   simp only[bF]at h;simp only[execOp,resolve,run_bind,run_pure,andThen_ok,invoke];split at h
   .rename_i v t B J;obtain⟨u,A,H⟩:=(mX r B).one;rw[qR A];obtain⟨q,g,C⟩:=Sh (w:=w) (ty:=ty) G J H (by rw[<-h];rfl)
    grind[builtin,fD]
   .rename_i v t B J;obtain⟨u,A,H⟩:=(mX r B).one;rw[qR A];obtain⟨q,g,C⟩:=R_ (w:=w) (ty:=ty) G J H (by rw[<-h];rfl)
    grind[builtin,fD]
   .rename_i k Q X x2 B;split at h
    next K=>simp only[ζa]at h;subst h;subst K;obtain⟨u,v,e,A,l⟩:=(mX r B).two;rw[qR e,A.eV,l.eV];exact⟨_,by simp_all[builtin,max_,max2],.c _ _ (.int _ _)⟩
    simp at h
   .rename_i k Q k1 x2 k2 x3 k3 x4 B;split at h
    next K=>simp only[ζa]at h;subst h;obtain⟨rfl,rfl,rfl⟩:=K;obtain⟨u,v,p,q,e,A,l,Y,O⟩:=(mX r B).four;rw[qR e,A.eV,l.eV,Y.eV,O.eV];exact⟨_,by simp_all[builtin,max_,max2,AO],.c _ _ (.int _ _)⟩
    simp at h
   .rename_i k Q X x2 B;split at h
    next K=>simp only[ζa]at h;subst h;subst K;obtain⟨u,v,e,A,l⟩:=(mX r B).two;rw[qR e,A.eV,l.eV];exact⟨_,by simp_all[builtin,min_,min2],.c _ _ (.int _ _)⟩
    simp at h
   simp at h
  |_=>simp[bF]at h
 |_=>simp[bF]at h
end
structure fL(I:b_)(μ:Mu)(p:Pl)(c:Array Value)(es:Nat)(xs:List (List V)):Prop where
 es_eq:p.es=es
 sz:c.size=p.sz
 oa:∀x∈xs,x.length=es
 one:∀x∈xs,∀y∈x,V.one y=true
 room:p.o+xs.length*es<=c.size
 rel:cr I μ xs.flatten ((c.toList.drop p.o).take (xs.length*es))
def uj(I:b_)(μ:Mu)(B:aX (V×V))(es:Array MapEntry):Prop:=B.length=es.size/\∀(j:Nat)q e,B[j]?=some q->es[j]?=some e->bC I μ q.1 e.key/\bC I μ q.2 e.val
def z8.is:z8->LoopState->Prop
 |.ready,.ready|.busy,.busy|.done,.done=>True|_,_=>False
structure um(I:b_)(μ:Mu)(r:uo)(l:Loop):Prop where
 st:r.st.is l.state
 pend:l.pending=r.pend.bind lJ
 pendOk:r.pend≠some .norm
 frame:dS I μ r.nt r.frame l.tmps
 params:l.params.toList=r.params
 assign:l.assign=r.assign
 body:l.body=r.body
def Ob.live:Ob->Zl
 |.row ..|.map _|.loop _=>true|_=>false
def rj(I:b_)(μ:Mu)(w:World)(id:Nat):Ob->Prop
 |.free=>μ id=none|.dead=>True|.row es xs=>∃p c el,μ id=some p/\I p.b=none/\w.heap[p.b]?=some (.cells c el)/\fL I μ p c es xs|.frz es xs=>∃p c,μ id=some p/\I p.b=some (.cells c)/\fL I μ p c es xs|.map B=>∃p es a,μ id=some p/\I p.b=none/\w.heap[p.b]?=some (.map es a)/\uj I μ B es|.loop r=>∃p l,μ id=some p/\I p.b=none/\w.heap[p.b]?=some (.loop l)/\um I μ r l
structure cN(I:b_)(μ:Mu)(H:bh)(w:World):Prop where
 dom:∀id,H.length<=id->μ id=none
 imm:∀b x,I b=some x->x.at w b
 obs:∀id ob,H[id]?=some ob->rj I μ w id ob
 inj:∀id id' ob ob' p p',H[id]?=some ob->H[id']?=some ob'->ob.live=true->ob'.live=true->μ id=some p->μ id'=some p'->p.b=p'.b->id=id'
 gl:s7 I
def gO(μ:Mu)(H:bh)(b:Nat):Prop:=∃id p ob,H[id]?=some ob/\ob.live=true/\μ id=some p/\p.b=b
def Obj.nf(o:Obj):Prop:=∀c t fr,o=.cells c t fr->fr=(0,0)
def sC(c:Array Zp)(t:Zm):Obj.nf (.cells c t):=λ_ _ _ h=>Zd
def qi{o:Obj}(h:(match o with|.cells ..=>false|_=>true)=true):Obj.nf o:=λc t fr e=>Zd
theorem Bc{w w':World}{o:Obj}{b:Nat}(B:Obj.nf o)(d:w'.heap[b]?=some o)(D:∀k,k≠b->w'.heap[k]?=w.heap[k]?)(a:Addr)(h:w.frozen? a=false):w'.frozen? a=false:=by by_cases e:a.block=b;unfold frozen?;rw[e,d];split;rename_i c t z C u;cases u;have:=B _ _ _ rfl;grind;rfl;grind[frozen?]
structure uf(w w':World):Prop where
 out:w'.output=w.output
 tape:w'.tape=w.tape
 dr:w.drawn<=w'.drawn
def uf.refl(w:World):uf w w:=⟨rfl,rfl,le_refl _⟩
def uf.trans{w w' w'':World}(h:uf w w')(B:uf w' w''):uf w w'':=⟨B.out.trans h.out,B.tape.trans h.tape,le_trans h.dr B.dr⟩
structure Step(I:b_)(μ:Mu)(H:bh)(w:World)(I':b_)(μ':Mu)(H':bh)(w':World):Prop where
 le:b_.le I I'
 mu:Mu.le μ μ'
 len:H.length<=H'.length
 size:w.heap.size<=w'.heap.size
 frame:∀b,b<w.heap.size->¬gO μ H b->w'.heap[b]?=w.heap[b]?
 terr:∀b,((I' b).isSome=true\/gO μ' H' b)->(I b).isSome=true\/gO μ H b\/w.heap.size<=b
 os:w'.os=w.os
 out:uf w w'
 fz:∀a:Addr,a.block<w.heap.size->w.frozen? a=false->w'.frozen? a=false
section
variable{I I' I'':b_}{μ μ' μ'':Mu}{H H' H'':bh}{w w' w'':World}{P:Program}{E:Env}{n:Nat}{F:Zo}{a:Act}
def IC.uc{x:IC}{b:Nat}(h:x.at w b):b<w.heap.size:=by cases x with|cells c=>have⟨_,_,h⟩:=h;grind|map es=>have⟨_,h⟩:=h;grind
def IC.qI{x:IC}{b:Nat}(h:x.at w b)(e:w'.heap[b]?=w.heap[b]?):x.at w' b:=by cases x with|cells c=>have⟨el,fr,h⟩:=h;exact⟨el,fr,Zd⟩|map es=>have⟨a,h⟩:=h;exact⟨a,Zd⟩
def Step.refl(I:b_)(μ:Mu)(H:bh)(w:World):Step I μ H w I μ H w:=⟨b_.le_refl _,Mu.le_refl _,le_refl _,le_refl _,λ_ _ _=>rfl,λ_ h=>h.elim .inl λh=>.inr (.inl h),rfl,.refl _,λ_ _ h=>h⟩
theorem fG(s:cN I μ H w){b:Nat}(h:gO μ H b):I b=none:=by obtain⟨id,p,ob,h1,C,D,rfl⟩:=h;have:=s.obs id ob h1;cases ob with|row es G=>have⟨q,c,el,u,z,_⟩:=this;grind|map B=>have⟨q,c,el,u,z,_⟩:=this;grind|loop r=>have⟨q,c,u,z,_⟩:=this;grind|_=>grind[Ob.live]
theorem mo(s:cN I μ H w){b:Nat}(h:gO μ H b):b<w.heap.size:=by obtain⟨id,p,ob,h1,D,G,rfl⟩:=h;have:=s.obs id ob h1;cases ob with|row es J=>have⟨q,c,el,u,z,B,_⟩:=this;grind|map C=>have⟨q,c,el,u,z,B,_⟩:=this;grind|loop r=>have⟨q,c,u,z,B,_⟩:=this;grind|_=>grind[Ob.live]
theorem Step.trans(D:cN I' μ' H' w')(c:Step I μ H w I' μ' H' w')(B:Step I' μ' H' w' I'' μ'' H'' w''):Step I μ H w I'' μ'' H'' w'' where
 fz:=λa u h=>B.fz a (Nat.lt_of_lt_of_le u c.size) (c.fz a u h)
 le:=b_.le_trans c.le B.le
 mu:=λid p h=>B.mu id p (c.mu id p h)
 len:=le_trans c.len B.len
 size:=le_trans c.size B.size
 frame:=by intro b u C;rw[B.frame b (Nat.lt_of_lt_of_le u c.size) ?_,c.frame b u C];intro z;rcases c.terr b (.inr z)with h|h|h;have:=fG D z;have⟨x,G⟩:=isSome_iff_exists.1 h;rw[c.le _ _ G]at this;simp_all;all_goals grind
 terr:=by intro b h;rcases B.terr b h with h|h|h;exact c.terr b (.inl h);exact c.terr b (.inr h);exact .inr (.inr (le_trans c.size h))
 os:=B.os.trans c.os
 out:=c.out.trans B.out
def fL.mono(h:b_.le I I')(B:Mu.le μ μ'){p:Pl}{c:Array Zp}{es:Nat}{xs:Zt}(r:fL I μ p c es xs):fL I' μ' p c es xs:=⟨r.es_eq,r.sz,r.oa,r.one,r.room,r.rel.mono h B⟩
def uj.mono(h:b_.le I I')(D:Mu.le μ μ'){B:aX (V×V)}{es:Array MapEntry}(r:uj I μ B es):uj I' μ' B es:=⟨r.1,λj q e a b=>⟨(r.2 j q e a b).1.mono h D,(r.2 j q e a b).2.mono h D⟩⟩
def um.mono(h:b_.le I I')(B:Mu.le μ μ'){r:uo}{l:Loop}(x:um I μ r l):um I' μ' r l:=⟨x.st,x.pend,x.pendOk,x.frame.mono h B,x.params,x.assign,x.body⟩
def rj.mono(h:b_.le I I')(B:Mu.le μ μ'){id:Nat}{ob:Ob}(r:rj I μ w id ob)
 (D:∀p,μ id=some p->ob.live=true->w'.heap[p.b]?=w.heap[p.b]?/\I' p.b=none)(G:ob=.free->μ' id=none):rj I' μ' w' id ob:=by
 cases ob with
 |free=>exact G rfl|dead=>trivial|row es J=>have⟨p,c,el,a,z,C,u⟩:=r;have⟨g1,g2⟩:=D p a rfl;exact⟨p,c,el,B _ _ a,g2,Zd,u.mono h B⟩|frz es J=>have⟨p,c,a,z,u⟩:=r;exact⟨p,c,B _ _ a,h _ _ z,u.mono h B⟩|map L=>have⟨p,es,b,a,z,C,u⟩:=r;have⟨g1,g2⟩:=D p a rfl;exact⟨p,es,b,B _ _ a,g2,Zd,u.mono h B⟩|loop x=>have⟨p,l,a,z,C,u⟩:=r;have⟨g1,g2⟩:=D p a rfl;exact⟨p,l,B _ _ a,g2,Zd,u.mono h B⟩
def cN.nS(s:cN I μ H w)(e:w'.heap=w.heap):cN I μ H w' where
 dom:=s.dom
 imm:=λb x h=>IC.qI (s.imm b x h) (by rw[e])
 obs:=λid ob h=>(s.obs id ob h).mono (b_.le_refl _) (Mu.le_refl _) (λp u z=>⟨by rw[e],fG s ⟨id,p,ob,h,z,u,rfl⟩⟩) (λB=>by subst B;exact s.obs id _ h)
 inj:=s.inj
 gl:=s.gl
def Step.nS(e:w'.heap=w.heap)(c:w'.os=w.os)(B:uf w w'):Step I μ H w I μ H w':=⟨b_.le_refl _,Mu.le_refl _,le_refl _,Zd,λ_ _ _=>by rw[e],λb h=>h.elim .inl λh=>.inr (.inl h),c,B,λa _ h=>by grind[frozen?]⟩
def Mu.fZ(μ:Mu)(k:Nat)(p:Pl):Mu:=λid=>if id=k then some p else μ id
theorem Mu.fQ(μ:Mu)(k:Nat)(p:Pl):μ.fZ k p k=some p:=by simp[Mu.fZ]
theorem Mu.ir(μ:Mu){k id:Nat}(p:Pl)(h:id≠k):μ.fZ k p id=μ id:=by grind[Mu.fZ]
def Mu.pX{k:Nat}{p:Pl}(h:μ k=none):Mu.le μ (μ.fZ k p):=by intro id q u;grind[Mu.ir]
theorem l8(o:Obj)(b:Nat)(h:b<w.heap.size):(w.alloc o).heap[b]?=w.heap[b]?:=by show(w.heap.push o)[b]?=_;grind
def lS(o:Obj):(w.alloc o).heap[w.heap.size]?=some o:=by show(w.heap.push o)[w.heap.size]?=_;simp
def Mz{o:Obj}(B:Obj.nf o)(a:Addr)(h:w.frozen? a=false):(w.alloc o).frozen? a=false:=
 Bc B (lS o) (λk b=>by
  by_cases u:k<w.heap.size
  .grind[l8]
  show(w.heap.push o)[k]?=_
  grind) a h
def cN.place(s:cN I μ H w){k:Nat}{ob:Ob}{o:Obj}{p:Pl}(c:μ k=none)(G:H.length<=H'.length)(j:k<H'.length)
 (l:∀id,id≠k->H'[id]?=some .free\/H'[id]?=H[id]?)(T:∀id,id≠k->H'[id]?=some .free->μ id=none)(m:H'[k]?=some ob)(n:p.b=w.heap.size)
 (r:rj I (μ.fZ k p) (w.alloc o) k ob)(d:Obj.nf o):cN I (μ.fZ k p) H' (w.alloc o)/\Step I μ H w I (μ.fZ k p) H' (w.alloc o):=by
 have f:∀b x,I b=some x->b<w.heap.size:=λb x h=>IC.uc (s.imm b x h)
 have z:∀id u,id≠k->H'[id]?=some u->u≠.free->H[id]?=some u:=by grind
 have L:∀b,gO (μ.fZ k p) H' b->gO μ H b\/b=w.heap.size:=by rintro b ⟨id,q,u,h1,O,S,rfl⟩;by_cases e:id=k;grind[Mu.fQ];rw[Mu.ir _ _ e]at S;exact .inl ⟨id,q,u,z id u e h1 Zd,O,S,rfl⟩
 refine⟨⟨?_,?_,?_,?_,s.gl⟩,⟨b_.le_refl _,Mu.pX c,G,Zc,?_,?_,rfl,⟨rfl,rfl,le_refl _⟩,λa _=>Bc (b:=w.heap.size) d (lS o) (λk c=>?_) a⟩⟩
 .intro id h;rw[Mu.ir _ _ Za]
  exact s.dom id Za
 .intro b x h;exact IC.qI (s.imm b x h) (l8 o b (f b x h))
 .intro id u h
  by_cases e:id=k
  .grind
  by_cases Q:u=.free
  .subst Q;show(μ.fZ k p) id=none;rw[Mu.ir _ _ e];grind
  have U:=z id u e h Q;refine(s.obs id u U).mono (b_.le_refl _) (Mu.pX c) (λq g W=>?_) (λi=>absurd i Q)
  have t:gO μ H q.b:=⟨id,q,u,U,W,g,rfl⟩
  grind[l8,mo,fG]
 .intro id B o1 o2 q X h1 O Y Z C D hb
  by_cases e:id=k<;>by_cases J:B=k
  .simp_all
  .subst e;rw[Mu.fQ]at C;cases C;rw[Mu.ir _ _ J]at D;have:=mo s ⟨B,X,o2,z B o2 J O Zd,Z,D,rfl⟩
   omega
  .subst J;rw[Mu.fQ]at D;cases D;rw[Mu.ir _ _ e]at C;have:=mo s ⟨id,q,o1,z id o1 e h1 Zd,Y,C,rfl⟩
   omega
  rw[Mu.ir _ _ e]at C;rw[Mu.ir _ _ J]at D;exact s.inj id B o1 o2 q X (z id o1 e h1 Zd) (z B o2 J O Zd) Y Z C D hb
 .grind[l8]
 .grind
 by_cases W:k<w.heap.size
 .grind[l8]
 show(w.heap.push o)[k]?=_;rw[Array.getElem?_eq_none (by simp;omega),Array.getElem?_eq_none Za]
def cN.push(s:cN I μ H w){ob:Ob}{o:Obj}{p:Pl}(D:p.b=w.heap.size)(B:rj I (μ.fZ H.length p) (w.alloc o) H.length ob)(G:Obj.nf o:=by first|exact sC _ _|exact qi rfl):
 cN I (μ.fZ H.length p) (H++[ob]) (w.alloc o)/\Step I μ H w I (μ.fZ H.length p) (H++[ob]) (w.alloc o):=by
 refine s.place (s.dom _ (le_refl _)) Zc Zc (λid h=>.inr ?_) (λid h z=>?_) Zc D B G
 .grind
 by_cases u:id<H.length
 .rw[List.getElem?_append_left u]at z;exact s.obs id _ z
 grind
theorem cN.fill(s:cN I μ H w){k:Nat}{ob:Ob}{o:Obj}{p:Pl}(a:H[k]?=some .free)(D:p.b=w.heap.size)(B:rj I (μ.fZ k p) (w.alloc o) k ob)(G:Obj.nf o:=by first|exact sC _ _|exact qi rfl):
 cN I (μ.fZ k p) (H.set k ob) (w.alloc o)/\Step I μ H w I (μ.fZ k p) (H.set k ob) (w.alloc o):=by
 have z:=(ζe.1 a).1;refine s.place (s.obs k _ a) Zc Zd (λid h=>.inr ?_) (λid h u=>?_) Ze D B G
 .grind
 rw[getElem?_set_ne (Ne.symm h)]at u;exact s.obs id _ u
def fI(w:World)(b:Nat)(o:Obj):World:={w with heap:=w.heap.setIfInBounds b o}
theorem gz(o:Obj){b B:Nat}(h:B≠b):(fI w b o).heap[B]?=w.heap[B]?:=by grind[fI]
def iH(o:Obj){b:Nat}(h:b<w.heap.size):(fI w b o).heap[b]?=some o:=by grind[fI]
def vg(b:Nat)(o:Obj):(fI w b o).heap.size=w.heap.size:=by simp[fI]
def Mp(b:Nat)(o B:Obj):fI (fI w b o) b B=fI w b B:=by simp[fI]
def SB{o:Obj}{b:Nat}(B:Obj.nf o)(a:Addr)(h:w.frozen? a=false):(fI w b o).frozen? a=false:=by grind[Bc,fI,frozen?]
def cN.write(s:cN I μ H w){id:Nat}{ob ob':Ob}{o:Obj}{p:Pl}(B:H[id]?=some ob)(T:ob.live=true)(U:μ id=some p)
 (Y:rj I μ (fI w p.b o) id ob')(d:Obj.nf o:=by first|exact sC _ _|exact qi rfl):cN I μ (H.set id ob') (fI w p.b o)/\Step I μ H w I μ (H.set id ob') (fI w p.b o):=by
 have C:gO μ H p.b:=⟨id,p,ob,B,T,U,rfl⟩;have u:∀k x,(H.set id ob')[k]?=some x->∃y,H[k]?=some y/\(x.live=true->y.live=true)/\(k≠id->y=x):=by grind
 have J:∀b,gO μ (H.set id ob') b->gO μ H b:=by rintro b ⟨k,q,x,c,L,Z,rfl⟩;have⟨y,O,z,_⟩:=u k x c;exact⟨k,q,y,O,z L,Z,rfl⟩
 refine⟨⟨?_,?_,?_,?_,s.gl⟩,⟨b_.le_refl _,Mu.le_refl _,Zc,by rw[vg];grind,?_,?_,rfl,⟨rfl,rfl,le_refl _⟩,λa _=>Bc d (iH o (mo s C)) (λk f=>gz o f) a⟩⟩
 .intro k h;exact s.dom k Zd
 .intro b x h;refine IC.qI (s.imm b x h) (gz o ?_)
  grind[fG]
 .intro k x h
  by_cases e:k=id
  .grind
  rw[getElem?_set_ne (Ne.symm e)]at h;refine(s.obs k x h).mono (b_.le_refl _) (Mu.le_refl _) (λq W D=>⟨gz o ?_,fG s ⟨k,q,x,h,D,W,rfl⟩⟩) (λg=>by subst g;exact s.obs k _ h)
  intro Q;exact e (s.inj k id x ob q p h B D T W U Q)
 .intro k X x x' q q' c L l1 l2 m1 m2 Q;have⟨y,O,z,_⟩:=u k x c;have⟨i,S,G,_⟩:=u X x' L;exact s.inj k X y i q q' O S (z l1) (G l2) m1 m2 Q
 all_goals grind[gz]
def cN.kill(s:cN I μ H w){id:Nat}{ob:Ob}(B:H[id]?=some ob):cN I μ (H.set id .dead) w/\Step I μ H w I μ (H.set id .dead) w:=by
 have C:=(ζe.1 B).1;have u:∀k x,(H.set id .dead)[k]?=some x->x.live=true->H[k]?=some x/\k≠id:=by grind[Ob.live]
 refine⟨⟨?_,s.imm,?_,?_,s.gl⟩,⟨b_.le_refl _,Mu.le_refl _,Zc,le_refl _,λ_ _ _=>rfl,?_,rfl,.refl _,λ_ _ h=>h⟩⟩;intro k h;exact s.dom k Zd;intro k x h;by_cases e:k=id;subst e;rw[List.getElem?_set_self C]at h;cases h;trivial;rw[getElem?_set_ne (Ne.symm e)]at h;exact s.obs k x h;intro k D x G q O a z J L Q S T;exact s.inj k D x G q O (u k x a J).1 (u D G z L).1 J L Q S T;rintro b (h|⟨k,q,x,a,z,U,rfl⟩);grind;exact .inr (.inl ⟨k,q,x,(u k x a z).1,z,U,rfl⟩)
end
section
variable{P:Program}{E:Env}{I:b_}{μ:Mu}{H:bh}{n:Nat}{F:Zo}{a:Act}{w:World}
theorem uy{b:Nat}{c:Array Zp}{el:Zm}{fr:Nat×Nat}(h:w.heap[b]?=some (.cells c el fr))(k:Nat):w.cell? ⟨b,k,none⟩=c[k]?:=by grind[cell?]
def Ht{b o:Nat}{c:Array Zp}(d:∀k,w.cell? ⟨b,k,none⟩=c[k]?):∀(m i:Nat)(a:Array Zp),o+i+m<=c.size->
 (loadCellsFrom ⟨b,o,none⟩ i m a).run P w=.ok (a++((c.toList.drop (o+i)).take m).toArray) w:=by
 intro m
 induction m with
 |zero=>simp_all[loadCellsFrom]|succ m z=>
  intro i a h;have u:o+i<c.size:=Za
  have e:w.cell? ⟨b,o+i,none⟩=some c[o+i]:=by rw[d];simp[u]
  simp only[loadCellsFrom,run_bind,oy,run_load,e,andThen_ok];rw[z (i+1) _ Za]
  simp_all[List.drop_eq_getElem_cons,add_assoc]
theorem CP{b o m:Nat}{c:Array Zp}(a:∀k,w.cell? ⟨b,k,none⟩=c[k]?)(h:o+m<=c.size\/m=0):
 (loadCells ⟨b,o,none⟩ m).run P w=.ok ((c.toList.drop o).take m).toArray w:=by
 rcases h with h|h
 .have:=Ht (P:=P) a m 0 #[] (o:=o) Za
  grind[loadCells]
 simp_all[loadCells,loadCellsFrom]
theorem fm{es:Nat}{xs:Zt}(a:∀x∈xs,x.length=es):xs.flatten.length=xs.length*es:=by induction xs with|nil=>simp|cons x xs u=>grind
def CI{es:Nat}:∀{xs:Zt}(_:∀x∈xs,x.length=es){el:Nat}{cs:Zu},xs[el]?=some cs->(xs.flatten.drop (el*es)).take es=cs:=by intro xs;induction xs with|nil=>grind|cons x xs u=>intro a el cs h;have w:x.length=es:=a x Zc;cases el with|zero=>grind|succ el=>have:=u (λy z=>a y (mem_cons_of_mem _ z)) (el:=el) (cs:=cs) (by simpa using h);rw[List.flatten_cons,show(el+1)*es=x.length+el*es by rw[w,add_mul];omega,<-drop_drop];grind
def Gl{es:Nat}:∀{xs:Zt}(_:∀x∈xs,x.length=es){el:Nat}(cs:Zu),el<xs.length->cs.length=es->
 (xs.set el cs).flatten=xs.flatten.take (el*es)++cs++xs.flatten.drop (el*es+es):=by
 intro xs
 induction xs with
 |nil=>grind|cons x xs u=>
  intro a el cs h b;have w:x.length=es:=a x Zc
  cases el with
  |zero=>simp[w]|succ el=>
   have:=u (λy z=>a y (mem_cons_of_mem _ z)) (el:=el) cs (by simpa using h) b
   grind[add_mul,List.take_append,List.drop_append,List.drop_eq_nil_of_le,Nat.add_sub_cancel_left]
def uN{es:Nat}{xs:Zt}(a:∀x∈xs,x.length=es){i j:Nat}{x:Zu}{y:V}(b:xs[i]?=some x)(B:x[j]?=some y):xs.flatten[i*es+j]?=some y:=by have:=CI a b;grind
def fL.elem{p:Pl}{c:Array Zp}{es:Nat}{xs:Zt}(r:fL I μ p c es xs){el:Nat}{cs:Zu}(h:xs[el]?=some cs):
 cr I μ cs ((c.toList.drop (p.o+el*es)).take es)/\cs.length=es/\p.o+el*es+es<=c.size:=by
 have u:=(ζe.1 h).1;have z:=r.oa cs (mem_of_getElem? h);have a:=(r.rel.drop (el*es)).take es;rw[CI r.oa h]at a;have B:el*es+es<=xs.length*es:=by have:=mul_le_mul_right es (show el+1<=xs.length from u);rwa [add_mul,one_mul]at this
 have w:=r.room
 grind[drop_take,drop_drop]
def fL.span{p:Pl}{c:Array Zp}{es:Nat}{xs:Zt}(r:fL I μ p c es xs){off len:Nat}(h:off+len<=xs.length):
 cr I μ ((xs.drop off).take len).flatten ((c.toList.drop (p.o+off*es)).take (len*es))/\p.o+off*es+len*es<=c.size:=by
 have w:=r.room;have z:off*es+len*es<=xs.length*es:=by rw[<-add_mul];exact mul_le_mul_right _ h
 have e1:((xs.drop off).take len).flatten=(xs.flatten.drop (off*es)).take (len*es):=by have u:xs=xs.take off++((xs.drop off).take len++(xs.drop off).drop len):=(by rw[take_append_drop,take_append_drop]);have g1:(xs.take off).flatten.length=off*es:=(by rw[fm (λx u=>r.oa x (mem_of_mem_take u))];rw[List.length_take,Nat.min_eq_left Za]);have g2:((xs.drop off).take len).flatten.length=len*es:=(by rw[fm (λx u=>r.oa x (mem_of_mem_drop (mem_of_mem_take u))),List.length_take,List.length_drop,Nat.min_eq_left Za]);have B:=congrArg List.flatten u;grind
 have a:=(r.rel.drop (off*es)).take (len*es);rw[e1]
 grind[drop_take,drop_drop]
def GC{ob:Ob}{es:Nat}{xs:Zt}(h:ob.rows=some (es,xs)):ob=.row es xs\/ob=.frz es xs:=by cases ob<;>simp_all [Ob.rows]
def cN.rows(s:cN I μ H w){id es:Nat}{xs:Zt}(h:(H[id]?).bind Ob.rows=some (es,xs)):
 ∃p c,μ id=some p/\(∀k,w.cell? ⟨p.b,k,none⟩=c[k]?)/\fL I μ p c es xs:=by
 have⟨ob,a,u⟩:=ζg.1 h;have:=s.obs id ob a;rcases GC u with rfl|rfl
 .have⟨p,c,el,g1,_,g3,g4⟩:=this
  grind[uy]
 have⟨p,c,g1,g2,g4⟩:=this;have⟨el,fr,g3⟩:=s.imm _ _ g2
 grind[uy]
def MO(s:cN I μ H w){p:V}{v:Zp}(d:bC I μ p v){m:Nat}{cs:Zu}(h:dZ H p m=some cs):
 ∃(b o:Nat)(c:Array Zp),v=.pointer (some ⟨b,o,none⟩)/\(∀k,w.cell? ⟨b,k,none⟩=c[k]?)/\(o+m<=c.size\/m=0)/\cr I μ cs ((c.toList.drop o).take m):=by
 unfold dZ at h;split at h
 .rename_i z;have⟨b,o,c,e,G,S,i⟩:=d.lB;have⟨el,fr,g⟩:=s.imm _ _ G;refine⟨b,o,c,e,uy g,?_⟩;have J:cr I μ z ((c.toList.drop o).take z.length):=by
   refine⟨by simp;omega,λj x y f L=>?_⟩
   have O:=(ζe.1 f).1;rw[getElem?_take,if_pos O,getElem?_drop]at L;exact .c _ _ (i j x y f Zd)
  rcases zB J h with⟨g1,g2,g3⟩|⟨g1,g2⟩
  .grind
  refine⟨.inr g1,?_⟩;rw[g2,g1];exact .nil
 .rename_i id el off;split at h
  .rename_i es z u;split at h
   .rename_i Q B;have⟨p,c,g1,g2,g3⟩:=s.rows u;have⟨q,C,e⟩:=d.sD;rw[g1]at C;cases C;refine⟨_,_,c,e,g2,?_⟩;have⟨k1,k2,k3⟩:=g3.elem B;rw[g3.es_eq];rcases zB k1 h with⟨a,D,T⟩|⟨a,D⟩
    .grind[drop_take,drop_drop]
    refine⟨.inr a,?_⟩;rw[D,a];exact .nil
   simp at h
  simp at h
 simp at h
def A6(D:dV P E)(s:cN I μ H w){t:Zm}{d:TD}(G:E.tt t=some d){p x:V}{v:Zp}(a:bC I μ p v)(h:(dZ H p d.size).bind (mk d.agg)=some x):
 ∃u,(loadAt t v).run P w=.ok u w/\bC I μ x u/\∃J,v=.pointer (some J)/\(loadVar t J).run P w=.ok u w:=by
 have⟨Q,f,B⟩:=ζg.1 h;have⟨b,o,c,e,g1,g2,g3⟩:=MO s a f;have key:∃u,(loadVar t ⟨b,o,none⟩).run P w=.ok u w/\bC I μ x u:=by unfold loadVar;simp only[run_bind,(D.ty G).Kr,andThen_ok];cases z:d.agg with|true=>rw[z]at B;refine⟨.agg ((c.toList.drop o).take d.size).toArray,?_,Lx B Zd⟩;simp only[if_true,run_bind,(D.ty G).jI,andThen_ok,CP g1 g2,run_pure]|false=>rw[z]at B;have⟨u,g,L⟩:=mk_one B g3;refine⟨u,?_,L⟩;have O:d.size≠0:=(by grind);have C:c[o]?=some u:=(by have:=congrArg (·[0]?) g;grind);simp_all
 grind[loadAt,sureAddr]
def cN.FH(s:cN I μ H w){b:Nat}{x:IC}(h:I b=some x):b<w.heap.size:=IC.uc (s.imm b x h)
def QF{b es:Nat}{c:Array Zp}{xs:Zt}(h:cr I μ xs.flatten c.toList)(a:∀x∈xs,x.length=es)(B:∀x∈xs,∀y∈x,V.one y=true):
 fL I μ ⟨b,0,es,c.size⟩ c es xs:=by
 have u:xs.length*es=c.size:=by rw[<-fm a,h.1];simp
 exact⟨rfl,rfl,a,B,by simp[u],by grind[List.take_of_length_le]⟩
structure OX(I:b_)(μ:Mu)(w:World)(ob:Ob)(m:Mk)(o:Obj)(p:Pl)(u:Value):Prop where
 b:p.b=w.heap.size
 live:ob.live=true
 nf:Obj.nf o
 len:∀es xs,ob=.row es xs->p.sz=xs.length*es
 rel:∀k,μ k=none->rj I (μ.fZ k p) (w.alloc o) k ob/\bC I (μ.fZ k p) (m.val k) u
def cN.wu(s:cN I μ H w):I w.heap.size=none:=by cases h:I w.heap.size with|none=>rfl|some x=>have:=s.FH h;omega
def uY(s:cN I μ H w){es:Nat}{xs:Zt}{c:Array Zp}{el:Zm}{m:Mk}{u:Zp}(h:cr I μ xs.flatten c.toList)(a:∀x∈xs,x.length=es)
 (B:∀x∈xs,∀y∈x,V.one y=true)(d:∀k,bC I (μ.fZ k ⟨w.heap.size,0,es,c.size⟩) (m.val k) u):OX I μ w (.row es xs) m (.cells c el) ⟨w.heap.size,0,es,c.size⟩ u where
 nf:=sC _ _
 b:=rfl
 live:=rfl
 len:=λz C e=>by cases e;rw[<-fm a,h.1];simp
 rel:=λk f=>⟨⟨_,c,el,Mu.fQ _ _ _,s.wu,lS _,(QF h a B).mono (b_.le_refl _) (Mu.pX f)⟩,d k⟩
def Iq(t:Zm)(v:Zp):(newVar t v).run P w=.ok ⟨w.heap.size,0,none⟩ (w.alloc (.cells v.cells t)):=by simp[newVar,newRow]
def u6{z:Zu}{B:Array Zp}(h:cr I μ z B.toList)(m:Nat):
 cr I μ (replicate m z).flatten (((Array.range (m*B.size)).map (λi=>B[i % B.size]!)).toList):=by
 have C:z.length=B.size:=by simpa using h.1
 have c:∀x∈replicate m z,x.length=z.length:=λx J=>by rw[eq_of_mem_replicate J]
 have w:=fm c;simp only[List.length_replicate]at w;refine⟨by rw[w,C];simp,λj x y a O=>?_⟩
 have G:=(ζe.1 a).1;rw[w]at G;have u:0<z.length:=by grind
 have L:j / z.length<m:=(Nat.div_lt_iff_lt_mul u).2 G;have b:j % z.length<z.length:=mod_lt _ u;have e1:=uN c (i:=j / z.length) (j:=j % z.length) (x:=z) (y:=z[j % z.length]) (by simp[L]) (by simp[b])
 rw[Nat.mul_comm,Nat.div_add_mod]at e1;rw[e1]at a;cases a;have D:j % B.size<B.size:=by rw[<-C];exact b
 have e2:y=B[j % B.size]:=by grind
 rw[e2];exact h.2 (j % z.length) _ _ (by simp[b]) (by rw[C];simp[D])
def Ee{es:Nat}:∀(vs:aX (Nat×V))(xs ys:Zt),(∀x∈xs,x.length=es)->(∀x∈xs,∀y∈x,V.one y=true)->eR es xs vs=some ys->
 sR (λi=>some (i*es,es)) xs.flatten vs=some ys.flatten/\(∀x∈ys,x.length=es)/\(∀x∈ys,∀y∈x,V.one y=true)/\ys.length=xs.length:=by
 intro vs
 induction vs with
 |nil=>intro xs ys a z h;simp only[eR,ζa]at h;subst h;exact⟨rfl,a,z,rfl⟩|cons v vs C=>
  intro xs ys a z h;have⟨i,v⟩:=v;simp only[eR]at h;split at h
  .rename_i hc;have⟨b,B,I⟩:=hc;have u:∀x∈xs.set i v.cells,x.length=es:=λx D=>by
    grind
   have w:∀x∈xs.set i v.cells,∀y∈x,V.one y=true:=λx D=>by grind
   have⟨g1,g2,g3,g4⟩:=C _ ys u w h;refine⟨?_,g2,g3,Zd⟩
   rw[Gl a _ B b]at g1;have J:i*es+es<=xs.length*es:=by have:=mul_le_mul_right es (show i+1<=xs.length from B);rwa [add_mul,one_mul]at this
   have G:=fm a
   grind[sR]
  simp at h
def Av(J:dV P E)(r:dS I μ n F a.tmps)(s:cN I μ H w)(o:Oper){ob:Ob}{m:Mk}(h:ey E F o.op=some (ob,m)):
 ∃x p u,(execOp a.eval o).run P w=.ok (.value u) (w.alloc x)/\OX I μ w ob m x p u:=by
 have⟨dst,op,ty,pos,after,j⟩:=o;simp only at h
 cases op with
 |alloc t=>
  simp only[ey,ζf,ζc]at h;obtain⟨d,T,rfl,rfl⟩:=h;have⟨z,N,b,U,q⟩:=(J.ty T).BW;refine⟨.cells z.cells t,_,.pointer (some ⟨w.heap.size,0,none⟩),?_,uY s Zd (by simp[U]) Zd (λk=>?_)⟩
  .simp_all[execOp,Instr.alloc,Iq]
  have:=bC.hptr (I:=I) k 0 0 _ (Mu.fQ μ k ⟨w.heap.size,0,d.size,z.cells.size⟩);simp only[zero_mul,add_zero]at this;exact this
 |box t x=>
  simp only[ey]at h;split at h
  .rename_i v hv;split at h
   .rename_i q;simp only[ζa,ζc]at h;obtain⟨rfl,rfl⟩:=h;have b:=c8 r hv;refine⟨.cells (a.eval x).cells t,_,.pointer (some ⟨w.heap.size,0,none⟩),?_,uY s (by simpa using b.cells) Zc Zd (λk=>?_)⟩
    .simp_all[execOp,Instr.box,Iq]
    have:=bC.hptr (I:=I) k 0 0 _ (Mu.fQ μ k ⟨w.heap.size,0,v.cells.length,(a.eval x).cells.size⟩);simp only[zero_mul,add_zero]at this;exact this
   simp at h
  simp at h
 |makeSlice t l c=>
  simp only[ey]at h;split at h
  .rename_i e k1 ln k2 B g U hc;have⟨d,T,L⟩:=eU g;have⟨f,h1,W,A⟩:=(J.ty T).dw;rw[L]at W;have:=iU W;subst this;split at h
   .rename_i D C;split at h
    .rename_i O;obtain⟨rfl,rfl,am,an,hm,ao⟩:=O;simp only[ζa,ζc]at h;obtain⟨rfl,rfl⟩:=h;have⟨z,N,b,Q,q⟩:=(J.ty C).BW;have⟨i,_,hi,aj,ap,_⟩:=(J.ty C).info;have G:z.cells.size=D.size:=by have:=(b I μ).1;grind
     have ak:(0:Int)<=B:=Za
     have w1:i64.wrap ln=ln:=by grind[wrap,IntKind.bits]
     have w2:i64.wrap B=B:=by grind[wrap,IntKind.bits]
     have al:∀y:Int,0<=y->y<=2147483648->((i.bytes:Int)*y>2 ^ 48)=False:=by
      intro y aa hy;simp only[eq_iff_iff,iff_false,Int.not_lt,gt_iff_lt];have ab:(i.bytes:Int)<=4096:=Za
      calc (i.bytes:Int)*y<=4096*2147483648:=Int.mul_le_mul ab hy aa Za
       _<=2 ^ 48:=by decide
     have X:(Instr.makeSlice t (.int .i64 ln) (.int .i64 B)).run P w=
      .ok (.slice (some ⟨w.heap.size,0,none⟩) ln.toNat B.toNat) (w.alloc (.cells ((Array.range (B.toNat*z.cells.size)).map (λi=>z.cells[i % z.cells.size]!)) e)):=by
      unfold Instr.makeSlice;have t1:(decide (B<0)||decide ((i.bytes:Int)*B>2 ^ 48))=false:=by
       rw[Bool.or_eq_false_iff]
       grind
      have q1:(((decide (B<0)||decide ((i.bytes:Int)*B>2 ^ 48))||decide (ln<0))||decide (ln>B))=false:=by rw[t1];simp;omega
      simp only[run_bind,A,andThen_ok,asInt,kQ,run_pure,nJ hi,w1,w2,q1,false_eq_true,if_false,run_askRoom,(J.ty C).jI];rw[G]
      by_cases Z:B.toNat*D.size=0
      .have M:Array.range 0=(#[]:Array Nat):=rfl;simp[Z,newRow,M]
      simp_all[newRow]
     refine⟨.cells ((Array.range (B.toNat*z.cells.size)).map (λi=>z.cells[i % z.cells.size]!)) e,_,.slice (some ⟨w.heap.size,0,none⟩) ln.toNat B.toNat,?_,uY s (u6 (b I μ) B.toNat) (λx S=>by rw[eq_of_mem_replicate S,Q]) (λx S=>by rw[eq_of_mem_replicate S];grind) (λk=>?_)⟩
     .simp only[execOp];refine fD ?_;rw[(c8 r U).eV,(c8 r hc).eV];exact X
     have:=bC.hsl (I:=I) (μ:=μ.fZ k ⟨w.heap.size,0,D.size,((Array.range (B.toNat*z.cells.size)).map (λi=>z.cells[i % z.cells.size]!)).size⟩) k 0 ln.toNat B.toNat _ (Mu.fQ _ _ _) Za (by simp[G])
     grind[Mk.val]
    simp at h
   simp at h
  simp at h
 |buildSlice t len ps=>
  simp only[ey]at h;split at h
  .rename_i e vs g ad;have⟨d,T,L⟩:=eU g;have⟨f,h1,W,A⟩:=(J.ty T).dw;rw[L]at W;have:=iU W;subst this;split at h
   .rename_i D C;split at h
    .rename_i ae;simp only[ζf,ζc]at h;obtain⟨ys,af,rfl,rfl⟩:=h;have⟨z,N,b,Q,q⟩:=(J.ty C).BW;have G:z.cells.size=D.size:=by have:=(b I μ).1;grind
     have⟨U,ah⟩:=DZ r ad;have⟨g1,g2,g3,g4⟩:=Ee vs _ ys (λx S=>by rw[eq_of_mem_replicate S,Q]) (λx S=>by rw[eq_of_mem_replicate S];grind) af
     have⟨K,R,V⟩:=AQ (place':=λi=>some (i*D.size,D.size)) (λi p hp=>hp) vs _ _ _ ((Array.range (len*z.cells.size)).map (λi=>z.cells[i % z.cells.size]!)) U ah (u6 (b I μ) len) g1
     have Y:K.size=len*D.size:=by
      have e1:=V.1;rw[fm g2,g4]at e1
      grind
     refine⟨.cells K e,_,.slice (some ⟨w.heap.size,0,none⟩) len len,?_,uY s V g2 g3 (λk=>?_)⟩
     .simp only[execOp];refine fD ?_;unfold Instr.buildSlice;have ai:¬(len*D.size>2 ^ 24):=by omega
      simp only[run_bind,A,andThen_ok,(J.ty C).jI,if_neg ai]
      by_cases Z:len*D.size=0
      .have e0:(Array.range (len*z.cells.size)).map (λi=>z.cells[i % z.cells.size]!)=#[]:=by rw[G,Z];simp
       rw[e0]at R;have M:Array.range 0=(#[]:Array Nat):=rfl;simp only[Z,if_true,run_pure,andThen_ok,M,Array.map_empty];rw[R];simp[newRow]
      simp_all[newRow]
     have:=bC.hsl (I:=I) (μ:=μ.fZ k ⟨w.heap.size,0,D.size,K.size⟩) k 0 len len _ (Mu.fQ _ _ _) (le_refl _) (by simp[Y])
     grind[Mk.val]
    simp at h
   simp at h
  simp at h
 |makeMap t r=>
  cases r with
  |none=>
   simp only[ey,ζa,ζc]at h;obtain⟨rfl,rfl⟩:=h;refine⟨.map #[] 0,⟨w.heap.size,0,0,0⟩,.map (some w.heap.size),?_,⟨rfl,rfl,qi rfl,λ_ _ e=>(nomatch e),λk g=>⟨⟨_,#[],0,Mu.fQ _ _ _,s.wu,lS _,rfl,Zc⟩,?_⟩⟩⟩
   .simp_all[execOp,Instr.makeMap]
   exact bC.hmap (I:=I) k ⟨w.heap.size,0,0,0⟩ (Mu.fQ _ _ _)
  |some x=>grind[ey]
 |_=>simp[ey]at h
end
section
variable{P:Program}{E:Env}{I:b_}{μ:Mu}{H H':bh}{n:Nat}{F:Zo}{a:Act}{w:World}
def bC.one{x:V}{v:Zp}(h:bC I μ x v)(B:x.one=true):v.oneCell'=true:=by
 cases h with
 |c _ _ h=>cases h<;>first|rfl|grind[V.one]
 |agg=>grind[V.one]|tup=>grind[V.one]|_=>rfl
def cr.Og{xs:Zu}{vs:aX Zp}(h:cr I μ xs vs)(B:∀x∈xs,V.one x=true):∀v∈vs,v.oneCell'=true:=by
 intro v a;obtain⟨j,w,rfl⟩:=List.mem_iff_getElem.1 a;have u:j<xs.length:=by rw[h.1];exact w
 exact(h.2 j xs[j] vs[j] (by simp[u]) (by simp[w])).one (B _ (List.getElem_mem u))
def Mw{b:Nat}{o:Obj}(h:w.heap[b]?=some o):fI w b o=w:=by
 unfold fI;have:w.heap.setIfInBounds b o=w.heap:=by grind
 rw[this]
def E6{b o:Nat}{c:Array Zp}{el:Zm}{v:Zp}(h:w.heap[b]?=some (.cells c el)):
 w.setCell ⟨b,o,none⟩ v=fI w b (.cells (c.setIfInBounds o v) el):=by
 unfold World.setCell fI
 congr 1
 grind
def tT{b o:Nat}{el:Zm}:∀(vs:aX Zp)(i:Nat)(w:World)(c:Array Zp),w.heap[b]?=some (.cells c el)->(∀v∈vs,v.oneCell'=true)->o+i+vs.length<=c.size->
 ∃c',(storeCells ⟨b,o,none⟩ vs i).run P w=.ok () (fI w b (.cells c' el))/\c'.toList=c.toList.take (o+i)++vs++c.toList.drop (o+i+vs.length):=by
 intro vs
 induction vs with
 |nil=>simp_all[storeCells,Mw]|cons v vs D=>
  intro i w c h C G;simp only[List.length_cons]at G;have z:o+i<c.size:=Za
  have u:w.cell? ⟨b,o+i,none⟩=some c[o+i]:=by rw[uy h];simp[z]
  have B:w.frozen? ⟨b,o+i,none⟩=false:=by grind[frozen?]
  have I:=(Array.getElem?_eq_some_iff.1 h).1;have⟨c',g1,g2⟩:=D (i+1) (fI w b (.cells (c.setIfInBounds (o+i) v) el)) (c.setIfInBounds (o+i) v) (iH _ I) (λx J=>C x (mem_cons_of_mem _ J)) (by simp;omega)
  refine⟨c',?_,?_⟩
  .simp only[storeCells,run_bind,oy,run_store P w _ v _ (C v Zc),u,B,false_eq_true,if_false,andThen_ok,E6 h]
   rw[g1,Mp]
  grind[List.take_succ_eq_append_getElem,List.take_set_of_le,List.drop_set_of_lt]
structure Ah(P:Program)(I:b_)(μ:Mu)(H:bh)(w:World)(s:Sem Next)(x:V)(H':bh):Prop where
 run:∃nx u w' μ',s.run P w=.ok nx w'/\(nx=.value u\/(nx=.skip/\u=undef))/\bC I μ' x u/\cN I μ' H' w'/\Step I μ H w I μ' H' w'
def zJ{α:Type}(L vs:aX α)(o m k:Nat)(D:o+m<=L.length)(a:k+vs.length<=m):
 ((L.take (o+k)++vs++L.drop (o+k+vs.length)).drop o).take m=((L.drop o).take m).take k++vs++((L.drop o).take m).drop (k+vs.length):=by
 obtain⟨A,B,C,rfl,u,w⟩:∃A B C:aX α,L=A++(B++C)/\A.length=o/\B.length=m:=⟨L.take o,(L.drop o).take m,(L.drop o).drop m,by rw[take_append_drop,take_append_drop],by simp;omega,by simp;omega⟩
 subst u;subst w;have e1:(A++(B++C)).take (A.length+k)=A++B.take k:=by rw[List.take_append,List.take_of_length_le Za,Nat.add_sub_cancel_left,List.take_append_of_le_length Za]
 have e2:(A++(B++C)).drop (A.length+k+vs.length)=B.drop (k+vs.length)++C:=by rw[List.drop_append,List.drop_eq_nil_of_le Za,List.nil_append,List.drop_append_of_le_length Za];grind
 have e3:((A++(B++C)).drop A.length).take B.length=B:=Zc
 rw[e1,e2,e3];simp only[List.append_assoc,List.drop_left];have z:(B.take k++(vs++B.drop (k+vs.length))).length=B.length:=by simp;omega
 grind
def fL.splice{p:Pl}{c c':Array Zp}{es el off:Nat}{xs:Zt}{cs ys:Zu}{vs:aX Zp}(r:fL I μ p c es xs)(B:xs[el]?=some cs)(T:cr I μ ys vs)
 (W:∀y∈ys,V.one y=true)(Y:off+ys.length<=cs.length)(a:c'.toList=c.toList.take (p.o+el*es+off)++vs++c.toList.drop (p.o+el*es+off+vs.length)):
 fL I μ p c' es (xs.set el (cs.take off++ys++cs.drop (off+ys.length))):=by
 have⟨k1,k2,k3⟩:=r.elem B;have z:=(ζe.1 B).1;have J:=T.1;have L:=r.room;have X:el*es+es<=xs.length*es:=by have:=mul_le_mul_right es (show el+1<=xs.length from z);rwa [add_mul,one_mul]at this
 have C:c'.size=c.size:=by have:=congrArg length a;grind
 have O:(cs.take off++ys++cs.drop (off+ys.length)).length=es:=by simp;omega
 have u:∀x∈xs.set el (cs.take off++ys++cs.drop (off+ys.length)),x∈xs\/x=cs.take off++ys++cs.drop (off+ys.length):=λx D=>List.mem_or_eq_of_mem_set D
 refine⟨r.es_eq,by rw[C];exact r.sz,?_,?_,by rw[C];grind,?_⟩
 .intro x D;rcases u x D with h|h
  .exact r.oa x h
  grind
 .intro x D y G;rcases u x D with h|h
  .exact r.one x h y G
  rw[h]at G;have S:=r.one cs (mem_of_getElem? B)
  grind
 rw[Gl r.oa _ z O,a,List.length_set];have w:=r.rel;have Q:=CI r.oa B;have e:List.take (xs.length*es) (List.drop p.o (List.take (p.o+el*es+off) c.toList++vs++List.drop (p.o+el*es+off+vs.length) c.toList))=
  (((c.toList.drop p.o).take (xs.length*es)).take (el*es+off))++vs++(((c.toList.drop p.o).take (xs.length*es)).drop (el*es+off+vs.length)):=by
  have:=zJ c.toList vs p.o (xs.length*es) (el*es+off) Zd Za
  grind
 rw[e];have e2:xs.flatten.take (el*es)++(cs.take off++ys++cs.drop (off+ys.length))++xs.flatten.drop (el*es+es)=
  xs.flatten.take (el*es+off)++ys++xs.flatten.drop (el*es+off+ys.length):=by
  have U:=fm r.oa;have b:xs.flatten.take (el*es+off)=xs.flatten.take (el*es)++cs.take off:=by rw[<-Q,List.take_add,List.take_take,Nat.min_eq_left Za]
  grind[drop_take,drop_drop,take_append_drop]
 rw[e2,<-J];exact((w.take _).append T).append (w.drop _)
def N9(T:dV P E)(r:dS I μ n F a.tmps)(s:cN I μ H w){t:Zm}{p q:Zr}{x:V}(h:cq E F H (.store t p q)=some (x,H')):
 Ah P I μ H w (do storeAt t (a.eval p) (a.eval q);pure .skip) x H':=by
 simp only[cq]at h;split at h
 .rename_i d id el off v S U W;split at h
  .rename_i es L z;split at h
   .rename_i D B;split at h
    .rename_i hc;have⟨X,Y,Z⟩:=hc;simp only[ζa,ζc]at h;obtain⟨rfl,rfl⟩:=h;have⟨pl,c,ty,g1,g2,g3,g4⟩:=s.obs id _ z;have⟨j,O,e⟩:=(c8 r U).sD;rw[g1]at O;cases O;have u:=(c8 r W).cells;have Q:∀y∈v.cells,V.one y=true:=by grind
     have⟨k1,k2,k3⟩:=g4.elem B;have k:=u.1;have b:pl.o+el*es+off+0+(a.eval q).cells.toList.length<=c.size:=Za
     have⟨c',f,l⟩:=tT (P:=P) (o:=pl.o+el*es+off) (a.eval q).cells.toList 0 w c g3 (u.Og Q) b;have C:fL I μ pl c' es (L.set el (D.take off++v.cells++D.drop (off+v.cells.length))):=g4.splice B u Q Za Zd
     have G:=(Array.getElem?_eq_some_iff.1 g3).1;have⟨g,i⟩:=s.write (ob':=.row es (L.set el (D.take off++v.cells++D.drop (off+v.cells.length)))) (o:=.cells c' ty) z rfl g1
      ⟨pl,c',ty,g1,g2,iH _ G,C⟩
     refine⟨.skip,undef,_,μ,?_,.inr ⟨rfl,rfl⟩,.undef I μ,g,i⟩;rw[e];have J:¬((a.eval q).cells.size≠d.size):=Zd
     rw[g4.es_eq];unfold storeAt storeVar;simp only[run_bind,sureAddr,run_pure,andThen_ok,(T.ty S).jI,if_neg J,f]
    simp at h
   simp at h
  simp at h
 simp at h
def xT(s:cN I μ H w){x:V}{v:Zp}(T:bC I μ x v){es:Nat}{ys:Zt}(h:dg H es x=some ys):
 ∃B a arr,v=.slice B ys.length a/\ys.length<=a/\(∀G:World,G.heap=w.heap->(firstCells es ys.length v).run P G=.ok arr G)/\cr I μ ys.flatten arr.toList/\(∀y∈ys,y.length=es)/\
  (∀y∈ys,∀z∈y,V.one z=true):=by
 have C:∀(B:aY Addr)(a:Nat)(G:World),G.heap=w.heap->(firstCells es 0 (.slice B 0 a)).run P G=.ok #[] G:=by intro B a G _;cases B with|none=>rfl|some B=>simp[firstCells,loadCells,loadCellsFrom]
 cases x with
 |c7=>simp only[dg,ζa]at h;subst h;obtain⟨B,rfl⟩:=T.qD;exact⟨B,0,#[],rfl,le_refl _,C B 0,.nil,Zc,Zc⟩|bD=>simp only[dg,ζa]at h;subst h;rw[T.kU];exact⟨none,0,#[],rfl,le_refl _,C none 0,.nil,Zc,Zc⟩|fsl u L=>
  simp only[dg]at h;split at h
  .rename_i S;simp only[ζa]at h;subst h;subst S;have l:=T.kW
   cases l with
   |fsl0 _ B a=>exact⟨some B,a,#[],rfl,zero_le _,C (some B) a,.nil,Zc,Zc⟩|fsl _ _ b o a c hI k hu ho r hr=>
    have⟨el,fr,A⟩:=s.imm _ _ hI;refine⟨_,a,((c.toList.drop o).take (L.length*u)).toArray,rfl,k,?_,?_,hu,ho⟩
    .grind[firstCells,CP,uy]
    have U:=fm hu;refine⟨Zd,λj p q f m=>?_⟩
    have W:=(ζe.1 f).1;rw[U]at W;have D:0<u:=by grind
    have X:j / u<L.length:=(Nat.div_lt_iff_lt_mul D).2 W;have Y:j % u<u:=mod_lt _ D;have E:=hu _ (List.getElem_mem X);have e1:=uN hu (i:=j / u) (j:=j % u) (x:=L[j / u]) (y:=(L[j / u])[j % u]) (by simp[X]) Zd
    have g:j / u*u+j % u=j:=by rw[Nat.mul_comm,Nat.div_add_mod]
    rw[g,f]at e1;cases e1;simp only[getElem?_take,if_pos W,getElem?_drop]at m;refine .c _ _ (hr (j / u) (j % u) L[j / u] _ q (by simp[X]) Zd ?_)
    rw[add_assoc,g]
    grind
  simp at h
 |hsl id u off len=>
  simp only[dg]at h;split at h
  .rename_i S;subst S;split at h
   .rename_i O L Q;split at h
    .rename_i Z;simp only[ζa]at h;subst h;have⟨p,c,g1,g2,g3⟩:=s.rows Q;have J:((L.drop off).take len).length=len:=by simp;omega
     rcases T.kZ with⟨q,a,Y,n,k,r,e⟩|⟨t,B,e⟩
     .rw[g1]at Y;cases Y;have D:O=u:=by rw[<-g3.es_eq,n]
      subst D;have⟨k1,k2⟩:=g3.span Z;refine⟨_,a,((c.toList.drop (p.o+off*O)).take (len*O)).toArray,by rw[e,J],Za,?_,Zd,?_,?_⟩
      .grind[firstCells,CP,cell?]
      .exact λy d=>g3.oa y (mem_of_mem_drop (mem_of_mem_take d))
      exactλy d=>g3.one y (mem_of_mem_drop (mem_of_mem_take d))
     subst t;simp only[List.take_zero]at J⊢;exact⟨_,0,#[],by rw[e];rfl,le_refl _,by rw[e];grind,.nil,Zc,Zc⟩
    simp at h
   simp at h
  simp at h
 |_=>simp[dg]at h
def pF(z:Array Zp)(k:Nat):(zeroCells z k).size=k*z.size:=by simp[zeroCells]
def cN.drew(s:cN I μ H w):cN I μ H w.drew:=s.nS rfl
def yT(s:cN I μ H w){es B:Nat}{xs ys:Zt}{old new rest:Array Zp}{el:Zm}(T:cr I μ xs.flatten old.toList)(U:cr I μ ys.flatten new.toList)
 (J:∀x∈xs,x.length=es)(O:∀x∈ys,x.length=es)(W:∀x∈xs,∀y∈x,V.one y=true)(Y:∀x∈ys,∀y∈x,V.one y=true)
 (D:xs.length+ys.length<=B)(a:rest.size=(B-(xs.length+ys.length))*es):
 ∃μ',bC I μ' (.hsl H.length es 0 (xs.length+ys.length)) (.slice (some ⟨w.heap.size,0,none⟩) (xs.length+ys.length) B)/\cN I μ' (H++[.row es (xs++ys)]) (w.alloc (.cells (old++new++rest) el))/\
  Step I μ H w I μ' (H++[.row es (xs++ys)]) (w.alloc (.cells (old++new++rest) el)):=by
 have L:=fm J;have Q:=fm O;have u:=T.1;have z:=U.1;simp only[Array.length_toList]at u z;have S:(old++new++rest).size=B*es:=by simp only[Array.size_append];rw[<-u,<-z,L,Q,a,<-add_mul,<-add_mul];grind
 have C:(xs.length+ys.length)*es<=B*es:=mul_le_mul_right _ D;rw[add_mul]at C;have G:fL I μ ⟨w.heap.size,0,es,(old++new++rest).size⟩ (old++new++rest) es (xs++ys):=by refine⟨rfl,rfl,?_,?_,?_,?_⟩;grind;grind;rw[S];simp_all[add_mul];have e:((old++new++rest).toList.drop 0).take ((xs++ys).length*es)=old.toList++new.toList:=(by grind[add_mul]);rw[e,flatten_append];exact T.append U
 have⟨X,Z⟩:=s.push (ob:=.row es (xs++ys)) (o:=.cells (old++new++rest) el) (p:=⟨w.heap.size,0,es,(old++new++rest).size⟩) rfl
  ⟨_,_,el,Mu.fQ _ _ _,s.wu,lS _,G.mono (b_.le_refl _) (Mu.pX (s.dom _ (le_refl _)))⟩
 refine⟨_,?_,X,Z⟩;have:=bC.hsl (I:=I) H.length 0 (xs.length+ys.length) B _ (Mu.fQ μ H.length ⟨w.heap.size,0,es,(old++new++rest).size⟩) D Zd
 grind
def IX(s:cN I μ H w){id:Nat}{ob ob':Ob}{p p':Pl}{o:Obj}(B:H[id]?=some ob)(O:ob.live=true)(T:μ id=some p)(i:p'.b=p.b)
 (Y:rj I (μ.fZ H.length p') (fI w p.b o) H.length ob')(m:Obj.nf o:=by first|exact sC _ _|exact qi rfl):cN I (μ.fZ H.length p') (H.set id .dead++[ob']) (fI w p.b o)/\Step I μ H w I (μ.fZ H.length p') (H.set id .dead++[ob']) (fI w p.b o):=by
 have r:=(ζe.1 B).1;have G:gO μ H p.b:=⟨id,p,ob,B,O,T,rfl⟩;have c:=s.dom H.length (le_refl _);have u:∀k x,(H.set id .dead++[ob'])[k]?=some x->(k=H.length/\x=ob')\/(k≠H.length/\k=id/\x=.dead)\/(k≠H.length/\k≠id/\H[k]?=some x):=by grind
 have L:∀b,gO (μ.fZ H.length p') (H.set id .dead++[ob']) b->gO μ H b:=by rintro b ⟨k,q,x,d,Q,X,rfl⟩;rcases u k x d with⟨rfl,rfl⟩|⟨_,_,rfl⟩|⟨e,S,h⟩;rw[Mu.fQ]at X;grind;grind[Ob.live];rw[Mu.ir _ _ e]at X;exact⟨k,q,x,h,Q,X,rfl⟩
 refine⟨⟨?_,?_,?_,?_,s.gl⟩,⟨b_.le_refl _,Mu.pX c,Zc,by rw[vg];grind,?_,?_,rfl,⟨rfl,rfl,le_refl _⟩,λa _=>Bc (b:=p.b) m (iH o (mo s G)) (λk c=>gz o c) a⟩⟩
 .intro k h;simp at h;rw[Mu.ir _ _ Za]
  exact s.dom k Za
 .intro b x h;refine IC.qI (s.imm b x h) (gz o ?_)
  grind[fG]
 .intro k x h;rcases u k x h with⟨rfl,rfl⟩|⟨_,_,rfl⟩|⟨e,S,h⟩
  .exact Y
  .trivial
  refine(s.obs k x h).mono (b_.le_refl _) (Mu.pX c) (λq j J=>⟨gz o ?_,fG s ⟨k,q,x,h,J,j,rfl⟩⟩) (λn=>?_)
  .intro Z;exact S (s.inj k id x ob q p h B J O j T Z)
  subst n;rw[Mu.ir _ _ e];exact s.obs k _ h
 .intro k U x W q q' d Q l1 l2 C D z;rcases u k x d with⟨rfl,rfl⟩|⟨_,_,rfl⟩|⟨e,S,h⟩
  .rcases u U W Q with⟨rfl,rfl⟩|⟨_,_,rfl⟩|⟨f,l,g⟩
   .rfl
   .grind[Ob.live]
   rw[Mu.fQ]at C;cases C;rw[Mu.ir _ _ f]at D;exact absurd (s.inj U id W ob q' p g B l2 O D T (by rw[<-z,i])) l
  .grind[Ob.live]
  rcases u U W Q with⟨rfl,rfl⟩|⟨_,_,rfl⟩|⟨f,l,g⟩
  .rw[Mu.fQ]at D;cases D;rw[Mu.ir _ _ e]at C;exact absurd (s.inj k id x ob q p h B l1 O C T (by rw[z,i])) S
  .grind[Ob.live]
  rw[Mu.ir _ _ e]at C;rw[Mu.ir _ _ f]at D;exact s.inj k U x W q q' h g l1 l2 C D z
 .intro b _ hn;refine gz o ?_
  grind
 grind
def Bm(f:dV P E){t g e:Zm}{d:TD}{D:TypeDesc}(j:P.underlying t=some (.slice e))(U:P.underlying g=some D)(W:∃k,D=.slice k)(h:E.tt e=some d)
 (T J:aY Addr)(sl sc B c:Nat)(new:Array Zp)(Y:(firstCells d.size B (.slice J B c)).run P w=.ok new w)(ty:Zm):
 (sl+B<=sc->∀w',(match T with|some b=>(storeCells (b.add (sl*d.size)) new.toList).run P w=.ok () w'|none=>w'=w)->
  (append_ #[t,g] ty #[.slice T sl sc,.slice J B c]).run P w=.ok (.slice T (sl+B) sc) w')/\
 (sc<sl+B->sl+B<=2147483648->d.bytes<=4096->0<d.bytes->∀old,(∀O,O.heap=w.heap->(firstCells d.size sl (.slice T sl sc)).run P O=.ok old O)->
  (∀O,O.heap=w.heap->(firstCells d.size B (.slice J B c)).run P O=.ok new O)->
  ∃G rest,sl+B<=G/\rest.size=(G-(sl+B))*d.size/\
   (append_ #[t,g] ty #[.slice T sl sc,.slice J B c]).run P w=.ok (.slice (some ⟨w.heap.size,0,none⟩) (sl+B) G) (w.drew.alloc (.cells (old++new++rest) e))):=by
 have⟨i,z,l,n,o,p,L,q,_⟩:=(f.ty h).info;have u:∀w,(zeroValue e).run P w=.ok z w:=λw=>by simp_all[zeroValue,nJ]
 have Q:z.cells.size=d.size:=by have:=(L (λ_=>none) (λ_=>none)).1;grind
 obtain⟨k,rfl⟩:=W;constructor
 .intro S w' ai;unfold append_;simp only[run_bind,List.getElem?_toArray,List.getElem?_cons_zero,List.getElem?_cons_succ,dw j,dw U,andThen_ok,(f.ty h).jI,run_pure,lenOf,false_eq_true,if_false,Bool.not_false,if_true,if_pos S,Y]
  cases T with
  |none=>simp_all|some b=>simp_all
 intro X r s v old a C;have Z:=nextslicecap_le X;have m:¬(nextslicecap (sl+B) sc*i.bytes>2 ^ 48):=by have:nextslicecap (sl+B) sc*i.bytes<=(2*2147483648)*4096:=mul_le_mul Za Za;omega
 have I:¬(sl+B<=sc):=Za
 refine⟨(appendCap (sl+B) sc e).cut (w.tape w.drawn (appendCap (sl+B) sc e)),zeroCells z.cells (((appendCap (sl+B) sc e).cut (w.tape w.drawn (appendCap (sl+B) sc e)))-(sl+B)),?_,?_,?_⟩
 .simp[Question.cut]
 .rw[pF,Q]
 unfold append_;simp only[run_bind,List.getElem?_toArray,List.getElem?_cons_zero,List.getElem?_cons_succ,dw j,dw U,andThen_ok,(f.ty h).jI,run_pure,lenOf,false_eq_true,if_false,Bool.not_false,if_true,if_neg I,nJ l];rw[if_neg Zd]
 simp only[run_bind,nJ l,if_neg m,run_choose,forced,false_eq_true,if_false,andThen_ok,run_askRoom,u,newRow,run_newObj,run_pure];rw[a {w with drawn:=w.drawn+1} rfl];simp only[andThen_ok];rw[C {w with drawn:=w.drawn+1} rfl];rfl
def wrap_small{m:Nat}(h:m<=2147483648):i64.wrap (m:Int)=m:=by grind[wrap,IntKind.bits]
def DC(O:dV P E){t T e:Zm}{d:TD}{kk k:Zs}(a:P.underlying t=some (.slice e))(G:P.underlying T=some (.int kk))(U:E.tt e=some d)(ty:Zm)(m:Nat)(D:m<=2147483648):
 (m=0->(append_ #[t,T] ty #[.slice none 0 0,.int k m]).run P w=.ok (.slice none 0 0) w)/\
 (0<m->d.bytes<=4096->0<d.bytes->∃B z rest,m<=B/\rest.size=(B-m)*d.size/\cr I μ d.zero z.toList/\
  (append_ #[t,T] ty #[.slice none 0 0,.int k m]).run P w=.ok (.slice (some ⟨w.heap.size,0,none⟩) m B) (w.drew.alloc (.cells (#[]++zeroCells z m++rest) e))):=by
 have⟨i,z,Q,Z,j,l,C,n,_⟩:=(O.ty U).info;have u:∀w,(zeroValue e).run P w=.ok z w:=λw=>by simp_all[zeroValue,nJ]
 have S:z.cells.size=d.size:=by have:=(C (λ_=>none) (λ_=>none)).1;grind
 have b:=wrap_small D;constructor
 .rintro rfl;unfold append_;have W:i64.wrap 0=0:=by omega
  simp[dw a,dw G,(O.ty U).jI,asInt,nJ Q,kQ,W]
 intro o p q;have X:nextslicecap (0+m) 0<=2*(0+m):=nextslicecap_le Za
 have c:¬(nextslicecap (0+m) 0*i.bytes>2 ^ 48):=by have:nextslicecap (0+m) 0*i.bytes<=(2*2147483648)*4096:=mul_le_mul Za Za;omega
 have f:¬(m*(i.bytes:Int)>2 ^ 48):=by have r:m*i.bytes<=2147483648*4096:=mul_le_mul D Za;grind
 have g:¬((0+m:Nat)>i64.max):=by have:i64.max=9223372036854775807:=(by rfl);omega
 have J:¬(0+m<=0):=Za
 have L:¬((m:Int)<0):=Za
 refine⟨(appendCap (0+m) 0 e).cut (w.tape w.drawn (appendCap (0+m) 0 e)),z.cells,zeroCells z.cells (((appendCap (0+m) 0 e).cut (w.tape w.drawn (appendCap (0+m) 0 e)))-(0+m)),?_,?_,C _ _,?_⟩
 .simp[Question.cut]
 .rw[pF,S,Nat.zero_add]
 unfold append_;have Y:(if m*d.size=0 then pure #[]else do pure (zeroCells (<-zeroValue e).cells m))=(do pure (zeroCells (<-zeroValue e).cells m))\/(m*d.size=0/\zeroCells z.cells m=#[]):=by by_cases h:m*d.size=0;all_goals simp_all[Array.eq_empty_of_size_eq_zero,pF]
 simp only[run_bind,List.getElem?_toArray,List.getElem?_cons_zero,List.getElem?_cons_succ,dw a,dw G,andThen_ok,(O.ty U).jI,run_pure,if_true,asInt,kQ,b,if_neg L,nJ Q,if_neg f,Int.toNat_natCast,if_neg J,if_false];rw[if_neg (λh=>g h.1)]
 simp only[run_bind,nJ Q,if_neg c,run_choose,forced,andThen_ok,u,newRow,firstCells];rcases Y with h|⟨h,s⟩
 all_goals simp_all
def Lo(g:dV P E)(r:dS I μ n F a.tmps)(s:cN I μ H w){args:Array Zr}{O:Array Zm}{x:V}{ty:Zm}
 (h:cq E F H (.call {callee:=.builtin .append,args,argTypes:=O})=some (x,H')):
 Ah P I μ H w (do let d<-resolve a.eval {callee:=.builtin .append,args,argTypes:=O} ty;invoke d.target d.args) x H':=by
 simp[cq]at h;split at h
 .rename_i t t' vs vx aQ ae;obtain⟨us,ux,S,i,j⟩:=(mX r ae).two;split at h
  .rename_i e e' hk af;obtain⟨d0,ah,ai⟩:=eU hk;obtain⟨N,R,h2,h3⟩:=(g.ty ah).dw;rw[ai]at h2;have:=iU h2;subst this;obtain⟨d1,iR,T⟩:=eU af;obtain⟨aj,g1,g2,g3⟩:=(g.ty iR).dw;rw[T]at g2;have:=iU g2;subst this;have C:∀v w',(append_ #[t,t'] ty #[us,ux]).run P w=.ok v w'->
    (do let d<-resolve a.eval {callee:=.builtin .append,args,argTypes:=O} ty;invoke d.target d.args).run P w=.ok (.value v) w':=by
    simp[resolve,run_bind,run_pure,andThen_ok,invoke,builtin];rw[qR S];have ea:O=#[t,t']:=Zd
    simp_all
   split at h
   .rename_i d hd;split at h
    .
     rename_i xs B ak;obtain⟨ad,f,arr,e1,e2,e3,e4,_⟩:=xT (P:=P) s i B;obtain⟨al,U,D,M,f2,A,l,_⟩:=xT s j ak;simp at M A;have aR:D=#[]:=by have:=l.1;grind
     have A:=A w rfl;rw[M]at A;have key:=(Bm g R g1 ⟨_,rfl⟩ hd ad al xs.length f 0 U D A ty).1 Za w
      (by
       cases ad with
       |none=>rfl|some b=>simp_all[storeCells])
     rw[<-M,<-e1,add_zero,<-e1]at key;have am:x=vs/\H'=H:=by grind
     obtain⟨rfl,rfl⟩:=am;exact⟨_,us,w,μ,C _ _ key,.inl rfl,i,s,.refl _ _ _ _⟩
    .rename_i xs ys aT B ak;obtain⟨ad,f,arr,e1,e2,e3,e4,e5,e6⟩:=xT s i B;obtain⟨al,U,D,M,f2,A,l,f5,f6⟩:=xT s j ak;split at h
     .rename_i hc;obtain⟨av,an,ao⟩:=hc;have aD:0<ys.length:=by
       grind
      have key:=Bm g R g1 ⟨_,rfl⟩ hd ad al xs.length f ys.length U D (by rw[<-M];exact A w rfl) ty
      rw[<-M,<-e1]at key;have L:f<xs.length+ys.length->∃G rest,xs.length+ys.length<=G/\rest.size=(G-(xs.length+ys.length))*d.size/\
       (append_ #[t,t'] ty #[us,ux]).run P w=.ok (.slice (some ⟨w.heap.size,0,none⟩) (xs.length+ys.length) G) (w.drew.alloc (.cells (arr++D++rest) e)):=by
       intro ap;refine key.2 ap av an ao arr ?_ ?_
       .intro w2 aE;exact e3 w2 aE
       grind
      simp at h;obtain⟨H1,J,rfl,rfl⟩:=h
      cases vs with
      |c7=>
       simp[fP]at J;subst J;simp[dg]at B;subst B;obtain⟨aF,q⟩:=i.qD;have aw:f=0:=by rw[q]at e1;cases e1;rfl
       obtain⟨G,rest,k1,k2,k3⟩:=L (by simp;omega)
       obtain⟨μ',m1,o,K⟩:=yT s.drew e4 l e5 f5 e6 f6 k1 k2;refine⟨_,_,_,μ',C _ _ k3,.inl rfl,m1,o,?_⟩;exact Step.trans s.drew (Step.nS rfl rfl ⟨rfl,rfl,le_succ _⟩) K
      |bD=>
       simp[fP]at J;subst J;simp[dg]at B;subst B;have q:=i.kU;have aw:f=0:=by rw[q]at e1;cases e1;rfl
       obtain⟨G,rest,k1,k2,k3⟩:=L (by simp;omega)
       obtain⟨μ',m1,o,K⟩:=yT s.drew e4 l e5 f5 e6 f6 k1 k2;refine⟨_,_,_,μ',C _ _ k3,.inl rfl,m1,o,?_⟩;exact Step.trans s.drew (Step.nS rfl rfl ⟨rfl,rfl,le_succ _⟩) K
      |hsl id es off len=>
       simp[fP]at J;split at J
       .rename_i u aG Z;simp at J;subst J;have ax:(H[id]?).bind Ob.rows=some (u,aG):=by rw[Z];rfl
        have aS:=B;simp only[dg]at B;split at B
        .rename_i aH;rw[ax]at B;simp only at B;split at B
         .rename_i aI;simp at B;obtain⟨p,c,ay,q1,q2,q3,q4⟩:=s.obs id _ Z;have W:xs.length=len:=by rw[<-B];simp;omega
          have aq:f<xs.length+ys.length->Ah P I μ H w (do let d<-resolve a.eval {callee:=.builtin .append,args,argTypes:=O} ty;invoke d.target d.args)
           (.hsl H.length d.size 0 (xs.length+ys.length)) (H.set id .dead++[.row d.size (xs++ys)]):=by
           intro ap;obtain⟨G,rest,k1,k2,k3⟩:=L ap;obtain⟨s1,s2⟩:=s.drew.kill Z;obtain⟨μ',m1,o,K⟩:=yT s1 e4 l e5 f5 e6 f6 k1 k2;rw[List.length_set]at m1;exact⟨_,_,_,μ',C _ _ k3,.inl rfl,m1,o,Step.trans s.drew (Step.nS rfl rfl ⟨rfl,rfl,le_succ _⟩) (Step.trans s1 s2 K)⟩
          rcases i.kZ with⟨p',Q,hm,aJ,aU,aK,ee⟩|⟨h0,aF,ee⟩
          .rw[q1]at hm;cases hm;have ar:Q=f/\ad=some ⟨p.b,p.o+off*es,none⟩:=by rw[ee]at e1;grind
           obtain⟨rfl,rfl⟩:=ar
           by_cases ab:xs.length+ys.length<=Q
           .have aA:u=es:=by rw[<-q4.es_eq,aJ]
            subst aA;have X:=aH;obtain⟨r1,r2⟩:=q4.span aI;rw[B]at r1;have aa:=l.1;simp only[Array.length_toList]at aa;rw[fm f5]at aa;have aL:(len+ys.length)*u<=Q*u:=mul_le_mul_right _ Za
            rw[add_mul]at aL;rw[add_mul]at aK;have aM:=q4.sz;rw[<-X]at aa;have au:p.o+off*u+len*u+0+D.toList.length<=c.size:=by simp;omega
            obtain⟨c',u1,u2⟩:=tT D.toList 0 w c q3 (l.Og (λx j=>by
             grind[mem_flatten])) au
            have aB:c'.size=c.size:=by have:=congrArg length u2;grind
            have aC:=key.1 ab (fI w p.b (.cells c' ay)) (by
             simp[oy,W];rw[<-X];exact u1)
            have Y:fL I μ ⟨p.b,p.o+off*u,u,p.sz⟩ c' u (xs++ys):=by refine⟨rfl,by rw[aB];exact aM,?_,?_,?_,?_⟩;grind;grind;rw[aB,ζi,W,add_mul];grind;have e:(c'.toList.drop (p.o+off*u)).take ((xs++ys).length*u)=(c.toList.drop (p.o+off*u)).take (len*u)++D.toList:=(by rw[u2,ζi,W,add_mul,aa];simp only[add_zero];have aN:(List.take (p.o+off*u+len*u) c.toList).length=p.o+off*u+len*u:=(by simp;omega);rw[List.append_assoc,List.drop_append_of_le_length (by rw[aN];omega),drop_take,show p.o+off*u+len*u-(p.o+off*u)=len*u by omega];grind[List.take_left']);rw[e,flatten_append];exact r1.append l
            obtain⟨s1,s2⟩:=IX (ob':=.row u (xs++ys)) (p':=⟨p.b,p.o+off*u,u,p.sz⟩) s Z rfl q1 rfl
             ⟨_,c',ay,Mu.fQ _ _ _,q2,iH _ (Array.getElem?_eq_some_iff.1 q3).1,Y.mono (b_.le_refl _) (Mu.pX (s.dom _ (le_refl _)))⟩
            rw[<-X];refine⟨_,_,_,_,C _ _ aC,.inl rfl,?_,s1,s2⟩;have:=bC.hsl (I:=I) H.length 0 (xs.length+ys.length) Q _ (Mu.fQ μ H.length ⟨p.b,p.o+off*u,u,p.sz⟩) ab (by simp;omega)
            grind
           grind
          grind
         grind
        grind
       grind
      |_=>simp[fP]at J
     grind
    grind
   grind
  .
   rename_i e kk hk af;obtain⟨d0,ah,ai⟩:=eU hk;obtain⟨N,R,h2,h3⟩:=(g.ty ah).dw;rw[ai]at h2;have:=iU h2;subst this;obtain⟨d1,iR,T⟩:=eU af;obtain⟨aj,g1,g2,g3⟩:=(g.ty iR).dw;rw[T]at g2;have:=A7 g2;subst this;have C:∀v w',(append_ #[t,t'] ty #[us,ux]).run P w=.ok v w'->
    (do let d<-resolve a.eval {callee:=.builtin .append,args,argTypes:=O} ty;invoke d.target d.args).run P w=.ok (.value v) w':=by
    intro v w' hv;simp[resolve,run_bind,run_pure,andThen_ok,invoke,builtin];rw[qR S];have ea:O=#[t,t']:=Zd
    rw[ea,hv];rfl
   split at h
   .rename_i d hd;unfold mkApp at h;split at h
    .rename_i k m;have q:=i.kU;subst q;have q:=j.eV;subst q;split at h
     .rename_i h0;subst h0;cases h;have key:=(DC (μ:=μ) (I:=I) (w:=w) (k:=k) g R g1 hd ty 0 Za).1 rfl
      exact⟨_,_,w,μ,C _ _ key,.inl rfl,i,s,.refl _ _ _ _⟩
     split at h
     .rename_i hc;obtain⟨aO,av,an,ao⟩:=hc;cases h;obtain⟨m,rfl⟩:=Int.eq_ofNat_of_zero_le (Int.le_of_lt aO);obtain⟨G,z,rest,k1,k2,k3,k4⟩:=(DC g R g1 hd ty m Za).2 Za an ao
      have aP:=(g.ty hd).info.choose_spec.choose_spec.2.2.2.2.2.1;have aV:=(g.ty hd).info.choose_spec.choose_spec.2.2.2.2.2.2.1;have hu:∀x∈replicate m d.zero,x.length=d.size:=λx j=>by rw[eq_of_mem_replicate j];exact aP
      have ho:∀x∈replicate m d.zero,∀y∈x,V.one y=true:=λx j y hy=>by rw[eq_of_mem_replicate j]at hy;grind
      obtain⟨μ',m1,o,K⟩:=yT (xs:=[]) (ys:=replicate m d.zero) (old:=#[]) (new:=zeroCells z m) (rest:=rest) s.drew .nil (u6 k3 m) Zc hu Zc ho (by simpa using k1) Zd
      simp at m1 o K;refine⟨_,_,_,μ',C _ _ k4,.inl rfl,Zd,by simpa using o,?_⟩
      exact Step.trans s.drew (Step.nS rfl rfl ⟨rfl,rfl,le_succ _⟩) Zd
     cases h
    cases h
   cases h
  grind
 grind
def xJ{es:Nat}{xs:Zt}(a:∀x∈xs,x.length=es)(k:Nat)(b:k<=xs.length):(xs.take k).flatten=xs.flatten.take (k*es)/\(xs.drop k).flatten=xs.flatten.drop (k*es):=by grind[take_append_drop,fm]
def Oq(l:dV P E)(r:dS I μ n F a.tmps)(s:cN I μ H w){args:Array Zr}{D:Array Zm}{x:V}{ty:Zm}
 (h:cq E F H (.call {callee:=.builtin .clear,args,argTypes:=D})=some (x,H')):
 Ah P I μ H w (do let d<-resolve a.eval {callee:=.builtin .clear,args,argTypes:=D} ty;invoke d.target d.args) x H':=by
 simp[cq]at h;split at h
 .rename_i t v ab L;have⟨u,hu,g⟩:=(mX r L).one;split at h
  .rename_i e hk;have⟨d0,N,R⟩:=eU hk;have⟨m,h1,A,h3⟩:=(l.ty N).dw;rw[R]at A;have:=iU A;split at h
   .rename_i d hd;have⟨i,z,hi,an,ap,hz,S,ah,aq,_⟩:=(l.ty hd).info;have ai:∀w,(zeroValue e).run P w=.ok z w:=λw=>by simp_all[zeroValue,nJ]
    have aj:z.cells.size=d.size:=by have:=(S (λ_=>none) (λ_=>none)).1;grind
    have J:∀v w',(clear_ D ty #[u]).run P w=.ok v w'->
     (do let d<-resolve a.eval {callee:=.builtin .clear,args,argTypes:=D} ty;invoke d.target d.args).run P w=.ok (.value v) w':=by
     grind[resolve,run_bind,run_pure,andThen_ok,invoke,builtin,qR]
    have T:∀U f,u=.slice U 0 f->Ah P I μ H w (do let d<-resolve a.eval {callee:=.builtin .clear,args,argTypes:=D} ty;invoke d.target d.args) .undef H:=λU f q=>by subst q;refine⟨_,.tuple #[],w,μ,J (.tuple #[]) w ?_,.inl rfl,bC.undef _ _,s,.refl _ _ _ _⟩;unfold clear_;cases U<;>simp[ab,h3]
    unfold Bu at h;split at h
    .cases h;exact T _ _ g.kU
    .have⟨U,q⟩:=g.qD;grind
    .rename_i id es off len;split at h
     .rename_i O;subst O;split at h
      .rcases g.kZ with⟨p,f,_,_,_,_,q⟩|⟨_,U,q⟩
       all_goals grind
      rename_i len;split at h
      .rename_i ak Q W;split at h
       .rename_i X;cases h;have⟨p,c,el,j,hI,C,B⟩:=s.obs id _ W;rcases g.kZ with⟨q,f,K,al,ao,am,rfl⟩|⟨h0,_⟩
        .rw[j]at K;cases K;have O:ak=d.size:=by rw[<-B.es_eq,al]
         subst O;have ar:(zeroCells z.cells (len+1)).size=(len+1)*d.size:=by rw[pF,aj]
         have au:=B.room;have Y:(off+(len+1))*d.size<=Q.length*d.size:=mul_le_mul_right _ X;rw[add_mul]at Y;have G:=u6 (S I μ) (len+1);have av:∀x∈replicate (len+1) d.zero,x.length=d.size:=λx b=>by rw[eq_of_mem_replicate b];exact ah
         have aw:∀x∈replicate (len+1) d.zero,∀y∈x,V.one y=true:=λx b y hy=>by rw[eq_of_mem_replicate b]at hy;grind
         have⟨c',u1,k⟩:=tT (P:=P) (o:=p.o+off*d.size) (zeroCells z.cells (len+1)).toList 0 w c C (cr.Og G (λx b=>by
          grind[mem_flatten])) Zd
         rw[add_zero]at k;have Z:c'.size=c.size:=by have:=congrArg length k;grind
         have⟨s2,st2⟩:=s.write (ob':=.row d.size (Q.take off++replicate (len+1) d.zero++Q.drop (off+(len+1)))) W rfl j
          ⟨p,c',el,j,hI,iH _ (Array.getElem?_eq_some_iff.1 C).1,by
           have M:(Q.take off++replicate (len+1) d.zero++Q.drop (off+(len+1))).length=Q.length:=by simp;omega
           refine⟨B.es_eq,by rw[Z];exact B.sz,?_,?_,by rw[M,Z];grind,?_⟩
           .intro x b;rcases mem_append.1 b with b|b
            .rcases mem_append.1 b with b|b
             .exact B.oa x (mem_of_mem_take b)
             grind
            exact B.oa x (mem_of_mem_drop b)
           .intro x b;rcases mem_append.1 b with b|b
            .rcases mem_append.1 b with b|b
             .exact B.one x (mem_of_mem_take b)
             grind
            exact B.one x (mem_of_mem_drop b)
           rw[M,k];have hL:=zJ c.toList (zeroCells z.cells (len+1)).toList p.o (Q.length*d.size) (off*d.size) (by simp;omega) Zd
           rw[hL,flatten_append,flatten_append,(xJ B.oa off Za).1,(xJ B.oa _ X).2]
           have e:off*d.size+(zeroCells z.cells (len+1)).toList.length=(off+(len+1))*d.size:=Zd
           rw[e];exact((B.rel.take _).append G).append (B.rel.drop _)⟩
         refine⟨_,.tuple #[],_,μ,J (.tuple #[]) (fI w p.b (.cells c' el)) ?_,.inl rfl,bC.undef _ _,s2,st2⟩;simp_all[clear_]
        simp_all
       simp_all
      simp_all
     simp_all
    simp_all
   simp_all
  simp_all
 simp_all
theorem Ty(s t:Zq)(h:(s==t)=true):s=t:=by
 cases s with|mk a=>cases t with|mk b=>
 have u:(a==b)=true:=h;grind
inductive wC(P:Program)(E:Env)(t:TypeId):V->Value->Prop
 |int(k:IntKind)(m:Int)(h:P.underlying t=some (.int k)):wC P E t (.int k m) (.int k m)|str(s:ByteArray)(h:P.underlying t=some .string):wC P E t (.str s) (.string s)|agg(m:Nat)(cs:List V)(l:List Int)(h:uA P t m)(hl:l.length=m)(hi:gP cs=some l):wC P E t (.agg cs) (.agg (ic l))
def KJ(B:dV P E){t:Zm}{k:V}{v:Zp}(h:zF E t k=true)(b:bC I μ k v):wC P E t k v:=by
 unfold zF at h;split at h;rename_i k1 k2 m c;have⟨d,z,u⟩:=eU c;have⟨a,f,w,J⟩:=(B.ty z).dw;rw[u]at w;have:=A7 w;subst this;have e:k1=k2:=by grind
 subst e;rw[b.eV];exact .int _ _ f;next s c=>have⟨d,z,u⟩:=eU c;have⟨a,f,w,J⟩:=(B.ty z).dw;rw[u]at w;have:=xV w;subst this;rw[b.r_];exact .str _ f
 rename_i L _;split at h;next m C=>simp[isSome_iff_exists]at h;have⟨O,l,G⟩:=h;obtain⟨Q,rfl,D⟩:=b.h_;obtain⟨rfl,e⟩:=pz G D;exact .agg m L l (B.eqN _ _ C) Za G
 grind;grind
theorem Me(d:Nat)(e:Zl){t:Zm}{k:Zs}{m:Int}(h:P.underlying t=some (.int k)):(checkKey e (d+1) t (.int k m)).run P w=.ok () w:=by simp[checkKey,run_bind,dw h,andThen_ok,run_pure]
theorem K1(d:Nat)(e:Zl){t:Zm}{m:Zq}(h:P.underlying t=some .string):(checkKey e (d+1) t (.string m)).run P w=.ok () w:=by simp[checkKey,run_bind,dw h,andThen_ok,run_pure]
def wq{t:Zm}{k:V}{v:Zp}(h:wC P E t k v)(e:Zl):(checkKey e 10000 t v).run P w=.ok () w:=by cases h with|int k m h=>grind[Me]|str s h=>grind[K1]|agg m z l h u B=>exact h.check w e l u
def kY(I:b_)(μ:Mu)(es:aX MapEntry)(i:Nat):aY (Nat×V)->aY (Nat×Zp)->Prop
 |none,none=>True|some (j,x),some (B,v)=>j=B/\bC I μ x v/\i<=j/\∃e,es[j-i]?=some e/\e.val=v|_,_=>False
def BC{d:TypeDesc}{k:V}{v:Zp}(O:(∃kk m,d=.int kk/\k=.int kk m/\v=.int kk m)\/(∃s,d=.string/\k=.str s/\v=.string s)):
 ∀(B:aX (V×V))(es:aX MapEntry)(i:Nat)(r:aY (Nat×V)),B.length=es.length->(∀(j:Nat)q e,B[j]?=some q->es[j]?=some e->bC I μ q.1 e.key/\bC I μ q.2 e.val)->
 ig k B i=some r->∃D,findNow d v es i=some D/\kY I μ es i r D/\∀j x,r=some (j,x)->∃e,es[j-i]?=some e/\e.key=v:=by
 intro B
 induction B with
 |nil=>
  intro es i r Q _ h
  cases es with
  |nil=>simp only[ig,ζa]at h;subst h;exact⟨none,rfl,trivial,Zc⟩|cons _ _=>simp_all
 |cons q B S=>
  intro es i r Q c h
  cases es with
  |nil=>simp_all|cons e es=>
   have⟨C,T⟩:=q;have⟨g1,g2⟩:=c 0 (C,T) e rfl rfl;simp only[ig]at h;have u:∀b,vi k C=some b->sameNow d v e.key=some b/\(b=true->e.key=v):=by
    intro b w;rcases O with⟨kk,m,rfl,rfl,rfl⟩|⟨s,rfl,rfl,rfl⟩
    .cases C<;>simp only[vi]at w<;>(try grind);rename_i k2 Z;split at w;rename_i G;simp only[ζa]at w;subst w;subst G;rw[g1.eV];grind[sameNow];grind
    cases C<;>simp only[vi]at w<;>(try (simp at w;done));simp only[ζa]at w;subst w;rw[g1.r_];grind[sameNow,Ty]
   split at h
   .rename_i hk;have⟨f,g⟩:=u true hk;simp only[ζa]at h;subst h;refine⟨some (i,e.val),by grind[findNow],⟨rfl,g2,le_refl _,e,Zc,rfl⟩,?_⟩
    grind
   .rename_i hk;have⟨f,_⟩:=u false hk;have⟨D,p1,p2,p3⟩:=S es (i+1) r Zd (λj a b x y=>c (j+1) a b (by simpa using x) (by simpa using y)) h
    refine⟨D,by grind[findNow],?_,?_⟩
    .cases r with
     |none=>all_goals grind[kY]|some z=>
      cases D with
      |none=>grind[kY]|some U=>have⟨W,X,l,J,n,Y⟩:=p2;exact⟨W,X,Za,J,by rw[show z.1-i=(z.1-(i+1))+1 by omega];grind,Y⟩
    intro j x L;have⟨J,o,p⟩:=p3 j x L;subst L;have:i+1<=j:=by cases D with|none=>grind[kY]|some U=>exact p2.2.2.1
    grind
   grind
def II{t:Zm}{m:Nat}(T:uA P t m){cs:Zu}{l:Zx}(U:l.length=m)(W:gP cs=some l):
 ∀(B:aX (V×V))(es:aX MapEntry)(i:Nat)(r:aY (Nat×V)),B.length=es.length->(∀(j:Nat)q e,B[j]?=some q->es[j]?=some e->bC I μ q.1 e.key/\bC I μ q.2 e.val)->
 ig (.agg cs) B i=some r->∃D,(findAsking t (.agg (ic l)) es i).run P w=.ok D w/\kY I μ es i r D/\∀j x,r=some (j,x)->∃e,es[j-i]?=some e/\e.key=.agg (ic l):=by
 intro B
 induction B with
 |nil=>
  intro es i r C _ h
  cases es with
  |nil=>simp[ig]at h;subst h;exact⟨none,rfl,trivial,Zc⟩|cons _ _=>simp_all
 |cons q B X=>
  intro es i r C c h
  cases es with
  |nil=>simp_all|cons e es=>
   have⟨G,Y⟩:=q;have⟨g1,g2⟩:=c 0 (G,Y) e rfl rfl;simp[ig]at h;have u:∀b,vi (.agg cs) G=some b->(equal t (.agg (ic l)) e.key).run P w=.ok b w/\(b=true->e.key=.agg (ic l)):=by intro b J;cases G<;>simp[vi]at J<;>(try (simp at J));obtain⟨n,Z,O,x2,o,rfl⟩:=vm J;rw[W]at O;cases O;have⟨p,ev,L⟩:=g1.h_;obtain⟨rfl,e2⟩:=pz x2 L;rw[ev];refine⟨T.key w l Z U Za,?_⟩;grind
   split at h
   .rename_i hk;have⟨d,s⟩:=u true hk;simp at h;subst h;refine⟨some (i,e.val),by simp[findAsking,d],⟨rfl,g2,le_refl _,e,Zc,rfl⟩,?_⟩
    grind
   .rename_i hk;have⟨d,_⟩:=u false hk;have⟨D,p1,p2,p3⟩:=X es (i+1) r Zd (λj a b x y=>c (j+1) a b Zd (by simpa using y)) h
    refine⟨D,by simp_all[findAsking],?_,?_⟩
    .cases r with
     |none=>all_goals grind[kY]|some z=>
      cases D with
      |none=>grind[kY]|some z'=>have⟨f,g,v,Q,A,k⟩:=p2;exact⟨f,g,Za,Q,by rw[show z.1-i=(z.1-(i+1))+1 by omega];grind,k⟩
    intro j x S;have⟨Q,E,F⟩:=p3 j x S;subst S;have:=by cases D with|none=>grind[kY]|some z'=>exact p2.2.2.1
    grind
   grind
def ue{t:Zm}{k:V}{v:Zp}(h:wC P E t k v){B:aX (V×V)}{es:Array MapEntry}(a:uj I μ B es){r:aY (Nat×V)}(G:ig k B 0=some r):
 ∃D,(findKey t v es.toList).run P w=.ok D w/\kY I μ es.toList 0 r D/\∀j x,r=some (j,x)->∃e,es[j]?=some e/\e.key=v:=by
 have u:=by simpa using a.1
 have z:∀(j:Nat)q e,B[j]?=some q->es.toList[j]?=some e->bC I μ q.1 e.key/\bC I μ q.2 e.val:=λj q e x y=>a.2 j q e x Zd
 have fin:∀(D:aY (Nat×Zp)),(∀j x,r=some (j,x)->∃e,es.toList[j-0]?=some e/\e.key=v)->∀j x,r=some (j,x)->∃e,es[j]?=some e/\e.key=v:=by grind
 cases h with
 |int kk m h=>have⟨D,g1,g2,g3⟩:=BC (.inl ⟨kk,m,rfl,rfl,rfl⟩) B es.toList 0 r u z G;simp_all[findKey,dw]|str s h=>have⟨D,g1,g2,g3⟩:=BC (.inr ⟨s,rfl,rfl,rfl⟩) B es.toList 0 r u z G;simp_all[findKey,dw]|agg m S l h J L=>
  have⟨D,g1,g2,g3⟩:=II (w:=w) h J L B es.toList 0 r u z G;have⟨d,O,Q⟩:=h.kind;refine⟨D,?_,g2,fin D g3⟩;simp[findKey,run_bind,dw O,andThen_ok]
  cases C:es.toList with
  |nil=>
   rw[C]at g1
   grind[findNow,findAsking]
  |cons e rest=>simp_all[findNow,sameNow]
def yJ{b:Nat}{o:Obj}(h:w.heap[b]?=some o)(B:∀c e f,o≠.cells c e f):(getObj b).run P w=.ok o w:=by grind[getObj,Sem.run]
def N4(s:cN I μ H w){m:V}{v:Zp}(d:bC I μ m v){B:aX (V×V)}(h:l_ H m=some B):
 (v=.map none/\B=[])\/∃b es a,v=.map (some b)/\w.heap[b]?=some (.map es a)/\uj I μ B es:=by
 cases m with
 |f_=>simp only[l_,ζa]at h;exact .inl ⟨d.NZ,h.symm⟩|fmap k=>
  simp[l_]at h;subst h
  cases d with
  |c _ _ d=>cases d with
   |fmap _ b es C D hk u=>have⟨f,g⟩:=s.imm _ _ C;exact .inr ⟨b,es,f,rfl,g,D,λj q e x y=>⟨.c _ _ (hk j q e x y),.c _ _ (u j q e x y)⟩⟩
 |hmap id=>
  simp[l_]at h;split at h
  .rename_i G z;simp at h;have⟨p,es,f,g1,g2,g3,g4⟩:=s.obs id _ z;have⟨q,J,e⟩:=d.AT
   grind
  grind
 |_=>simp[l_]at h
def La(O:dV P E)(r:dS I μ n F a.tmps)(s:cN I μ H w){t:Zm}{m k:Zr}{ok:Zl}{x:V}(h:dD E F H (.lookup t m k ok)=some x):
 ∃v,(Instr.lookup t (a.eval m) (a.eval k) ok).run P w=.ok v w/\bC I μ x v:=by
 simp[dD]at h;split at h
 .rename_i kt et mv kv hk hm Q;obtain⟨d,l,S⟩:=eU hk;obtain⟨c,o,Z,e⟩:=(O.ty l).dw;rw[S]at Z;have:=yK Z;subst this;split at h
  .rename_i de T U J;split at h
   .rename_i W;have D:=KJ O W (c8 r Q);obtain⟨z,f,X⟩:=(O.ty U).Rl;obtain⟨es,L,G⟩:∃es:Array MapEntry,uj I μ T es/\∀u,(findKey kt (a.eval k) es.toList).run P w=.ok u w->(Instr.lookup t (a.eval m) (a.eval k) ok).run P w=
     .ok (if ok then .tuple #[(u.map (·.2)).getD z,.bool u.isSome]else(u.map (·.2)).getD z) w:=by
     rcases N4 s (c8 r hm) J with⟨e1,rfl⟩|⟨b,es,p,e1,e2,e3⟩
     .refine⟨#[],⟨rfl,Zc⟩,λu C=>?_⟩
      unfold Instr.lookup;rw[e1];simp[run_bind,e,andThen_ok,run_pure,wq D,C];cases u<;>cases ok<;>simp[f]
     refine⟨es,e3,λu C=>?_⟩
     unfold Instr.lookup;rw[e1];simp[run_bind,e,andThen_ok,run_pure,yJ e2 Zc,wq D,C]
     cases u<;>cases ok<;>simp[f]
    split at h
    .rename_i j y _ B;simp at h;obtain⟨u,Y,g,_⟩:=ue D L B
     cases u with
     |none=>grind[kY]|some q=>
      obtain⟨_,i,_⟩:=g;refine⟨_,G _ Y,?_⟩;subst h
      cases ok with
      |true=>exact .PJ (.cons i (.cons (.c _ _ (.bool _)) .nil))|false=>exact i
    .rename_i y B hy;simp at h;obtain⟨u,Y,g,_⟩:=ue D L B
     cases u with
     |some q=>grind[kY]|none=>
      refine⟨_,G _ Y,?_⟩;subst h
      cases ok with
      |true=>exact .PJ (.cons (X _ _ _ hy) (.cons (.c _ _ (.bool _)) .nil))|false=>grind
    grind
   grind
  grind
 grind
theorem Hp(l:Zx)(d:Nat):sameBits (d+2) (.agg (ic l)) (.agg (ic l))=true:=by simp only[sameBits,beq_self_eq_true,Bool.true_and,all_eq_true];intro p u;obtain⟨j,w,rfl⟩:=List.mem_iff_getElem.1 u;simp[ic,sameBits]
def MH{t:Zm}{k:V}{v:Zp}(h:wC P E t k v):(Instr.keyThatStays v v).run P w=.ok v w:=by
 have:sameBits 10000 v v=true:=by cases h with|int k m h=>simp[sameBits]|str s h=>simp[sameBits];exact(by cases s;exact beq_self_eq_true (α:=Array UInt8) _)|agg m u l h z B=>grind[Hp]
 simp_all[Instr.keyThatStays]
def DU{b:Nat}{es:Array MapEntry}{a:Nat}(o:Obj)(h:w.heap[b]?=some (.map es a)):(setObj b o).run P w=.ok () (fI w b o):=by simp only[setObj,Sem.run,h];rfl
def xy(A:dV P E)(r:dS I μ n F a.tmps)(s:cN I μ H w){t:Zm}{m k y:Zr}{x:V}(h:cq E F H (.mapUpdate t m k y)=some (x,H')):
 Ah P I μ H w (do Instr.mapUpdate t (a.eval m) (a.eval k) (a.eval y);pure .skip) x H':=by
 simp only[cq]at h;split at h
 .rename_i kt et id X Y hk hm T hy;have⟨d,hd,Z⟩:=eU hk;have⟨K,b,D,M⟩:=(A.ty hd).dw;rw[Z]at D;have:=yK D;subst this;split at h
  .rename_i C S;split at h
   .rename_i aa;simp only[ζf,ζc]at h;obtain⟨af,u,rfl,rfl⟩:=h;have G:=KJ A aa (c8 r T);have⟨p,es,c,g1,g2,g3,g4⟩:=s.obs id _ S;have⟨q,N,R⟩:=(c8 r hm).AT;rw[g1]at N;cases N;have Q:=(Array.getElem?_eq_some_iff.1 g3).1;have ah:∀(f:Unit->Sem Next),True:=λ_=>trivial
    unfold ox at u;have ab:=c8 r T;have ad:=c8 r hy;split at u
    .rename_i j z B;simp only[ζa]at u;subst u;have⟨J,g,q2,q3⟩:=ue (w:=w) G g4 B
     cases J with
     |none=>grind[kY]|some J=>
      have⟨j',zv⟩:=J;obtain⟨rfl,_,_,e',ai,_⟩:=q2;have⟨e2,U,aj⟩:=q3 j z rfl;have hj:=(Array.getElem?_eq_some_iff.1 U).1;have L:uj I μ (C.set j (X,Y)) (es.modify j λe=>{e with key:=a.eval k,val:=a.eval y}):=by refine⟨by simpa using g4.1,λi q e b D=>?_⟩;by_cases O:i=j;grind;rw[getElem?_set_ne (Ne.symm O)]at b;rw[Array.getElem?_modify]at D;rw[if_neg (Ne.symm O)]at D;exact g4.2 i q e b D
      have⟨l,v⟩:=s.write (ob':=.map (C.set j (X,Y))) (o:=.map (es.modify j λe=>{e with key:=a.eval k,val:=a.eval y}) c) S rfl g1
       ⟨p,_,c,g1,g2,iH _ Q,L⟩
      refine⟨.skip,undef,_,μ,?_,.inr ⟨rfl,rfl⟩,.undef I μ,l,v⟩;unfold Instr.mapUpdate;rw[R];have W:((es[j]?).map (·.key)).getD (a.eval k)=a.eval k:=by rw[U];grind
      simp only[run_bind,M,andThen_ok,yJ g3 Zc,wq G,g,W,MH G,DU _ g3,run_pure]
    .rename_i B;simp only[ζa]at u;subst u;have⟨J,g,q2,q3⟩:=ue (w:=w) G g4 B
     cases J with
     |some q=>grind[kY]|none=>
      have L:uj I μ (C++[(X,Y)]) (es.push {key:=a.eval k,val:=a.eval y,born:=c}):=by refine⟨by simp[g4.1],λi q e b D=>?_⟩;by_cases O:i<C.length;rw[List.getElem?_append_left O]at b;rw[Array.getElem?_push]at D;rw[if_neg (by rw[<-g4.1];omega)]at D;exact g4.2 i q e b D;have ae:=(ζe.1 b).1;simp at ae;have:i=C.length:=Za;subst this;simp at b;subst b;rw[Array.getElem?_push,if_pos g4.1]at D;grind
      have⟨l,v⟩:=s.write (ob':=.map (C++[(X,Y)])) (o:=.map (es.push {key:=a.eval k,val:=a.eval y,born:=c}) (c+1)) S rfl g1
       ⟨p,_,_,g1,g2,iH _ Q,L⟩
      refine⟨.skip,undef,_,μ,?_,.inr ⟨rfl,rfl⟩,.undef I μ,l,v⟩;unfold Instr.mapUpdate;rw[R];simp only[run_bind,M,andThen_ok,yJ g3 Zc,wq G,g,DU _ g3,run_pure]
    grind
   simp at h
  simp at h
 simp at h
theorem PO(B:dV P E)(r:dS I μ n F a.tmps)(s:cN I μ H w)(o:Oper){x:V}(h:dD E F H o.op=some x):
 ∃v,(execOp a.eval o).run P w=.ok (.value v) w/\bC I μ x v:=by
 have⟨dst,op,ty,pos,after,b⟩:=o;simp only at h
 cases op with
 |load t p=>
  simp only[dD]at h;split at h
  next d G C D=>have⟨u,c,z,_⟩:=A6 B s C (c8 r D) h;exact⟨u,fD c,z⟩
  simp at h
 |lookup t m k ok=>have⟨u,c,z⟩:=La B r s h;exact⟨u,fD c,z⟩|_=>simp[dD]at h
def PS(B:dV P E)(r:dS I μ n F a.tmps)(s:cN I μ H w)(o:Oper){x:V}(h:cq E F H o.op=some (x,H')):Ah P I μ H w (execOp a.eval o) x H':=by
 have⟨dst,op,ty,pos,after,d⟩:=o;simp only at h
 cases op with
 |store t p q=>exact N9 B r s h|mapUpdate t m k y=>exact xy B r s h|insert t m k y=>exact xy (t:=t) (m:=m) (k:=k) (y:=y) B r s h|call c=>
  have⟨callee,args,u⟩:=c
  cases callee with
  |builtin b=>cases b with|append=>exact Lo B r s h|clear=>exact Oq B r s h|_=>simp[cq]at h
  |_=>grind[cq]
 |_=>simp[cq]at h
end
def sN{xs:Zu}(h:V.gN xs=true):∀x∈xs,V.closed x=true:=by induction xs with|nil=>simp|cons x r u=>grind[V.gN]
def sQ{xs:Zu}(h:V.cM xs=true):∀x∈xs,V.scalar x=true:=by induction xs with|nil=>simp|cons x r u=>grind[V.cM]
section
variable{I I':b_}{μ:Mu}{H H':bh}{w:World}
def bC.closed{x:V}{v:Zp}(h:bC I μ x v)(d:x.closed=true):dX I x v:=by induction h with|c x v h=>omega|hsl id off len cap p w h1 Q=>grind[V.closed]|hsl0 id es off a=>grind[V.closed]|hptr id el off p w=>grind[V.closed]|yld id p w=>grind[V.closed]|hmap id p w=>grind[V.closed]|clo f x y u v L O _ _ z B=>simp[V.closed]at d;exact .clo f x y u v L O (λj a b p q=>z j a b p q (sN d.1 a (mem_of_getElem? p))) (λj a b p q=>B j a b p q (sN d.2 a (mem_of_getElem? p)))|agg C D G _ J=>exact .agg C D G λj a b p q=>J j a b p q (sN d a (mem_of_getElem? p))|tup C D G _ J=>exact .tup C D G λj a b p q=>J j a b p q (sN d a (mem_of_getElem? p))
def dX.scalar{x:V}{v:Zp}(h:dX I x v)(D:x.scalar=true):dX I' x v:=by induction h with|bool b=>exact .bool b|int k n=>exact .int k n|str s=>exact .str s|c7 a=>exact .c7 a|bD=>exact .bD|gL=>exact .gL|f_=>exact .f_|qK=>exact .qK|agg u w z _ B=>exact .agg u w z λj a b p q=>B j a b p q (sQ D a (mem_of_getElem? p))|tup u w z _ B=>exact .tup u w z λj a b p q=>B j a b p q (sQ D a (mem_of_getElem? p))|_=>grind[V.scalar]
def iA{f:V->aY V}:∀{xs ys:Zu},gR f xs=some ys->ys.length=xs.length/\∀(j:Nat)y,ys[j]?=some y->∃x,xs[j]?=some x/\f x=some y:=by intro xs;induction xs with|nil=>grind[gR]|cons x xs u=>grind[gR]
def Jx{f:V->aY V}:∀{xs ys:Zt},kI f xs=some ys->ys.length=xs.length/\∀(j:Nat)y,ys[j]?=some y->∃x,xs[j]?=some x/\gR f x=some y:=by intro xs;induction xs with|nil=>grind[kI]|cons x xs u=>grind[kI]
def I8{f:V->aY V}:∀{xs ys:aX (V×V)},kG f xs=some ys->ys.length=xs.length/\∀(j:Nat)y,ys[j]?=some y->∃x,xs[j]?=some x/\f x.1=some y.1/\f x.2=some y.2:=by intro xs;induction xs with|nil=>grind[kG]|cons x xs u=>grind[kG]
def Obj.ic:Obj->aY IC
 |.cells c _ _=>some (.cells c)|.map es _=>some (.map es)|_=>none
def zl(μ:Mu)(H:bh)(T:Zv)(b:Nat):Prop:=∃id p ob,id∈T/\H[id]?=some ob/\ob.live=true/\μ id=some p/\p.b=b
open Classical in
noncomputable def plus(I:b_)(μ:Mu)(H:bh)(w:World)(T:Zv):b_:=λb=>
 match I b with
 |some x=>some x|none=>if zl μ H T b then(w.heap[b]?).bind Obj.ic else none
def nV(I:b_)(μ:Mu)(H:bh)(w:World)(T:Zv):b_.le I (plus I μ H w T):=by intro b x h;grind[plus]
theorem su(s:cN I μ H w)(T:Zv):∀b x,plus I μ H w T b=some x->x.at w b:=by
 intro b x h;unfold plus at h;split at h;next y B=>cases h;exact s.imm b _ B
 split at h;have⟨o,z,u⟩:=ζg.1 h;cases o<;>simp[Obj.ic]at u;subst u;exact⟨_,_,z⟩;subst u;exact⟨_,z⟩;grind
theorem wh{T:Zv}{b:Nat}(h:(plus I μ H w T b).isSome=true):(I b).isSome=true\/zl μ H T b:=by grind[plus]
theorem zM{T:Zv}{b:Nat}(h:zl μ H T b):gO μ H b:=by have⟨id,p,ob,_,h1,u,w,z⟩:=h;exact⟨id,p,ob,h1,u,w,z⟩
def Ai(s:cN I μ H w){T:Zv}{id es:Nat}{xs:Zt}(B:id∈T)(h:(H[id]?).bind Ob.rows=some (es,xs)):
 ∃p c,μ id=some p/\plus I μ H w T p.b=some (.cells c)/\fL I μ p c es xs:=by
 have⟨ob,a,z⟩:=ζg.1 h;have u:=s.obs id ob a;rcases GC z with rfl|rfl
 .have⟨p,c,el,g1,g2,g3,g4⟩:=u;refine⟨p,c,g1,?_,g4⟩;have C:zl μ H T p.b:=⟨id,p,_,B,a,rfl,g1,rfl⟩
  grind[plus,Obj.ic]
 have⟨p,c,g1,g2,g4⟩:=u;exact⟨p,c,g1,nV _ _ _ _ _ _ _ g2,g4⟩
def fL.idx{p:Pl}{c:Array Zp}{es:Nat}{xs:Zt}(r:fL I μ p c es xs){i j:Nat}{x:Zu}{y:V}{v:Zp}(a:xs[i]?=some x)(B:x[j]?=some y)
 (D:c[p.o+i*es+j]?=some v):bC I μ y v:=by
 have w:=uN r.oa a B;refine r.rel.2 (i*es+j) y v w ?_;have u:=(ζe.1 w).1;rw[fm r.oa]at u
 grind
def jB{f:V->Zv}{xs:Zu}{x:V}{k:Nat}(B:x∈xs)(a:k∈f x):k∈cH f xs:=by induction xs with|nil=>simp_all|cons y r u=>grind[cH]
theorem iP(n:Nat)(H:bh){x:V}(h:x.closed=true):borrow n H x=some x:=by cases n<;>simp[borrow,h]
def tj(s:cN I μ H w)(T:Zv):∀(n:Nat)(x y:V)(v:Zp),borrow n H x=some y->(∀k∈bY n H x,k∈T)->bC I μ x v->
 dX (plus I μ H w T) y v/\(x.one=true->y.one=true):=by
 intro n
 induction n with
 |zero=>
  intro x y v h _ g;simp only[borrow]at h;split at h
  next E=>simp at h;subst h;exact⟨(g.closed E).mono (nV _ _ _ _ _),id⟩
  grind
 |succ n ih=>
  intro x y v h O g;simp[borrow]at h;split at h
  next E=>simp at h;subst h;exact⟨(g.closed E).mono (nV _ _ _ _ _),id⟩
  rename_i al;simp[bY,if_neg al]at O;split at h
  .
   rename_i id es off len;split at h
   .rename_i B xs J;split at h
    .rename_i E;obtain⟨rfl,am⟩:=E;simp only[J]at O;simp at h;obtain⟨U,l,rfl⟩:=h;have⟨R,W⟩:=Jx l;refine⟨?_,λ_=>rfl⟩
     have aj:U.length=len:=Zd
     rcases g.kZ with⟨p,F,t,hp,ar,hb,rfl⟩|⟨h0,a,rfl⟩
     .have⟨p',c,g1,g2,g3⟩:=Ai s (O id Zc) J
      rw[t]at g1;cases g1;have X:∀i z,U[i]?=some z->∃Q,xs[off+i]?=some Q/\gR (borrow n H) Q=some z:=by grind
      have ak:∀i Q,i<len->xs[off+i]?=some Q->∀q∈Q,∀k∈bY n H q,k∈T:=by intro i Q m an q K k d;refine O k ?_;refine mem_cons_of_mem _ (jB (mem_flatten.2 ⟨Q,mem_of_getElem? (i:=i) ?_,K⟩) d);rw[getElem?_take,if_pos m,getElem?_drop];exact an
      have au:dX (plus I μ H w T) (.fsl B U) (.slice (some ⟨p.b,p.o+off*B,none⟩) U.length F):=by refine .fsl B U p.b (p.o+off*B) F c g2 Za ?_ ?_ ?_ ?_;intro z af;have⟨i,m⟩:=List.mem_iff_getElem?.1 af;have⟨Q,G,Y⟩:=X i z m;rw[(iA Y).1];exact g3.oa Q (mem_of_getElem? G);intro z af q K;have⟨i,m⟩:=List.mem_iff_getElem?.1 af;have⟨Q,G,Y⟩:=X i z m;have⟨j,o⟩:=List.mem_iff_getElem?.1 K;have⟨L,D,Z⟩:=(iA Y).2 j q o;have ad:=mem_of_getElem? G;have ae:=mem_of_getElem? D;have ao:=g3.room;have aw:=g3.oa Q ad;have ax:=(ζe.1 D).1;have ap:=(ζe.1 G).1;have av:(off+i)*B+B<=xs.length*B:=(by have:=mul_le_mul_right B (ap);grind);have aq:=Za;have M:=g3.idx G D (v:=c[p.o+(off+i)*B+j]) (by simp[aq]);exact(ih L q _ Z (ak i Q (by have:=(ζe.1 m).1;omega) G L ae) M).2 (g3.one Q ad L ae);have A:=(g3.span am).2;grind;intro i j z q u m o hu;have⟨Q,G,Y⟩:=X i z m;have⟨L,D,Z⟩:=(iA Y).2 j q o;have M:=g3.idx G D (v:=u) Zd;exact(ih L q u Z (ak i Q (by have:=(ζe.1 m).1;omega) G L (mem_of_getElem? D)) M).1
      grind
     subst h0;have:=List.eq_nil_of_length_eq_zero aj;subst this;exact .fsl0 B _ _
    grind
   grind
  .
   rename_i id el off;split at h
   .rename_i B xs J;split at h
    .rename_i cs ah;split at h
     .simp only[J]at O;simp at h;obtain⟨U,l,rfl⟩:=h;have⟨R,W⟩:=iA l;refine⟨?_,λ_=>rfl⟩
      obtain⟨p,t,rfl⟩:=g.sD;have⟨p',c,g1,g2,g3⟩:=Ai s (O id Zc) J
      rw[t]at g1;cases g1;have⟨k1,k2,k3⟩:=g3.elem ah;rw[g3.es_eq];refine .fptr U p.b _ c g2 ?_ ?_
      .rw[R,List.length_drop];omega
      intro j q u o hu;have⟨L,D,Z⟩:=W j q o;rw[getElem?_drop]at D;have M:=g3.idx ah D (by rw[<-add_assoc];exact hu)
      refine(ih L q u Z (λk d=>O k ?_) M).1
      exact mem_cons_of_mem _ (jB (mem_of_getElem? (i:=j) (by rw[ah,getD_some,getElem?_drop];exact D)) d)
     simp at h
    simp at h
   simp at h
  .
   rename_i id;split at h
   .rename_i ay ai;simp at h;obtain⟨U,l,rfl⟩:=h;simp only[ai]at O;have⟨R,W⟩:=I8 l;refine⟨?_,λ_=>rfl⟩
    obtain⟨p,t,rfl⟩:=g.AT;have⟨p',es,cl,g1,g2,g3,g4⟩:=s.obs id _ ai;rw[t]at g1;cases g1;have ht:zl μ H T p.b:=⟨id,p,_,O id Zc,ai,rfl,t,rfl⟩
    have hI:plus I μ H w T p.b=some (.map es):=by grind[plus,Obj.ic]
    refine .fmap U p.b es hI (by rw[R];exact g4.1) ?_ ?_
    .intro j q e o he;have⟨L,A,h2,h3⟩:=W j q o;refine(ih L.1 q.1 e.key h2 (λk d=>O k ?_) (g4.2 j L e A he).1).1
     exact mem_cons_of_mem _ (mem_append.2 (.inl (jB (mem_map.2 ⟨L,mem_of_getElem? A,rfl⟩) d)))
    intro j q e o he;have⟨L,A,h2,h3⟩:=W j q o;refine(ih L.2 q.2 e.val h3 (λk d=>O k ?_) (g4.2 j L e A he).2).1
    exact mem_cons_of_mem _ (mem_append.2 (.inr (jB (mem_map.2 ⟨L,mem_of_getElem? A,rfl⟩) d)))
   simp at h
  .rename_i f p q;split at h
   .rename_i p' q' hp K;simp at h;subst h;obtain⟨N,u2,rfl,r1,r2⟩:=g.jy;have⟨P,m1⟩:=iA hp;have⟨l2,m2⟩:=iA K;refine⟨.clo f p' q' N u2 (by rw[P];simpa using r1.1) (by rw[l2];simpa using r2.1) ?_ ?_,λ_=>rfl⟩
    .intro j a b r hb;have⟨a0,C,S⟩:=m1 j a r;exact(ih a0 a b S (λk d=>O k (mem_append.2 (.inl (jB (mem_of_getElem? C) d)))) (r1.2 j a0 b C Zd)).1
    intro j a b r hb;have⟨a0,C,S⟩:=m2 j a r;exact(ih a0 a b S (λk d=>O k (mem_append.2 (.inr (jB (mem_of_getElem? C) d)))) (r2.2 j a0 b C Zd)).1
   simp at h
  .rename_i cs;simp at h;obtain⟨U,l,rfl⟩:=h;have⟨P,m1⟩:=iA l;obtain⟨N,rfl,r1⟩:=g.h_;refine⟨.agg U N (by rw[P];simpa using r1.1) ?_,λh=>by grind[V.one]⟩
   intro j a b r hb;have⟨a0,C,S⟩:=m1 j a r;exact(ih a0 a b S (λk d=>O k (jB (mem_of_getElem? C) d)) (r1.2 j a0 b C Zd)).1
  .rename_i cs;simp at h;obtain⟨U,l,rfl⟩:=h;have⟨P,m1⟩:=iA l;obtain⟨N,rfl,r1⟩:=g.oT;refine⟨.tup U N (by rw[P];simpa using r1.1) ?_,λh=>by grind[V.one]⟩
   intro j a b r hb;have⟨a0,C,S⟩:=m1 j a r;exact(ih a0 a b S (λk d=>O k (jB (mem_of_getElem? C) d)) (r1.2 j a0 b C Zd)).1
  grind
end
def fr(ro:aY Nat):Fence:={fn:=λ_=>True,depth:=none,alive:=false,round:=ro}
def vY(I:b_)(μ:Mu)(H:bh)(w:World)(r:V)(H':bh):Ending->World->Prop:=λe w'=>∃u I' μ',e=.returned u/\bC I' μ' r u/\cN I' μ' H' w'/\Step I μ H w I' μ' H' w'
def w9(P:Program)(f:Zk):Prop:=∃fn,P.funcs[f]?=some fn/\fn.body.isSome=true/\(fn.name== "runtime.NumGoroutine")=false
structure jW(P:Program)(call:di):Prop where
 fn:∀f args H r H',call (.fn f) args H=some (r,H')->w9 P f/\∀I μ w vs,cN I μ H w->cr I μ args vs->CallsIn (fr none) 0 P f vs.toArray w (vY I μ H w r H')
 yld:∀id args H r H',call (.yld id) args H=some (r,H')->∀I μ w vs p,cN I μ H w->cr I μ args vs->μ id=some p->
  ∃l f tmps assign body,(Instr.yield p.b vs.toArray).run P w=.ok (.round l f tmps assign body) w/\RoundIn (fr none) 0 P l f tmps assign body w (vY I μ H w r H')
def rB:Ob->Ob
 |.row es xs=>.frz es xs|.map _=>.dead|o=>o
theorem Ef(H:bh)(k id:Nat):(tA H k)[id]?=(H[id]?).map λob=>if id=k then rB ob else ob:=by
 unfold tA;by_cases e:id=k;subst e;cases h:H[id]?with|none=>simp[h]|some ob=>have u:=(ζe.1 h).1;cases ob<;>simp[rB,u]<;>exact(ζe.1 h).2
 grind
theorem G_(o:Ob):rB (rB o)=rB o:=by cases o<;>rfl
theorem ij:∀(T:Zv)(H:bh)(id:Nat),(cD H T)[id]?=(H[id]?).map λob=>if id∈T then rB ob else ob:=by intro T;induction T with|nil=>simp[cD]|cons k T u=>intro H id;have:=u (tA H k) id;grind[cD,Ef,G_]
theorem kr(T:Zv)(H:bh):(cD H T).length=H.length:=by induction T generalizing H with|nil=>rfl|cons k T u=>simp[cD]at u⊢;rw[u];grind[tA]
section
variable{P:Program}{I I':b_}{μ μ':Mu}{H H':bh}{w w':World}
def cN.kept(s:cN I μ H w)(a:∀b,b<w.heap.size->w'.heap[b]?=w.heap[b]?):cN I μ H w' where
 dom:=s.dom
 imm:=λb x h=>IC.qI (s.imm b x h) (a b (s.FH h))
 obs:=λid ob h=>(s.obs id ob h).mono (b_.le_refl _) (Mu.le_refl _) (λp u z=>by
  have C:gO μ H p.b:=⟨id,p,ob,h,z,u,rfl⟩
  grind[mo,fG]) (λB=>by subst B;exact s.obs id _ h)
 inj:=s.inj
 gl:=s.gl
theorem qg(μ:Mu)(b:Nat):¬gO μ [] b:=by rintro⟨id,p,ob,h,_⟩;simp_all
def A5{call:di}(N:jW P call){f:Zk}{args:Zu}{y:V}(h:bS call f args H=some y)(s:cN I μ H w){vs:aX Zp}(n:cr I μ args vs):
 w9 P f/\CallsIn (fr none) 0 P f vs.toArray w (vY I μ H w y (if y.scalar then H else cD H (cH (bY call.lv H) args))):=by
 unfold bS at h;split at h
 .rename_i az has;split at h
  .rename_i r H1 S;split at h
   .rename_i y' hy;split at h
    .rename_i aa;simp at h;subst h;generalize R:cH (bY call.lv H) args=T;obtain⟨ab,D⟩:=iA has;have s0:cN (plus I μ H w T) (λ_=>none) [] w:=⟨λ_ _=>rfl,su s T,Zc,Zc,s.gl.mono (nV I μ H w T)⟩
     have U:cr (plus I μ H w T) (λ_=>none) az vs:=by refine⟨ab.trans n.1,λj a b d z=>?_⟩;obtain⟨x,Y,af⟩:=D j a d;refine .c _ _ (tj s T call.lv x a b af (λk o=>?_) (n.2 j x b Y z)).1;rw[<-R];exact jB (mem_of_getElem? Y) o
     obtain⟨hf,L⟩:=N.fn f az [] r H1 S;refine⟨hf,(L _ _ w vs s0 U).mono ?_⟩;rintro e w' ⟨u,I1,t,rfl,hr,v,st⟩;have B:=λb D=>st.frame b D (qg _ _)
     generalize ak:bY call.lv H1 r=T1;have A:=(tj v T1 call.lv r y' u hy (λk o=>Zd) hr).1
     cases ah:y'.scalar with
     |true=>exact⟨u,I,μ,rfl,.c _ _ (A.scalar ah),s.kept B,⟨b_.le_refl _,Mu.le_refl _,le_refl _,st.size,λb D _=>B b D,λ_ h=>h.elim .inl λh=>.inr (.inl h),st.os,st.out,st.fz⟩⟩|false=>
      simp only[false_eq_true,if_false]
      let I2:=plus I1 t H1 w' T1
      have G:b_.le I I2:=b_.le_trans (nV I μ H w T) (b_.le_trans st.le (nV _ _ _ _ _));have W:∀b,(I2 b).isSome=true->(I b).isSome=true\/zl μ H T b\/w.heap.size<=b:=by intro b D;have d:(I1 b).isSome=true\/gO t H1 b:=(by rcases wh D with h|h;all_goals grind[zM]);rcases st.terr b d with h|h|h;all_goals grind[wh,qg]
      have X:∀id ob p,H[id]?=some ob->ob.live=true->id∉T->μ id=some p->I2 p.b=none:=by intro id ob p d z h3 h4;cases E:I2 p.b with|none=>rfl|some x=>have F:gO μ H p.b:=⟨id,p,ob,d,z,h4,rfl⟩;rcases W p.b Zd with h|⟨O,p',ai,g0,g1,g2,g3,g4⟩|h;rw[fG s F]at h;cases h;have:=s.inj O id ai ob p' p g1 d g2 z g3 h4 g4;simp_all;have:=mo s F;omega
      have Q:∀id x,(cD H T)[id]?=some x->∃ob,H[id]?=some ob/\x=(if id∈T then rB ob else ob):=by grind[ij]
      have C:∀id x,(cD H T)[id]?=some x->x.live=true->H[id]?=some x/\(id∉T\/∃r,x=.loop r):=by intro id x Y g;obtain⟨ob,d,z⟩:=Q id x Y;by_cases Z:id∈T;rw[if_pos Z]at z;cases ob<;>simp[rB]at z<;>subst z<;>simp[Ob.live]at g;grind;grind
      refine⟨u,I2,μ,rfl,.c _ _ A,⟨?_,?_,?_,?_,s.gl.mono G⟩,⟨G,Mu.le_refl _,by rw[kr];grind,st.size,λb D _=>B b D,?_,st.os,st.out,st.fz⟩⟩
      .intro id h;rw[kr]at h;exact s.dom id h
      .grind[su]
      .intro id x Y;obtain⟨ob,d,z⟩:=Q id x Y;have J:=s.obs id ob d
       by_cases Z:id∈T
       .rw[if_pos Z]at z
        cases ob with
        |row es xs=>
         subst z;obtain⟨p,c,g1,g2,g3⟩:=Ai s Z (by rw[d];rfl)
         exact⟨p,c,g1,nV _ _ _ _ _ _ _ (st.le _ _ g2),g3.mono G (Mu.le_refl _)⟩
        |frz es xs=>subst z;exact J.mono G (Mu.le_refl _) (λp _ g=>by grind[Ob.live]) (λi=>by cases i)|map al=>subst z;trivial|free=>simp[rB]at z;subst z;exact J|dead=>subst z;trivial|loop r=>
         simp[rB]at z;subst z;obtain⟨p,l,g1,g2,g3,g4⟩:=J;refine⟨p,l,g1,?_,?_,g4.mono G (Mu.le_refl _)⟩
         .
          cases E:I2 p.b with
          |none=>rfl|some x=>
           have K:=su v T1 p.b x E;have aj:=(Array.getElem?_eq_some_iff.1 g3).1;have m:=B p.b aj;rw[g3]at m
           cases x with
           |cells c=>obtain⟨_,_,q⟩:=K;rw[m]at q;cases q|map es=>obtain⟨_,q⟩:=K;rw[m]at q;cases q
         grind
       rw[if_neg Z]at z;subst z;refine J.mono G (Mu.le_refl _) (λp M g=>⟨B _ (mo s ⟨id,p,x,d,g,M,rfl⟩),X id x p d g Z M⟩) (λi=>by subst i;exact J)
      .intro id O o1 o2 p p' d z l1 l2 m1 m2 D;exact s.inj id O o1 o2 p p' (C id o1 d l1).1 (C O o2 z l2).1 l1 l2 m1 m2 D
      intro b D;rcases D with h|⟨id,p,x,d,z,h3,rfl⟩
      .grind[zM]
      exact .inr (.inl ⟨id,p,x,(C id x d z).1,z,h3,rfl⟩)
    grind
   grind
  grind
 grind
def bC.scalar{x:V}{v:Zp}(h:bC I μ x v)(B:x.scalar=true):bC I' μ' x v:=by
 have key:∀(l:Zu)(u:aX Zp),(∀x∈l,∀v,bC I μ x v->x.scalar=true->bC I' μ' x v)->V.cM l=true->(∀(j:Nat)a b,l[j]?=some a->u[j]?=some b->bC I μ a b)->
  ∀(j:Nat)a b,l[j]?=some a->u[j]?=some b->bC I' μ' a b:=by
  intro l
  induction l with
  |nil=>grind|cons x l C=>
   intro u f L O j a b D G;simp only[V.cM,ζh]at L
   cases j with
   |zero=>grind|succ j=>
    cases u with
    |nil=>simp at G|cons v u=>exact C u (λy w=>f y (mem_cons_of_mem _ w)) L.2 (λj a b p q=>O (j+1) a b Zd Zd) j a b Zd Zd
 have d:∀(k:Nat)(x:V)(v:Zp),SizeOf.sizeOf x<k->bC I μ x v->x.scalar=true->bC I' μ' x v:=by intro k;induction k with|zero=>grind|succ k C=>intro x v g h B;cases h with|c _ _ h=>exact .c _ _ (h.scalar B)|agg z u J h=>refine .agg z u J (λj a b D G=>key z u.toList (λy w v e B=>C y v ?_ e B) B (λj a b p q=>h j a b p (by simpa using q)) j a b D Zd);have:=List.sizeOf_lt_of_mem w;grind|tup z u J h=>refine .tup z u J (λj a b D G=>key z u.toList (λy w v e B=>C y v ?_ e B) B (λj a b p q=>h j a b p (by simpa using q)) j a b D Zd);have:=List.sizeOf_lt_of_mem w;grind|_=>grind[V.scalar]
 exact d (SizeOf.sizeOf x+1) x v Za h B
def cN.IX(s:cN I μ H w){ob:Ob}{p:Pl}(T:ob≠.free)(Y:I p.b=none)(G:¬gO μ H p.b)(U:rj I (μ.fZ H.length p) w H.length ob):
 cN I (μ.fZ H.length p) (H++[ob]) w:=by
 have a:=s.dom _ (le_refl _);have u:∀id x,(H++[ob])[id]?=some x->(id≠H.length/\H[id]?=some x)\/(id=H.length/\x=ob):=by grind
 refine⟨?_,s.imm,?_,?_,s.gl⟩
 .intro id h;simp at h;rw[Mu.ir _ _ Za];exact s.dom id Za
 .intro id x h;rcases u id x h with⟨e,h⟩|⟨rfl,rfl⟩
  .refine(s.obs id x h).mono (b_.le_refl _) (Mu.pX a) (λq Q S=>?_) (λW=>by subst W;rw[Mu.ir _ _ e];exact s.obs id _ h)
   exact⟨rfl,fG s ⟨id,q,x,h,S,Q,rfl⟩⟩
  grind
 intro id z o1 o2 q J h1 X L O B C D;rcases u id o1 h1 with⟨e1,k1⟩|⟨a1,Z⟩<;>rcases u z o2 X with⟨e2,k2⟩|⟨a2,b⟩
 .rw[Mu.ir _ _ e1]at B;rw[Mu.ir _ _ e2]at C;exact s.inj id z o1 o2 q J k1 k2 L O B C D
 .subst a2;rw[Mu.ir _ _ e1]at B;rw[Mu.fQ]at C;cases C;exact absurd ⟨id,q,o1,k1,L,B,D⟩ G
 .subst a1;rw[Mu.ir _ _ e2]at C;rw[Mu.fQ]at B;cases B;exact absurd ⟨z,J,o2,k2,O,C,D.symm⟩ G
 grind
theorem RY{call:di}(hc:jW P call){f:Zk}{args:Zu}{y:V}(h:kX call f args H=some (y,H'))(s:cN I μ H w){vs:aX Zp}(F:cr I μ args vs):
 w9 P f/\CallsIn (fr none) 0 P f vs.toArray w (vY I μ H w y H'):=by
 unfold kX at h;split at h
 .rename_i az has;split at h
  .rename_i r H1 L;generalize hT:cH (bY call.lv H) args=T;have⟨W,D⟩:=iA has;have s0:cN (plus I μ H w T) (λ_=>none) [] w:=⟨λ_ _=>rfl,su s T,Zc,Zc,s.gl.mono (nV I μ H w T)⟩
   have O:cr (plus I μ H w T) (λ_=>none) az vs:=by refine⟨W.trans F.1,λj a b d m=>?_⟩;have⟨x,U,aa⟩:=D j a d;refine .c _ _ (tj s T call.lv x a b aa (λk hk=>?_) (F.2 j x b U m)).1;rw[<-hT];exact jB (mem_of_getElem? U) hk
   have⟨hf,G⟩:=hc.fn f az [] r H1 L;refine⟨hf,(G _ _ w vs s0 O).mono ?_⟩;rintro e w' ⟨u,I1,μ1,rfl,n,s1,st⟩;have z:∀b,b<w.heap.size->w'.heap[b]?=w.heap[b]?:=λb D=>st.frame b D (qg _ _)
   have K:cN I μ H w':=s.kept z;have ab:Step I μ H w I μ H w':=⟨b_.le_refl _,Mu.le_refl _,le_refl _,st.size,λb D _=>z b D,λ_ h=>h.elim .inl λh=>.inr (.inl h),st.os,st.out,st.fz⟩
   split at h
   next ae=>simp only[ζa,ζc]at h;obtain⟨rfl,rfl⟩:=h;exact⟨u,I,μ,rfl,n.scalar ae,K,ab⟩

   have key:∀(id es off len:Nat)(v:V)(ob:Ob)(u:Zp),rE H.length H1 id es off len=some (v,ob)->bC I1 μ1 (.hsl id es off len) u->
    ∃p,bC I (μ.fZ H.length p) v u/\cN I (μ.fZ H.length p) (H++[ob]) w'/\Step I μ H w I (μ.fZ H.length p) (H++[ob]) w':=by
    intro id es off len v ob u B hu;unfold rE at B;split at B
    .rename_i X xs J;split at B
     .rename_i Q;obtain⟨rfl,am⟩:=Q;obtain⟨rfl,rfl⟩:=B;have⟨p,c,el,g1,g2,g3,g4⟩:=s1.obs id _ J;have an:w.heap.size<=p.b:=by
       rcases st.terr p.b (.inr ⟨id,p,_,J,rfl,g1,rfl⟩)with h|h|h
       .have⟨x,U⟩:=isSome_iff_exists.1 h;have:=st.le _ _ U
        grind
       all_goals grind[qg]
      have M:I p.b=none:=by cases U:I p.b with|none=>rfl|some x=>have:=s.FH U;omega
      have hn:¬gO μ H p.b:=λho=>by have:=mo s ho;omega
      have af:fL I (μ.fZ H.length p) p c X xs:=by refine⟨g4.es_eq,g4.sz,g4.oa,g4.one,g4.room,g4.rel.1,λj a b B D=>(g4.rel.2 j a b B D).scalar ?_⟩;have g:=mem_of_getElem? B;rw[mem_flatten]at g;grind
      have sa:=K.IX (ob:=.row X xs) Zc M hn ⟨p,c,el,Mu.fQ _ _ _,M,g3,af⟩
      refine⟨p,?_,sa,⟨b_.le_refl _,Mu.pX (s.dom _ (le_refl _)),Zc,st.size,λb D _=>z b D,?_,st.os,st.out,st.fz⟩⟩
      .rcases hu.kZ with⟨p',o,g,ah,ai,aj,t⟩|⟨h0,ad,t⟩
       .rw[g1]at g;cases g;rw[t];subst ah;exact .hsl _ off len o p (Mu.fQ _ _ _) ai aj
       rw[t,h0];exact .hsl0 _ _ _ _
      rintro b (h|⟨k,q,x,d,m,N,rfl⟩)
      .exact .inl h
      by_cases e:k=H.length
      .grind[Mu.fQ]
      rw[Mu.ir _ _ e]at N;have ak:k<H.length:=by have:=(ζe.1 d).1;grind
      rw[List.getElem?_append_left ak]at d;exact .inr (.inl ⟨k,q,x,d,m,N,rfl⟩)
     grind
    grind
   split at h
   next id es off len _=>simp only[ζf]at h;obtain⟨⟨v,ob⟩,B,rfl,rfl⟩:=h;have⟨p,k1,k2,k3⟩:=key id es off len v ob u B n;exact⟨u,I,_,rfl,k1,k2,k3⟩
   .rename_i id es off len rest _;split at h
    .rename_i S;simp only[ζf,ζc]at h;obtain⟨⟨v,ob⟩,B,rfl,rfl⟩:=h;obtain⟨A,rfl,C⟩:=n.oT;have Y:0<A.toList.length:=by have:=C.1;grind
     obtain⟨i,E,Z⟩:∃i E,A.toList=i::E:=by cases hl:A.toList with|nil=>rw[hl]at Y;simp at Y|cons a b=>grind
     rw[Z]at C;have⟨p,k1,k2,k3⟩:=key id es off len v ob i B (C.2 0 _ _ rfl rfl);refine⟨_,I,_,rfl,.tup _ _ ?_ ?_,k2,k3⟩
     .have:=C.1;grind
     intro j a b R D;have al:(i::E)[j]?=some b:=by rw[<-Z];grind
     cases j with
     |zero=>grind|succ j=>
      simp at R al;refine(C.2 (j+1) a b Zd Zd).scalar ?_
      have:∀(l:Zu),V.cM l=true->∀x∈l,x.scalar=true:=by intro l;induction l with|nil=>grind|cons y l ih=>simp_all[V.cM]
      exact this rest S a (mem_of_getElem? R)
    simp at h
   grind
  grind
 grind
def SO{E:Env}{call:di}(a:jW P call){f:Zk}{args:Zu}{y:V}(h:gf E call f args H=some (y,H'))(s:cN I μ H w){vs:aX Zp}(b:cr I μ args vs):
 w9 P f/\CallsIn (fr none) 0 P f vs.toArray w (vY I μ H w y H'):=by
 unfold gf at h;split at h
 .grind[RY]
 have⟨k1,k2⟩:=a.fn f args H y H' h
 grind
end
def Ob.mp:Ob->aY (aX (V×V))
 |.map B=>some B|_=>none
def lV(H H2:bh):Prop:=∀id:Nat,(H[id]?).bind Ob.rows=(H2[id]?).bind Ob.rows/\(H[id]?).bind Ob.mp=(H2[id]?).bind Ob.mp
def lV.refl(H:bh):lV H H:=λ_=>⟨rfl,rfl⟩
def lV.symm{H H2:bh}(h:lV H H2):lV H2 H:=λid=>⟨(h id).1.symm,(h id).2.symm⟩
def lV.trans{H H2 B:bh}(h:lV H H2)(k:lV H2 B):lV H B:=λid=>⟨(h id).1.trans (k id).1,(h id).2.trans (k id).2⟩
theorem lV.of_eq{H H2:bh}(h:H=H2):lV H H2:=by subst h;exact .refl _
theorem Hj{H H2:bh}(h:lV H H2):∀n,borrow n H=borrow n H2:=by
 intro n
 induction n with
 |zero=>funext x;rfl|succ n u=>
  funext x
  cases x with
  |hsl id es off len=>simp only[borrow,(h id).1,u]|hptr id el off=>simp only[borrow,(h id).1,u]|hmap id=>have:=(h id).2;simp only[borrow,u];split;rfl;cases a:H[id]?with|none=>grind[Ob.mp]|some o=>cases w:H2[id]?with|none=>rw[a,w]at this;all_goals grind[Ob.mp]|some o2=>rw[a,w]at this;cases o<;>cases o2<;>simp[Ob.mp]at this<;>first|rfl|grind
  |_=>simp only[borrow,u]
theorem Jw{H H2:bh}(h:lV H H2):∀n,bY n H=bY n H2:=by
 intro n
 induction n with
 |zero=>funext x;rfl|succ n u=>
  funext x
  cases x with
  |hsl id es off len=>simp only[bY,(h id).1,u]|hptr id el off=>simp only[bY,(h id).1,u]|hmap id=>have:=(h id).2;simp only[bY,u];split;rfl;cases a:H[id]?with|none=>grind[Ob.mp]|some o=>cases w:H2[id]?with|none=>rw[a,w]at this;all_goals grind[Ob.mp]|some o2=>rw[a,w]at this;cases o<;>cases o2<;>simp[Ob.mp]at this<;>first|rfl|grind
  |_=>simp only[bY,u]
theorem yd{H H2:bh}(h:lV H H2)(call:di)(f:Zk)(args:Zu):bS call f args H=bS call f args H2:=by grind[bS,borrows,Hj]
def GQ{H H2:bh}(h:lV H H2)(p:V)(n:Nat):dZ H p n=dZ H2 p n:=by cases p with|hptr id el off=>simp only[dZ,(h id).1]|_=>rfl
def Ka{H H2:bh}(h:lV H H2)(p:V):l_ H p=l_ H2 p:=by
 cases p with
 |hmap id=>have:=(h id).2;simp only[l_];cases a:H[id]?with|none=>grind[Ob.mp]|some o=>cases u:H2[id]?with|none=>rw[a,u]at this;all_goals grind[Ob.mp]|some o2=>rw[a,u]at this;cases o<;>cases o2<;>simp[Ob.mp]at this<;>first|rfl|grind
 |_=>rfl
theorem xe{E:Env}{F:Zo}{H H2:bh}(h:lV H H2)(op:Op):dD E F H op=dD E F H2 op:=by cases op<;>simp only[dD,GQ h,Ka h]
theorem tI{H H2:bh}(h:lV H H2)(T:Zv):iu H T=iu H2 T:=by unfold iu;congr 1;funext id;rw[(h id).1]
def yA{H:bh}{T:Zv}(h:iu H T=true){id:Nat}(B:id∈T):∃es xs,H[id]?=some (.row es xs)\/H[id]?=some (.frz es xs):=by unfold iu at h;rw[all_eq_true]at h;have:=h id B;cases a:H[id]?with|none=>rw[a]at this;simp at this|some o=>rw[a]at this;cases o<;>simp[Ob.rows]at this<;>exact⟨_,_,by first|exact .inl rfl|exact .inr rfl⟩
def uW{H:bh}{b id:Nat}:(H.take b)[id]?=if id<b then H[id]?else none:=by rw[getElem?_take]
def pR{H:bh}{T:Zv}{b:Nat}(h:iu (H.take b) T=true):lV (cD H T) H:=by intro id;rw[ij];by_cases u:id∈T;have⟨es,z,w⟩:=yA h u;rw[uW]at w;grind[rB,Ob.rows,Ob.mp];grind
def lV.take{H H2:bh}(h:lV H H2)(b:Nat):lV (H.take b) (H2.take b):=by intro id;rw[uW,uW];by_cases u:id<b;rw[if_pos u,if_pos u];exact h id;grind
def xN{H:bh}{T:Zv}{b:Nat}(h:iu (H.take b) T=true){id:Nat}(B:id∈T):id<b:=by have⟨es,w,u⟩:=yA h B;rw[uW]at u;grind
def B_{H:bh}{T:Zv}{k:Nat}{ob:Ob}(h:k∉T):cD (H.set k ob) T=(cD H T).set k ob:=by apply List.ext_getElem?;intro i;rw[ij];by_cases e:i=k;grind[kr];simp_all[Ne.symm,ij]
def HE(H:bh)(T B:Zv):cD (cD H T) B=cD (cD H B) T:=by apply List.ext_getElem?;grind[ij]
def Jn{H:bh}{b:Nat}:∀(n:Nat)(x:V),(∀id∈bY n (H.take b) x,id<b)->bY n H x=bY n (H.take b) x:=by intro n;induction n with|zero=>intro x _;rfl|succ n z=>have u:∀l:Zu,(∀id∈cH (bY n (H.take b)) l,id<b)->cH (bY n H) l=cH (bY n (H.take b)) l:=(by intro l;induction l with|nil=>intro _;rfl|cons x r w=>grind[cH]);intro x h;simp only[bY]at h⊢;split;all_goals grind
def sM{H:bh}{b n:Nat}:∀(l:Zu),(∀id∈cH (bY n (H.take b)) l,id<b)->cH (bY n H) l=cH (bY n (H.take b)) l
 |[],_=>rfl|x::r,h=>by simp only[cH,mem_append]at h⊢;rw[Jn n x λid B=>h id (.inl B),sM r λid B=>h id (.inr B)]
def C7{H:bh}{b id es:Nat}{xs:Zt}(h:((H.take b)[id]?).bind Ob.rows=some (es,xs)):(H[id]?).bind Ob.rows=some (es,xs):=by grind
theorem FY{H:bh}{b:Nat}{p:V}{n:Nat}{cs:Zu}(h:dZ (H.take b) p n=some cs):dZ H p n=some cs:=by unfold dZ at h⊢;grind
theorem IY{H:bh}{b:Nat}{m:V}{B:aX (V×V)}(h:l_ (H.take b) m=some B):l_ H m=some B:=by unfold l_ at h⊢;grind
def xk{E:Env}{F:Zo}{H:bh}{b:Nat}{op:Op}{x:V}(h:dD E F (H.take b) op=some x):dD E F H op=some x:=by cases op with|load t a=>grind[dD,ζg,FY]|lookup t m k ok=>grind[dD,IY]|_=>simp[dD]at h
theorem qZ{f g:V->aY V}(B:∀x y,f x=some y->g x=some y):∀{xs ys:Zu},gR f xs=some ys->gR g xs=some ys:=by intro xs;induction xs with|nil=>intro ys h;exact h|cons x xs u=>grind[gR]
theorem Hs{f g:V->aY V}(B:∀x y,f x=some y->g x=some y):∀{xs ys:Zt},kI f xs=some ys->kI g xs=some ys:=by intro xs;induction xs with|nil=>intro ys h;exact h|cons x xs u=>grind[kI,qZ]
theorem HH{f g:V->aY V}(B:∀x y,f x=some y->g x=some y):∀{xs ys:aX (V×V)},kG f xs=some ys->kG g xs=some ys:=by intro xs;induction xs with|nil=>intro ys h;exact h|cons x xs u=>grind[kG]
theorem zN{H:bh}{b:Nat}:∀(n:Nat)(x y:V),borrow n (H.take b) x=some y->borrow n H x=some y:=by intro n;induction n with|zero=>intro x y h;exact h|succ n z=>intro x y h;simp[borrow]at h⊢;split at h;grind;rename_i c;rw[if_neg c];split at h;split at h;rename_i a;simp only[C7 a];split at h;rename_i u;rw[if_pos u];grind[ζf,Hs];grind;grind;split at h;rename_i a;simp[C7 a];split at h;split at h;rename_i w;rw[if_pos w];grind[ζf,qZ];grind;grind;grind;all_goals grind[ζf,HH,qZ]
theorem oJ{call:di}{f:Zk}{args:Zu}{H:bh}{b:Nat}{y:V}(h:bS call f args (H.take b)=some y):bS call f args H=some y:=by grind[bS,borrows,qZ,zN]
theorem xI(n:Nat)(H:bh){x:V}(h:x.closed=true):bY n H x=[]:=by cases n with|zero=>rfl|succ n=>simp[bY,h]
def Ek(n:Nat)(H:bh){xs:Zu}(h:V.gN xs=true):cH (bY n H) xs=[]:=by induction xs with|nil=>rfl|cons x r u=>grind[V.gN,cH,xI]
section
variable{P:Program}{E:Env}{I I':b_}{μ μ':Mu}{H H':bh}{n:Nat}{F:Zo}{a:Act}{w w':World}
def vu{f:Zk}(h:w9 P f)(args:Array Zp):(callFunc f args).run P w=.ok (.enter f args) w:=by have⟨fn,a,B,u⟩:=h;unfold callFunc;have z:fn.body.isNone=false:=Ze;simp only[run_bind,run_program,andThen_ok,a,u,z,false_eq_true,if_false,run_pure]
theorem BG{o:Oper}{ro:aY Nat}{K:Act->World->Prop}{Q:Exit->Act->World->Prop}{f:Zk}{args:Array Zp}{r:V}
 (B:CallsIn (fr none) 0 P f args w (vY I μ H w r H'))(D:∀u I' μ' w',bC I' μ' r u->cN I' μ' H' w'->Step I μ H w I' μ' H' w'->K (a.put o.dst u) w'):
 o.uponIn (fr ro) 0 P a K Q (.ok (.enter f args) w):=by
 refine⟨λh=>by grind[fr],?_⟩
 have z:=B;refine z.mono ?_;rintro e w' ⟨u,I',μ',rfl,b,z,C⟩
 grind
def Ec{x:V}(h:x.scalar=true){I:b_}{μ:Mu}{v:Zp}(r:bC I μ x v):dX I x v:=by induction r with|c x v C=>omega|agg u w z _ B=>exact .agg u w z λj a b p q=>B j a b p q (sQ h a (mem_of_getElem? p))|tup u w z _ B=>exact .tup u w z λj a b p q=>B j a b p q (sQ h a (mem_of_getElem? p))|_=>grind[V.scalar]
theorem QH(m:dV P E)(r:dS I μ n F a.tmps)(s:cN I μ H w)(o:Oper){x:V}(h:nY E F o.op=some x):
 ∃u I' w',(execOp a.eval o).run P w=.ok (.value u) w'/\bC I' μ x u/\cN I' μ H w'/\Step I μ H w I' μ H w':=by
 unfold nY at h;split at h
 rotate_left
 .cases h
 rename_i es C B n Y;split at h
 rotate_left
 .cases h
 rename_i t;obtain⟨rfl,rfl,Z⟩:=t;have⟨obj,p,u,A,W⟩:=Av m r s o Y;have K:=W.len _ _ rfl;have⟨⟨q,c,el,g1,g2,g3,g4⟩,f⟩:=W.rel _ (s.dom _ (le_refl _));rw[Mu.fQ]at g1;cases g1;have O:=W.b;have Q:obj=.cells c el:=by rw[O,lS]at g3;cases g3;rfl
 subst Q
 let I':b_:=λb=>if b=w.heap.size then some (.cells c)else I b
 have D:b_.le I I':=λb y L=>by grind
 have G:I' p.b=some (.cells c):=Zd
 have M:∀y∈C,∀z∈y,z.scalar=true:=λy L z N=>all_eq_true.1 (all_eq_true.1 Z y L) z N
 have g:∀b,b<w.heap.size->(w.alloc (.cells c el)).heap[b]?=w.heap[b]?:=λb S=>l8 _ b S
 have af:∀b,b<w.heap.size->I' b=I b:=λb S=>Zd
 refine⟨u,I',_,A,?_,⟨s.dom,?_,?_,s.inj,s.gl.mono D⟩,⟨D,Mu.le_refl _,le_refl _,Zc,λb S _=>g b S,?_,rfl,⟨rfl,rfl,le_refl _⟩,λa S=>Mz W.nf a⟩⟩
 .refine .c _ _ ?_;have ah:∀d,C.length<=d->p.o+(0+d)*B<=p.sz->u=.slice (some ⟨p.b,p.o+0*B,none⟩) C.length d->dX I' x u:=by
   rintro d k1 k2 rfl;rw[zero_mul,add_zero];have hf:dX I' (.fsl B C) (.slice (some ⟨p.b,p.o,none⟩) C.length d):=.fsl B C p.b p.o d c G k1 g4.oa g4.one g4.room λi j y z v m1 l R=>dX.mono D (Ec (M y (mem_of_getElem? m1) z (mem_of_getElem? l)) (g4.idx m1 l R))
   split at h
   .split at h
    .rename_i X;split at h
     rotate_left
     .cases h
     rename_i T;simp only[ζa]at h;subst h;simp only[List.isEmpty_iff,bne_iff_ne,ne_eq]at X T;subst X;have:d=0:=by simp only[List.length_nil,zero_mul]at K;rcases Nat.eq_zero_or_pos d with k|k;exact k;have:=Nat.mul_pos k (Nat.pos_of_ne_zero T);rw[Nat.zero_add]at k2;omega
     subst this;exact .c7 _
    grind
   grind
  have hp:p.es=B:=g4.es_eq;change bC I _ (.hsl H.length B 0 C.length) u at f;generalize ad:C.length=ln at f
  cases f with
  |c _ _ ae=>cases ae|hsl id off len d p' hm k1 k2=>rw[Mu.fQ]at hm;grind|hsl0 id es off a=>
   have X:C=[]:=List.length_eq_zero_iff.1 ad;subst X;split at h
   .split at h
    .split at h
     .simp only[ζa]at h;subst h;exact .c7 _
     cases h
    grind
   simp only[ζa]at h;subst h;exact .fsl0 _ _ _
 .intro b y L
  by_cases e:b=w.heap.size
  .subst e;have:y=.cells c:=by have:=G;rw[O]at this;rw[this]at L;cases L;rfl
   subst this;exact⟨el,_,lS _⟩
  have U:I b=some y:=by have:(if b=w.heap.size then some (IC.cells c)else I b)=some y:=L;rw[if_neg e]at this;exact this
  exact IC.qI (s.imm b y U) (g b (IC.uc (s.imm b y U)))
 .intro id ob J;refine(s.obs id ob J).mono D (Mu.le_refl _) (λq hq hl=>?_) (λe=>by subst e;exact s.obs id _ J)
  have ho:gO μ H q.b:=⟨id,q,ob,J,hl,hq,rfl⟩;have ai:=mo s ho
  grind[fG]
 grind
def DQ:∀{ys:Zt}{l:Zx},kA ys=some l->ys.flatten=l.map (V.int .u8)/\l.length=ys.length
 |[],l,h=>by cases h;grind|x::r,l,h=>by unfold kA at h;split at h;grind;rename_i n B e;cases e;obtain⟨k,a,rfl⟩:=ζf.1 h;have⟨u,w⟩:=DQ a;grind;cases h
def Rh(O:dV P E)(r:dS I μ n F a.tmps)(s:cN I μ H w)(o:Oper){x:V}(h:evalConv E F H o.op=some x):∃u,(execOp a.eval o).run P w=.ok (.value u) w/\bC I μ x u:=by
 unfold evalConv at h;split at h;rename_i st Q y B;split at h;rename_i e v S T f;split at h;rename_i U;obtain⟨D,g,W⟩:=ζg.1 h;obtain⟨l,X,rfl⟩:=ζf.1 W;obtain⟨Y,m⟩:=DQ X;have C:∀{t:Zm}{k:TK},E.kindOf t=some k->∃d b,E.tt t=some d/\P.underlying t=some b/\lp b=k:=λ{t k}hk=>by unfold Env.kindOf at hk;obtain⟨d,g1,g2⟩:=ζf.1 hk;obtain⟨b,G,J,_⟩:=(O.ty g1).dw;grind
 obtain⟨_,p,_,p1,G⟩:=C S;obtain⟨_,A,_,p2,J⟩:=C T;obtain⟨_,K,_,p3,Z⟩:=C U;rw[iU G]at p1;rw[xV J]at p2;rw[A7 Z]at p3;obtain⟨L,c,arr,e1,_,e2,e3,_⟩:=xT s (c8 r f) g;have z:arr=(l.map (Value.int .u8)).toArray:=by apply Array.ext';rw[Y]at e3;refine List.ext_getElem (by simpa using e3.1.symm) λj g1 g2=>?_;have g3:j<l.length:=Zd;have:=e3.2 j (V.int .u8 l[j]) arr.toList[j] (by simp[g3]) (ζd g1);rw[this.eV];simp
 refine⟨.string (pN l),?_,.c _ _ (.str _)⟩;rw[show execOp a.eval o=_ from by unfold execOp;rw[B]];refine fD ?_;rw[e1];rw[run_convert_bytes_string w st Q e L D.length c p1 p3 p2];cases L with|none=>have:=e2 w rfl;rw[e1]at this;simp only[firstCells,run_pure]at this;cases this;have i:l=[]:=(by have:=congrArg Array.size z;grind);subst i;rfl|some q=>have:=e2 w rfl;rw[e1]at this;simp only[firstCells,Nat.mul_one]at this;rw[z]at this;exact run_bytesToString w q D.length c l this
 cases h;cases h;cases h
def Ns(Y:dV P E){call:di}(k:jW P call){ops:Zz}{place:aY (Nat×Nat)}{o:Oper}{x:V}(h:cE E call ops place F H o.op=some (x,H'))
 (r:dS I μ n F a.tmps)(s:cN I μ H w)(ro:aY Nat){K:Act->World->Prop}{Q:Exit->Act->World->Prop}
 (t:∀u I' μ' w',bC I' μ' x u->cN I' μ' H' w'->Step I μ H w I' μ' H' w'->K (a.put o.dst u) w'):o.wpIn (fr ro) 0 P a w K Q:=by
 refine⟨λ_ _=>trivial,?_⟩
 have aa:∀c,o.op≠.defer c:=by intro c ab;rw[ab]at h;simp[cE,cz,rD,bF]at h;all_goals grind[evalConv]
 show o.uponIn (fr ro) 0 P a K Q ((o.semAt ro a.eval).run P w);rw[Oper.semAt_eq ro a.eval o aa];have ae:∀v,(execOp a.eval o).run P w=.ok (.value v) w->bC I μ x v->H'=H->o.uponIn (fr ro) 0 P a K Q ((execOp a.eval o).run P w):=by intro v e j hH;rw[e,Oper.uponIn_value];subst hH;exact t v I μ w j s (.refl _ _ _ _)
 unfold cE at h;split at h
 .
  simp at h;obtain⟨v,j,rfl,rfl⟩:=h;unfold rD at j;split at j
  .rename_i hp;cases j;have⟨u,d,B⟩:=Qh (w:=w) Y r o hp
   grind
  split at j
  .have⟨u,d,B⟩:=Rh Y r s o j
   grind
  cases j
 .
  have hr:dD E F H o.op=some x/\H'=H:=by split at h;simp at h;grind;split at h;split at h;(next v j=>obtain⟨rfl,rfl⟩:=h;exact⟨xk j,rfl⟩);split at h;simp at h;grind;grind;grind
  grind[PO]
 .
  by_cases G:mw E ops place=true
  .rw[if_pos G]at h
   grind[ζf,QH,Oper.uponIn_value]
  rw[if_neg G]at h;split at h
  .rename_i ob m T;have⟨obj,p,u,d,B⟩:=Av Y r s o T;rw[d,Oper.uponIn_value];have⟨g1,g2⟩:=B.rel _ (s.dom _ (le_refl _));have⟨s1,s2⟩:=s.push B.b g1 B.nf
   grind
  .rename_i ob m b i T;split at h
   .rename_i J;have⟨obj,p,u,d,B⟩:=Av Y r s o T;rw[d,Oper.uponIn_value];have⟨g1,g2⟩:=B.rel _ (s.obs _ _ J);have⟨s1,s2⟩:=s.fill J B.b g1 B.nf
    grind
   grind
  grind
 .
  have hl:cq E F H o.op=some (x,H'):=by grind
  have⟨nx,u,w',μ',d,B,Z,A,R⟩:=(PS Y r s o hl).run;rw[d];rcases B with rfl|⟨rfl,rfl⟩
  .exact t u I μ' w' Z A R
  exact t _ I μ' w' Z A R

 have z:∀c args,jk F o.op=some (c,args)->∃O:aX Zp,cr I μ args O/\
  (∀f,c=.fn f->w9 P f->(execOp a.eval o).run P w=.ok (.enter f O.toArray) w)/\
  (∀id,c=.yld id->∃p,μ id=some p/\(execOp a.eval o).run P w=(Instr.yield p.b O.toArray).run P w):=by
  intro c args C;have⟨dst,op,ty,pos,after,M⟩:=o
  cases op with
  |call cl=>
   have⟨callee,L,ai⟩:=cl
   cases callee with
   |value f=>
    simp only[jk]at C;split at C
    .rename_i g p q O hf U;obtain⟨rfl,rfl⟩:=C;have⟨u,v,ef,hu,j⟩:=(c8 r hf).jy;have D:=mX r U;refine⟨u.toList++L.toList.map a.eval++v.toList,(hu.append D).append j,?_,Zc⟩
     simp_all[execOp,resolve,Deferred.ofValue,invoke,vu]
    .rename_i id O hf U;simp at C;obtain⟨rfl,rfl⟩:=C;have⟨p,N,ef⟩:=(c8 r hf).QE;have D:=mX r U;refine⟨L.toList.map a.eval,D,Zc,?_⟩
     intro aj X;cases X;refine⟨p,N,?_⟩;simp[execOp,resolve,run_bind];rw[ef];simp[Deferred.ofValue,run_pure,andThen_ok,invoke]
     congr 1
     congr 1
     grind
    grind
   |_=>grind[jk]
  |_=>simp[jk]at C
 have S:∀f args y,jk F o.op=some (.fn f,args)->bS call f args H=some y->x=y->H'=(if y.scalar then H else cD H (cH (bY call.lv H) args))->
  o.uponIn (fr ro) 0 P a K Q ((execOp a.eval o).run P w):=by
  intro f args y d B Z A;have⟨O,g1,g2,_⟩:=z _ _ d;have⟨k1,k2⟩:=A5 k B s g1;rw[g2 f rfl k1]
  grind[BG]
 have af:∀f args,jk F o.op=some (.fn f,args)->gf E call f args H=some (x,H')->o.uponIn (fr ro) 0 P a K Q ((execOp a.eval o).run P w):=by intro f args d B;have⟨O,g1,g2,_⟩:=z _ _ d;have⟨k1,k2⟩:=SO k B s g1;rw[g2 f rfl k1];grind[BG]
 have ah:∀id args,jk F o.op=some (.yld id,args)->call (.yld id) args H=some (x,H')->o.uponIn (fr ro) 0 P a K Q ((execOp a.eval o).run P w):=by intro id args d B;have⟨O,g1,_,g3⟩:=z _ _ d;have⟨p,N,e⟩:=g3 id rfl;have⟨l,f,tmps,assign,body,k1,k2⟩:=k.yld id args H x H' B I μ w O p s g1 N;rw[e,k1,Oper.uponIn_round];refine⟨λh=>by grind[fr],?_⟩;have B:=k2;refine B.mono ?_;rintro e w' ⟨u,I',μ',rfl,d,B,Z⟩;grind
 split at h
 .rename_i f args C;split at h
  rotate_left
  .cases h
  unfold dI at h;split at h
  .grind
  split at h
  .grind
  split at h
  .rename_i y hy;split at h
   next W=>simp at h;refine S f args y C (oJ hy) h.1.symm ?_;rw[<-h.2,if_pos W]
   rename_i W;split at h
   next ad=>simp at h;refine S f args y C (oJ hy) h.1.symm ?_;rw[<-h.2,if_neg W,sM _ λid hi=>xN ad hi]
   simp at h
  grind
 all_goals grind
end
structure jw(B:Nat)(ds:List Deferred)(w:World):Prop where
 all:∀d∈ds,∃r,d.target=.collected r/\B<=r/\w.heap[r]?=some (.deferred (some []))
 apart:ds.Pairwise λd d'=>∀r,d.target=.collected r->d'.target≠.collected r
section
variable{P:Program}{E:Env}{I I' I'':b_}{μ μ' μ'':Mu}{H H' H'':bh}{n B:Nat}{F F':Zo}{a:Act}{w w' w'':World}
def tn(s:cN I μ H w){r:Nat}{c:aY (aX Deferred)}(h:w.heap[r]?=some (.deferred c)):¬gO μ H r:=by rintro⟨id,p,ob,h1,D,z,rfl⟩;have:=s.obs id ob h1;cases ob with|row es G=>have⟨q,c,el,u,_,B,_⟩:=this;rw[z]at u;grind|map C=>have⟨q,c,el,u,_,B,_⟩:=this;rw[z]at u;grind|loop x=>have⟨q,c,u,_,B,_⟩:=this;rw[z]at u;grind|_=>grind[Ob.live]
def jw.step{ds:aX Deferred}(h:jw B ds w)(s:cN I μ H w)(st:Step I μ H w I' μ' H' w'):jw B ds w' where
 all:=by intro d z;have⟨r,a,C,u⟩:=h.all d z;refine⟨r,a,C,?_⟩;rw[st.frame r (Array.getElem?_eq_some_iff.1 u).1 (tn s u)];exact u
 apart:=h.apart
def Lt(r:dS I μ n F a.tmps)(ops:Array Oper)(o:Oper):fA ops.toList F o=Region.wanted o (yielded ops a.tmps):=by
 unfold fA Region.wanted;cases i:o.guard with|none=>rfl|some g=>
  have⟨j,b⟩:=g;simp only;unfold yielded;have e:ops.toList[j]?=ops[j]?:=Zc;rw[e];cases C:(ops[j]?).bind (·.dst)with|none=>simp|some d=>
   simp only[ζb];have f:=r.2 d;by_cases w:d<a.tmps.size
   .have u:a.tmps[d]?=some a.tmps[d]:=(by simp[w]);have z:a.tmps.getD d undef=a.tmps[d]:=(by simp[w]);rw[z]at f;rw[u];cases B:get F d with|bool c=>rw[B]at f;rw[f.qp];all_goals grind|_=>cases h:a.tmps[d]with|bool c=>rw[h]at f;have:=f.of_bool;rw[B]at this;cases this|_=>rfl
   have u:a.tmps[d]?=none:=Array.getElem?_eq_none (Nat.le_of_not_lt w);have z:a.tmps.getD d undef=undef:=by simp[w]
   rw[z]at f;rw[u];cases B:get F d with|bool c=>rw[B]at f;have:=f.qp;grind[undef]|_=>rfl
def Bn(O:dV P E){call:di}(b:jW P call){ops:Array Oper}{place:aY (Nat×Nat)}{o:Oper}(h:fT E call n ops.toList place o F H=some (F',H'))
 (r:dS I μ n F a.tmps)(s:cN I μ H w)(ro:aY Nat){K:Act->World->Prop}{Q:Exit->Act->World->Prop}
 (J:∀a' I' μ' w',dS I' μ' n F' a'.tmps->a'.defers=a.defers->cN I' μ' H' w'->Step I μ H w I' μ' H' w'->K a' w'):
 if Region.wanted o (yielded ops a.tmps)then o.wpIn (fr ro) 0 P a w K Q else(∀f,o.about P w a.eval=some f->(fr ro).fn f)/\K (a.put o.dst undef) w:=by
 unfold fT at h;rw[<-Lt r];have z:∀v,(a.put o.dst v).defers=a.defers:=λv=>by cases o.dst<;>rfl
 split at h
 .rename_i C;rw[if_pos C];split at h
  .rename_i x H2 D;simp only[ζf,ζc]at h;obtain⟨L,G,rfl,rfl⟩:=h;refine Ns O b D r s ro (λu I' μ' w' S T B=>?_)
   exact J _ I' μ' w' ((r.mono B.le B.mu).put S G) (z u) T B
  simp at h
 rename_i C;rw[if_neg C];simp only[ζf,ζc]at h;obtain⟨L,G,rfl,rfl⟩:=h;exact⟨λ_ _=>trivial,J _ I μ w (r.put (.undef I μ) G) (z _) s (.refl _ _ _ _)⟩
def LW(D:dV P E){call:di}(b:jW P call){ops:Array Oper}(ro:aY Nat){Q:Exit->Act->World->Prop}:∀(rest:Zz)(k:Nat)(I:b_)(μ:Mu)(F:Zo)(H:bh)(a:Act)(w:World),
 (∀j,rest[j]?=ops[k+j]?)->lu E call n ops.toList rest F H=some (F',H')->dS I μ n F a.tmps->cN I μ H w->
 (∀a' I' μ' w',dS I' μ' n F' a'.tmps->a'.defers=a.defers->cN I' μ' H' w'->Step I μ H w I' μ' H' w'->Q .normal a' w')->
 wpOpsIn (fr ro) 0 P ops Q (List.range' k rest.length) a w:=by
 intro rest
 induction rest with
 |nil=>intro k I μ F H a w _ h r s B;simp only[lu,ζa,ζc]at h;obtain⟨rfl,rfl⟩:=h;exact B a I μ w r rfl s (.refl _ _ _ _)|cons o rest C=>
  intro k I μ F H a w u h r s B;simp only[lu]at h;split at h
  .rename_i F1 H1 z;have G:ops[k]?=some o:=by simpa using(u 0).symm
   simp only[List.length_cons,List.range'_succ,wpOpsIn,G];refine Bn D b z r s ro (λa' I' μ' w' c O J L=>?_)
   refine C (k+1) I' μ' F1 H1 a' w' (λj=>by have:=u (j+1);grind) h c J ?_
   grind[Step.trans]
  simp at h
end
def mT(F F':Zo)(op:Op):Prop:=∀x∈op.operands,ev F x=ev F' x
def qP{F F':Zo}:∀{l:aX Zr},(∀x∈l,ev F x=ev F' x)->fe F l=fe F' l:=by intro l;induction l with|nil=>intro _;rfl|cons x l u=>grind[fe]
def yo{F F':Zo}:∀{l:aX (Nat×Zr)},(∀x∈l,ev F x.2=ev F' x.2)->lz F l=lz F' l:=by intro l;induction l with|nil=>intro _;rfl|cons x l u=>grind[lz]
def vo{F F':Zo}{o:aY Zr}(h:∀x∈o.toArray,ev F x=ev F' x):jr F o=jr F' o:=by cases o with|none=>rfl|some x=>grind[jr]
def Cx{E:Env}{F F':Zo}{op:Op}(h:mT F F' op):bF E F op=bF E F' op:=by
 cases op with
 |move x=>exact h x (by simp[operands])|assign x=>exact h x (by simp[operands])|pick c a b=>simp[bF];rw[h c (by simp[operands]),h a (by simp[operands]),h b (by simp[operands])]|nilCheck x=>simp[bF];rw[h x (by simp[operands])]|binOp op t x y B=>simp[bF];rw[h x (by simp[operands]),h y (by simp[operands])]|unOp op t x=>simp[bF];rw[h x (by simp[operands])]|convert s d x=>simp[bF];rw[h x (by simp[operands])]|fieldAddr s x f=>simp[bF];rw[h x (by simp[operands])]|field s x f=>simp[bF];rw[h x (by simp[operands])]|indexAddr t x i=>simp[bF];rw[h x (by simp[operands]),h i (by simp[operands])]|index t x i=>simp[bF];rw[h x (by simp[operands]),h i (by simp[operands])]|slice t x C D G=>
  simp[bF];rw[h x (by simp[operands]),vo (λy w=>h y (by grind[operands])),vo (λy w=>h y (by grind[operands])),
   vo (λy w=>h y (by grind[operands]))]
 |build t ps=>simp[bF];rw[yo (λx u=>h x.2 (by grind[operands]))]|makeFunc f a b=>cases f with|func f=>simp[bF];rw[qP (λx u=>h x (by grind[operands])),qP (λx u=>h x (by grind[operands]))]|_=>rfl
 |extract x i=>simp[bF];rw[h x (by simp[operands])]|call c=>have⟨callee,args,z⟩:=c;cases callee with|builtin b=>simp[bF];rw[qP (λx u=>h x (by grind[operands,Call.operands]))]|_=>rfl
 |_=>rfl
def v7{E:Env}{F F':Zo}{H:bh}{op:Op}(h:mT F F' op):dD E F H op=dD E F' H op:=by cases op with|load t x=>simp[dD];rw[h x (by simp[operands])]|lookup t m k ok=>simp[dD];rw[h m (by simp[operands]),h k (by simp[operands])]|_=>rfl
theorem vj{E:Env}{F F':Zo}{op:Op}(h:mT F F' op):ey E F op=ey E F' op:=by cases op with|alloc t=>rfl|box t x=>simp[ey];rw[h x (by simp[operands])]|makeSlice t l c=>simp[ey];rw[h l (by simp[operands]),h c (by simp[operands])]|buildSlice t len ps=>simp[ey];rw[yo (λx u=>h x.2 (by grind[operands]))]|makeMap t r=>cases r<;>rfl|_=>rfl
def CQ{E:Env}{F F':Zo}{H:bh}{op:Op}(h:mT F F' op):cq E F H op=cq E F' H op:=by
 cases op with
 |store t p x=>simp[cq];rw[h p (by simp[operands]),h x (by simp[operands])]|mapUpdate t m k x=>simp[cq];rw[h m (by simp[operands]),h k (by simp[operands]),h x (by simp[operands])]|insert t m k x=>simp[cq];rw[h m (by simp[operands]),h k (by simp[operands]),h x (by simp[operands])]|call c=>
  have⟨callee,args,u⟩:=c
  cases callee with
  |builtin b=>cases b with|append=>simp[cq];rw[qP (λx w=>h x (by grind[operands,Call.operands]))]|clear=>simp[cq];rw[qP (λx w=>h x (by grind[operands,Call.operands]))]|_=>rfl
  |_=>rfl
 |_=>rfl
def CA{F F':Zo}{op:Op}(h:mT F F' op):jk F op=jk F' op:=by
 cases op with
 |call c=>have⟨callee,args,u⟩:=c;cases callee with|value f=>simp[jk];rw[h f (by simp[operands,Call.operands]),qP (λx w=>h x (by grind[operands,Call.operands]))]|_=>rfl
 |_=>rfl
def GY{E:Env}{F F':Zo}{op:Op}(h:mT F F' op):nY E F op=nY E F' op:=by grind[nY,vj]
def Kn{F F':Zo}{ops:Zz}{i b:Nat}{H:bh}{op:Op}(h:mT F F' op):xR ops i b F H op=xR ops i b F' H op:=by
 have:oH F op=oH F' op:=by
  unfold oH;split;rename_i args _;split;rename_i x r u;rw[h x (by
   have:x∈args.toList:=by rw[u];simp
   grind[operands,Call.operands])]
  rfl;rfl
 grind[xR]
def HB{E:Env}{place:aY (Nat×Nat)}{F F':Zo}{H:bh}{op:Op}(h:mT F F' op):rD E F H place op=rD E F' H place op:=by
 unfold rD;rw[Cx h];have:evalConv E F H op=evalConv E F' H op:=by unfold evalConv;split;rw[h _ (by simp[operands])];rfl
 rw[this]
def Bl{E:Env}{b:Nat×Nat}{F:Zo}{H:bh}{op:Op}:rD E F H (some b) op=bF E F op:=by grind[rD]
def BB{E:Env}{call:di}{ops:Zz}{place:aY (Nat×Nat)}{F F':Zo}{H:bh}{op:Op}(h:mT F F' op)(B:∀b i,place=some (b,i)->oK ops i F=oK ops i F'/\qA ops b i F=qA ops b i F'/\mV ops i F op=mV ops i F' op):cE E call ops place F H op=cE E call ops place F' H op:=by
 unfold cE;rw[HB h,vj h,CQ h,CA h,v7 (H:=H) h,GY h];split<;>(try rfl)
 .split<;>(try rfl);rename_i i;rw[v7 h,(B _ i rfl).2.2]
 split<;>(try rfl);rename_i b i;rw[(B _ i rfl).1,(B _ i rfl).2.1,Kn h]
section
variable{E:Env}{call:di}{n:Nat}{ops:Zz}{base:Nat}
def J9{o:Oper}{t:Nat}(h:.tmp t∈o.op.operands):t∈tmpsOf o ops:=by refine mem_append.2 (.inl (List.mem_filterMap.2 ⟨.tmp t,Zd,rfl⟩))
def D0{F F':Zo}{o:Oper}{dst:aY Nat}{v:V}(B:jl n F dst v=some F')(h:∀d,dst=some d->d∉tmpsOf o ops):mT F' F o.op:=by
 intro x u
 cases x with
 |tmp t=>cases dst with|none=>grind[jl]|some d=>simp only[jl]at B;split at B;simp at B;subst B;have w:d≠t:=λe=>h d rfl (by rw[e];exact J9 u);grind[ev,iQ];grind
 |const v=>rfl|func f=>rfl|global g=>rfl
def zR{F F':Zo}{o:Oper}{dst:aY Nat}{v:V}(B:jl n F dst v=some F')(h:∀d,dst=some d->d∉tmpsOf o ops):fA ops F' o=fA ops F o:=by unfold fA;cases a:o.guard with|none=>rfl|some g=>have⟨j,b⟩:=g;simp only;cases w:(ops[j]?).bind (·.dst)with|none=>rfl|some t=>simp only;cases dst with|none=>grind[jl]|some d=>simp only[jl]at B;split at B;simp at B;subst B;have u:d≠t:=λe=>h d rfl (by grind[tmpsOf]);rw[iQ _ _ u];grind
def K0{F F1 G:Zo}{d D:aY Nat}{u v:V}(a:jl n F d u=some F1)(O:jl n F1 D v=some G)(J:∀x,d=some x->D≠some x):
 ∃B,jl n F D v=some B/\jl n B d u=some G:=by
 cases d with
 |none=>simp_all[jl]|some x=>
  cases D with
  |none=>simp_all[jl]|some y=>simp_all[jl,EH]
def Hx{i k:Nat}{B ok:Oper}(h:dn ops i=true)(G:ops[i]?=some B)(a:ops[k]?=some ok)(D:k≠i):cz ok.op=.pure\/(if k<i then before ops i k else before ops k i)=true\/(isApp B.op=true/\cz ok.op=.alloc/\i<k):=by grind[dn]
theorem DK{H:bh}{j es:Nat}{ob:Ob}{x:V}{xs:Zt}(B:H[j]?=some .free)(h:dg H es x=some xs):dg (H.set j ob) es x=some xs:=by unfold dg at h⊢;all_goals grind[Ob.rows]
def M4{H H1:bh}{j:Nat}{ob:Ob}{x:V}(h:fP H x=some H1):H1.length=H.length/\(H1[j]?=some .free->H[j]?=some .free)/\(H[j]?=some .free->fP (H.set j ob) x=some (H1.set j ob)):=by unfold fP at h⊢;split at h;grind;grind;rename_i id a b c;split at h;rename_i d;cases h;refine⟨Zc,λh=>?_,λh=>?_⟩;grind;have e:id≠j:=λe=>Zd;rw[getElem?_set_ne (Ne.symm e),d];rw[set_comm _ _ e];simp_all;simp_all
def MG{H:bh}{o:Ob}{j:Nat}(B:o≠.free)(h:(H++[o])[j]?=some .free):j<H.length/\H[j]?=some .free:=by grind
def Qr{F:Zo}{H H1:bh}{op:Op}{v:V}{j:Nat}{ob:Ob}(B:isApp op=true)(h:cq E F H op=some (v,H1))(D:H1[j]?=some .free):H[j]?=some .free/\cq E F (H.set j ob) op=some (v,H1.set j ob):=by unfold isApp at B;split at B;simp only[cq]at h⊢;split at h;split at h;rename_i e _ u w;split at h;rename_i d C;split at h;simp_all[DK];rename_i O Q G S T;split at h;obtain⟨H0,a,I⟩:=ζf.1 h;obtain⟨rfl,rfl⟩:=I;obtain⟨J,z⟩:=MG Zc D;obtain⟨g1,g2,g3⟩:=M4 (ob:=ob) a;have L:=g2 z;grind[DK];simp_all;simp_all;simp_all;rename_i e _ u w;split at h;rename_i d C;unfold mkApp at h;split at h;split at h;simp_all[mkApp];split at h;obtain⟨rfl,rfl⟩:=h;grind[mkApp];simp_all;simp_all;simp_all;simp_all;simp_all;simp_all
def sX{i:Nat}{F:Zo}{H H':bh}{op:Op}{v:V}(h:cE E call ops (some (base,i)) F H op=some (v,H'))(O:dn ops i=false)(B:cz op≠.loud):
 (H'=H/\∀H2:bh,lV (H2.take base) (H.take base)->cE E call ops (some (base,i)) F H2 op=some (v,H2))\/
 (∃ob,H[base+i]?=some .free/\H'=H.set (base+i) ob/\∀H2:bh,H2[base+i]?=some .free->cE E call ops (some (base,i)) F H2 op=some (v,H2.set (base+i) ob))\/
 (∃T,iu (H.take base) T=true/\H'=cD H T/\∀H2:bh,lV (H2.take base) (H.take base)->cE E call ops (some (base,i)) F H2 op=some (v,cD H2 T)):=by
 unfold cE at h;split at h
 next Q=>simp at h;obtain⟨x,L,rfl,rfl⟩:=h;simp_all[Bl,cE]
 .rename_i B;simp only at h;split at h
  .rename_i S;split at h
   .rename_i x L;obtain⟨rfl,rfl⟩:=h;refine .inl ⟨rfl,λH2 D=>?_⟩
    grind[cE,xe]
   grind
  grind
 .split at h
  .have⟨x,L,e⟩:=ζf.1 h;simp_all[cE]
  split at h
  .grind
  .rename_i ob m W X U G;obtain⟨rfl,rfl⟩:=G;split at h
   .rename_i w;obtain⟨rfl,rfl⟩:=h;refine .inr (.inl ⟨ob,w,rfl,λH2 D=>?_⟩)
    grind[cE]
   grind
  grind
 .grind
 rename_i B;split at h
 .rename_i f args z;split at h
  rotate_left
  .cases h
  rename_i C;unfold dI at h;split at h
  .grind
  rename_i u;simp only at h;split at h
  .rename_i y Y;split at h
   .rename_i I;obtain⟨rfl,rfl⟩:=h;refine .inl ⟨rfl,λH2 D=>?_⟩
    unfold cE dI;rw[B];simp only[z,if_pos C];rw[if_neg u]
    grind[yd]
   split at h
   .rename_i J;obtain⟨rfl,rfl⟩:=h;refine .inr (.inr ⟨_,J,rfl,λH2 D=>?_⟩)
    unfold cE dI;rw[B];simp only[z,if_pos C];rw[if_neg u]
    grind[yd,Jw,tI]
   grind
  grind
 all_goals grind
def Dh{g:Zl}{i:Nat}:∀{r l:Zv},AA g ops i r=some l->∀k∈r,∃a,Eu g ops i k=some a/\∀s∈a,s∈l
 |[],l,h,k,c=>Ze|q::r,l,h,k,c=>by simp[AA]at h;split at h;rename_i a b d B;simp at h;rcases mem_cons.1 c with rfl|c;grind;have⟨a',g1,g2⟩:=Dh B k c;exact⟨a',g1,λs u=>Zd⟩;grind
def FF{g:Zl}{i:Nat}:∀{r l:Zv},AA g ops i r=some l->∀s∈l,s∉dstsOf ops
 |[],l,h,s,c=>by grind[AA]|q::r,l,h,s,c=>by simp[AA]at h;split at h;rename_i a b d B;simp at h;subst h;rcases mem_append.1 c with c|c;grind[Eu];exact FF B s c;grind
def oI{g:Zl}{i a:Nat}{l:Zv}{B:Oper}(D:ops[i]?=some B)(h:qB g ops i=some (a,l)):(∃t x,B.op=.store t (.tmp a) x)/\a∉dstsOf ops/\(∀s∈l,s∉dstsOf ops)/\
 ∀k ok,ops[k]?=some ok->k≠i->cz ok.op=.pure\/(if k<i then before ops i k else before ops k i)=true\/(∃G a',ok.op=.load G (.tmp a')/\(a'∈l\/a'∈dstsOf ops))\/(g=true/\(cz ok.op=.alloc\/cz ok.op=.call)):=by
 unfold qB at h;rw[D]at h;simp at h;split at h
 .rename_i t a0 x w;simp at w;split at h
  .simp_all
  have⟨I,z,e⟩:=ζf.1 h;obtain⟨rfl,rfl⟩:=e;refine⟨⟨t,x,w⟩,Zd,FF z,λk ok d C=>?_⟩
  have⟨b,c,J⟩:=Dh z k (List.mem_range.2 (ζe.1 d).1);unfold Eu at c;rw[d]at c;simp only at c;split at c
  .rename_i u;simp at u;rcases u with(u|u)|u
   .grind
   .grind
   exact .inr (.inl u)
  grind
 grind
def ES{F F':Zo}{dst:aY Nat}{v:V}{s:Nat}(B:jl n F dst v=some F')(h:∀d,dst=some d->s≠d):get F' s=get F s:=by unfold jl at B;split at B;grind;rename_i d;split at B;simp at B;subst B;simp_all[iQ,Ne.symm];grind
def GR{k d:Nat}{ok:Oper}(a:ops[k]?=some ok)(B:ok.dst=some d):d∈dstsOf ops:=List.mem_filterMap.2 ⟨ok,mem_of_getElem? a,B⟩
def wQ{F F':Zo}{k i:Nat}{ok D:Oper}{v:V}(c:ops[k]?=some ok)(B:ops[i]?=some D)(G:jl n F ok.dst v=some F'):oK ops i F'=oK ops i F/\∀b,qA ops b i F'=qA ops b i F:=by
 have f:∀s,s∉dstsOf ops->get F' s=get F s:=λs z=>ES G λd C e=>z (e▸GR c C);refine⟨?_,λb=>?_⟩;unfold oK;cases u:qB false ops i with|none=>rfl|some w=>have⟨a,l⟩:=w;have⟨_,I,J,_⟩:=oI B u;grind
 unfold qA;cases u:qB true ops i with|none=>rfl|some w=>have⟨a,l⟩:=w;have⟨_,I,J,_⟩:=oI B u;grind
def Lq{i k a a':Nat}{t:Zm}{x:Zr}{B:Oper}(D:ops[i]?=some B)(e1:B.op=.store t (.tmp a) x)(b:a'∈dstsOf ops)(G:a∉dstsOf ops)(J:qq ops i k=false):a∈oh ops k a':=by grind[oh]
theorem Bd{k a' s:Nat}(h:s∈oh ops k a'):s∉dstsOf ops/\∃i B t x,ops[i]?=some B/\B.op=.store t (.tmp s) x/\qq ops i k=false:=by grind[oh]
def D8{F F':Zo}{k i:Nat}{ok:Oper}{op:Op}{v:V}(a:ops[k]?=some ok)(B:jl n F ok.dst v=some F')(D:mT F' F op):mV ops i F' op=mV ops i F op:=by
 have b:∀s,s∉dstsOf ops->get F' s=get F s:=λs h=>ES B λd u e=>h (e▸GR a u);unfold mV;split;rename_i t w;have z:=by have:=D (.tmp w) (by simp[operands]);simpa[ev]using this
 rw[z,Bool.eq_iff_iff];grind[Bd];rfl
def A4{k a':Nat}{ok:Oper}{t:Zm}(a:ops[k]?=some ok)(e:ok.op=.load t (.tmp a'))(h:dn ops k=true):oh ops k a'=[]:=by refine List.eq_nil_iff_forall_not_mem.2 λs w=>?_;have⟨_,i,B,C,x,b,z,D⟩:=Bd w;have u:i≠k:=λe2=>Zd;rcases Hx h a b u with g|g|g;rw[z]at g;cases g;all_goals grind[qq,isApp]
def vq{F:Zo}{H H':bh}{t:Zm}{a:Nat}{x:Zr}{id el off:Nat}{u:V}(B:get F a=.hptr id el off)(h:cq E F H (.store t (.tmp a) x)=some (u,H')):∃r,H'=H.set id r:=by grind[cq,ev]
theorem Kk{F:Zo}{H:bh}{t:Zm}{a id b:Nat}{r:Ob}(B:mO id (get F a)=true):dD E F ((H.set id r).take b) (.load t (.tmp a))=dD E F (H.take b) (.load t (.tmp a)):=by
 have:∀m,dZ ((H.set id r).take b) (get F a) m=dZ (H.take b) (get F a) m:=λm=>by unfold mO at B;grind[dZ]
 grind[dD,ev]
def Db{i:Nat}{B:Oper}(T:ops[i]?=some B)(U:cz B.op=.loud)(W:dn ops i=false)(J:isApp B.op=false){F:Zo}{O G:bh}{u:V}(D:cE E call ops (some (base,i)) F O B.op=some (u,G)):
 ∃g a l id el off t x,qB g ops i=some (a,l)/\B.op=.store t (.tmp a) x/\get F a=.hptr id el off/\(∀s∈l,mO id (get F s)=true)/\(g=true->id<base)/\cq E F O B.op=some (u,G)/\∀H,cE E call ops (some (base,i)) F H B.op=cq E F H B.op:=by
 have key:(oK ops i F||qA ops base i F)=true/\cq E F O B.op=some (u,G)/\∀H,cE E call ops (some (base,i)) F H B.op=cq E F H B.op:=by have J:∀F b H,xR ops i b F H B.op=false:=λF b H=>(by grind[xR]);(have e:∀H,cE E call ops (some (base,i)) F H B.op=if oK ops i F||qA ops base i F then cq E F H B.op else none:=λH=>by unfold cE;rw[U];simp only[W,Bool.false_or,J,Bool.or_false]);rw[e]at D;split at D;(next d=>exact⟨d,D,λH=>by rw[e,if_pos d]⟩);cases D
 have⟨f,C,I⟩:=key;rcases Bool.or_eq_true_iff.1 f with c|c
 .unfold oK at c;split at c
  .rename_i a l w;split at c
   next id el off hg=>obtain⟨⟨t,x,z⟩,-⟩:=oI T w;exact⟨false,a,l,id,el,off,t,x,w,z,hg,λs D=>all_eq_true.1 c s D,λh=>(by cases h),C,I⟩
   cases c
  cases c
 unfold qA at c;split at c
 .rename_i a l w;split at c
  next id el off hg=>obtain⟨⟨t,x,z⟩,-⟩:=oI T w;simp only[ζh,decide_eq_true_eq]at c;exact⟨true,a,l,id,el,off,t,x,w,z,hg,λs D=>all_eq_true.1 c.2 s D,λ_=>c.1,C,I⟩
  cases c
 cases c
def Fp{g:Zl}{k i a a' id el off:Nat}{l:Zv}{ok O:Oper}{t U:Zm}{x:Zr}(d:ops[k]?=some ok)(T:ops[i]?=some O)(Y:(if k<i then before ops i k else before ops k i)=false)(lk:dn ops k=false)
 (G:qB g ops i=some (a,l))(J:O.op=.store t (.tmp a) x){F:Zo}(e:get F a=.hptr id el off)(W:∀s∈l,mO id (get F s)=true)(D:ok.op=.load U (.tmp a'))(b:a'∈l\/a'∈dstsOf ops)
 {H0 H1:bh}{v:V}(B:cE E call ops (some (base,k)) F H0 ok.op=some (v,H1)):
 H1=H0/\(∀(H:bh)(r:Ob),dD E F ((H.set id r).take base) ok.op=dD E F (H.take base) ok.op)/\cz ok.op=.read/\dD E F (H0.take base) ok.op=some v/\mV ops k F ok.op=true:=by
 obtain⟨-,z,-,-⟩:=oI T G;unfold cE at B;rw[D]at B;simp only[cz]at B;split at B
 rotate_left
 .simp at B
 rename_i u;have C:mO id (get F a')=true:=by rcases b with b|b;exact W a' b;have w:qq ops i k=false:=(by grind[qq]);have I:=Lq T J b z w;grind[mV]
 split at B
 next L c=>simp only[ζa,ζc]at B;obtain⟨rfl,rfl⟩:=B;exact⟨rfl,λH r=>by rw[D];grind[Kk],by rw[D];rfl,by rw[D];exact c,by rw[D];exact u⟩
 grind
def Dj{F:Zo}{H:bh}{t:Zm}{a:Nat}{x:Zr}{id el off j:Nat}{ob:Ob}(D:get F a=.hptr id el off)(B:id≠j):cq E F (H.set j ob) (.store t (.tmp a) x)=(cq E F H (.store t (.tmp a) x)).map λp=>(p.1,p.2.set j ob):=by
 have b:(H.set j ob)[id]?=H[id]?:=getElem?_set_ne (Ne.symm B);have c:∀r,(H.set j ob).set id r=(H.set id r).set j ob:=λr=>set_comm _ _ (Ne.symm B);simp only[cq,ev,D];split
 .rename_i h1 u w;cases u;rw[b];(repeat' split)<;>first|rfl|simp only[c,map_some]
 rfl
def z_{i:Nat}{F:Zo}{H H':bh}{op:Op}{v:V}(B:cz op=.alloc)(D:mw E ops (some (base,i))=false)(h:cE E call ops (some (base,i)) F H op=some (v,H')):
 ∃ob,H[base+i]?=some .free/\H'=H.set (base+i) ob/\∀H2:bh,H2[base+i]?=some .free->cE E call ops (some (base,i)) F H2 op=some (v,H2.set (base+i) ob):=by
 unfold cE at h;rw[B]at h;simp only[D,false_eq_true,if_false]at h;split at h
 .grind
 .rename_i ob m G I w z;obtain⟨rfl,rfl⟩:=z;split at h
  .rename_i u;obtain⟨rfl,rfl⟩:=h;refine⟨ob,u,rfl,λH2 C=>?_⟩
   unfold cE;rw[B];simp only[D,false_eq_true,if_false,w,C]
  cases h
 cases h
def rY(n:Nat)(H:bh):∀{l:Zu},V.gN l=true->borrows n H l=some l
 |[],_=>rfl|x::r,h=>by simp only[V.gN,ζh]at h;have:=rY n H h.2;unfold borrows at this⊢;simp only[gR,iP n H h.1,this]
def AZ{k i:Nat}{a:Nat}{l:Zv}{F:Zo}{H H':bh}{op:Op}{v:V}(B:cz op=.call)(lk:dn ops k=false)(D:qB true ops i=some (a,l))(G:i<ops.length)(O:qq ops i k=false)(h:cE E call ops (some (base,k)) F H op=some (v,H')):
 H'=H/\∀H2:bh,cE E call ops (some (base,k)) F H2 op=some (v,H2):=by
 have z:EG ops k=true:=by unfold EG;rw[List.any_eq_true];exact⟨i,List.mem_range.2 G,by simp[O,D]⟩
 unfold cE at h;rw[B]at h;simp only at h;split at h
 .rename_i f args C;split at h
  .rename_i u;have b:V.gN args=true:=by
    unfold uL at u;simpa[z]using u
   have w:∀H2,bS call f args H2=bS call f args []:=λH2=>by unfold bS;rw[rY _ _ b,rY _ _ b]
   have I:∀n H2,cH (bY n H2) args=[]:=λn H2=>Ek n H2 b
   have e:∀H2,cE E call ops (some (base,k)) F H2 op=dI E call ops (some (base,k)) f args H2:=λH2=>by unfold cE;rw[B];simp only[C,if_pos u]
   have J:∀H2:bh,cD H2 []=H2:=λ_=>rfl
   have L:jX E ops (some (base,k)) f=false:=by cases c:jX E ops (some (base,k)) f with|false=>rfl|true=>unfold dI at h;rw[if_pos c]at h;simp only[lk,false_eq_true,if_false]at h;cases h
   have e2:∀H2,dI E call ops (some (base,k)) f args H2=(bS call f args []).map λy=>(y,H2):=λH2=>by unfold dI;simp only[L,false_eq_true,if_false,w,I,J,lk];cases bS call f args []with|none=>rfl|some y=>simp[iu]
   rw[e2]at h;have⟨y,Q,e3⟩:=ζf.1 h;cases e3;exact⟨rfl,λH2=>by rw[e,e2,Q];rfl⟩
  cases h
 .simp only[lk,false_eq_true,if_false]at h;cases h
 cases h
def Be{place:Nat×Nat}{F:Zo}{H H':bh}{op:Op}{v:V}(B:cz op=.pure\/cz op=.alloc/\mw E ops (some place)=true)(h:cE E call ops (some place) F H op=some (v,H')):
 H'=H/\∀H2:bh,cE E call ops (some place) F H2 op=some (v,H2):=by
 rcases B with B|⟨B,u⟩
 rotate_left
 .unfold cE at h;rw[B]at h;simp only[u]at h;have⟨x,w,e⟩:=ζf.1 h;simp_all[cE]
 unfold cE at h;rw[B]at h;simp at h;obtain⟨x,w,rfl,rfl⟩:=h;simp_all[Bl,cE]
theorem take_set_of_le{H:bh}{b k:Nat}{x:Ob}(h:b<=k):(H.set k x).take b=H.take b:=List.take_set_of_le h
def apart_spec{a b:Oper}(h:vM ops a b=true):(∀d,a.dst=some d->d∉tmpsOf b ops/\b.dst≠some d)/\(∀d,b.dst=some d->d∉tmpsOf a ops):=by grind[vM]
def BY{i k:Nat}{ok:Oper}(h:ve ops i=true)(a:ops[k]?=some ok)(B:k≠i)(D:qq ops i k=false):cz ok.op=.pure\/cz ok.op=.read\/cz ok.op=.alloc/\(zD ops k=true\/i<k):=by grind[ve]
def yF{op:Op}(h:isApp op=true):cz op=.loud:=by unfold isApp at h;split at h;rfl;cases h
theorem Ft{F:Zo}{H H1:bh}{op:Op}{v:V}{b:Nat}(B:isApp op=true)(D:oH F op=true)(G:b<=H.length)(h:cq E F H op=some (v,H1)):H1.take b=H.take b:=by
 unfold isApp at B;split at B;rotate_left;cases B;rename_i args u;simp only[cq]at h;split at h;rotate_left;cases h;rename_i t I s x w z;have C:s=.c7\/s=.bD:=by grind[oH,fe]
 have a:∀H2,fP H s=some H2->H2=H:=λH2 h=>by rcases C with rfl|rfl<;>(grind[fP])
 split at h;grind[ζf];split at h;unfold mkApp at h;grind;cases h;cases h
def C1{i:Nat}{F:Zo}{H H':bh}{op:Op}{u:V}(D:isApp op=true)(G:dn ops i=false)(J:(ops[i]?).map Oper.op=some op)(h:cE E call ops (some (base,i)) F H op=some (u,H')):
 ve ops i=true/\oH F op=true/\base<=H.length/\cq E F H op=some (u,H'):=by
 unfold cE at h;rw[yF D]at h;have w:∀g,qB g ops i=none:=λg=>by unfold qB;rw[J];grind[isApp]
 have z:oK ops i F=false:=by unfold oK;rw[w]
 have B:qA ops base i F=false:=by unfold qA;rw[w]
 simp only[G,z,B,Bool.false_or]at h
 grind[xR]
theorem KF{i:Nat}{F:Zo}{H H':bh}{op:Op}{u:V}(B:isApp op=true)(h:cq E F H op=some (u,H'))(a:dn ops i=true\/ve ops i=true/\oH F op=true/\base<=H.length):cE E call ops (some (base,i)) F H op=some (u,H'):=by unfold cE;rw[yF B];grind[xR]
def A0{i:Nat}{F:Zo}{H H':bh}{op:Op}{v:V}(B:cz op=.read)(D:dn ops i=false)(h:cE E call ops (some (base,i)) F H op=some (v,H')):
 H'=H/\∀H2:bh,lV (H2.take base) (H.take base)->cE E call ops (some (base,i)) F H2 op=some (v,H2):=by
 unfold cE at h;rw[B]at h;simp only at h;split at h
 .rename_i u;split at h
  .rename_i x w;simp only[ζa,ζc]at h;obtain⟨rfl,rfl⟩:=h;refine⟨rfl,λH2 z=>?_⟩
   unfold cE;rw[B];simp only[xe z,w,u,if_true]
  grind
 simp at h
def swap{k i:Nat}{ok G:Oper}(p:ops[k]?=some ok)(U:ops[i]?=some G)(af:k<i)(W:before ops i k=false)(J:vM ops ok G=true){F F1 F2:Zo}{H H1 H2:bh}
 (P:fT E call n ops (some (base,k)) ok F H=some (F1,H1))(y:fT E call n ops (some (base,i)) G F1 H1=some (F2,H2)):
 ∃B D,fT E call n ops (some (base,i)) G F H=some (B,D)/\fT E call n ops (some (base,k)) ok B D=some (F2,H2):=by
 obtain⟨a1,a2⟩:=apart_spec J;have ah:∃v,jl n F ok.dst v=some F1/\((fA ops F ok=true/\cE E call ops (some (base,k)) F H ok.op=some (v,H1))\/(fA ops F ok=false/\v=.undef/\H1=H)):=by unfold fT at P;split at P;rename_i hw;split at P;rename_i v H' K;simp only[ζf,ζc]at P;grind;simp at P;rename_i hw;simp only[ζf,ζc]at P;grind
 have ai:∃v,jl n F1 G.dst v=some F2/\((fA ops F1 G=true/\cE E call ops (some (base,i)) F1 H1 G.op=some (v,H2))\/(fA ops F1 G=false/\v=.undef/\H2=H1)):=by unfold fT at y;split at y;rename_i hw;split at y;rename_i v H' K;simp only[ζf,ζc]at y;grind;simp at y;rename_i hw;simp only[ζf,ζc]at y;grind
 obtain⟨v,Q,iR⟩:=ah;obtain⟨u,ay,ao⟩:=ai;have aA:fA ops F1 G=fA ops F G:=zR Q λd K=>(a1 d K).1
 have ap:mT F1 F G.op:=D0 Q λd K=>(a1 d K).1
 have aB:∀(b j:Nat),(some (base,i):aY (Nat×Nat))=some (b,j)->oK ops j F1=oK ops j F/\qA ops b j F1=qA ops b j F/\mV ops j F1 G.op=mV ops j F G.op:=λb j e=>by cases e;exact⟨(wQ p U Q).1,(wQ p U Q).2 _,D8 p Q ap⟩
 rw[aA,BB ap aB]at ao;obtain⟨B,S,aC⟩:=K0 Q ay λx hx=>(a1 x hx).2
 have aD:fA ops B ok=fA ops F ok:=zR S λd K=>a2 d K
 have aq:mT B F ok.op:=D0 S λd K=>a2 d K
 have aE:∀(b j:Nat),(some (base,k):aY (Nat×Nat))=some (b,j)->oK ops j B=oK ops j F/\qA ops b j B=qA ops b j F/\mV ops j B ok.op=mV ops j F ok.op:=λb j e=>by cases e;exact⟨(wQ U p S).1,(wQ U p S).2 _,D8 U S aq⟩
 have fin:∀D,((fA ops F G=true/\cE E call ops (some (base,i)) F H G.op=some (u,D))\/(fA ops F G=false/\u=.undef/\D=H))->
  ((fA ops F ok=true/\cE E call ops (some (base,k)) F D ok.op=some (v,H2))\/(fA ops F ok=false/\v=.undef/\H2=D))->
  ∃B D,fT E call n ops (some (base,i)) G F H=some (B,D)/\fT E call n ops (some (base,k)) ok B D=some (F2,H2):=by
  intro D e1 e2;refine⟨B,D,?_,?_⟩
  .grind[fT]
  unfold fT;rw[aD];rcases e2 with⟨x1,x2⟩|⟨x1,x2,x3⟩
  .rw[if_pos x1,BB aq aE,x2];simp[aC]
  grind
 rcases iR with⟨I,s⟩|⟨I,rfl,rfl⟩
 .rcases ao with⟨L,f⟩|⟨L,rfl,rfl⟩
  .by_cases pk:cz ok.op=.pure\/cz ok.op=.alloc/\mw E ops (some (base,k))=true
   .obtain⟨rfl,q⟩:=Be pk s
    grind
   by_cases pi:cz G.op=.pure\/cz G.op=.alloc/\mw E ops (some (base,i))=true
   .obtain⟨rfl,q⟩:=Be pi f
    grind
   by_cases J:isApp ok.op=true/\cz G.op=.alloc
   .
    obtain⟨J,aF⟩:=J;have aI:=yF J;have ar:(dn ops k=true\/ve ops k=true/\oH F ok.op=true/\base<=H.length)/\cq E F H ok.op=some (v,H1):=by cases hl:dn ops k with|true=>simp_all[cE]|false=>obtain⟨a,b,c,d⟩:=C1 J hl (by rw[p];rfl) s;grind
    obtain⟨ar,e1⟩:=ar;have ad:mw E ops (some (base,i))=false:=by grind
    have e2:∃ob m,ey E F G.op=some (ob,m)/\H1[base+i]?=some .free/\u=m.val (base+i)/\H2=H1.set (base+i) ob:=by unfold cE at f;rw[aF]at f;grind
    obtain⟨ob,m,aJ,aj,rfl,rfl⟩:=e2;obtain⟨f0,R⟩:=Qr (ob:=ob) J e1 aj;refine fin (H.set (base+i) ob) (.inl ⟨L,?_⟩) (.inl ⟨I,?_⟩)
    .grind[cE]
    grind[KF]
   have lk:dn ops k=false:=by grind[dn]
   have M:dn ops i=false:=by grind[dn]
   by_cases au:isApp G.op=true
   .obtain⟨g1,g2,g3,g4⟩:=C1 au M (by rw[U];rfl) f
    rcases BY g1 p Za (by grind[qq])with h|h|⟨h,y⟩
    .grind
    .obtain⟨rfl,q⟩:=A0 h lk s
     grind[lV.of_eq,Ft]
    rcases y with y|y
    .exact absurd (.inr ⟨h,show(zD ops k||ON E ops k)=true by rw[y];rfl⟩) pk
    omega
   by_cases av:isApp ok.op=true
   .obtain⟨g1,g2,g3,g4⟩:=C1 av lk (by rw[p];rfl) s
    rcases BY g1 U Za (by grind[qq])with h|h|⟨h,y⟩
    .grind
    .obtain⟨rfl,q⟩:=A0 h M f
     grind[lV.of_eq,Ft]
    grind
   by_cases O:cz G.op=.loud
   .obtain⟨g,a,l,id,el,off,t,x,C,w,hg,Y,ak,he,al⟩:=Db U O M (by simpa using au) f
    obtain⟨r,hr⟩:=vq hg (by rw[<-w];exact he)
    obtain⟨-,-,-,h4⟩:=oI U C;rcases h4 k ok p Za with h|h|⟨t',a',am,Z⟩|⟨rfl,h|h⟩
    .exact absurd (.inl h) pk
    .rw[if_pos af,W]at h;cases h
    .obtain⟨rfl,q1,q3,q4,q5⟩:=Fp p U (by rw[if_pos af];exact W) lk C w hg Y am Z s
     refine fin H2 (.inl ⟨L,f⟩) (.inl ⟨I,?_⟩);unfold cE;rw[q3];subst hr;simp only[q1,q4,q5,if_true]
    .have ad:mw E ops (some (base,k))=false:=by
      cases hc:mw E ops (some (base,k))with
      |false=>rfl|true=>exact absurd (.inr ⟨h,hc⟩) pk
     obtain⟨ob,R,rfl,A⟩:=z_ h ad s;have aG:=ak rfl;rw[w,Dj hg (show id≠base+k by omega)]at he
     obtain⟨⟨u',H'⟩,e1,e2⟩:=ζf.1 he;cases e2;obtain⟨r',rfl⟩:=vq hg e1;exact fin (H.set id r') (.inl ⟨L,by rw[al,w];exact e1⟩) (.inl ⟨I,A _ (by rw[getElem?_set_ne Za];exact R)⟩)
    obtain⟨rfl,A⟩:=AZ h lk C (ζe.1 U).1 (by unfold qq;rw[if_pos af];exact W) s
    exact fin H2 (.inl ⟨L,f⟩) (.inl ⟨I,A H2⟩)
   by_cases ae:cz ok.op=.loud
   .obtain⟨g,a,l,id,el,off,t,x,C,w,hg,Y,ak,he,al⟩:=Db p ae lk (by simpa using av) s
    obtain⟨r,hr⟩:=vq hg (by rw[<-w];exact he)
    obtain⟨-,-,-,h4⟩:=oI p C;rcases h4 i G U Za with h|h|⟨t',a',am,Z⟩|⟨rfl,h|h⟩
    .exact absurd (.inl h) pi
    .rw[if_neg Za,W]at h;cases h
    .obtain⟨rfl,q1,q3,q4,q5⟩:=Fp U p (by rw[if_neg Za];exact W) M C w hg Y am Z f
     refine fin H (.inl ⟨L,?_⟩) (.inl ⟨I,s⟩);unfold cE;rw[q3];subst hr;rw[q1]at q4;simp only[q4,q5,if_true]
    .have ad:mw E ops (some (base,i))=false:=by
      cases hc:mw E ops (some (base,i))with
      |false=>rfl|true=>exact absurd (.inr ⟨h,hc⟩) pi
     obtain⟨ob,R,rfl,z⟩:=z_ h ad f;have aG:=ak rfl;subst hr;rw[getElem?_set_ne Za]at R
     refine fin (H.set (base+i) ob) (.inl ⟨L,z H R⟩) (.inl ⟨I,?_⟩);rw[al,w,Dj hg (show id≠base+i by omega),<-w,he];rfl
    obtain⟨rfl,z⟩:=AZ h M C (ζe.1 p).1 (by unfold qq;rw[if_neg Za];exact W) f
    exact fin H (.inl ⟨L,z H⟩) (.inl ⟨I,s⟩)
   have tk:∀(X:bh)(k:Nat)(o:Ob),lV ((X.set (base+k) o).take base) (X.take base):=λX k o=>lV.of_eq (take_set_of_le Za)
   rcases sX s lk ae with⟨rfl,A⟩|⟨ob,fk,rfl,A⟩|⟨T,tr,rfl,A⟩
   .rcases sX f M O with⟨rfl,z⟩|⟨an,fi,rfl,z⟩|⟨N,V,rfl,z⟩
    .grind
    .grind
    exact fin _ (.inl ⟨L,f⟩) (.inl ⟨I,A _ ((pR V).take base)⟩)
   .rcases sX f M O with⟨rfl,z⟩|⟨an,fi,rfl,z⟩|⟨N,V,rfl,z⟩
    .refine fin H (.inl ⟨L,z H (tk _ _ _).symm⟩) (.inl ⟨I,s⟩)
    .grind[set_comm]
    have ab:iu (H.take base) N=true:=by rw[<-tI (tk H k ob)];exact V
    have aw:base+k∉N:=λhm=>absurd (xN ab hm) Za
    refine fin (cD H N) (.inl ⟨L,z H (tk _ _ _).symm⟩) (.inl ⟨I,?_⟩);rw[A _ (by rw[ij,fk];simp[aw]),B_ aw]
   rcases sX f M O with⟨rfl,z⟩|⟨an,fi,rfl,z⟩|⟨N,V,rfl,z⟩
   .refine fin H (.inl ⟨L,z H ((pR tr).take base).symm⟩) (.inl ⟨I,s⟩)
   .have ax:base+i∉T:=λhm=>absurd (xN tr hm) Za
    have aH:H[base+i]?=some .free:=by rw[ij]at fi;obtain⟨o,ho,hf⟩:=ζf.1 fi;rw[if_neg ax]at hf;rw[ho,hf]
    refine fin (H.set (base+i) an) (.inl ⟨L,z H aH⟩) (.inl ⟨I,?_⟩);rw[A _ (tk _ _ _),B_ ax]
   have ab:iu (H.take base) N=true:=by rw[<-tI ((pR tr).take base)];exact V
   refine fin (cD H N) (.inl ⟨L,z H ((pR tr).take base).symm⟩) (.inl ⟨I,?_⟩);rw[A _ ((pR ab).take base),HE]
  grind
 grind
theorem He(h:uD ops=true){k i:Nat}{ok B:Oper}(a:ops[k]?=some ok)(G:ops[i]?=some B)(D:k<i):CS B k=true\/vM ops ok B=true:=by unfold uD at h;simp at h;grind
def Ow(T:uD ops=true){i:Nat}{B:Oper}(D:ops[i]?=some B):∀(l r:Zv),(∀k∈l,k<i/\CS B k=false/\before ops i k=false)->∀{F F':Zo}{H H':bh},
 jm E call n ops base (l++i::r) F H=some (F',H')->jm E call n ops base (i::(l++r)) F H=some (F',H'):=by
 intro l
 induction l with
 |nil=>grind|cons k l G=>
  intro r C F F' H H' h;have⟨u,I,w⟩:=C k Zc
  simp[jm]at h;split at h
  .rename_i ok hk;split at h
   .rename_i F1 H1 h1;have:=G r (λx J=>C x (mem_cons_of_mem _ J)) h
    simp[jm,D]at this;split at this
    .rename_i S H2 L;have z:vM ops ok B=true:=by
      grind[He]
     have⟨O,Q,g1,g2⟩:=swap hk D u w z h1 L
     grind[jm]
    grind
   grind
  grind
inductive Reach(ops:List Oper):Nat->Nat->Prop
 |one(i k:Nat)(o:Oper)(e:Edge)(hi:ops[i]?=some o)(he:e∈o.after)(hb:kg e=true)(hk:e.on=k):Reach ops i k|more(i j k:Nat)(o:Oper)(e:Edge)(hi:ops[i]?=some o)(he:e∈o.after)(hb:kg e=true)(hk:e.on=j)(h:Reach ops j k):Reach ops i k
def Ci:∀(B l:Zv)(k:Nat),k∈B.foldl (λl k=>if l.contains k then l else k::l) l->k∈B\/k∈l
 |[],_,_,h=>.inr h|x::B,l,k,h=>by rcases Ci B _ k h with h|h;all_goals grind
def JY{a:aX Zv}{o:Oper}{k:Nat}(h:k∈Gv a o):∃e∈o.after,kg e=true/\(k=e.on\/∃S,a[e.on]?=some S/\k∈S):=by
 have key:∀(es:aX Edge)(l:Zv),k∈es.foldl (λl e=>(e.on::(a[e.on]?).getD []).foldl (λl k=>if l.contains k then l else k::l) l) l->k∈l\/∃e∈es,k=e.on\/∃S,a[e.on]?=some S/\k∈S:=by
  intro es;induction es with|nil=>grind|cons e es u=>
   intro l h;rcases u _ h with h|⟨z,b,w⟩
   .rcases Ci _ _ _ h with h|h;all_goals grind
   grind
 rcases key _ _ h with h|⟨e,b,w⟩;all_goals grind
def vR(ops:Zz):∀(l:Zz)(a:aX Zv)(pre:Zz),ops=pre++l->a.length=pre.length->(∀(i:Nat)S,a[i]?=some S->∀k∈S,Reach ops i k)->
 ∀(i:Nat)S,(l.foldl (λa o=>a++[Gv a o]) a)[i]?=some S->∀k∈S,Reach ops i k
 |[],_,_,_,_,h=>h|o::l,a,pre,G,J,h=>by refine vR ops l _ (pre++[o]) Ze Ze ?_;intro i S B k b;by_cases O:i<a.length;grind;rw[List.getElem?_append_right Za]at B;have D:i=a.length:=(by grind);subst D;simp at B;subst B;have u:ops[a.length]?=some o:=Zd;have⟨e,w,z,b⟩:=JY b;rcases b with b|⟨S,B,b⟩;exact .one _ _ o e u w z b.symm;exact .more _ e.on _ o e u w z rfl (h _ S B k b)
def EP{i k:Nat}(h:before ops i k=true):Reach ops i k:=by unfold before at h;cases u:(Gq ops)[i]?with|none=>grind|some S=>exact vR ops ops [] [] rfl rfl Zc i S u k Zd
end
section
variable{P:Program}{E:Env}{I I':b_}{μ μ':Mu}{H H':bh}{n B:Nat}{F F':Zo}{a:Act}{w w':World}
def Da(e:Edge):Region.binds .any e=kg e:=by unfold Region.binds kg;grind
def todo(ops:Array Oper)(a:Array Zl):Zv:=(range ops.size).filter λi=> !a.getD i true
def vr(ops:Array Oper)(a:Array Zl):(todo ops a).Pairwise (·<·):=List.pairwise_lt_range.filter _
def N1{ops:Array Oper}{a:Array Zl}{i:Nat}(G:a.size=ops.size)(J:i<ops.size){B D:Zv}(h:todo ops a=B++i::D):
 todo ops (a.setIfInBounds i true)=B++D:=by
 have I:∀j∈range ops.size,(!(a.setIfInBounds i true).getD j true)=((!a.getD j true)&&(j != i)):=by intro j _;by_cases e:j=i;simp_all;have:(a.setIfInBounds i true).getD j true=a.getD j true:=(by simp[Array.getElem?_setIfInBounds_ne (Ne.symm e)]);grind
 have:todo ops (a.setIfInBounds i true)=(todo ops a).filter (· != i):=by unfold todo;rw[List.filter_filter];grind
 rw[this,h];have u:=vr ops a;rw[h]at u;rw[List.pairwise_append]at u;have⟨_,z,C⟩:=u;rw[List.pairwise_cons]at z;rw[List.filter_append,List.filter_cons];simp;rw[List.filter_eq_self.2 (λx w=>by have:=C x w i Zc;simp;omega),List.filter_eq_self.2 (λx w=>Zd)]
def Down(ops:Array Oper)(a:Array Zl):Prop:=∀j o,a.getD j false=true->ops[j]?=some o->∀e∈o.after,kg e=true->a.getD e.on false=true
def I5{ops:Array Oper}{a:Array Zl}(B:Down ops a){i k:Nat}(h:Reach ops.toList i k)(D:∀o,ops[i]?=some o->∀e∈o.after,kg e=true->a.getD e.on false=true):a.getD k false=true:=by induction h with|one i k o e C w z hk=>grind|more i j k o e C w z hk _ G=>subst hk;exact G λI u=>B _ _ (D o Zd e w z) u
def C6(hE:dV P E){call:di}(hc:jW P call){ops:Array Oper}(hd:uD ops.toList=true)(q:yI ops.toList=true)(ro:aY Nat){Q:Exit->Act->World->Prop}(base:Nat):
 ∀(D:Nat)(b:Array Zl)(I:b_)(μ:Mu)(F:Zo)(H:bh)(a:Act)(w:World),b.size=ops.size->Down ops b->(todo ops b).length=D->
 jm E call n ops.toList base (todo ops b) F H=some (F',H')->dS I μ n F a.tmps->cN I μ H w->
 (∀a' I' μ' w',dS I' μ' n F' a'.tmps->a'.defers=a.defers->cN I' μ' H' w'->Step I μ H w I' μ' H' w'->Q .normal a' w')->
 wpAnyIn (fr ro) 0 P .any ops Q D b a w:=by
 intro D
 induction D with
 |zero=>
  intro b I μ F H a w O L c h r s t;have S:todo ops b=[]:=List.eq_nil_of_length_eq_zero c;rw[S]at h;obtain⟨rfl,rfl⟩:=h;refine⟨?_,t a I μ w r rfl s (.refl _ _ _ _)⟩;unfold Region.ready;rw[List.filter_eq_nil_iff];intro i d;have:i∉todo ops b:=Zd
  unfold todo at this
  grind
 |succ D ih=>
  intro b I μ F H a w O L c h r s t;have W:∀i,i∈Region.ready .any ops b->i<ops.size/\i∈todo ops b/\∃o,ops[i]?=some o/\∀e∈o.after,kg e=true->b.getD e.on false=true:=by intro i d;unfold Region.ready at d;rw[mem_filter]at d;have⟨v,h2⟩:=d;simp only[ζh]at h2;have G:i<ops.size:=Zd;refine⟨G,by unfold todo;grind,ops[i],Ze,?_⟩;have M:(ops[i].after.all λe=> !Region.binds .any e||b.getD e.on false)=true:=(by grind);rw[Array.all_eq_true_iff_forall_mem]at M;intro e U X;have:=M e U;rw[Da,X]at this;grind
  refine⟨?_,?_⟩
  .
   intro S
   cases Y:todo ops b with
   |nil=>rw[Y]at c;simp at c|cons Z rest=>
    have z:Z∈todo ops b:=by rw[Y];simp
    have g:=vr ops b;rw[Y,List.pairwise_cons]at g;unfold todo at z;rw[mem_filter]at z;have G:Z<ops.size:=by simpa using z.1
    have:Z∈Region.ready .any ops b:=by unfold Region.ready;rw[mem_filter];refine⟨z.1,?_⟩;simp only[ζh];refine⟨z.2,?_⟩;have e0:ops[Z]?=some ops[Z]:=(by simp[G]);rw[e0];simp only[map_some,getD_some];rw[Array.all_eq_true_iff_forall_mem];intro e U;rw[Da];cases am:kg e with|false=>simp|true=>simp only[Bool.not_true];have an:e.on<Z:=(by unfold yI at q;simp only[all_eq_true]at q;have:=q Z (by simpa using G);have e1:ops.toList[Z]?=some ops[Z]:=(by simp[G]);rw[e1]at this;simp only[Array.all_eq_true_iff_forall_mem]at this;have:=this e U;rw[am]at this;simpa using this);cases ao:b.getD e.on false with|true=>rfl|false=>exfalso;have N:e.on∈todo ops b:=(by unfold todo;rw[mem_filter];refine⟨by simp;omega,?_⟩;have aj:e.on<b.size:=Za;have:b.getD e.on true=b.getD e.on false:=(by simp[aj]);rw[this,ao];rfl);rw[Y]at N;rcases mem_cons.1 N with h|h;omega;have:=g.1 _ h;omega
    rw[S]at this;simp at this
  intro i d;have⟨G,z,o,l,C⟩:=W i d;have⟨R,l2,u⟩:=List.append_of_mem z;have J:=vr ops b;rw[u,List.pairwise_append]at J;have aa:∀k∈R,k<i/\CS o k=false/\before ops.toList i k=false:=by intro k x;have ap:b.getD k false=false:=(by have B:k∈todo ops b:=(by rw[u];simp[x]);unfold todo at B;rw[mem_filter]at B;have y:k<b.size:=(by rw[O];simpa using B.1);have:b.getD k true=b.getD k false:=(by simp[y]);rw[this]at B;simpa using B.2);refine⟨J.2.2 k x i Zc,?_,?_⟩;rotate_left;(cases aq:before ops.toList i k with|false=>rfl|true=>have:=I5 L (EP aq) (λo' m=>by rw[l]at m;cases m;exact C);rw[ap]at this;cases this);cases U:CS o k with|false=>rfl|true=>exfalso;unfold CS at U;rw[Array.any_eq_true]at U;have⟨ix,ar,p⟩:=U;have V:o.after[ix]∈o.after:=Array.getElem_mem ar;generalize o.after[ix]=e at V p;simp only[ζh,beq_iff_eq]at p;have v:=C e V p.2;rw[p.1]at v;have B:k∈todo ops b:=(by rw[u];simp[x]);unfold todo at B;rw[mem_filter]at B;have y:k<b.size:=(by rw[O];simpa using B.1);have:b.getD k true=b.getD k false:=(by simp[y]);rw[this,v]at B;simp at B
  rw[u]at h;have f:=Ow hd (by simpa using l) R l2 aa h
  simp only[jm]at f;have m:ops.toList[i]?=some o:=by simpa using l
  rw[m]at f;simp only at f;split at f
  .rename_i F1 H1 af;unfold wpOpIn;rw[l];simp only;refine Bn hE hc af r s ro (λa' I' μ' w' hr au g av=>?_)
   have ht:=N1 O G u;refine ih (b.setIfInBounds i true) I' μ' F1 H1 a' w' (by simpa using O) ?_ ?_ (by rw[ht];exact f) hr g ?_
   .have T:∀j,b.getD j false=true->(b.setIfInBounds i true).getD j false=true:=by
     intro j A
     by_cases e:i=j
     .subst e;simp[O,G]
     simpa[Array.getD_eq_getD_getElem?,Array.getElem?_setIfInBounds_ne e]using A
    intro j oj A K e U X
    by_cases e':i=j
    .subst e';rw[l]at K;cases K;exact T _ (C e U X)
    refine T _ (L j oj ?_ K e U X);simpa[Array.getD_eq_getD_getElem?,Array.getElem?_setIfInBounds_ne e']using A
   .rw[ht];rw[u]at c;simp at c⊢;omega
   intro a2 I2 μ2 w2 aw ax ay al;exact t a2 I2 μ2 w2 aw (ax.trans au) ay (Step.trans g av al)
  simp at f
def cN.Er(s:cN I μ H w)(k:Nat):cN I μ (H++replicate k .free) w:=by
 have u:∀id ob,(H++replicate k Ob.free)[id]?=some ob->H[id]?=some ob\/(ob=.free/\H.length<=id):=by grind
 refine⟨λid h=>s.dom id Zd,s.imm,?_,?_,s.gl⟩;intro id ob h;rcases u id ob h with h|⟨rfl,z⟩;exact s.obs id ob h;exact s.dom id z;intro id B ob C p J a z D G;rcases u id ob a with a|⟨rfl,_⟩;rcases u B C z with z|⟨rfl,_⟩;exact s.inj id B ob C p J a z D G;simp[Ob.live]at G;simp[Ob.live]at D
def GZ(k:Nat)(b:Nat):gO μ (H++replicate k .free) b↔gO μ H b:=by constructor;rintro⟨id,p,ob,h1,u,w,z⟩;by_cases B:id<H.length;rw[List.getElem?_append_left B]at h1;exact⟨id,p,ob,h1,u,w,z⟩;rw[List.getElem?_append_right Za,List.getElem?_replicate]at h1;split at h1;simp at h1;subst h1;simp[Ob.live]at u;grind;rintro⟨id,p,ob,h1,u,w,z⟩;exact⟨id,p,ob,Zd,u,w,z⟩
def Step.Er(k:Nat):Step I μ H w I μ (H++replicate k .free) w:=⟨b_.le_refl _,Mu.le_refl _,Zc,le_refl _,λ_ _ _=>rfl,λb h=>h.elim .inl λh=>.inr (.inl ((GZ k b).1 h)),rfl,.refl _,λ_ _ h=>h⟩
def Gr(G:dV P E)(T:P.follows .mixedOrders=true){call:di}(b:jW P call){id:Nat}{ops:Array Oper}{B:Zl}(ro:aY Nat){Q:Exit->Act->World->Prop}
 (h:jb E call n ops.toList B F H=some (F',H'))(r:dS I μ n F a.tmps)(s:cN I μ H w)
 (J:∀a' I' μ' w',dS I' μ' n F' a'.tmps->a'.defers=a.defers->cN I' μ' H' w'->Step I μ H w I' μ' H' w'->Q .normal a' w'):
 (Code.region id ops B).wpIn (fr ro) 0 P Q a w:=by
 unfold jb at h
 cases B with
 |false=>refine wpIn_region ?_;rw[List.range_eq_range',<-Array.length_toList];exact LW G b ro ops.toList 0 I μ F H a w Zc h r s J|true=>
  simp only[if_true]at h;split at h
  .rename_i u;simp at u;refine wpIn_region_draw λt=>?_
   simp[Region.schedule,T];have D:cN I μ H {w with drawn:=w.drawn+1}:=s.nS rfl;have st0:Step I μ H w I μ H {w with drawn:=w.drawn+1}:=Step.nS rfl rfl ⟨rfl,rfl,le_succ _⟩;have z:todo ops (Array.replicate ops.size false)=range ops.toList.length:=by unfold todo;simp_all
   have C:Down ops (Array.replicate ops.size false):=by intro j o U;simp[Array.getElem?_replicate]at U;grind
   refine wpAnyIn_sound ops.size t _ a _ ?_;split at h
   .refine C6 G b u.1 u.2 ro H.length ops.size _ I μ F (H++replicate ops.toList.length .free) a _ Zc C Zd (by rw[z];omega) r (D.Er _) ?_
    intro a' I' μ' w' c L O S;exact J a' I' μ' w' c L O (Step.trans D st0 (Step.trans (D.Er _) (Step.Er _) S))
   refine C6 G b u.1 u.2 ro H.length ops.size _ I μ F H a _ Zc C Zd (by rw[z];omega) r D ?_
   intro a' I' μ' w' c L O S;exact J a' I' μ' w' c L O (Step.trans D st0 S)
  grind
end
def Out.E0:Out->Exit
 |.norm=>.normal|.exit id=>.exit id|.ret=>.ret
def exists_least(p:Nat->Prop):∀k,p k->∃m,p m/\∀j,p j->m<=j:=by intro k;induction k using Nat.strongRecOn with|_ k u=>grind
open Classical in
noncomputable def least(p:Nat->Prop):Nat:=if h:∃m,p m/\∀j,p j->m<=j then h.choose else 0
def IV(p:Nat->Prop){k:Nat}(a:p k):p (least p)/\least p<=k:=by have h:=exists_least p k a;grind[least]
section
variable{P:Program}{E:Env}{I I':b_}{μ μ':Mu}{H H':bh}{n B:Nat}{F F':Zo}{a:Act}{w w':World}
def Post(B n:Nat)(I:b_)(μ:Mu)(H:bh)(w:World)(o:Out)(F':Zo)(H':bh):Exit->Act->World->Prop:=λe u w'=>e=o.E0/\(∃I' μ',dS I' μ' n F' u.tmps/\cN I' μ' H' w'/\Step I μ H w I' μ' H' w')/\jw B u.defers w'
theorem Post.mono{I1:b_}{D:Mu}{H1:bh}{G:World}{o:Out}(J:cN I1 D H1 G)(st:Step I μ H w I1 D H1 G){e:Exit}{a':Act}{w':World}(h:Post B n I1 D H1 G o F' H' e a' w'):
 Post B n I μ H w o F' H' e a' w':=by
 have⟨a,⟨I',μ',u,z,C⟩,L⟩:=h;exact⟨a,⟨I',μ',u,z,Step.trans J st C⟩,L⟩
def cN.zG(s:cN I μ H w){b:Nat}(o:Obj)(D:I b=none)(G:¬gO μ H b):cN I μ H (fI w b o)where
 dom:=s.dom
 imm:=λu x h=>IC.qI (s.imm u x h) (gz o Zd)
 obs:=λid ob h=>(s.obs id ob h).mono (b_.le_refl _) (Mu.le_refl _) (λp z B=>by
  have J:gO μ H p.b:=⟨id,p,ob,h,B,z,rfl⟩
  grind[gz,fG]) (λC=>by subst C;exact s.obs id _ h)
 inj:=s.inj
 gl:=s.gl
def Ql(s:cN I μ H w){b:Nat}{o:Obj}(h:w.heap[b]?=some o)(a:∀c e f,o≠.cells c e f)(B:∀es c,o≠.map es c):I b=none:=by cases u:I b with|none=>rfl|some x=>have:=s.imm b x u;cases x with|cells c=>have⟨_,_,q⟩:=this;rw[h]at q;grind|map es=>have⟨_,q⟩:=this;rw[h]at q;grind
def Step.kept(c:∀b,b<w.heap.size->w'.heap[b]?=w.heap[b]?)(B:w.heap.size<=w'.heap.size)(d:w'.os=w.os)(D:uf w w')(G:∀a:Addr,a.block<w.heap.size->w.frozen? a=false->w'.frozen? a=false):Step I μ H w I μ H w':=⟨b_.le_refl _,Mu.le_refl _,le_refl _,B,λb u _=>c b u,λ_ h=>h.elim .inl λh=>.inr (.inl h),d,D,G⟩
def Step.after(st:Step I μ H w I' μ' H' w'){b:Nat}(o:Obj)(B:w.heap.size<=b)(D:Obj.nf o:=by first|exact sC _ _|exact qi rfl):Step I μ H w I' μ' H' (fI w' b o):=⟨st.le,st.mu,st.len,by rw[vg];exact st.size,λz u C=>by rw[gz o Za];exact st.frame z u C,st.terr,st.os,⟨st.out.out,st.out.tape,st.out.dr⟩,λa B G=>SB D a (st.fz a B G)⟩
def jw.zG{ds:aX Deferred}(h:jw B ds w){b:Nat}{o:Obj}(D:∀r,w.heap[r]?=some (.deferred (some []))->r≠b):jw B ds (fI w b o):=
 ⟨λd u=>by
  have⟨r,a,z,C⟩:=h.all d u
  grind[gz],h.apart⟩
def JV{step:Zo->bh->aY (Out×Zo×bh)}{c:Code}{ro:aY Nat}{o:Out}
 (D:∀I μ F H a w o F' H',step F H=some (o,F',H')->dS I μ n F a.tmps->cN I μ H w->jw B a.defers w->B<=w.heap.size->c.wpIn (fr ro) 0 P (Post B n I μ H w o F' H') a w)
 {k:Nat}(h:jQ step k F H=some (o,F',H'))(r:dS I μ n F a.tmps)(s:cN I μ H w)(m:jw B a.defers w)(g:B<=w.heap.size):
 (Code.loop c).wpIn (fr ro) 0 P (Post B n I μ H w o F' H') a w:=by
 let b:Nat->Act->World->Prop:=λk u w'=>∃I1 J F1 H1,jQ step k F1 H1=some (o,F',H')/\dS I1 J n F1 u.tmps/\cN I1 J H1 w'/\Step I μ H w I1 J H1 w'/\jw B u.defers w'/\B<=w'.heap.size
 let M:Act->World->Nat:=λu w'=>least (λk=>b k u w')
 have X:∀k u w',b k u w'->b (M u w') u w'/\M u w'<=k:=λk u w' Q=>IV (λk=>b k u w') Q
 refine wpIn_loop (λu w'=>∃k,b k u w') M ⟨k,I,μ,F,H,h,r,s,.refl _ _ _ _,m,g⟩ ?_
 rintro a1 S ⟨k1,U⟩;have⟨Q,_⟩:=X k1 a1 S U;generalize q:M a1 S=kk at Q;have⟨I1,J,F1,H1,T,r1,L,C,Y,G⟩:=Q
 cases kk with
 |zero=>grind[jQ]|succ kk=>
  simp only[jQ]at T;split at T
  next Z H2 W=>refine wpIn_mono (D I1 J F1 H1 a1 S .norm Z H2 W r1 L Y G) ?_;rintro e a2 O ⟨rfl,⟨I2,i,r2,j,st2⟩,l⟩;show(∃k,b k a2 O)/\M a2 O<kk+1;have z:b kk a2 O:=⟨I2,i,Z,H2,T,r2,j,Step.trans L C st2,l,le_trans G st2.size⟩;exact⟨⟨kk,z⟩,Nat.lt_succ_of_le (X kk a2 O z).2⟩
  rename_i t;refine wpIn_mono (D I1 J F1 H1 a1 S o F' H' T r1 L Y G) ?_;intro e a2 O p;have v:o≠.norm:=by simp_all
  obtain⟨rfl,d,f⟩:=p
  cases o with
  |norm=>grind|exit id=>exact Post.mono L C ⟨rfl,d,f⟩|ret=>exact Post.mono L C ⟨rfl,d,f⟩
def zx(s:cN I μ H w){id:Nat}{r:uo}(h:H[id]?=some (.loop r)):∃p l,μ id=some p/\I p.b=none/\w.heap[p.b]?=some (.loop l)/\um I μ r l:=s.obs id _ h
def Gz{p:aY Out}(B:p≠some .norm):(p.bind lJ=none->p.getD .norm=.norm)/\(∀c,p.bind lJ=some c->(c=.ret/\p.getD .norm=.ret)\/∃id,c=.exit id/\p.getD .norm=.exit id):=by cases p with|none=>grind|some o=>cases o with|norm=>grind|ret=>grind[lJ]|exit id=>grind[lJ]
theorem HG{call:di}(hc:jW P call){g:Zr}{ps:Array Tmp}{assign body:Code}{o:Out}{lf:Nat}
 (h:exec E call lf false n (.rangeFunc g ps assign body) F H=some (o,F',H'))(r:dS I μ n F a.tmps)(s:cN I μ H w)(m:jw B a.defers w)(hB:B<=w.heap.size):
 (Code.rangeFunc g ps assign body).wpIn (fr none) 0 P (Post B n I μ H w o F' H') a w:=by
 cases M:ev F g with
 |none=>simp_all[exec]|some gv=>
 cases gv with
 |clo f x y=>
  simp[exec,M]at h;split at h
  .rename_i ak H2 L;split at h
   .rename_i r2 O;have W:r2.st≠.busy/\r2.pend.getD .norm=o/\F=F'/\H2.set H.length .dead=H':=by
     grind
    obtain⟨W,rfl,rfl,rfl⟩:=W;have⟨u,v,eg,hu,hv⟩:=(c8 r M).jy;refine wpIn_rangeFunc λC _=>?_
    have X:∀b,b<w.heap.size->(w.alloc (.deferred (some []))).heap[b]?=w.heap[b]?:=λb hb=>l8 _ b hb
    have k:=s.kept X;have ab:Step I μ H w I μ H (w.alloc (.deferred (some []))):=Step.kept X Zc rfl ⟨rfl,rfl,le_refl _⟩ (λa _=>Mz (qi rfl) a)
    have ad:um I μ ⟨.ready,none,F,n,ps.toList,assign,body⟩ {state:=.ready,pending:=none,fn:=C,tmps:=a.tmps,params:=ps,assign,body,defers:=w.heap.size}:=⟨trivial,rfl,Zc,r,rfl,rfl,rfl⟩
    have⟨N,st2⟩:=k.push (ob:=.loop ⟨.ready,none,F,n,ps.toList,assign,body⟩)
     (o:=.loop {state:=.ready,pending:=none,fn:=C,tmps:=a.tmps,params:=ps,assign,body,defers:=w.heap.size}) (p:=⟨w.heap.size+1,0,0,0⟩) Zc
     ⟨_,_,Mu.fQ _ _ _,by have:=k.wu;simp_all,by have:=lS (w:=w.alloc (.deferred (some []))) (.loop {state:=.ready,pending:=none,fn:=C,tmps:=a.tmps,params:=ps,assign,body,defers:=w.heap.size});simp_all,
      ad.mono (b_.le_refl _) (Mu.pX (k.dom _ (le_refl _)))⟩
    have Q:=(hu.mono (b_.le_refl _) st2.mu).append (.cons (.yld H.length ⟨w.heap.size+1,0,0,0⟩ (Mu.fQ _ _ _)) (hv.mono (b_.le_refl _) st2.mu))
    have⟨hf,G⟩:=hc.fn f _ _ _ _ L;refine⟨w.heap.size+1,[{target:=.collected w.heap.size,args:=#[]}],((w.alloc (.deferred (some []))).alloc (.loop {state:=.ready,pending:=none,fn:=C,tmps:=a.tmps,params:=ps,assign,body,defers:=w.heap.size})),{target:=.fn (.func f) v,args:=u++#[.func (.yield (w.heap.size+1)) #[] #[]]},((w.alloc (.deferred (some []))).alloc (.loop {state:=.ready,pending:=none,fn:=C,tmps:=a.tmps,params:=ps,assign,body,defers:=w.heap.size})),f,u++#[.func (.yield (w.heap.size+1)) #[] #[]]++v,((w.alloc (.deferred (some []))).alloc (.loop {state:=.ready,pending:=none,fn:=C,tmps:=a.tmps,params:=ps,assign,body,defers:=w.heap.size})),
     run_enterLoop_outer C a.tmps ps assign body,?_,λ_ _=>trivial,?_,λh=>by grind[fr],?_⟩
    .simp_all[resolve,Deferred.ofValue,Act.eval]
    .exact vu hf _
    have Y:=G _ _ _ _ N Q;have S:(u.toList++.func (.yield (w.heap.size+1)) #[] #[]::v.toList).toArray=u++#[.func (.yield (w.heap.size+1)) #[] #[]]++v:=Zd
    rw[S]at Y;refine Y.mono ?_;rintro e Z ⟨aj,R,t,rfl,_,A,T⟩;have⟨p,l,g1,g2,g3,g4⟩:=zx A O;have hp:p=⟨w.heap.size+1,0,0,0⟩:=by have:=T.mu _ _ (Mu.fQ μ H.length ⟨w.heap.size+1,0,0,0⟩);grind
    subst hp;have J:l.state≠.busy:=by intro he;have:=g4.st;rw[he]at this;all_goals grind[z8.is]
    refine⟨l.pending,_,run_endLoop g3 J,?_⟩;have⟨s4,ae⟩:=A.kill O;have U:¬gO t (H2.set H.length .dead) (w.heap.size+1):=by rintro⟨id,q,ob,K,V,j,h4⟩;by_cases e:id=H.length;grind[Ob.live];rw[getElem?_set_ne (Ne.symm e)]at K;exact e (A.inj id H.length ob _ q _ K O V rfl j g1 h4)
    have s5:cN R t (H2.set H.length .dead) (fI Z (w.heap.size+1) (.loop {l with state:=.exhausted})):=s4.zG _ g2 U;have st:=Step.trans k ab (Step.trans N st2 (Step.trans A T ae));have af:Step I μ H w R t (H2.set H.length .dead) (fI Z (w.heap.size+1) (.loop {l with state:=.exhausted})):=st.after _ Za
    have m2:jw B ({target:=.collected w.heap.size,args:=#[]}::a.defers) ((w.alloc (.deferred (some []))).alloc (.loop {state:=.ready,pending:=none,fn:=C,tmps:=a.tmps,params:=ps,assign,body,defers:=w.heap.size})):=by refine⟨?_,?_⟩;intro d i;rcases mem_cons.1 i with rfl|i;refine⟨w.heap.size,rfl,hB,?_⟩;rw[l8 _ _ Zc];exact lS _;have⟨q,K,V,j⟩:=m.all d i;have hq:=(Array.getElem?_eq_some_iff.1 j).1;grind[l8];refine List.Pairwise.cons ?_ m.apart;intro d i q hq al;have⟨q2,K,V,j⟩:=m.all d i;have:=(Array.getElem?_eq_some_iff.1 j).1;grind
    have m3:=m2.step N T;have m5:jw B ({target:=.collected w.heap.size,args:=#[]}::a.defers) (fI Z (w.heap.size+1) (.loop {l with state:=.exhausted})):=m3.zG (λq hq e=>Zd)
    have ah:=st.le;have ai:=st.mu;have z:∀D:Out,r2.pend.getD .norm=D->Post B n I μ H w D F (H2.set H.length .dead) D.E0 {a with defers:=[{target:=.collected w.heap.size,args:=#[]}]++a.defers} (fI Z (w.heap.size+1) (.loop {l with state:=.exhausted})):=λD _=>⟨rfl,⟨R,t,r.mono ah ai,s5,af⟩,m5⟩
    obtain⟨W5,aa⟩:∃W5,Z.putObj (w.heap.size+1) (.loop {l with state:=.exhausted})=W5:=⟨_,rfl⟩;have z:∀D:Out,r2.pend.getD .norm=D->Post B n I μ H w D F (H2.set H.length .dead) D.E0 {a with defers:=[{target:=.collected w.heap.size,args:=#[]}]++a.defers} W5:=by intro D ho;rw[<-aa];exact z D ho
    rw[aa];have⟨k1,k2⟩:=Gz g4.pendOk;rw[g4.pend]
    cases hj:r2.pend.bind lJ with
    |none=>rw[k1 hj];exact z .norm (k1 hj)|some c=>
     rcases k2 c hj with⟨rfl,e⟩|⟨id,rfl,e⟩
     .rw[e];exact wpIn_ret (z .ret e)
     rw[e];exact wpIn_exit (z (.exit id) e)
   grind
  grind
 |_=>simp[exec,M]at h
def wo(Y:dV P E)(d:P.follows .mixedOrders=true){call:di}(f:jW P call)(lf:Nat)(ro:aY Nat)(T:Zl)(j:T=ro.isSome)(n:Nat):
 ∀(c:Code)(I:b_)(μ:Mu)(F:Zo)(H:bh)(a:Act)(w:World)(o:Out)(F':Zo)(H':bh),exec E call lf T n c F H=some (o,F',H')->dS I μ n F a.tmps->cN I μ H w->
  jw B a.defers w->B<=w.heap.size->c.wpIn (fr ro) 0 P (Post B n I μ H w o F' H') a w:=by
 intro c
 induction c with
 |skip=>intro I μ F H a w o F' H' h r s m _;obtain⟨rfl,rfl,rfl⟩:=h;exact wpIn_skip ⟨rfl,⟨I,μ,r,s,.refl _ _ _ _⟩,m⟩|label l=>intro I μ F H a w o F' H' h r s m _;obtain⟨rfl,rfl,rfl⟩:=h;exact wpIn_label ⟨rfl,⟨I,μ,r,s,.refl _ _ _ _⟩,m⟩|region id ops W=>
  intro I μ F H a w o F' H' h r s m _;simp only[exec,ζf]at h;obtain⟨⟨k,H2⟩,h,rfl,rfl,rfl⟩:=h;refine Gr Y d f ro h r s (λa' I' μ' w' b z C X=>⟨rfl,⟨I',μ',b,C,X⟩,?_⟩)
  rw[z];exact m.step s X
 |seq x y D G=>
  intro I μ F H a w o F' H' h r s m u;simp[exec]at h;refine wpIn_seq ?_;split at h
  .rename_i F1 H1 b;refine wpIn_mono (D I μ F H a w _ F1 H1 b r s m u) ?_;rintro e a1 J ⟨rfl,⟨I1,Z,r1,i,Q⟩,m1⟩;refine wpIn_mono (G I1 Z F1 H1 a1 J o F' H' h r1 i m1 (le_trans u Q.size)) ?_
   grind[Post.mono]
  refine wpIn_mono (D I μ F H a w o F' H' h r s m u) ?_;rintro e a1 J ⟨rfl,z,C⟩
  cases o with
  |norm=>grind|exit id=>exact⟨rfl,z,C⟩|ret=>exact⟨rfl,z,C⟩
 |cond c x y D G=>
  intro I μ F H a w o F' H' h r s m u;simp[exec]at h;split at h
  .rename_i t S;have p:=(c8 r S).qp
   grind[wpIn_cond]
  grind
 |block id c O=>
  intro I μ F H a w o F' H' h r s m u;simp[exec]at h;refine wpIn_block ?_;split at h
  .rename_i L F1 H1 b;refine wpIn_mono (O I μ F H a w _ F1 H1 b r s m u) ?_;rintro e a1 J ⟨rfl,z,C⟩;show Exit.inBlock id _ (.exit L) a1 J;unfold Exit.inBlock;split at h
   next U=>obtain⟨rfl,rfl,rfl⟩:=h;simp[U];exact⟨rfl,z,C⟩
   rename_i U;obtain⟨rfl,rfl,rfl⟩:=h;simp[U];exact⟨rfl,z,C⟩
  refine wpIn_mono (O I μ F H a w o F' H' h r s m u) ?_;rintro e a1 J ⟨rfl,z,C⟩
  cases o with
  |norm=>exact⟨rfl,z,C⟩|exit L=>grind|ret=>exact⟨rfl,z,C⟩
 |loop c O=>intro I μ F H a w o F' H' h r s m u;exact JV (λI μ F H a w o F' H' h r s m u=>O I μ F H a w o F' H' h r s m u) h r s m u|rangeFunc g ps assign body _ _=>
  intro I μ F H a w o F' H' h r s m u
  cases T with
  |true=>simp[exec]at h|false=>
   cases ro with
   |none=>grind[HG]|some l=>simp_all
 |exit id=>intro I μ F H a w o F' H' h r s m _;obtain⟨rfl,rfl,rfl⟩:=h;exact wpIn_exit ⟨rfl,⟨I,μ,r,s,.refl _ _ _ _⟩,m⟩|ret=>intro I μ F H a w o F' H' h r s m _;obtain⟨rfl,rfl,rfl⟩:=h;exact wpIn_ret ⟨rfl,⟨I,μ,r,s,.refl _ _ _ _⟩,m⟩|scope body _=>simp_all[exec]|goto l=>simp_all[exec]|refuse ad=>simp_all[exec]
end
end Go.VE
