/-
 The engine: operations of the loaded code on values without a heap; a run of it is a run of the program.
-/
import Derived.RangeFuncLeaves
import Derived.Sort.Defs
import Derived.Lib.BitFns
import Derived.Laws.Sem
import Derived.Laws.World
import Derived.Laws.Append
import Derived.Laws.BytesString
import Derived.OrdersIn
import Derived.RangeFuncRecord
set_option linter.all false
open BitVec(ofInt)
open Go.IntKind(i64 signed wrap)
open Go.Op(bytesLess equal equalIn intArith intBits intCmp operands)
open List(all_eq_true append_assoc drop_drop drop_take eq_of_mem_replicate finRange flatten_append flatten_cons getElem?_append_left getElem?_cons_zero getElem?_drop getElem?_set_ne getElem?_set_self getElem?_take length length_cons length_set mem_append mem_cons mem_cons_of_mem mem_cons_self mem_filter mem_flatten mem_map mem_of_getElem? mem_of_mem_drop mem_of_mem_take range replicate set_comm take take_append_drop take_take)
open Go.Instr(checkKey fieldAt fill findAsking findKey findNow indexAt loadAt sameBits sameNow sliceAt sliceBound sliceBounds storeAt sureAddr)
open Go.Sem(run_bind run_ite run_pure)
open Go.Result(andThen andThen_ok)
open Bool(false_eq_true)
open Option(getD_some isSome_iff_exists map_some)
open Nat(add_assoc add_mul add_zero le_refl le_succ le_trans min_eq_left mod_lt mul_le_mul mul_le_mul_right one_mul zero_add zero_le zero_mul)
open Array(ext' getElem?_eq_none length_toList)
open Go.Builtin(append_ cap_ clear_ firstCells lenOf len_ max2 max_ min2 min_ nextslicecap zeroCells)
open Go.World(cell? frozen?)
open Go.Question(appendCap forced)
namespace Go.VE
abbrev Zs:=IntKind
abbrev Zr:=Operand
abbrev Zq:=ByteArray
abbrev Zp:=Value
abbrev Zm:=TypeId
abbrev Zl:=Bool
abbrev Zk:=FuncId
def Za{p:Prop}(h:p:=by omega):p:=h
def Zc{p:Prop}(h:p:=by simp):p:=h
def Zd{p:Prop}(h:p:=by grind):p:=h
def Ze{p:Prop}(h:p:=by simp_all):p:=h
def ζa{α:Type _}(a b:α):(some a=some b)=(a=b):=Option.some.injEq a b
def ζb{α β:Type _}(a:α)(f:α->Option β):(some a).bind f=f a:=rfl
def ζc{α β:Type _}(a:α)(b:β)(c:α)(d:β):((a,b)=(c,d))=(a=c/\b=d):=Prod.mk.injEq a b c d
def ζd{α:Type _}{l:List α}{i:Nat}(h:i<l.length):l[i]?=some l[i]:=List.getElem?_eq_getElem h
def ζe{α:Type _}{l:List α}{i:Nat}{a:α}:l[i]?=some a↔∃h:i<l.length,l[i]=a:=List.getElem?_eq_some_iff
theorem ζf{α β:Type _}{b:β}{x:Option α}{f:α->β}:x.map f=some b↔∃a,x=some a/\f a=b:=Option.map_eq_some_iff
theorem ζg{α β:Type _}{b:β}{x:Option α}{f:α->Option β}:x.bind f=some b↔∃a,x=some a/\f a=some b:=Option.bind_eq_some_iff
def ζh(a b:Zl):((a&&b)=true)=(a=true/\b=true):=Bool.and_eq_true a b
def ζi{α:Type _}{a b:List α}:(a++b).length=a.length+b.length:=List.length_append
abbrev a_:=@List
abbrev Zz:=a_ Oper
abbrev Zy:=a_ Int
abbrev Zv:=a_ Nat
abbrev bt:=@Option
abbrev Z6:=bt Int
inductive V where
 |bool(b:Bool)|int(k:IntKind)(n:Int)|str(s:ByteArray)|dF|bL|fsl(es:Nat)(xs:List (List V))|hsl(id es off len:Nat)|gN|fptr(cs:List V)|hptr(id el off:Nat)|clo(f:FuncId)(first cap:List V)|yld(id:Nat)|fZ|q_|fmap(kvs:List (V×V))|hmap(id:Nat)|agg(cs:List V)|tup(vs:List V)
 deriving Inhabited
abbrev Zu:=a_ V
abbrev Zt:=a_ (a_ V)
def V.undef:V:=.tup []
def V.one:V->Zl
 |.agg _|.tup _=>false|_=>true
def V.cells:V->Zu
 |.agg cs=>cs|v=>[v]
mutual
def V.scalar:V->Zl
 |.bool _|.int ..|.str _|.gN|.fZ|.q_|.dF|.bL=>true|.agg cs=>V.cZ cs|.tup cs=>V.cZ cs|_=>false
def V.cZ:Zu->Zl
 |[]=>true|v::r=>V.scalar v&&V.cZ r
end
mutual
def V.closed:V->Zl
 |.hsl ..|.hptr ..|.yld ..|.hmap ..=>false|.clo _ a b=>V.gP a&&V.gP b|.agg cs=>V.gP cs|.tup cs=>V.gP cs|_=>true
def V.gP:Zu->Zl
 |[]=>true|v::r=>V.closed v&&V.gP r
end
inductive TK where
 |bool|int (k:IntKind)|str|ptr (e:TypeId)|slice (e:TypeId)|struct(fs:List (Nat×TypeId))|array (n:Nat) (e:TypeId)|map (k e:TypeId)|other
 deriving Inhabited
structure TD where
 size:Nat
 bytes:Nat
 zero:List V
 kind:TK
 deriving Inhabited
def TD.agg(d:TD):Zl:=match d.kind with|.struct _|.array _ _=>true|_=>false
abbrev Frame:=a_ V
abbrev Zo:=Frame
def get:Zo->Nat->V
 |[],_=>.undef|x::_,0=>x|_::r,i+1=>get r i
def set:Zo->Nat->V->Zo
 |[],0,v=>[v]|[],i+1,v=>.undef::set [] i v|_::r,0,v=>v::r|x::r,i+1,v=>x::set r i v
inductive Af where
 |ready|busy|done
inductive Out where
 |norm|exit(id:Nat)|ret
 deriving DecidableEq,Inhabited
structure uw where
 st:Af
 pend:Option Out
 frame:Frame
 nt:Nat
 params:List Nat
 assign:Code
 body:Code
inductive Ob where
 |free|dead|row(es:Nat)(xs:List (List V))|frz(es:Nat)(xs:List (List V))|map(kvs:List (V×V))|loop(r:uw)
def Ob.rows:Ob->bt (Nat×Zt)
 |.row es xs|.frz es xs=>some (es,xs)|_=>none
abbrev bC:=a_ Ob
structure FI where
 ntmps:Nat
 results:List ResultVar
 body:Code
structure Env where
 tt:TypeId->Option TD
 ft:FuncId->Option FI
 keep:FuncId->Bool
 own:FuncId->Bool
 eqN:TypeId->Option Nat
 sort:FuncId->Bool
 known:FuncId->List V->Option V:=λ_ _=>none
def Env.kindOf(E:Env)(t:Zm):bt TK:=(E.tt t).map TD.kind
def ofValue:Nat->Zp->bt V
 |0,_=>none|n+1,v=>
  match v with
  |.bool b=>some (.bool b)|.int k n=>some (.int k n)|.string s=>some (.str s)|.pointer none=>some .gN|.slice none 0 0=>some .bL|.map none=>some .fZ|.nilFunc=>some .q_|.agg cs=>(cs.toList.mapM (ofValue n)).map .agg|_=>none
class bV where
 gl:Nat->Option (List V)
 sc:∀g cs,gl g=some cs->∃(k:IntKind)(l:List Int),cs=l.map (V.int k)
variable[bV]
def ev(F:Zo):Zr->bt V
 |.tmp t=>some (get F t)|.const v=>ofValue 4 v|.func f=>some (.clo f [] [])|.global g=>(bV.gl g).map .fptr
def fu(F:Zo):a_ Zr->bt Zu
 |[]=>some []|x::r=>match ev F x,fu F r with
  |some v,some vs=>some (v::vs)|_,_=>none
def mk(agg:Zl)(cs:Zu):bt V:=if agg then some (.agg cs)else match cs with|[v]=>some v|_=>none
def cut(cs:Zu)(off n:Nat):bt Zu:=
 let r:=(cs.drop off).take n
 if r.length=n then some r else none
def gY:Zu->bt Zy
 |[]=>some []|.int .i64 a::r=>(gY r).map (a::·)|_=>none
def j8(az B:Zu):bt Zl:=
 match gY az,gY B with
 |some a,some b=>if a.length=b.length then some (a==b)else none|_,_=>none
def ot(op:BinOp)(x y:Int):bt Zl:=
 match op with
 |.eql=>some (x==y)|.neq=>some (x != y)|.lss=>some (decide (x<y))|.leq=>some (decide (x<=y))|.gtr=>some (decide (x>y))|.geq=>some (decide (x>=y))|_=>none
def tu(k:TK)(x y:V):bt Zl:=
 match k,x,y with
 |.slice _,.bL,.bL=>some true|.slice _,.fsl ..,.bL=>some false|.slice _,.hsl ..,.bL=>some false|.ptr _,.gN,.gN=>some true|.ptr _,.fptr _,.gN=>some false|.ptr _,.hptr ..,.gN=>some false|.map ..,.fZ,.fZ=>some true|.map ..,.fmap _,.fZ=>some false|.map ..,.hmap _,.fZ=>some false|_,_,_=>none
def GA(E:Env)(op:BinOp)(t:Zm)(x y:V):bt V:=
 match x,y with
 |.int k a,.int u b=>
  match op with
  |.shl=>if b<0 then none else some (.int k (k.wrap (a*2 ^ (min b.toNat k.bits))))|.shr=>if b<0 then none else some (.int k (a.fdiv (2 ^ (min b.toNat k.bits))))|_=>if k=u then
   match op with
   |.add=>some (.int k (k.wrap (a+b)))|.sub=>some (.int k (k.wrap (a-b)))|.mul=>some (.int k (k.wrap (a*b)))|.quo=>if b=0 then none else some (.int k (k.wrap (a.tdiv b)))|.rem=>if b=0 then none else some (.int k (a.tmod b))|.and=>some (.int k (k.wrap (ofInt k.bits a &&& ofInt k.bits b).toNat))|.or=>some (.int k (k.wrap (ofInt k.bits a ||| ofInt k.bits b).toNat))|.xor=>some (.int k (k.wrap (ofInt k.bits a ^^^ ofInt k.bits b).toNat))|.andNot=>some (.int k (k.wrap (ofInt k.bits a &&& ~~~ ofInt k.bits b).toNat))|op=>(ot op a b).map .bool
   else none
 |.str a,.str b=>
  match op with
  |.add=>if((a.size+b.size:Nat):Int)>i64.max then none else some (.str (a++b))|.eql=>some (.bool (a.toList==b.toList))|.neq=>some (.bool !(a.toList==b.toList))|.lss=>some (.bool (bytesLess a.toList b.toList))|.leq=>some (.bool (bytesLess a.toList b.toList||a.toList==b.toList))|.gtr=>some (.bool !(bytesLess a.toList b.toList||a.toList==b.toList))|.geq=>some (.bool !(bytesLess a.toList b.toList))|_=>none
 |.bool a,.bool b=>
  match E.kindOf t,op with
  |some .bool,.eql=>some (.bool (a==b))|some .bool,.neq=>some (.bool !(a==b))|_,_=>none
 |.agg a,.agg b=>
  match E.eqN t,op with
  |some n,.eql=>if a.length=n then(j8 a b).map .bool else none|some n,.neq=>if a.length=n then(j8 a b).map (λt=>.bool !t)else none|_,_=>none
 |x,y=>
  match E.kindOf t,op with
  |some k,.eql=>(tu k x y).map .bool|some k,.neq=>(tu k x y).map λt=>.bool !t|_,_=>none
def sZ(place:Nat->bt (Nat×Nat))(cells:Zu):a_ (Nat×V)->bt Zu
 |[]=>some cells|(i,v)::rest=>
  match place i with
  |none=>none|some (off,size)=>
   if v.cells.length≠size||off+v.cells.length>cells.length then none
   else sZ place (cells.take off++v.cells++cells.drop (off+v.cells.length)) rest
def lg(F:Zo):a_ (Nat×Zr)->bt (a_ (Nat×V))
 |[]=>some []|(i,x)::r=>match ev F x,lg F r with
  |some v,some vs=>some ((i,v)::vs)|_,_=>none
def mo(E:Env):a_ (Nat×Zm)->bt (a_ (Nat×Nat))
 |[]=>some []|(off,t)::r=>match E.tt t,mo E r with
  |some d,some ps=>some ((off,d.size)::ps)|_,_=>none
def jA(F:Zo):bt Zr->bt Z6
 |none=>some none|some x=>match ev F x with
  |some (.int _ n)=>some (some n)|_=>none
def dW(len:Nat)(B D:Z6):bt (Nat×Nat):=
 let h:=D.getD len
 let l:=B.getD 0
 if 0<=h/\h<=len/\0<=l/\l<=h then some (l.toNat,h.toNat)else none
def AT(a b:Int):Int:=if b>a then b else a
def bP(E:Env)(F:Zo)(op:Op):bt V:=
 match op with
 |.move x|.assign x=>ev F x|.pick c a b=>match ev F c with
  |some (.bool t)=>if t then ev F a else ev F b|_=>none
 |.nilCheck x=>match ev F x with
  |some (.hptr id el off)=>some (.hptr id el off)|some (.fptr u)=>some (.fptr u)|some (.clo f a b)=>some (.clo f a b)|_=>none
 |.binOp op t x y _=>match ev F x,ev F y with
  |some a,some b=>GA E op t a b|_,_=>none
 |.unOp op _ x=>match op,ev F x with
  |.not,some (.bool b)=>some (.bool !b)|.neg,some (.int k n)=>some (.int k (k.wrap (0-n)))|_,_=>none
 |.convert s d x=>match E.tt s,E.tt d,ev F x with
  |some _,some D,some (.int _ n)=>match D.kind with
   |.int k=>some (.int k (k.wrap n))|_=>none
  |_,_,_=>none
 |.fieldAddr s x f=>match E.kindOf s,ev F x with
  |some (.struct fs),some p=>match fs[f]?with
   |some (off,t)=>match E.tt t with
    |some d=>if d.size=0 then none else match p with
     |.fptr u=>if off<=u.length then some (.fptr (u.drop off))else none|.hptr id el o=>some (.hptr id el (o+off))|_=>none
    |none=>none
   |none=>none
  |_,_=>none
 |.field s x f=>match E.kindOf s,ev F x with
  |some (.struct fs),some (.agg u)=>match fs[f]?with
   |some (off,t)=>match E.tt t with
    |some d=>(cut u off d.size).bind (mk d.agg)|none=>none
   |none=>none
  |_,_=>none
 |.indexAddr t x i=>match E.kindOf t,ev F x,ev F i with
  |some (.slice e),some s,some (.int _ n)=>match E.tt e with
   |some d=>if n<0 then none else match s with
    |.fsl es w=>if es=d.size then(w[n.toNat]?).map .fptr else none|.hsl id es off len=>if es=d.size/\n.toNat<len then some (.hptr id (off+n.toNat) 0)else none|_=>none
   |none=>none
  |some (.array len e),some p,some (.int _ n)=>match E.tt e with
   |some d=>if 0<=n/\n<len then match p with
    |.fptr u=>if n.toNat*d.size<=u.length then some (.fptr (u.drop (n.toNat*d.size)))else none|.hptr id el o=>some (.hptr id el (o+n.toNat*d.size))|_=>none
    else none
   |none=>none
  |_,_,_=>none
 |.index t x i=>match E.kindOf t,ev F x,ev F i with
  |some .str,some (.str s),some (.int _ n)=>if 0<=n then(s[n.toNat]?).map (λb=>.int .u8 b.toNat)else none|some (.array len e),some (.agg u),some (.int _ n)=>match E.tt e with
   |some d=>if 0<=n/\n<len then(cut u (n.toNat*d.size) d.size).bind (mk d.agg)else none|none=>none
  |_,_,_=>none
 |.slice t x G I J=>match E.kindOf t,ev F x,jA F G,jA F I,jA F J with
  |some .str,some (.str s),some l,some h,some none=>(dW s.size l h).map λ(l,h)=>.str (s.extract l h)|some (.slice e),some v,some l,some h,some none=>match E.tt e with
   |some d=>match v with
    |.fsl es w=>if es=d.size then(dW w.length l h).map λ(l,h)=>.fsl es ((w.take h).drop l)else none|.hsl id es off len=>if es=d.size then(dW len l h).map λ(l,h)=>.hsl id es (off+l) (h-l)else none|.dF=>(dW 0 l h).map λ_=>.dF|.bL=>(dW 0 l h).map λ_=>.bL|_=>none
   |none=>none
  |some (.slice e),some v,some none,some (some 0),some (some 0)=>match E.tt e,v with
   |some _,.fsl ..|some _,.hsl ..|some _,.dF|some _,.bL=>some .dF|_,_=>none
  |_,_,_,_,_=>none
 |.build t ps=>match E.tt t,lg F ps.toList with
  |some d,some z=>match d.kind with
   |.struct fs=>match mo E fs with
    |some pl=>(sZ (λi=>pl[i]?) d.zero z).map .agg|none=>none
   |.array _ e=>match E.tt e with
    |some C=>(sZ (λi=>some (i*C.size,C.size)) d.zero z).map .agg|none=>none
   |_=>none
  |_,_=>none
 |.makeFunc (.func f) a b=>match fu F a.toList,fu F b.toList with
  |some a,some b=>some (.clo f a b)|_,_=>none
 |.extract x i=>match ev F x with
  |some (.tup z)=>z[i]?|_=>none
 |.call {callee:=.builtin b,args,argTypes}=>match b,fu F args.toList,argTypes[0]?with
  |.len,some [v],some t=>match E.kindOf t,v with
   |some .str,.str s=>some (.int .i64 s.size)|some (.slice _),.fsl _ w=>some (.int .i64 w.length)|some (.slice _),.hsl _ _ _ len=>some (.int .i64 len)|some (.slice _),.dF=>some (.int .i64 0)|some (.slice _),.bL=>some (.int .i64 0)|_,_=>none
  |.cap,some [v],some t=>match E.kindOf t,v with
   |some (.slice _),.bL=>some (.int .i64 0)|some (.slice _),.dF=>some (.int .i64 0)|_,_=>none
  |.max,some [.int k a,.int B b],_=>if k=B then some (.int k (if b>a then b else a))else none|.max,some [.int k a,.int k1 b,.int k2 c,.int k3 d],_=>if k=k1/\k=k2/\k=k3 then some (.int k (AT (AT (AT a b) c) d))else none|.min,some [.int k a,.int B b],_=>if k=B then some (.int k (if b<a then b else a))else none|_,_,_=>none
 |_=>none
def dX(H:bC)(p:V)(n:Nat):bt Zu:=
 match p with
 |.fptr u=>cut u 0 n|.hptr id el off=>match(H[id]?).bind Ob.rows with
  |some (_,w)=>match w[el]?with
   |some u=>cut u off n|none=>none
  |none=>none
 |_=>none
def uW:V->V->bt Zl
 |.int k a,.int B b=>if k=B then some (a==b)else none|.str a,.str b=>some (a==b)|.agg a,.agg b=>j8 a b|_,_=>none
def hG(k:V):a_ (V×V)->Nat->bt (bt (Nat×V))
 |[],_=>some none|(B,v)::r,i=>match uW k B with
  |some true=>some (some (i,v))|some false=>hG k r (i+1)|none=>none
def zl(E:Env)(t:Zm)(k:V):Zl:=
 match E.kindOf t,k with
 |some (.int k),.int w _=>k==w|some .str,.str _=>true|some _,.agg u=>match E.eqN t with|some n=>u.length==n&&(gY u).isSome|none=>false
 |_,_=>false
def me(H:bC):V->bt (a_ (V×V))
 |.fZ=>some []|.fmap B=>some B|.hmap id=>match H[id]?with
  |some (.map B)=>some B|_=>none
 |_=>none
def dP(E:Env)(F:Zo)(H:bC)(op:Op):bt V:=
 match op with
 |.load t a=>match E.tt t,ev F a with
  |some d,some p=>(dX H p d.size).bind (mk d.agg)|_,_=>none
 |.lookup t m k ok=>match E.kindOf t,ev F m,ev F k with
  |some (.map w B),some m,some k=>match E.tt B,me H m with
   |some d,some u=>if zl E w k then match hG k u 0,mk d.agg d.zero with
    |some (some (_,v)),_=>some (if ok then .tup [v,.bool true]else v)|some none,some z=>some (if ok then .tup [z,.bool false]else z)|_,_=>none
    else none
   |_,_=>none
  |_,_,_=>none
 |_=>none
inductive Mk where
 |ptr|sl (es len:Nat)|map
def Mk.val(id:Nat):Mk->V
 |.ptr=>.hptr id 0 0|.sl es len=>.hsl id es 0 len|.map=>.hmap id
def eR(es:Nat)(xs:Zt):a_ (Nat×V)->bt Zt
 |[]=>some xs|(i,v)::r=>if v.cells.length=es/\i<xs.length/\v.cells.all V.one=true then eR es (xs.set i v.cells) r else none
def eO(E:Env)(F:Zo)(op:Op):bt (Ob×Mk):=
 match op with
 |.alloc t=>(E.tt t).map λd=>(.row d.size [d.zero],.ptr)|.box _ x=>match ev F x with
  |some v=>if v.cells.all V.one then some (.row v.cells.length [v.cells],.ptr)else none|none=>none
 |.makeSlice t l c=>match E.kindOf t,ev F l,ev F c with
  |some (.slice e),some (.int k n),some (.int u m)=>match E.tt e with
   |some d=>if k=.i64/\u=.i64/\0<=n/\n<=m/\m<=2147483648/\d.bytes<=4096 then some (.row d.size (replicate m.toNat d.zero),.sl d.size n.toNat)else none|none=>none
  |_,_,_=>none
 |.buildSlice t len ps=>match E.kindOf t,lg F ps.toList with
  |some (.slice e),some w=>match E.tt e with
   |some d=>if len*d.size<=16777216 then(eR d.size (replicate len d.zero) w).map λz=>(.row d.size z,.sl d.size len)else none|none=>none
  |_,_=>none
 |.makeMap _ none=>some (.map [],.map)|_=>none
def oA(E:Env)(F:Zo)(op:Op):bt V:=
 match eO E F op with
 |some (.row es u,.sl w n)=>if w=es/\n=u.length/\(u.all λx=>x.all V.scalar)=true then match op with
  |.buildSlice ..=>if u.isEmpty then(if es != 0 then some .dF else none)else some (.fsl es u)|_=>some (.fsl es u)
  else none
 |_=>none
def dH(H:bC)(es:Nat):V->bt Zt
 |.dF=>some []|.bL=>some []|.fsl B xs=>if B=es then some xs else none|.hsl id B off len=>if B=es then match(H[id]?).bind Ob.rows with
  |some (_,xs)=>if off+len<=xs.length then some ((xs.drop off).take len)else none|none=>none
  else none
 |_=>none
def oT(k v:V)(B:a_ (V×V)):bt (a_ (V×V)):=
 match hG k B 0 with
 |some (some (j,_))=>some (B.set j (k,v))|some none=>some (B++[(k,v)])|none=>none
def gE(H:bC):V->bt bC
 |.dF=>some H|.bL=>some H|.hsl id _ _ _=>match H[id]?with
  |some (.row _ _)=>some (H.set id .dead)|_=>none
 |_=>none
def mkApp(H:bC)(size bytes:Nat)(zero:Zu)(s x:V):bt (V×bC):=
 match s,x with
 |.bL,.int _ n=>if n=0 then some (.bL,H)else if 0<n/\n<=2147483648/\bytes<=4096/\0<bytes then some (.hsl H.length size 0 n.toNat,H++[.row size (replicate n.toNat zero)])else none|_,_=>none
def Bg(H:bC)(size:Nat)(zero:Zu):V->bt (V×bC)
 |.bL|.dF=>some (.undef,H)|.hsl id es off len=>if es=size then match len with
  |0=>some (.undef,H)|len+1=>match H[id]?with
   |some (.row B xs)=>if off+(len+1)<=xs.length then some (.undef,H.set id (.row B (xs.take off++replicate (len+1) zero++xs.drop (off+(len+1)))))else none|_=>none
  else none
 |_=>none
def cH(E:Env)(F:Zo)(H:bC)(op:Op):bt (V×bC):=
 match op with
 |.store t a x=>match E.tt t,ev F a,ev F x with
  |some d,some (.hptr id el off),some v=>match H[id]?with
   |some (.row es w)=>match w[el]?with
    |some z=>if v.cells.length=d.size/\off+d.size<=z.length/\v.cells.all V.one=true then
     some (.undef,H.set id (.row es (w.set el (z.take off++v.cells++z.drop (off+v.cells.length)))))else none
    |none=>none
   |_=>none
  |_,_,_=>none
 |.mapUpdate t m k x|.insert t m k x=>match E.kindOf t,ev F m,ev F k,ev F x with
  |some (.map C _),some (.hmap id),some k,some v=>match H[id]?with
   |some (.map u)=>if zl E C k then(oT k v u).map λu=>(.undef,H.set id (.map u))else none|_=>none
  |_,_,_,_=>none
 |.call {callee:=.builtin .append,args,argTypes}=>match argTypes.toList,fu F args.toList with
  |[t,D],some [s,x]=>match E.kindOf t,E.kindOf D with
   |some (.slice e),some (.slice _)=>match E.tt e with
    |some d=>match dH H d.size s,dH H d.size x with
     |some _,some []=>some (s,H)|some w,some B=>
      if w.length+B.length<=2147483648/\d.bytes<=4096/\0<d.bytes then
       (gE H s).map λH1=>(.hsl H.length d.size 0 (w.length+B.length),H1++[.row d.size (w++B)])
      else none
     |_,_=>none
    |none=>none
   |some (.slice e),some (.int _)=>match E.tt e with
    |some d=>mkApp H d.size d.bytes d.zero s x|none=>none
   |_,_=>none
  |_,_=>none
 |.call {callee:=.builtin .clear,args,argTypes}=>match argTypes[0]?,fu F args.toList with
  |some t,some [v]=>match E.kindOf t with
   |some (.slice e)=>match E.tt e with
    |some d=>Bg H d.size d.zero v|none=>none
   |_=>none
  |_,_=>none
 |_=>none
def kC:Zt->bt Zy
 |[]=>some []|[.int .u8 n]::r=>(kC r).map (n::·)|_=>none
def pU(l:Zy):Zq:=l.foldl (λr n=>r.push (UInt8.ofNat n.toNat)) ByteArray.empty
def evalConv(E:Env)(F:Zo)(H:bC)(op:Op):bt V:=
 match op with
 |.convert s d x=>match E.kindOf s,E.kindOf d,ev F x with
  |some (.slice e),some .str,some v=>match E.kindOf e with
   |some (.int .u8)=>(dH H 1 v).bind λu=>(kC u).map λl=>.str (pU l)|_=>none
  |_,_,_=>none
 |_=>none
def rz(E:Env)(F:Zo)(H:bC)(place:bt (Nat×Nat))(op:Op):bt V:=
 match bP E F op with
 |some v=>some v|none=>match place with
  |none=>evalConv E F H op|some _=>none
inductive Callee where
 |fn(f:FuncId)|yld(id:Nat)
def jo(F:Zo)(op:Op):bt (Callee×Zu):=
 match op with
 |.call {callee:=.value f,args,..}=>match ev F f,fu F args.toList with
  |some (.clo g a b),some u=>some (.fn g,a++u++b)|some (.yld id),some u=>some (.yld id,u)|_,_=>none
 |_=>none
inductive PE where
 |pure|read|alloc|loud|call
 deriving DecidableEq
def cO:Op->PE
 |.load ..|.lookup ..=>.read|.alloc ..|.box ..|.makeSlice ..|.buildSlice ..|.makeMap ..=>.alloc|.store ..|.mapUpdate ..|.insert ..=>.loud|.call {callee:=.builtin .append,..}=>.loud|.call {callee:=.builtin .clear,..}=>.loud|.call {callee:=.value _,..}=>.call|_=>.pure
def gO(f:V->bt V):Zu->bt Zu
 |[]=>some []|x::r=>match f x,gO f r with
  |some y,some s=>some (y::s)|_,_=>none
def kG(f:V->bt V):Zt->bt Zt
 |[]=>some []|x::r=>match gO f x,kG f r with
  |some y,some s=>some (y::s)|_,_=>none
def kD(f:V->bt V):a_ (V×V)->bt (a_ (V×V))
 |[]=>some []|(k,x)::r=>match f k,f x,kD f r with
  |some k,some y,some s=>some ((k,y)::s)|_,_,_=>none
def borrow:Nat->bC->V->bt V
 |0,_,x=>if x.closed then some x else none|n+1,H,x=>
  if x.closed then some x else
  match x with
  |.hsl id es off len=>match(H[id]?).bind Ob.rows with
   |some (B,xs)=>if B=es/\off+len<=xs.length then(kG (borrow n H) ((xs.drop off).take len)).map (.fsl es)else none|none=>none
  |.hptr id el off=>match(H[id]?).bind Ob.rows with
   |some (_,xs)=>match xs[el]?with
    |some cs=>if off<=cs.length then(gO (borrow n H) (cs.drop off)).map .fptr else none|none=>none
   |none=>none
  |.hmap id=>match H[id]?with
   |some (.map D)=>(kD (borrow n H) D).map .fmap|_=>none
  |.clo f a b=>match gO (borrow n H) a,gO (borrow n H) b with
   |some a,some b=>some (.clo f a b)|_,_=>none
  |.agg cs=>(gO (borrow n H) cs).map .agg|.tup cs=>(gO (borrow n H) cs).map .tup|_=>none
def borrows(n:Nat)(H:bC)(l:Zu):bt Zu:=gO (borrow n H) l
def c7(f:V->Zv):Zu->Zv
 |[]=>[]|x::r=>f x++c7 f r
def cm:Nat->bC->V->Zv
 |0,_,_=>[]|n+1,H,x=>
  if x.closed then[]else
  match x with
  |.hsl id _ off len=>id::(match(H[id]?).bind Ob.rows with|some (_,xs)=>c7 (cm n H) ((xs.drop off).take len).flatten|none=>[])|.hptr id el off=>id::(match(H[id]?).bind Ob.rows with|some (_,xs)=>c7 (cm n H) (((xs[el]?).getD []).drop off)|none=>[])|.hmap id=>id::(match H[id]?with|some (.map B)=>c7 (cm n H) (B.map (·.1))++c7 (cm n H) (B.map (·.2))|_=>[])|.clo _ a b=>c7 (cm n H) a++c7 (cm n H) b|.agg cs=>c7 (cm n H) cs|.tup cs=>c7 (cm n H) cs|_=>[]
def tD(H:bC)(id:Nat):bC:=
 match H[id]?with
 |some (.row es u)=>H.set id (.frz es u)|some (.map _)=>H.set id .dead|_=>H
def cV(H:bC)(l:Zv):bC:=l.foldl tD H
structure dw where
 lv:Nat
 go:Callee->List V->bC->Option (V×bC)
instance:CoeFun dw λ_=>Callee->Zu->bC->bt (V×bC):=⟨dw.go⟩
def iw(H:bC)(T:Zv):Zl:=T.all λid=>((H[id]?).bind Ob.rows).isSome
def bY(call:dw)(f:Zk)(args:Zu)(H:bC):bt V:=
 match borrows call.lv H args with
 |some az=>match call (.fn f) az []with
  |some (r,H1)=>match borrow call.lv H1 r with
   |some y=>if y.closed then some y else none|none=>none
  |none=>none
 |none=>none
def qa(k:Nat)(H1:bC)(id es off len:Nat):bt (V×Ob):=
 match H1[id]?with
 |some (.row u w)=>if u=es/\(w.all λx=>x.all V.scalar)=true then some (.hsl k es off len,.row es w)else none|_=>none
def jR(call:dw)(f:Zk)(args:Zu)(H:bC):bt (V×bC):=
 match borrows call.lv H args with
 |some az=>match call (.fn f) az []with
  |some (r,H1)=>
   if r.scalar then some (r,H)else
   match r with
   |.hsl id es off len=>(qa H.length H1 id es off len).map λ(v,ob)=>(v,H++[ob])|.tup (.hsl id es off len::rest)=>if V.cZ rest then(qa H.length H1 id es off len).map λ(v,ob)=>(.tup (v::rest),H++[ob])else none|_=>none
  |none=>none
 |none=>none
def eX(E:Env)(call:dw)(f:Zk)(args:Zu)(H:bC):bt (V×bC):=if E.own f then jR call f args H else call (.fn f) args H
def kn(e:Edge):Zl:=match e.ground with|.textOnly _|.gcOnly _=>false|_=>true
def CQ(o:Oper)(i:Nat):Zl:=o.after.any λe=>e.on==i&&kn e
def Gy(a:a_ Zv)(o:Oper):Zv:=(o.after.toList.filter kn).foldl (λl e=>(e.on::(a[e.on]?).getD []).foldl (λl k=>if l.contains k then l else k::l) l) []
def Ff(ops:Zz):a_ Zv:=ops.foldl (λa o=>a++[Gy a o]) []
def before(ops:Zz)(i k:Nat):Zl:=(((Ff ops)[i]?).getD []).contains k
def isApp:Op->Zl
 |.call {callee:=.builtin .append,..}=>true|_=>false
def dJ(ops:Zz)(i:Nat):Zl:=
 match ops[i]?with
 |some o=>(range ops.length).all λk=>match ops[k]?with
  |some p=>k==i||cO p.op==.pure||(if k<i then before ops i k else before ops k i)||(isApp o.op&&cO p.op==.alloc&&decide (i<k))|none=>true
 |none=>false
def dstsOf(ops:Zz):Zv:=ops.filterMap (·.dst)
def qu(ops:Zz)(i k:Nat):Zl:=if k<i then before ops i k else before ops k i
def Eb(g:Zl)(ops:Zz)(i k:Nat):bt Zv:=
 match ops[k]?with
 |some p=>
  if k==i||cO p.op==.pure||qu ops i k then some []else
  match p.op with
  |.load _ (.tmp a)=>if(dstsOf ops).contains a then some []else some [a]|o=>if g&&(cO o==.alloc||cO o==.call)then some []else none
 |none=>some []
def AO(g:Zl)(ops:Zz)(i:Nat):Zv->bt Zv
 |[]=>some []|k::r=>match Eb g ops i k,AO g ops i r with
  |some a,some b=>some (a++b)|_,_=>none
def qH(g:Zl)(ops:Zz)(i:Nat):bt (Nat×Zv):=
 match(ops[i]?).map Oper.op with
 |some (.store _ (.tmp a) _)=>if(dstsOf ops).contains a then none else(AO g ops i (range ops.length)).map λl=>(a,l)|_=>none
def mJ(id:Nat):V->Zl
 |.hptr B _ _=>B != id|.fptr _=>true|_=>false
def oU(ops:Zz)(i:Nat)(F:Zo):Zl:=
 match qH false ops i with
 |some (a,l)=>match get F a with
  |.hptr id _ _=>l.all λs=>mJ id (get F s)|_=>false
 |none=>false
def qx(ops:Zz)(b i:Nat)(F:Zo):Zl:=
 match qH true ops i with
 |some (a,l)=>match get F a with
  |.hptr id _ _=>decide (id<b)&&l.all λs=>mJ id (get F s)|_=>false
 |none=>false
def Gc(ops:Zz)(k:Nat):Zl:=(range ops.length).any λi=> !qu ops i k&&(qH true ops i).isSome
def uH(ops:Zz)(place:bt (Nat×Nat))(args:Zu):Zl:=match place with|some (_,i)=> !Gc ops i||V.gP args|none=>true
def ow(ops:Zz)(k a':Nat):Zv:=
 if(dstsOf ops).contains a' then(range ops.length).filterMap λi=>match(ops[i]?).map Oper.op with
  |some (.store _ (.tmp a) _)=>if qu ops i k||(dstsOf ops).contains a then none else some a|_=>none
 else[]
def mS(ops:Zz)(k:Nat)(F:Zo)(op:Op):Zl:=
 match op with
 |.load _ (.tmp u)=>(ow ops k u).all λa=>match get F a with
  |.hptr id _ _=>mJ id (get F u)|_=>true
 |_=>true
def zK(d:Nat)(op:Op):Zl:=op.operands.any λx=>match x with|.tmp t=>t==d|_=>false
def M8(d:Nat):Op->Zl
 |.call {callee:=.builtin .append,args,..}=>match args.toList with
  |.tmp t::r=>t==d&&r.all λx=>match x with|.tmp t=>t != d|_=>true
  |_=>false
 |_=>false
def zB(ops:Zz)(i:Nat):Zl:=
 match ops[i]?with
 |some o=>match o.op,o.dst with
  |.makeSlice ..,some d=>(ops.any λp=>zK d p.op)&&ops.all λp=> !zK d p.op||cO p.op==.call|.buildSlice _ len ps,some d=>len==0&&ps.size==0&&((range ops.length).any λk=>match ops[k]?with|some p=>zK d p.op&& !dJ ops k|none=>false)&&ops.all λp=> !zK d p.op||M8 d p.op|_,_=>false
 |none=>false
def Oz(E:Env)(ops:Zz)(i:Nat):Zl:=
 match ops[i]?with
 |some o=>match o.op,o.dst with
  |.buildSlice t len _,some d=>decide (0<len)&&(match E.kindOf t with
   |some (.slice e)=>(match E.kindOf e with|some .bool|some (.int _)|some .str=>true|_=>false)|_=>false)&&(ops.any λp=>zK d p.op)&&ops.all λp=> !zK d p.op||cO p.op==.call
  |_,_=>false
 |none=>false
def Be(E:Env)(ops:Zz)(i:Nat):Zl:=zB ops i||Oz E ops i
def mF(E:Env)(ops:Zz):bt (Nat×Nat)->Zl
 |some (_,i)=>Be E ops i|none=>false
def jZ(E:Env)(ops:Zz)(place:bt (Nat×Nat))(f:Zk):Zl:=E.keep f&&(match place with|none=>true|some (_,i)=>dJ ops i|| !E.own f)
def u_(ops:Zz)(i:Nat):Zl:=
 match ops[i]?with
 |some o=>isApp o.op&&(range ops.length).all λk=>match ops[k]?with
  |some p=>k==i||cO p.op==.pure||qu ops i k||cO p.op==.read||(cO p.op==.alloc&&(zB ops k||decide (i<k)))|none=>true
 |none=>false
def oQ(F:Zo):Op->Zl
 |.call {callee:=.builtin .append,args,..}=>match args.toList with
  |x::_=>match ev F x with|some .dF|some .bL=>true|_=>false
  |_=>false
 |_=>false
def yC(ops:Zz)(i b:Nat)(F:Zo)(H:bC)(op:Op):Zl:=u_ ops i&&(isApp op&&oQ F op&&decide (b<=H.length))
def dU(E:Env)(call:dw)(ops:Zz)(place:bt (Nat×Nat))(f:Zk)(args:Zu)(H:bC):bt (V×bC):=
 if jZ E ops place f then
  match place with
  |none=>eX E call f args H|some (_,i)=>if dJ ops i then eX E call f args H else none
 else match place with
  |none=>match bY call f args H with
   |some y=>some (y,if y.scalar then H else cV H (c7 (cm call.lv H) args))|none=>none
  |some (b,i)=>match bY call f args (H.take b)with
   |some y=>if y.scalar then some (y,H)else if iw (H.take b) (c7 (cm call.lv (H.take b)) args)then some (y,cV H (c7 (cm call.lv (H.take b)) args))else none|none=>if dJ ops i then match bY call f args H with
    |some y=>some (y,if y.scalar then H else cV H (c7 (cm call.lv H) args))|none=>none
    else none
def cW(E:Env)(call:dw)(ops:Zz)(place:bt (Nat×Nat))(F:Zo)(H:bC)(op:Op):bt (V×bC):=
 match cO op with
 |.pure=>(rz E F H place op).map λv=>(v,H)|.read=>match place with
  |none=>(dP E F H op).map λv=>(v,H)|some (b,i)=>if mS ops i F op then match dP E F (H.take b) op with
   |some v=>some (v,H)|none=>if dJ ops i then(dP E F H op).map λv=>(v,H)else none
   else none
 |.alloc=>if mF E ops place then(oA E F op).map λv=>(v,H)else match eO E F op,place with
  |some (ob,m),none=>some (m.val H.length,H++[ob])|some (ob,m),some (b,i)=>match H[b+i]?with
   |some .free=>some (m.val (b+i),H.set (b+i) ob)|_=>none
  |none,_=>none
 |.loud=>match place with
  |none=>cH E F H op|some (b,i)=>if dJ ops i||oU ops i F||qx ops b i F||yC ops i b F H op then cH E F H op else none
 |.call=>match jo F op with
  |some (.fn f,args)=>if uH ops place args then dU E call ops place f args H else none|some (.yld id,args)=>match place with
   |none=>call (.yld id) args H|some (_,i)=>if dJ ops i then call (.yld id) args H else none
  |none=>none
def jB(n:Nat)(F:Zo)(dst:bt Nat)(v:V):bt Zo:=
 match dst with
 |none=>some F|some d=>if d<n then some (set F d v)else none
def fD(ops:Zz)(F:Zo)(o:Oper):Zl:=
 match o.guard with
 |none=>true|some (j,b)=>match(ops[j]?).bind (·.dst)with
  |some d=>match get F d with
   |.bool c=>c==b|_=>false
  |none=>false
def fW(E:Env)(call:dw)(n:Nat)(ops:Zz)(place:bt (Nat×Nat))(o:Oper)(F:Zo)(H:bC):bt (Zo×bC):=
 if fD ops F o then
  match cW E call ops place F H o.op with
  |some (v,H')=>(jB n F o.dst v).map λF'=>(F',H')|none=>none
 else(jB n F o.dst .undef).map λF'=>(F',H)
def lu(E:Env)(call:dw)(n:Nat)(ops:Zz):Zz->Zo->bC->bt (Zo×bC)
 |[],F,H=>some (F,H)|o::r,F,H=>match fW E call n ops none o F H with
  |some (F',H')=>lu E call n ops r F' H'|none=>none
def jq(E:Env)(call:dw)(n:Nat)(ops:Zz)(base:Nat):Zv->Zo->bC->bt (Zo×bC)
 |[],F,H=>some (F,H)|i::r,F,H=>match ops[i]?with
  |some o=>match fW E call n ops (some (base,i)) o F H with
   |some (F',H')=>jq E call n ops base r F' H'|none=>none
  |none=>none
def tmpsOf(o:Oper)(ops:Zz):Zv:=
 (o.op.operands.toList.filterMap λ|.tmp t=>some t|_=>none)++
 (match o.guard with|some (g,_)=>((ops[g]?).bind (·.dst)).toList|none=>[])
def vQ(ops:Zz)(a b:Oper):Zl:=
 (match a.dst with|some d=> !(tmpsOf b ops).contains d&&b.dst != some d|none=>true)&&
 (match b.dst with|some d=> !(tmpsOf a ops).contains d|none=>true)
def uA(ops:Zz):Zl:=
 (range ops.length).all λj=>(range j).all λi=>
  match ops[i]?,ops[j]?with
  |some a,some b=>CQ b i||vQ ops a b|_,_=>false
def xJ(ops:Zz):Zl:=
 (range ops.length).all λj=>match ops[j]?with
  |some o=>o.after.all λe=> !kn e||decide (e.on<j)|none=>true
def qt(ops:Zz):Zl:=ops.any λo=>cO o.op==.alloc
def jf(E:Env)(call:dw)(n:Nat)(ops:Zz)(B:Zl)(F:Zo)(H:bC):bt (Zo×bC):=if B then if uA ops&&xJ ops then jq E call n ops H.length (range ops.length) F (if qt ops then H++replicate ops.length .free else H)else none else lu E call n ops ops F H
def jU(step:Zo->bC->bt (Out×Zo×bC)):Nat->Zo->bC->bt (Out×Zo×bC)
 |0,_,_=>none|k+1,F,H=>match step F H with
  |some (.norm,F',H')=>jU step k F' H'|r=>r
def kg:Out->bt Code
 |.norm=>none|.ret=>some .ret|.exit id=>some (.exit id)
def exec(E:Env)(call:dw)(lf:Nat)(ro:Zl)(n:Nat):Code->Zo->bC->bt (Out×Zo×bC)
 |.skip,F,H=>some (.norm,F,H)|.label _,F,H=>some (.norm,F,H)|.region _ ops B,F,H=>(jf E call n ops.toList B F H).map λ(F',H')=>(.norm,F',H')|.seq a b,F,H=>match exec E call lf ro n a F H with
  |some (.norm,F',H')=>exec E call lf ro n b F' H'|r=>r
 |.cond c x y,F,H=>match ev F c with
  |some (.bool t)=>if t then exec E call lf ro n x F H else exec E call lf ro n y F H|_=>none
 |.block id c,F,H=>match exec E call lf ro n c F H with
  |some (.exit D,F',H')=>if D=id then some (.norm,F',H')else some (.exit D,F',H')|r=>r
 |.loop c,F,H=>jU (exec E call lf ro n c) lf F H|.rangeFunc g ps assign body,F,H=>match ro,ev F g with
  |false,some (.clo f a b)=>
   match call (.fn f) (a++.yld H.length::b) (H++[.loop ⟨.ready,none,F,n,ps.toList,assign,body⟩])with
   |some (_,H')=>match H'[H.length]?with
    |some (.loop r)=>match r.st with
     |.busy=>none|_=>some (r.pend.getD .norm,F,H'.set H.length .dead)
    |_=>none
   |none=>none
  |_,_=>none
 |.exit id,F,H=>some (.exit id,F,H)|.ret,F,H=>some (.ret,F,H)|_,_,_=>none
def gT(E:Env)(F:Zo)(H:bC):a_ ResultVar->bt Zu
 |[]=>some []|.tmp t::r=>(gT E F H r).map (get F t::·)|.cell a t::r=>match E.tt t,gT E F H r with
  |some d,some vs=>((dX H (get F a) d.size).bind (mk d.agg)).map (·::vs)|_,_=>none
def result:Zu->V
 |[v]=>v|vs=>.tup vs
def vT:Zv->Zu->Zo->Zo
 |t::B,v::vs,F=>vT B vs (set F t v)|_,_,F=>F
def EH{α:Type}[Inhabited α](lt:α->α->Zl):Nat->Nat->Array α->Array α
 |0,_,d=>d|k+1,i,d=>EH lt k (i+1) (Sort.insInner lt 0 i d)
def pO(n:Nat)(lt:Fin (n+1)->Fin (n+1)->Zl):Array (Fin (n+1)):=if n<12 then EH lt n 1 (finRange (n+1)).toArray else Sort.pdq lt (finRange (n+1)).toArray 0 (n+1) (Lib.bitLen (n+1)) true true
def iG(call:dw)(g:Zk)(D B:Zu)(n:Nat)(i j:Fin (n+1)):Z6:=
 match D[i.1]?,D[j.1]?with
 |some a,some b=>match bY call g (a::b::B) []with
  |some (.int .i64 c)=>some c|_=>none
 |_,_=>none
def oC{n:Nat}(t:Fin (n+1)->Fin (n+1)->Z6)(i j:Fin (n+1)):Zl:=decide ((t i j).getD 0<0)
def zQ{n:Nat}(t:Fin (n+1)->Fin (n+1)->Z6):Zl:=
 let l:=finRange (n+1)
 l.all λi=> !oC t i i&&l.all λj=>(t i j).isSome&&l.all λk=>(!(oC t i j&&oC t j k)||oC t i k)&&((oC t i j||oC t j k)|| !oC t i k)
def qf(xs:Zt)(off n:Nat)(l:a_ (Fin (n+1))):Zt:=xs.take off++l.map (λi=>(xs[off+i.1]?).getD [])++xs.drop (off+(n+1))
def pK(keep:Zk->Zl)(call:dw)(args:Zu)(H:bC):bt (V×bC):=
 match args with
 |[s,c]=>match s with
  |.bL|.dF=>some (.undef,H)|.hsl id es off len=>match len,c with
   |0,_=>some (.undef,H)|n+1,.clo g [] cb=>match H[id]?with
    |some (.row w z)=>if es=1/\w=1/\off+(n+1)<=z.length/\n<2147483648/\keep g=false then
     match borrows call.lv (H.set id .dead) ((z.drop off).take (n+1)).flatten,borrows call.lv (H.set id .dead) cb with
     |some B,some u=>if zQ (iG call g B u n)then some (.undef,H.set id (.row 1 (qf z off n (pO n (oC (iG call g B u n))).toList)))else none|_,_=>none
     else none
    |_=>none
   |_,_=>none
  |_=>none
 |_=>none
def jv(E:Env)(c:dw)(n:Nat):Callee->Zu->bC->bt (V×bC)
 |.fn f,args,H=>match E.ft f with
  |some fi=>if args.length<=fi.ntmps then
   match exec E c n false fi.ntmps fi.body args H with
   |some (.exit _,_,_)=>none|some (_,F',H')=>(gT E F' H' fi.results).map λvs=>(result vs,H')|none=>none
   else none
  |none=>if E.sort f then pK E.keep c args H else(E.known f args).map λy=>(y,H)
 |.yld id,args,H=>match H[id]?with
  |some (.loop r)=>match r.st with
   |.ready=>if args.length=r.params.length/\r.params.all (·<r.nt)then
    match exec E c n true r.nt r.assign (vT r.params args r.frame) H with
    |some (.norm,D,H2)=>match H2[id]?with
     |some (.loop r2)=>match r2.st with
      |.ready=>match exec E c n true r.nt r.body D (H2.set id (.loop {r2 with st:=.busy}))with
       |some (o,_,B)=>match B[id]?with
        |some (.loop r4)=>some (.bool (o==.norm),B.set id (.loop {r4 with st:=(if o==.norm then .ready else .done),pend:=(if o==.norm then none else some o)}))|_=>none
       |none=>none
      |_=>none
     |_=>none
    |_=>none
    else none
   |_=>none
  |_=>none
def run(E:Env):Nat->dw
 |0=>⟨0,λ_ _ _=>none⟩|n+1=>⟨n+1,jv E (run E n) n⟩
def Ej{E:Env}{n:Nat}{x:Callee}{a:Zu}{H:bC}:run E (n+1) x a H=jv E (run E n) n x a H:=rfl
end Go.VE
namespace Go.VE
variable[bV]
@[simp] def get_nil(i:Nat):get [] i=.undef:=by cases i<;>rfl
@[simp] def rJ(F:Zo)(i:Nat)(v:V):get (set F i v) i=v:=by
 induction F generalizing i with
 |nil=>induction i with
  |zero=>rfl|succ i u=>grind[set,get]
 |cons x r u=>cases i with
  |zero=>rfl|succ i=>grind[set,get]
theorem iV(F:Zo){i j:Nat}(v:V)(h:i≠j):get (set F i v) j=get F j:=by
 induction F generalizing i j with
 |nil=>
  induction i generalizing j with
  |zero=>cases j with
   |zero=>grind|succ j=>simp[set,get]
  |succ i u=>cases j with
   |zero=>simp[set,get]|succ j=>grind[set,get]
 |cons x r u=>cases i with
  |zero=>cases j with
   |zero=>grind|succ j=>simp[set,get]
  |succ i=>cases j with
   |zero=>simp[set,get]|succ j=>grind[set,get]
def EV(F:Zo){i j:Nat}(u v:V)(h:i≠j):set (set F i u) j v=set (set F j v) i u:=by
 induction F generalizing i j with
 |nil=>
  induction i generalizing j with
  |zero=>cases j with
   |zero=>grind|succ j=>simp[set]
  |succ i w=>cases j with
   |zero=>simp[set]|succ j=>grind[set]
 |cons x r w=>cases i with
  |zero=>cases j with
   |zero=>grind|succ j=>simp[set]
  |succ i=>cases j with
   |zero=>simp[set]|succ j=>grind[set]
inductive IC where
 |cells(c:Array Value)|map(es:Array MapEntry)
abbrev cu:=Nat->bt IC
def IC.at(x:IC)(w:World)(b:Nat):Prop:=
 match x with
 |.cells c=>∃el fr,w.heap[b]?=some (.cells c el fr)|.map es=>∃a,w.heap[b]?=some (.map es a)
def cu.le(I I':cu):Prop:=∀b x,I b=some x->I' b=some x
def cu.le_refl(I:cu):cu.le I I:=λ_ _ h=>h
def cu.le_trans{I J K:cu}(h:cu.le I J)(B:cu.le J K):cu.le I K:=λb x e=>B b x (h b x e)
inductive eD(I:cu):V->Value->Prop
 |bool(b:Bool):eD I (.bool b) (.bool b)|int(k:IntKind)(n:Int):eD I (.int k n) (.int k n)|str(s:ByteArray):eD I (.str s) (.string s)|dF(a:Option Addr):eD I .dF (.slice a 0 0)|bL:eD I .bL (.slice none 0 0)|fsl0(es:Nat)(a:Addr)(cap:Nat):eD I (.fsl es []) (.slice (some a) 0 cap)|fsl(es:Nat)(xs:List (List V))(b o cap:Nat)(c:Array Value)(hI:I b=some (.cells c))(hc:xs.length<=cap)
  (hu:∀x∈xs,x.length=es) (ho:∀x∈xs,∀y∈x,V.one y=true) (hb:o+xs.length*es<=c.size)
  (hr:∀(i j:Nat)x y v,xs[i]?=some x->x[j]?=some y->c[o+i*es+j]?=some v->eD I y v):
  eD I (.fsl es xs) (.slice (some ⟨b,o,none⟩) xs.length cap)
 |gN:eD I .gN (.pointer none)|fptr(cs:List V)(b o:Nat)(c:Array Value)(hI:I b=some (.cells c))(hb:o+cs.length<=c.size)
  (hr:∀(j:Nat)y v,cs[j]?=some y->c[o+j]?=some v->eD I y v):eD I (.fptr cs) (.pointer (some ⟨b,o,none⟩))
 |clo(f:FuncId)(x y:List V)(u v:Array Value)(hx:x.length=u.size)(hy:y.length=v.size)
  (h1:∀(j:Nat)a b,x[j]?=some a->u[j]?=some b->eD I a b) (h2:∀(j:Nat)a b,y[j]?=some a->v[j]?=some b->eD I a b):
  eD I (.clo f x y) (.func (.func f) u v)
 |fZ:eD I .fZ (.map none)|q_:eD I .q_ .nilFunc|fmap(kvs:List (V×V))(b:Nat)(es:Array MapEntry)(hI:I b=some (.map es))(hl:kvs.length=es.size)
  (hk:∀(j:Nat)p e,kvs[j]?=some p->es[j]?=some e->eD I p.1 e.key)
  (hv:∀(j:Nat)p e,kvs[j]?=some p->es[j]?=some e->eD I p.2 e.val):eD I (.fmap kvs) (.map (some b))
 |agg(cs:List V)(vs:Array Value)(hl:cs.length=vs.size)(h:∀(j:Nat)a b,cs[j]?=some a->vs[j]?=some b->eD I a b):
  eD I (.agg cs) (.agg vs)
 |tup(cs:List V)(vs:Array Value)(hl:cs.length=vs.size)(h:∀(j:Nat)a b,cs[j]?=some a->vs[j]?=some b->eD I a b):
  eD I (.tup cs) (.tuple vs)
structure Pl where
 b:Nat
 o:Nat
 es:Nat
 sz:Nat
abbrev Mu:=Nat->bt Pl
inductive bM(I:cu)(μ:Mu):V->Value->Prop
 |c(x:V)(v:Value)(h:eD I x v):bM I μ x v|hsl(id off len cap:Nat)(p:Pl)(hm:μ id=some p)(hc:len<=cap)(hb:p.o+(off+cap)*p.es<=p.sz):
  bM I μ (.hsl id p.es off len) (.slice (some ⟨p.b,p.o+off*p.es,none⟩) len cap)
 |hsl0(id es off:Nat)(a:Addr):bM I μ (.hsl id es off 0) (.slice (some a) 0 0)|hptr(id el off:Nat)(p:Pl)(hm:μ id=some p):bM I μ (.hptr id el off) (.pointer (some ⟨p.b,p.o+el*p.es+off,none⟩))|yld(id:Nat)(p:Pl)(hm:μ id=some p):bM I μ (.yld id) (.func (.yield p.b) #[] #[])|hmap(id:Nat)(p:Pl)(hm:μ id=some p):bM I μ (.hmap id) (.map (some p.b))|clo(f:FuncId)(x y:List V)(u v:Array Value)(hx:x.length=u.size)(hy:y.length=v.size)
  (h1:∀(j:Nat)a b,x[j]?=some a->u[j]?=some b->bM I μ a b) (h2:∀(j:Nat)a b,y[j]?=some a->v[j]?=some b->bM I μ a b):
  bM I μ (.clo f x y) (.func (.func f) u v)
 |agg(cs:List V)(vs:Array Value)(hl:cs.length=vs.size)(h:∀(j:Nat)a b,cs[j]?=some a->vs[j]?=some b->bM I μ a b):
  bM I μ (.agg cs) (.agg vs)
 |tup(cs:List V)(vs:Array Value)(hl:cs.length=vs.size)(h:∀(j:Nat)a b,cs[j]?=some a->vs[j]?=some b->bM I μ a b):
  bM I μ (.tup cs) (.tuple vs)
def Mu.le(μ μ':Mu):Prop:=∀id p,μ id=some p->μ' id=some p
def Mu.le_refl(μ:Mu):Mu.le μ μ:=λ_ _ h=>h
def eD.mono{I I':cu}(h:cu.le I I'){x:V}{v:Zp}(r:eD I x v):eD I' x v:=by induction r with|bool b=>exact .bool b|int k n=>exact .int k n|str s=>exact .str s|dF a=>exact .dF a|bL=>exact .bL|fsl0 es a cap=>exact .fsl0 es a cap|fsl es Q b o cap c C hc hu S J _ w=>exact .fsl es Q b o cap c (h _ _ C) hc hu S J w|gN=>exact .gN|fptr D b o c C J _ w=>exact .fptr D b o c (h _ _ C) J w|clo f x y u v T U _ _ z B=>exact .clo f x y u v T U z B|fZ=>exact .fZ|q_=>exact .q_|fmap L b es C G _ _ z B=>exact .fmap L b es (h _ _ C) G z B|agg D O G _ w=>exact .agg D O G w|tup D O G _ w=>exact .tup D O G w
def bM.mono{I I':cu}{μ μ':Mu}(h:cu.le I I')(B:Mu.le μ μ'){x:V}{v:Zp}(r:bM I μ x v):bM I' μ' x v:=by induction r with|c x v r=>exact .c _ _ (r.mono h)|hsl id off len cap p w hc O=>exact .hsl id off len cap p (B _ _ w) hc O|hsl0 id es off a=>exact .hsl0 id es off a|hptr id el off p w=>exact .hptr id el off p (B _ _ w)|yld id p w=>exact .yld id p (B _ _ w)|hmap id p w=>exact .hmap id p (B _ _ w)|clo f x y u v Q S _ _ z C=>exact .clo f x y u v Q S z C|agg D G J _ L=>exact .agg D G J L|tup D G J _ L=>exact .tup D G J L
def cR(I:cu)(μ:Mu)(xs:Zu)(vs:a_ Zp):Prop:=xs.length=vs.length/\∀(j:Nat)a b,xs[j]?=some a->vs[j]?=some b->bM I μ a b
def cR.nil{I:cu}{μ:Mu}:cR I μ [] []:=⟨rfl,Zc⟩
def cR.cons{I:cu}{μ:Mu}{x:V}{v:Zp}{xs:Zu}{vs:a_ Zp}(h:bM I μ x v)(r:cR I μ xs vs):cR I μ (x::xs) (v::vs):=by refine⟨by simp[r.1],?_⟩;intro j a b c u;cases j with|zero=>grind|succ j=>exact r.2 j a b Zd Zd
def cR.cons_inv{I:cu}{μ:Mu}{x:V}{xs:Zu}{B:a_ Zp}(r:cR I μ (x::xs) B):∃v vs,B=v::vs/\bM I μ x v/\cR I μ xs vs:=by have⟨u,h⟩:=r;cases B with|nil=>simp_all|cons v vs=>refine⟨v,vs,rfl,h 0 x v Zc Zc,Zd,?_⟩;intro j a b c w;exact h (j+1) a b Zd Zd
def cR.uk{I:cu}{μ:Mu}{B:a_ Zp}(r:cR I μ [] B):B=[]:=by have:=r.1;grind
def cR.append{I:cu}{μ:Mu}{xs ys:Zu}{B vs:a_ Zp}(h:cR I μ xs B)(D:cR I μ ys vs):cR I μ (xs++ys) (B++vs):=by induction xs generalizing B with|nil=>rw[cR.uk h];exact D|cons x xs u=>obtain⟨v,B,rfl,a,b⟩:=h.cons_inv;exact .cons a (u b)
def cR.mono{I I':cu}{μ μ':Mu}(h:cu.le I I')(B:Mu.le μ μ'){xs:Zu}{vs:a_ Zp}(r:cR I μ xs vs):cR I' μ' xs vs:=⟨r.1,λj a b c u=>(r.2 j a b c u).mono h B⟩
def cR.take{I:cu}{μ:Mu}{xs:Zu}{vs:a_ Zp}(r:cR I μ xs vs)(n:Nat):cR I μ (xs.take n) (vs.take n):=by refine⟨by simp[r.1],λj a b c u=>?_⟩;rw[getElem?_take]at c u;split at c<;>simp_all;exact r.2 j a b c u
def cR.drop{I:cu}{μ:Mu}{xs:Zu}{vs:a_ Zp}(r:cR I μ xs vs)(n:Nat):cR I μ (xs.drop n) (vs.drop n):=by refine⟨by simp[r.1],λj a b c u=>?_⟩;rw[getElem?_drop]at c u;exact r.2 _ a b c u
def bM.cells{I:cu}{μ:Mu}{x:V}{v:Zp}(r:bM I μ x v):cR I μ x.cells v.cells.toList:=by
 cases r with
 |c x v h=>cases h with|agg w C z h=>exact⟨by grind[V.cells,Value.cells],λj a b d D=>.c _ _ (h j a b d (by grind[Value.cells]))⟩|bool b=>exact .cons (.c _ _ (.bool b)) .nil|int k n=>exact .cons (.c _ _ (.int k n)) .nil|str s=>exact .cons (.c _ _ (.str s)) .nil|dF a=>exact .cons (.c _ _ (.dF a)) .nil|bL=>exact .cons (.c _ _ .bL) .nil|fsl0 es a cap=>exact .cons (.c _ _ (.fsl0 es a cap)) .nil|fsl es S b o cap c G hc hu T J hr=>exact .cons (.c _ _ (.fsl es S b o cap c G hc hu T J hr)) .nil|gN=>exact .cons (.c _ _ .gN) .nil|fptr w b o c G J hr=>exact .cons (.c _ _ (.fptr w b o c G J hr)) .nil|clo f x y u v L O d D=>exact .cons (.c _ _ (.clo f x y u v L O d D)) .nil|fZ=>exact .cons (.c _ _ .fZ) .nil|q_=>exact .cons (.c _ _ .q_) .nil|fmap Q b es G z hk hv=>exact .cons (.c _ _ (.fmap Q b es G z hk hv)) .nil|tup w C z h=>exact .cons (.c _ _ (.tup w C z h)) .nil
 |hsl id off len cap p B hc J=>exact .cons (.hsl id off len cap p B hc J) .nil|hsl0 id es off a=>exact .cons (.hsl0 id es off a) .nil|hptr id el off p B=>exact .cons (.hptr id el off p B) .nil|yld id p B=>exact .cons (.yld id p B) .nil|hmap id p B=>exact .cons (.hmap id p B) .nil|clo f x y u v L O d D=>exact .cons (.clo f x y u v L O d D) .nil|agg w C z h=>exact⟨by grind[V.cells,Value.cells],λj a b d D=>h j a b d (by grind[Value.cells])⟩|tup w C z h=>exact .cons (.tup w C z h) .nil
def bM.En{I:cu}{μ:Mu}{cs:Zu}{vs:Array Zp}(h:cR I μ cs vs.toList):bM I μ (.agg cs) (.agg vs):=.agg cs vs (by simpa using h.1) λj a b c u=>h.2 j a b c Zd
def bM.OO{I:cu}{μ:Mu}{cs:Zu}{vs:Array Zp}(h:cR I μ cs vs.toList):bM I μ (.tup cs) (.tuple vs):=.tup cs vs (by simpa using h.1) λj a b c u=>h.2 j a b c Zd
section inv
variable{I:cu}{μ:Mu}
def bM.qE{b:Zl}{v:Zp}(h:bM I μ (.bool b) v):v=.bool b:=by cases h with|c _ _ h=>cases h;rfl
def bM.fc{k:Zs}{n:Int}{v:Zp}(h:bM I μ (.int k n) v):v=.int k n:=by cases h with|c _ _ h=>cases h;rfl
def bM.sy{s:Zq}{v:Zp}(h:bM I μ (.str s) v):v=.string s:=by cases h with|c _ _ h=>cases h;rfl
def bM.qK{v:Zp}(h:bM I μ .dF v):∃a,v=.slice a 0 0:=by cases h with|c _ _ h=>cases h;grind
def bM.kX{es:Nat}{xs:Zt}{v:Zp}(h:bM I μ (.fsl es xs) v):eD I (.fsl es xs) v:=by cases h with|c _ _ h=>omega
def bM.lz{cs:Zu}{v:Zp}(h:bM I μ (.fptr cs) v):∃b o c,v=.pointer (some ⟨b,o,none⟩)/\I b=some (.cells c)/\o+cs.length<=c.size/\
 (∀(j:Nat)y u,cs[j]?=some y->c[o+j]?=some u->eD I y u):=by
 cases h with|c _ _ h=>cases h with|fptr cs b o c w z hr=>grind
def bM.kY{v:Zp}(h:bM I μ .bL v):v=.slice none 0 0:=by cases h with|c _ _ h=>cases h;rfl
def bM.Nz{v:Zp}(h:bM I μ .fZ v):v=.map none:=by cases h with|c _ _ h=>cases h;rfl
def bM.sJ{id el off:Nat}{v:Zp}(h:bM I μ (.hptr id el off) v):∃p,μ id=some p/\v=.pointer (some ⟨p.b,p.o+el*p.es+off,none⟩):=by cases h with|c _ _ h=>cases h|hptr _ _ _ p u=>grind
def bM.QF{id:Nat}{v:Zp}(h:bM I μ (.yld id) v):∃p,μ id=some p/\v=.func (.yield p.b) #[] #[]:=by cases h with|c _ _ h=>cases h|yld _ p u=>grind
def bM.Ap{id:Nat}{v:Zp}(h:bM I μ (.hmap id) v):∃p,μ id=some p/\v=.map (some p.b):=by cases h with|c _ _ h=>cases h|hmap _ p u=>grind
def bM.kV{id es off len:Nat}{v:Zp}(h:bM I μ (.hsl id es off len) v):
 (∃p b,μ id=some p/\p.es=es/\len<=b/\p.o+(off+b)*es<=p.sz/\v=.slice (some ⟨p.b,p.o+off*es,none⟩) len b)\/(len=0/\∃a,v=.slice (some a) 0 0):=by
 cases h with
 |c _ _ h=>cases h|hsl _ _ _ b p u hc w=>simp_all|hsl0 _ _ _ a=>grind
def bM.h_{cs:Zu}{v:Zp}(h:bM I μ (.agg cs) v):∃vs,v=.agg vs/\cR I μ cs vs.toList:=by
 cases h with
 |c _ _ h=>cases h with|agg _ vs u h=>exact⟨vs,rfl,Zd,λj a b d w=>.c _ _ (h j a b d Zd)⟩
 |agg _ vs u h=>exact⟨vs,rfl,Zd,λj a b d w=>h j a b d Zd⟩
def bM.pn{cs:Zu}{v:Zp}(h:bM I μ (.tup cs) v):∃vs,v=.tuple vs/\cR I μ cs vs.toList:=by
 cases h with
 |c _ _ h=>cases h with|tup _ vs u h=>exact⟨vs,rfl,Zd,λj a b d w=>.c _ _ (h j a b d Zd)⟩
 |tup _ vs u h=>exact⟨vs,rfl,Zd,λj a b d w=>h j a b d Zd⟩
def bM.jD{f:Zk}{x y:Zu}{v:Zp}(h:bM I μ (.clo f x y) v):∃a b,v=.func (.func f) a b/\cR I μ x a.toList/\cR I μ y b.toList:=by
 cases h with
 |c _ _ h=>cases h with
  |clo _ _ _ u v z B h1 w=>exact⟨u,v,rfl,⟨Zd,λj a b p q=>.c _ _ (h1 j a b p Zd)⟩,⟨Zd,λj a b p q=>.c _ _ (w j a b p Zd)⟩⟩
 |clo _ _ _ u v z B h1 w=>exact⟨u,v,rfl,⟨Zd,λj a b p q=>h1 j a b p Zd⟩,⟨Zd,λj a b p q=>w j a b p Zd⟩⟩
def bM.of_bool{x:V}{b:Zl}(h:bM I μ x (.bool b)):x=.bool b:=by cases h with|c _ _ h=>cases h;rfl
end inv
def s8(I:cu):Prop:=∀g u,bV.gl g=some u->eD I (.fptr u) (.pointer (some ⟨g,0,none⟩))
def s8.mono{I I':cu}(h:cu.le I I')(r:s8 I):s8 I':=λg u a=>(r g u a).mono h
structure eC(I:cu)(μ:Mu)(n:Nat)(F:Frame)(tmps:Array Value):Prop where
 size:tmps.size=n
 rel:∀t,bM I μ (get F t) (tmps.getD t undef)
 gl:s8 I
def bM.undef(I:cu)(μ:Mu):bM I μ .undef Go.undef:=.c _ _ (.tup [] #[] rfl Zc)
def eC.mono{I I':cu}{μ μ':Mu}{n:Nat}{F:Zo}{tmps:Array Zp}(h:cu.le I I')(B:Mu.le μ μ')(r:eC I μ n F tmps):eC I' μ' n F tmps:=⟨r.1,λt=>(r.2 t).mono h B,r.gl.mono h⟩
def eC.put{I:cu}{μ:Mu}{n:Nat}{F F':Zo}{a:Act}{dst:bt Nat}{x:V}{v:Zp}(r:eC I μ n F a.tmps)(h:bM I μ x v)
 (B:jB n F dst x=some F'):eC I μ n F' (a.put dst v).tmps:=by
 cases dst with
 |none=>simp[jB]at B;subst B;exact r|some d=>
  simp only[jB]at B;split at B
  .simp at B;subst B;refine⟨by simp[Act.put,r.1],λt=>?_,r.gl⟩
   by_cases u:d=t
   .subst u;have:d<a.tmps.size:=by rw[r.1];omega
    simp_all[Act.put]
   have:=r.2 t;rw[iV _ _ u];simp_all[Act.put]
  grind
def z6{I:cu}:∀(n:Nat)(v:Zp)(x:V),ofValue n v=some x->eD I x v:=by intro n;induction n with|zero=>grind[ofValue]|succ n B=>intro v x h;unfold ofValue at h;split at h<;>(try (simp at h;subst h;constructor))<;>(try grind);simp at h;obtain⟨C,w,rfl⟩:=h;have key:∀(l:a_ Zp)(u:Zu),l.mapM (ofValue n)=some u->u.length=l.length/\∀(j:Nat)a b,u[j]?=some a->l[j]?=some b->eD I a b:=(by intro l;induction l with|nil=>grind|cons v l z=>grind[ζg]);have⟨D,c⟩:=key _ _ w;exact .agg _ _ Zd λj a b d G=>c j a b d Zd
def dx{I:cu}{μ:Mu}{n:Nat}{F:Zo}{a:Act}(r:eC I μ n F a.tmps){o:Zr}{x:V}(h:ev F o=some x):bM I μ x (a.eval o):=by cases o with|tmp t=>simp[ev]at h;subst h;exact r.2 t|const v=>exact .c _ _ (z6 4 _ _ h)|func f=>simp[ev]at h;subst h;exact .c _ _ (.clo f [] [] #[] #[] rfl rfl Zc Zc)|global g=>obtain⟨u,b,rfl⟩:=ζf.1 h;exact .c _ _ (r.gl g u b)
def mX{I:cu}{μ:Mu}{n:Nat}{F:Zo}{a:Act}(r:eC I μ n F a.tmps):∀{l:a_ Zr}{xs:Zu},fu F l=some xs->cR I μ xs (l.map a.eval):=by intro l;induction l with|nil=>intro xs h;simp[fu]at h;subst h;exact .nil|cons o l u=>intro xs h;simp[fu]at h;split at h;(next v z b w=>simp at h;subst h;exact .cons (dx r b) (u w));grind
def IP{I:cu}{μ:Mu}{n:Nat}{F:Zo}{a:Act}(r:eC I μ n F a.tmps):∀{l:a_ (Nat×Zr)}{xs:a_ (Nat×V)},lg F l=some xs->
 xs.length=l.length/\∀(j:Nat)x y,xs[j]?=some x->l[j]?=some y->x.1=y.1/\bM I μ x.2 (a.eval y.2):=by
 intro l
 induction l with
 |nil=>grind[lg]|cons o l z=>
  intro xs h;simp[lg]at h;split at h
  .rename_i v D h1 B;simp at h;subst h;have⟨C,b⟩:=z B;refine⟨by simp[C],λj x y u w=>?_⟩
   cases j with
   |zero=>simp at u w;subst u;subst w;exact⟨rfl,dx r h1⟩|succ j=>grind
  grind
def kZ:TypeDesc->TK
 |.bool=>.bool|.int k=>.int k|.string=>.str|.pointer e=>.ptr e|.slice e=>.slice e|.struct fs=>.struct (fs.toList.map λf=>(f.offset,f.type))|.array n e=>.array n e|.map k e=>.map k e|_=>.other
def Bw:Zp->Zl
 |.agg _=>true|_=>false
def uN(P:Program)(t:Zm):bt TD:=
 match P.info? t,P.underlying t with
 |some i,some d=>match i.zero with
  |some z=>match z.cells.toList.mapM (ofValue 4)with
   |some u=>if u.length=i.size/\u.all V.one=true/\Bw z=(TD.mk i.size i.bytes u (kZ d)).agg then some ⟨i.size,i.bytes,u,kZ d⟩else none|none=>none
  |none=>none
 |_,_=>none
def ic(a:Zy):Array Zp:=(a.map (Value.int .i64)).toArray
structure uP(P:Program)(t:TypeId)(n:Nat):Prop where
 eq:∀(w:World)(x y:Operand)(a b:List Int),a.length=n->b.length=n->
  (do eqGuard .eql t x y (.agg (ic a)) (.agg (ic b));binOp .eql t (.agg (ic a)) (.agg (ic b))).run P w=.ok (.bool (a==b)) w
 ne:∀(w:World)(x y:Operand)(a b:List Int),a.length=n->b.length=n->
  (do eqGuard .neq t x y (.agg (ic a)) (.agg (ic b));binOp .neq t (.agg (ic a)) (.agg (ic b))).run P w=.ok (.bool !(a==b)) w
 key:∀(w:World)(a b:List Int),a.length=n->b.length=n->(equal t (.agg (ic a)) (.agg (ic b))).run P w=.ok (a==b) w
 check:∀(w:World)(e:Bool)(a:List Int),a.length=n->(checkKey e 10000 t (.agg (ic a))).run P w=.ok () w
 kind:∃d,P.underlying t=some d/\((∃n e,d=.array n e)\/(∃fs,d=.struct fs))
structure eG(P:Program)(E:Env):Prop where
 tt:∀t d,E.tt t=some d->uN P t=some d
 ft:∀f fi,E.ft f=some fi->∃fn,P.funcs[f]?=some fn/\fn.body=some fi.body/\fn.ntmps=fi.ntmps/\fn.results.toList=fi.results/\(fn.name== "runtime.NumGoroutine")=false
 eqN:∀t n,E.eqN t=some n->uP P t n
structure oR(P:Program)(t:TypeId)(d:TD):Prop where
 info:∃i z,P.info? t=some i/\i.size=d.size/\i.bytes=d.bytes/\i.zero=some z/\(∀I μ,cR I μ d.zero z.cells.toList)/\d.zero.length=d.size/\d.zero.all V.one=true/\Bw z=d.agg
 und:∃desc,P.underlying t=some desc/\kZ desc=d.kind
def NH{I:cu}{μ:Mu}:∀(l:a_ Zp)(ys:Zu),l.mapM (ofValue 4)=some ys->cR I μ ys l:=by intro l;induction l with|nil=>intro ys h;simp at h;subst h;exact .nil|cons v l u=>intro ys h;simp only[List.mapM_cons,Option.pure_def,Option.bind_eq_bind,ζg,ζa]at h;obtain⟨y,w,z,B,rfl⟩:=h;exact .cons (.c _ _ (z6 4 _ _ w)) (u z B)
def eG.ty{P:Program}{E:Env}(h:eG P E){t:Zm}{d:TD}(B:E.tt t=some d):oR P t d:=by
 have:=h.tt t d B;unfold uN at this;split at this;rename_i i a u w;split at this;rename_i z C;split at this;rename_i G b;split at this;next D=>simp only[ζa]at this;subst this;exact⟨⟨i,z,u,rfl,rfl,C,λI μ=>NH _ _ b,D⟩,⟨a,w,rfl⟩⟩
 simp at this;simp at this;simp at this;simp at this
section runs
variable{P:Program}{w:World}{t:Zm}{d:TD}
def dK{a:TypeDesc}(h:P.underlying t=some a):(underlying t).run P w=.ok a w:=by simp[underlying,h]
def nU{i:TypeInfo}(h:P.info? t=some i):(typeInfo t).run P w=.ok i w:=by simp[typeInfo,h]
def oR.jM(h:oR P t d):(sizeOf t).run P w=.ok d.size w:=by have⟨i,z,u,B,_⟩:=h.info;simp[sizeOf,nU u,B]
def oR.dK(h:oR P t d):∃a,P.underlying t=some a/\kZ a=d.kind/\∀w,(underlying t).run P w=.ok a w:=by have⟨a,b,u⟩:=h.und;exact⟨a,b,u,λw=>VE.dK b⟩
def oR.Iu(h:oR P t d):(isAgg t).run P w=.ok d.agg w:=by have⟨a,b,u⟩:=h.und;unfold isAgg;simp only[run_bind,VE.dK b,andThen_ok];cases a<;>simp[TD.agg,<-u,kZ]
def oR.B5(h:oR P t d):∃z,(∀w,(zeroValue t).run P w=.ok z w)/\(∀I μ,cR I μ d.zero z.cells.toList)/\d.zero.length=d.size/\d.zero.all V.one=true:=by have⟨i,z,u,_,_,B,a,C,b,_⟩:=h.info;exact⟨z,λw=>by simp[zeroValue,nU u,B],a,C,b⟩
end runs
def oR.Qf{P:Program}{t:Zm}{d:TD}(h:oR P t d):∃z,(∀w,(zeroValue t).run P w=.ok z w)/\∀I μ x,VE.mk d.agg d.zero=some x->bM I μ x z:=by
 have⟨i,z,G,_,_,J,a,L,b,u⟩:=h.info;refine⟨z,λw=>by simp[zeroValue,nU G,J],λI μ x C=>?_⟩;have B:=a I μ;cases D:d.agg with|true=>rw[D]at C u;cases z<;>simp[Bw]at u;simp only[VE.mk,if_true,ζa]at C;subst C;exact .En (by simpa[Value.cells]using B)|false=>
  rw[D]at C u;simp only[VE.mk,false_eq_true,if_false]at C;split at C
  .rename_i v hv;simp only[ζa]at C;subst C;rw[hv]at B;have e:z.cells.toList=[z]:=(by cases z<;>first|rfl|simp[Bw]at u);rw[e]at B;exact B.2 0 _ _ rfl rfl
  simp at C
def e_{E:Env}{t:Zm}{k:TK}(h:E.kindOf t=some k):∃d,E.tt t=some d/\d.kind=k:=by unfold Env.kindOf at h;simpa[ζf]using h
def A9{d:TypeDesc}{k:Zs}(h:kZ d=.int k):d=.int k:=by cases d<;>simp_all [kZ]
def H6{d:TypeDesc}(h:kZ d=.bool):d=.bool:=by cases d<;>simp_all [kZ]
def xW{d:TypeDesc}(h:kZ d=.str):d=.string:=by cases d<;>simp_all [kZ]
def iY{d:TypeDesc}{e:Zm}(h:kZ d=.slice e):d=.slice e:=by cases d<;>simp_all [kZ]
def Aw{d:TypeDesc}{n:Nat}{e:Zm}(h:kZ d=.array n e):d=.array n e:=by cases d<;>simp_all [kZ]
def yQ{d:TypeDesc}{k e:Zm}(h:kZ d=.map k e):d=.map k e:=by cases d<;>simp_all [kZ]
def xH{d:TypeDesc}{fs:a_ (Nat×Zm)}(h:kZ d=.struct fs):∃B,d=.struct B/\fs=B.toList.map λf=>(f.offset,f.type):=by cases d<;>simp_all [kZ]
def zw{I:cu}{μ:Mu}{cs r:Zu}{vs:a_ Zp}{off n:Nat}(h:cR I μ cs vs)(a:cut cs off n=some r):
 cR I μ r ((vs.drop off).take n)/\r.length=n/\off+n<=cs.length\/(n=0/\r=[]):=by
 unfold cut at a;simp only at a;split at a
 .rename_i u;simp only[ζa]at a;subst a
  by_cases w:n=0
  .right;subst w;simp
  left;refine⟨(h.drop off).take n,u,?_⟩;simp at u;omega
 simp at a
def K8{I:cu}{μ:Mu}{cs:Zu}{x:V}{vs:Array Zp}(h:mk true cs=some x)(r:cR I μ cs vs.toList):bM I μ x (.agg vs):=by simp only[mk,if_true,ζa]at h;subst h;exact .En r
def mk_one{I:cu}{μ:Mu}{cs:Zu}{x:V}{vs:a_ Zp}(h:mk false cs=some x)(r:cR I μ cs vs):∃v,vs=[v]/\bM I μ x v:=by simp only[mk,false_eq_true,if_false]at h;split at h;simp only[ζa]at h;subst h;obtain⟨v,u,rfl,a,b⟩:=r.cons_inv;exact⟨v,by rw[b.uk],a⟩;simp at h
def Gd{P:Program}{w:World}{I:cu}{μ:Mu}{t:Zm}{d:TD}{cs r:Zu}{vs:Array Zp}{x:V}{off:Nat}(D:oR P t d)(h:cR I μ cs vs.toList)
 (b:cut cs off d.size=some r)(B:mk d.agg r=some x):∃u,(part t vs off).run P w=.ok u w/\bM I μ x u:=by
 unfold part;simp only[run_bind,D.Iu,andThen_ok]
 cases z:d.agg with
 |true=>
  rw[z]at B;refine⟨.agg (vs.extract off (off+d.size)),by simp[D.jM],?_⟩
  refine K8 B ?_;have e:(vs.extract off (off+d.size)).toList=(vs.toList.drop off).take d.size:=Zc
  rw[e];rcases zw h b with⟨a,_⟩|⟨c,rfl⟩
  .exact a
  rw[c];exact .nil
 |false=>
  rw[z]at B;rcases zw h b with⟨a,J,_⟩|⟨c,rfl⟩
  .have⟨v,hv,C⟩:=mk_one B a;refine⟨v,?_,C⟩;have G:d.size=1:=by
    have:=a.1;rw[hv]at this;simp at this;omega
   rw[G]at hv;have:vs[off]?=some v:=by have:=congrArg (·[0]?) hv;simpa[getElem?_take,getElem?_drop]using this
   simp[this]
  simp[mk]at B
def JO{I:cu}{μ:Mu}:∀(az:Zu)(a:Zy)(B:a_ Zp),gY az=some a->cR I μ az B->B=a.map (Value.int .i64)/\a.length=az.length:=by intro az;induction az with|nil=>intro a B h u;simp only[gY,ζa]at h;subst h;rw[u.uk];simp|cons x az w=>intro a B h u;obtain⟨v,B,rfl,c,d⟩:=u.cons_inv;have z:∃y,x=.int .i64 y:=(by cases x with|int k y=>cases k<;>simp[gY]at h⊢|_=>simp[gY]at h);obtain⟨y,rfl⟩:=z;simp only[gY,ζf]at h;obtain⟨b,C,rfl⟩:=h;have⟨g1,g2⟩:=w _ _ C d;have:=c.fc;subst this;exact⟨by simp[g1],by simp[g2]⟩
def pq{I:cu}{μ:Mu}{az:Zu}{a:Zy}{B:Array Zp}(h:gY az=some a)(D:cR I μ az B.toList):B=ic a/\a.length=az.length:=by have⟨b,u⟩:=JO _ _ _ h D;refine⟨?_,u⟩;have:=congrArg List.toArray b;simpa[ic]using this
def vF{az B:Zu}{r:Zl}(h:j8 az B=some r):∃a b,gY az=some a/\gY B=some b/\a.length=b.length/\r=(a==b):=by
 unfold j8 at h;split at h;rename_i a b c u;split at h;next w=>simp only[ζa]at h;exact⟨a,b,c,u,w,h.symm⟩
 simp at h;simp at h
section
variable{P:Program}{E:Env}{I:cu}{μ:Mu}{n:Nat}{F:Zo}{a:Act}{w:World}
def Lz(f:BinOp)(t:Zm)(p q:Zr)(k B:Zs)(m m':Int):(eqGuard f t p q (.int k m) (.int B m')).run P w=.ok () w:=by unfold eqGuard;cases f<;>simp
def Ka(f:BinOp)(t:Zm)(p q:Zr)(s B:Zq):(eqGuard f t p q (.string s) (.string B)).run P w=.ok () w:=by unfold eqGuard;cases f<;>simp
def JN(f:BinOp)(t:Zm)(p q:Zr)(s B:Zl):(eqGuard f t p q (.bool s) (.bool B)).run P w=.ok () w:=by unfold eqGuard;cases f<;>simp
def Gu(d:Nat){t:Zm}(x y:Zl)(h:P.underlying t=some .bool):(equalIn (d+1) t (.bool x) (.bool y)).run P w=.ok (x==y) w:=by simp only[equalIn,run_bind,dK h,andThen_ok,run_pure]
def A7{t:Zm}(x y:Zl)(h:P.underlying t=some .bool):(equal t (.bool x) (.bool y)).run P w=.ok (x==y) w:=Gu 9999 x y h
def Ai(d:Nat){t:Zm}{k:Zs}(x y:Int)(h:P.underlying t=some (.int k)):(equalIn (d+1) t (.int k x) (.int k y)).run P w=.ok (x==y) w:=by simp only[equalIn,run_bind,dK h,andThen_ok,run_pure,if_true]
def D8(d:Nat){t e:Zm}(B:bt Addr)(l c:Nat)(h:P.underlying t=some (.slice e)):(equalIn (d+1) t (.slice B l c) (.slice none 0 0)).run P w=.ok B.isNone w:=by cases B<;>simp only[equalIn,run_bind,dK h,andThen_ok,run_pure]<;>rfl
def GP(d:Nat){t e:Zm}(B:bt Addr)(h:P.underlying t=some (.pointer e)):(equalIn (d+1) t (.pointer B) (.pointer none)).run P w=.ok B.isNone w:=by cases B<;>simp only[equalIn,run_bind,dK h,andThen_ok,run_pure]<;>rfl
def G0(d:Nat){t e D:Zm}(B:bt Nat)(h:P.underlying t=some (.map e D)):(equalIn (d+1) t (.map B) (.map none)).run P w=.ok B.isNone w:=by cases B<;>simp only[equalIn,run_bind,dK h,andThen_ok,run_pure]<;>rfl
def C8(U:eG P E){t:Zm}{k:TK}{x y:V}{u v:Zp}{b:Zl}(m:E.kindOf t=some k)(h:tu k x y=some b)(B:bM I μ x u)(D:bM I μ y v):
 (equal t u v).run P w=.ok b w/\(∀op p q,(eqGuard op t p q u v).run P w=.ok () w)/\binOp .eql t u v=(do pure (.bool (<-equal t u v)))/\binOp .neq t u v=(do pure (.bool (!(<-equal t u v)))):=by
 have⟨d,T,O⟩:=e_ m;have⟨a,f,C,_⟩:=(U.ty T).dK;rw[O]at C;have g:∀(e:Zm)(z:bt Addr)(l c:Nat),P.underlying t=some (.slice e)->b=z.isNone->
  (equal t (.slice z l c) (.slice none 0 0)).run P w=.ok b w/\(∀op p q,(eqGuard op t p q (.slice z l c) (.slice none 0 0)).run P w=.ok () w)/\binOp .eql t (.slice z l c) (.slice none 0 0)=(do pure (.bool (<-equal t (.slice z l c) (.slice none 0 0))))/\binOp .neq t (.slice z l c) (.slice none 0 0)=(do pure (.bool (!(<-equal t (.slice z l c) (.slice none 0 0))))):=by
  intro e z l c i L;refine⟨?_,λop p q=>by unfold eqGuard;cases op<;>simp,rfl,rfl⟩
  rw[L];exact D8 9999 z l c i
 have G:∀(e:Zm)(z:bt Addr),P.underlying t=some (.pointer e)->b=z.isNone->
  (equal t (.pointer z) (.pointer none)).run P w=.ok b w/\(∀op p q,(eqGuard op t p q (.pointer z) (.pointer none)).run P w=.ok () w)/\binOp .eql t (.pointer z) (.pointer none)=(do pure (.bool (<-equal t (.pointer z) (.pointer none))))/\binOp .neq t (.pointer z) (.pointer none)=(do pure (.bool (!(<-equal t (.pointer z) (.pointer none))))):=by
  intro e z i L;refine⟨?_,λop p q=>by unfold eqGuard;cases op<;>simp,rfl,rfl⟩
  rw[L];exact GP 9999 z i
 have J:∀(e S:Zm)(z:bt Nat),P.underlying t=some (.map e S)->b=z.isNone->
  (equal t (.map z) (.map none)).run P w=.ok b w/\(∀op p q,(eqGuard op t p q (.map z) (.map none)).run P w=.ok () w)/\binOp .eql t (.map z) (.map none)=(do pure (.bool (<-equal t (.map z) (.map none))))/\binOp .neq t (.map z) (.map none)=(do pure (.bool (!(<-equal t (.map z) (.map none))))):=by
  intro e S z i L;refine⟨?_,λop p q=>by unfold eqGuard;cases op<;>simp,rfl,rfl⟩
  rw[L];exact G0 9999 z i
 unfold tu at h;split at h<;>(try (simp only[ζa]at h;subst h))
 .have:=iY C;subst this;rw[B.kY,D.kY];exact g _ none 0 0 f rfl
 .have:=iY C;subst this;rw[D.kY];have W:=B.kX
  cases W with
  |fsl0 _ z j=>exact g _ _ _ _ f rfl|fsl=>exact g _ _ _ _ f rfl
 .have:=iY C;subst this;rw[D.kY];rcases B.kV with⟨p,j,_,_,_,_,Q⟩|⟨_,z,Q⟩
  .rw[Q];exact g _ _ _ _ f rfl
  rw[Q];exact g _ _ _ _ f rfl
 .obtain⟨e,rfl⟩:∃e,a=.pointer e:=by cases a<;>simp_all [kZ]
  cases B with|c _ _ B=>cases B;cases D with|c _ _ D=>cases D;exact G _ none f rfl
 .obtain⟨e,rfl⟩:∃e,a=.pointer e:=by cases a<;>simp_all [kZ]
  cases D with|c _ _ D=>cases D;cases B with|c _ _ B=>cases B;exact G _ _ f rfl
 .obtain⟨e,rfl⟩:∃e,a=.pointer e:=by cases a<;>simp_all [kZ]
  cases D with
  |c _ _ D=>
   cases D
   cases B with
   |c _ _ B=>cases B|hptr=>exact G _ _ f rfl
 .have:=yQ C;subst this;cases B with|c _ _ B=>cases B;cases D with|c _ _ D=>cases D;exact J _ _ none f rfl
 .have:=yQ C;subst this;cases D with|c _ _ D=>cases D;cases B with|c _ _ B=>cases B;exact J _ _ _ f rfl
 .have:=yQ C;subst this
  cases D with
  |c _ _ D=>
   cases D
   cases B with
   |c _ _ B=>cases B|hmap=>exact J _ _ _ f rfl
 cases h
def O8(J:eG P E){op:BinOp}{t:Zm}{x y z:V}{u v:Zp}(p q:Zr)(h:GA E op t x y=some z)(O:bM I μ x u)(U:bM I μ y v):
 ∃r,(do eqGuard op t p q u v;binOp op t u v).run P w=.ok r w/\bM I μ z r:=by
 unfold GA at h;split at h
 .
  rename_i k m i m';rw[O.fc,U.fc];simp only[run_bind,Lz,andThen_ok];split at h
  .
   split at h
   .simp at h
   rename_i B;simp only[ζa]at h;subst h;exact⟨_,by simp[binOp,Op.shift,B],.c _ _ (.int _ _)⟩
  .split at h
   .simp at h
   rename_i B;simp only[ζa]at h;subst h;exact⟨_,by simp[binOp,Op.shift,B],.c _ _ (.int _ _)⟩
  split at h
  .rename_i T W c;subst c
   cases op with
   |shl=>exact absurd rfl T|shr=>exact absurd rfl W|add=>simp only[ζa]at h;subst h;exact⟨_,by simp[binOp,intArith],.c _ _ (.int _ _)⟩|sub=>simp only[ζa]at h;subst h;exact⟨_,by simp[binOp,intArith],.c _ _ (.int _ _)⟩|mul=>simp only[ζa]at h;subst h;exact⟨_,by simp[binOp,intArith],.c _ _ (.int _ _)⟩|quo=>
    simp only at h;split at h
    .simp at h
    rename_i B;simp only[ζa]at h;subst h;exact⟨_,by simp[binOp,Op.intDiv,B],.c _ _ (.int _ _)⟩
   |rem=>
    simp only at h;split at h
    .simp at h
    rename_i B;simp only[ζa]at h;subst h;exact⟨_,by simp[binOp,Op.intDiv,B],.c _ _ (.int _ _)⟩
   |and=>simp only[ζa]at h;subst h;exact⟨_,by simp[binOp,intBits],.c _ _ (.int _ _)⟩|or=>simp only[ζa]at h;subst h;exact⟨_,by simp[binOp,intBits],.c _ _ (.int _ _)⟩|xor=>simp only[ζa]at h;subst h;exact⟨_,by simp[binOp,intBits],.c _ _ (.int _ _)⟩|andNot=>simp only[ζa]at h;subst h;exact⟨_,by simp[binOp,intBits],.c _ _ (.int _ _)⟩|eql=>simp only[ot,map_some,ζa]at h;subst h;exact⟨_,by simp[binOp,intCmp],.c _ _ (.bool _)⟩|neq=>simp only[ot,map_some,ζa]at h;subst h;exact⟨_,by simp[binOp,intCmp],.c _ _ (.bool _)⟩|lss=>simp only[ot,map_some,ζa]at h;subst h;exact⟨_,by simp[binOp,intCmp],.c _ _ (.bool _)⟩|leq=>simp only[ot,map_some,ζa]at h;subst h;exact⟨_,by simp[binOp,intCmp],.c _ _ (.bool _)⟩|gtr=>simp only[ot,map_some,ζa]at h;subst h;exact⟨_,by simp[binOp,intCmp],.c _ _ (.bool _)⟩|geq=>simp only[ot,map_some,ζa]at h;subst h;exact⟨_,by simp[binOp,intCmp],.c _ _ (.bool _)⟩
  simp at h
 .
  rename_i s j;rw[O.sy,U.sy];simp only[run_bind,Ka,andThen_ok];split at h
  .split at h
   .simp at h
   rename_i B;simp only[ζa]at h;subst h;exact⟨_,by simp only[binOp,Op.stringOp];rw[if_neg B];rfl,.c _ _ (.str _)⟩
  all_goals first
   |(simp only[ζa]at h;subst h;exact⟨_,by simp[binOp,Op.stringOp],.c _ _ (.bool _)⟩)|simp at h
 .
  rename_i b l;rw[O.qE,U.qE];simp only[run_bind,JN,andThen_ok];split at h
  next c=>have⟨d,X,D⟩:=e_ c;have⟨e,a,C,_⟩:=(J.ty X).dK;rw[D]at C;have:=H6 C;subst this;simp only[ζa]at h;subst h;exact⟨_,by simp only[binOp,run_bind,A7 _ _ a,andThen_ok,run_pure],.c _ _ (.bool _)⟩
  next c=>have⟨d,X,D⟩:=e_ c;have⟨e,a,C,_⟩:=(J.ty X).dK;rw[D]at C;have:=H6 C;subst this;simp only[ζa]at h;subst h;exact⟨_,by simp only[binOp,run_bind,A7 _ _ a,andThen_ok,run_pure],.c _ _ (.bool _)⟩
  simp at h
 .
  rename_i az n;obtain⟨o,rfl,L⟩:=O.h_;obtain⟨A,rfl,Q⟩:=U.h_;split at h
  .rename_i m G;split at h
   next g=>simp only[ζf]at h;obtain⟨r,f,rfl⟩:=h;obtain⟨Y,Z,a,C,S,rfl⟩:=vF f;obtain⟨rfl,e1⟩:=pq a L;obtain⟨rfl,e2⟩:=pq C Q;exact⟨_,(J.eqN _ _ G).eq w p q Y Z Za Za,.c _ _ (.bool _)⟩
   simp at h
  .rename_i m G;split at h
   next g=>simp only[ζf]at h;obtain⟨r,f,rfl⟩:=h;obtain⟨Y,Z,a,C,S,rfl⟩:=vF f;obtain⟨rfl,e1⟩:=pq a L;obtain⟨rfl,e2⟩:=pq C Q;exact⟨_,(J.eqN _ _ G).ne w p q Y Z Za Za,.c _ _ (.bool _)⟩
   simp at h
  simp at h

 split at h
 next k c=>simp only[ζf]at h;obtain⟨b,B,rfl⟩:=h;have⟨a,C,S,_⟩:=C8 (w:=w) J c B O U;exact⟨.bool b,by rw[run_bind,C,S];simp[andThen,a],.c _ _ (.bool _)⟩
 next k c=>simp only[ζf]at h;obtain⟨b,B,rfl⟩:=h;have⟨a,C,_,S⟩:=C8 (w:=w) J c B O U;exact⟨.bool !b,by rw[run_bind,C,S];simp[andThen,a],.c _ _ (.bool _)⟩
 simp at h
def GM(off:Nat):∀(l:a_ Zp)(k:Nat)(cells:Array Zp),off+k+l.length<=cells.size->
 ((l.zipIdx k).foldl (λcs(p:Zp×Nat)=>cs.setIfInBounds (off+p.2) p.1) cells).toList=cells.toList.take (off+k)++l++cells.toList.drop (off+k+l.length):=by
 intro l
 induction l with
 |nil=>simp_all|cons v l u=>
  intro k cells h;simp at h;simp;rw[u (k+1) _ (by simp;omega)]
  simp;rw[show off+(k+1)=off+k+1 from Za,List.take_succ_eq_append_getElem Zd]
  rw[List.take_set_of_le Za,List.getElem_set_self]
  rw[List.drop_set_of_lt Za]
  grind
def Is{cs xs:Zu}{cells:Array Zp}{v:Zp}{off:Nat}(h:cR I μ cs cells.toList)(B:cR I μ xs v.cells.toList)(D:off+xs.length<=cs.length):
 cR I μ (cs.take off++xs++cs.drop (off+xs.length)) (v.cells.zipIdx.foldl (λcs(p:Zp×Nat)=>cs.setIfInBounds (off+p.2) p.1) cells).toList:=by
 have e:v.cells.zipIdx.foldl (λcs p=>cs.setIfInBounds (off+p.2) p.1) cells=(v.cells.toList.zipIdx 0).foldl (λcs p=>cs.setIfInBounds (off+p.2) p.1) cells:=by rw[<-Array.foldl_toList];simp
 have a:=h.1;have u:=B.1;rw[e,GM off _ 0 _ Zd]
 rw[<-u];exact((h.take off).append B).append (h.drop _)
def AN{place place':Nat->bt (Nat×Nat)}(U:∀i p,place i=some p->place' i=some p):∀(vs:a_ (Nat×V))(B:a_ (Nat×Zp))(cs r:Zu)(cells:Array Zp),
 vs.length=B.length->(∀(j:Nat)x y,vs[j]?=some x->B[j]?=some y->x.1=y.1/\bM I μ x.2 y.2)->cR I μ cs cells.toList->sZ place cs vs=some r->
 ∃D,fill place' cells B=some D/\cR I μ r D.toList:=by
 intro vs
 induction vs with
 |nil=>
  intro B cs r cells L _ c w
  cases B with
  |nil=>simp[sZ]at w;subst w;exact⟨cells,rfl,c⟩|cons _ _=>simp_all
 |cons x vs Q=>
  intro B cs r cells L d c w
  cases B with
  |nil=>simp_all|cons y B=>
   have⟨i,x⟩:=x;have⟨S,y⟩:=y;have⟨C,z⟩:=d 0 (i,x) (S,y) rfl rfl;subst C;simp only at z;simp only[sZ]at w;split at w
   .simp at w
   rename_i off size G;split at w
   .simp at w
   rename_i T;have u:=z.cells;have O:x.cells.length=y.cells.size:=by simpa using u.1
   have W:cs.length=cells.size:=by simpa using c.1
   have J:¬(decide (y.cells.size≠size)||decide (off+y.cells.size>cells.size))=true:=by grind
   simp at T;have⟨D,e,X⟩:=Q B _ r _ (by simpa using L) (λj a b p q=>d (j+1) a b (by simpa using p) (by simpa using q)) (Is c u Za) w
   refine⟨D,?_,X⟩;simp only[fill,U _ _ G];rw[if_neg J];omega
def Ks(ps:Array (Nat×Zr))(f:Zr->Zp):(ps.map λ(i,x)=>(i,f x)).toList=ps.toList.map λp=>(p.1,f p.2):=Zc
def DO{ps:Array (Nat×Zr)}{vs:a_ (Nat×V)}(r:eC I μ n F a.tmps)(h:lg F ps.toList=some vs):
 vs.length=(ps.map λ(i,x)=>(i,a.eval x)).toList.length/\∀(j:Nat)x y,vs[j]?=some x->(ps.map λ(i,x)=>(i,a.eval x)).toList[j]?=some y->x.1=y.1/\bM I μ x.2 y.2:=by
 have⟨u,b⟩:=IP r h;rw[Ks]
 grind
def LC(D:eG P E):∀(B:a_ Field)(pl:a_ (Nat×Nat)),mo E (B.map λf=>(f.offset,f.type))=some pl->
 ((B.mapM λf=>do pure (f.offset,<-sizeOf f.type)):Sem (a_ (Nat×Nat))).run P w=.ok pl w:=by
 intro B
 induction B with
 |nil=>intro pl h;simp[mo]at h;simp_all|cons f B z=>
  intro pl h;simp[mo]at h;split at h
  next d ps C u=>simp at h;subst h;have:=z _ u;simp only[List.mapM_cons,run_bind,(D.ty C).jM,andThen_ok,run_pure,this]
  grind
def Ju(D:eG P E)(B:Array Field)(pl:a_ (Nat×Nat))(h:mo E (B.toList.map λf=>(f.offset,f.type))=some pl):
 ((B.mapM λf=>do pure (f.offset,<-sizeOf f.type)):Sem (Array (Nat×Nat))).run P w=.ok pl.toArray w:=by
 rw[Array.mapM_eq_mapM_toList];simp only[Sem.run_map,LC D _ _ h,andThen_ok]
def MX(B:eG P E)(r:eC I μ n F a.tmps){t:Zm}{ps:Array (Nat×Zr)}{x:V}(h:bP E F (.build t ps)=some x):
 ∃v,(Instr.build t (ps.map λ(i,x)=>(i,a.eval x))).run P w=.ok v w/\bM I μ x v:=by
 simp[bP]at h;split at h
 .rename_i d S T D;have⟨U,b⟩:=DO r D;have⟨z,X,u,_⟩:=(B.ty T).B5;have⟨c,f,C,Y⟩:=(B.ty T).dK;unfold Instr.build;simp[run_bind,X,Y,andThen_ok];split at h
  .rename_i fs hk;rw[hk]at C;obtain⟨Z,rfl,rfl⟩:=xH C;split at h
   .rename_i pl G;simp at h;obtain⟨J,L,rfl⟩:=h;have⟨O,g1,g2⟩:=AN (place':=λi=>pl.toArray[i]?) Zd S _ d.zero J z.cells U b (u I μ) L
    refine⟨.agg O,?_,.En g2⟩;have:=Ju (w:=w) B Z pl G;simp_all
   grind
  .rename_i e hk;rw[hk]at C;have:=Aw C;subst this;split at h
   .rename_i W Q;simp at h;obtain⟨J,L,rfl⟩:=h;have⟨O,g1,g2⟩:=AN (place':=λi=>some (i*W.size,W.size)) Zd S _ d.zero J z.cells U b (u I μ) L
    refine⟨.agg O,?_,.En g2⟩;simp[run_bind,(B.ty Q).jM,andThen_ok];simp_all
   grind
  grind
 grind
def oP(b o k:Nat):(⟨b,o,none⟩:Addr).add k=⟨b,o+k,none⟩:=by unfold Addr.add;grind
def DA{cs:Zu}{b o:Nat}{c:Array Zp}(k:Nat)(B:I b=some (.cells c))(D:o+cs.length<=c.size)
 (a:∀(j:Nat)y u,cs[j]?=some y->c[o+j]?=some u->eD I y u)(d:k<=cs.length):bM I μ (.fptr (cs.drop k)) (.pointer (some ⟨b,o+k,none⟩)):=
 .c _ _ (.fptr _ b (o+k) c B (by simp;omega) λj y u e w=>a (k+j) y u Zd Zd)
def ID(O:eG P E)(r:eC I μ n F a.tmps){s:Zm}{o:Zr}{f:Nat}{x:V}(h:bP E F (.fieldAddr s o f)=some x):
 ∃v,(fieldAt s (a.eval o) f).run P w=.ok v w/\bM I μ x v:=by
 simp[bP]at h;split at h
 .rename_i fs p hk S;have⟨d,T,C⟩:=e_ hk;have⟨i,m,L,U⟩:=(O.ty T).dK;rw[C]at L;obtain⟨W,rfl,rfl⟩:=xH L;have j:=dx r S;split at h
  .rename_i off t Q;simp at Q;obtain⟨g,X,rfl,rfl⟩:=Q;have z:W[f]?=some g:=by grind
   split at h
   .rename_i dt D;split at h
    .simp_all
    rename_i G;have B:∀(b u:Nat),(fieldAt s (.pointer (some ⟨b,u,none⟩)) f).run P w=.ok (.pointer (some ⟨b,u+g.offset,none⟩)) w:=by intro b u;unfold fieldAt;simp[run_bind,U,andThen_ok,z,sureAddr,run_pure,fieldPlace,(O.ty D).jM,if_neg G,oP]
    split at h
    .split at h
     next J=>simp at h;subst h;have⟨b,u,c,e,Y,Z,k⟩:=j.lz;rw[e];exact⟨_,B b u,DA _ Y Z k J⟩
     grind
    .rename_i id el u;simp at h;have⟨p,l,e⟩:=j.sJ;rw[e];have:=bM.hptr (I:=I) id el (u+g.offset) p l
     grind
    grind
   grind
  grind
 grind
def MS(G:eG P E)(r:eC I μ n F a.tmps){s:Zm}{o:Zr}{f:Nat}{x:V}(h:bP E F (.field s o f)=some x):
 ∃v,(Instr.field s (a.eval o) f).run P w=.ok v w/\bM I μ x v:=by
 simp[bP]at h;split at h
 .rename_i fs Z hk O;have⟨d,Q,B⟩:=e_ hk;have⟨b,i,J,S⟩:=(G.ty Q).dK;rw[B]at J;obtain⟨T,rfl,rfl⟩:=xH J;have⟨vs,e,C⟩:=(dx r O).h_;rw[e];split at h
  .rename_i off t L;simp at L;obtain⟨c,U,rfl,rfl⟩:=L;have z:T[f]?=some c:=by grind
   split at h
   next j D=>simp[ζg]at h;have⟨q,W,X⟩:=h;have⟨u,g,Y⟩:=Gd (w:=w) (G.ty D) C W X;refine⟨u,?_,Y⟩;unfold Instr.field;simp[run_bind,S,andThen_ok,z,asAgg,run_pure,g]
   grind
  grind
 grind
def kS(k:Zs)(m:Int):(asIntOf (.int k m)).run P w=.ok (k,m) w:=rfl
def Ir(U:eG P E)(r:eC I μ n F a.tmps){t:Zm}{o i:Zr}{x:V}(h:bP E F (.indexAddr t o i)=some x):
 ∃v,(indexAt t (a.eval o) (a.eval i)).run P w=.ok v w/\bM I μ x v:=by
 simp[bP]at h;split at h
 .
  rename_i e s k m K X Y;have⟨d,Z,G⟩:=e_ K;have⟨l,h1,Q,M⟩:=(U.ty Z).dK;rw[G]at Q;have:=iY Q;subst this;have A:=dx r X;have J:=(dx r Y).fc;rw[J];split at h
  .rename_i T L;split at h
   .simp_all
   have B:∀(b z len f:Nat),m.toNat<len->(indexAt t (.slice (some ⟨b,z,none⟩) len f) (.int k m)).run P w=.ok (.pointer (some ⟨b,z+m.toNat*T.size,none⟩)) w:=by intro b z len f C;unfold indexAt;have H:0<=m/\m<(len):=Za;simp[run_bind,kS,M,andThen_ok,run_pure,(U.ty L).jM,run_ite,if_pos H,oP]
   split at h
   .rename_i es xs;split at h
    .rename_i D;simp only[ζf]at h;obtain⟨W,O,rfl⟩:=h;have C:m.toNat<xs.length:=(ζe.1 O).1;have hf:=A.kX;generalize hg:a.eval o=g at hf
     cases hf with
     |fsl0=>simp_all|fsl _ _ b z f c hI H hu ho R hr=>refine⟨_,B b z _ _ C,?_⟩;have S:W∈xs:=mem_of_getElem? O;have ad:=hu W S;have aa:(m.toNat+1)*es<=xs.length*es:=mul_le_mul_right _ C;rw[add_mul]at aa;rw[<-D];exact .c _ _ (.fptr W b _ c hI Za λj y u p q=>hr m.toNat j W y u O p q)
    grind
   .rename_i id es off len;split at h
    .rename_i D;simp only[ζa]at h;have⟨D,C⟩:=D;rcases A.kV with⟨p,f,N,he,H,R,e⟩|⟨h0,_⟩
     .rw[e];have:=bM.hptr (I:=I) (μ:=μ) id (off+m.toNat) 0 p N
      grind
     omega
    grind
   grind
  grind
 .
  rename_i len e p k m K X Y;have⟨d,Z,G⟩:=e_ K;have⟨l,h1,Q,M⟩:=(U.ty Z).dK;rw[G]at Q;have:=Aw Q;subst this;have A:=dx r X;have J:=(dx r Y).fc;rw[J];split at h
  .rename_i T L;split at h
   .rename_i H;have B:∀(b z:Nat),(indexAt t (.pointer (some ⟨b,z,none⟩)) (.int k m)).run P w=.ok (.pointer (some ⟨b,z+m.toNat*T.size,none⟩)) w:=by
     intro b z;unfold indexAt;simp only[run_bind,kS,M,andThen_ok,run_pure,sureAddr,(U.ty L).jM,run_ite,if_pos H,oP]
    split at h
    .split at h
     next ab=>simp only[ζa]at h;subst h;have⟨b,z,c,e,hI,R,hr⟩:=A.lz;rw[e];exact⟨_,B b z,DA _ hI R hr ab⟩
     grind
    .rename_i id el z;simp only[ζa]at h;have⟨p,N,e⟩:=A.sJ;rw[e];have:=bM.hptr (I:=I) (μ:=μ) id el (z+m.toNat*T.size) p N
     grind
    grind
   grind
  grind
 grind
def NC(D:eG P E)(r:eC I μ n F a.tmps){t:Zm}{o i:Zr}{x:V}(h:bP E F (.index t o i)=some x):
 ∃v,(Instr.index t (a.eval o) (a.eval i)).run P w=.ok v w/\bM I μ x v:=by
 simp[bP]at h;split at h
 .rename_i s k m hk G J;have⟨d,L,z⟩:=e_ hk;have⟨c,g,B,O⟩:=(D.ty L).dK;rw[z]at B;have:=xW B;subst this;rw[(dx r J).fc,(dx r G).sy];split at h
  next f=>simp at h;obtain⟨b,S,rfl⟩:=h;refine⟨.int .u8 b.toNat,?_,.c _ _ (.int _ _)⟩;unfold Instr.index;simp[run_bind,kS,O,andThen_ok,if_pos f,S,run_pure]
  grind
 .rename_i len e X k m hk G J;have⟨d,L,z⟩:=e_ hk;have⟨c,g,B,O⟩:=(D.ty L).dK;rw[z]at B;have:=Aw B;subst this;have⟨Y,ev,Q⟩:=(dx r G).h_;rw[(dx r J).fc,ev];split at h
  .rename_i Z C;split at h
   next f=>simp[ζg]at h;have⟨q,T,U⟩:=h;have⟨u,j,W⟩:=Gd (w:=w) (D.ty C) Q T U;refine⟨u,?_,W⟩;unfold Instr.index;simp[run_bind,kS,O,andThen_ok,run_ite,if_pos f,(D.ty C).jM,j]
   grind
  grind
 grind
def Ji(B:eG P E)(r:eC I μ n F a.tmps){s d:Zm}{o:Zr}{x:V}(h:bP E F (.convert s d o)=some x):
 ∃v,(convert s d (a.eval o)).run P w=.ok v w/\bM I μ x v:=by
 simp[bP]at h;split at h
 .rename_i J L k m z C D;split at h
  next O b=>simp at h;subst h;have⟨c,g1,_,g3⟩:=(B.ty z).dK;have⟨e,f,u,G⟩:=(B.ty C).dK;rw[b]at u;have:=A9 u;subst this;rw[(dx r D).fc];refine⟨_,?_,.c _ _ (.int _ _)⟩;unfold convert;simp[run_bind,g3,G,andThen_ok,Conv.intToInt,run_pure]
  grind
 grind
def oZ(r:eC I μ n F a.tmps){o:bt Zr}{m:Z6}(h:jA F o=some m):
 (m=none/\o.map a.eval=none)\/∃k z,m=some z/\o.map a.eval=some (.int k z):=by
 cases o with
 |none=>simp[jA]at h;grind|some x=>
  simp[jA]at h;split at h
  next k z u=>simp at h;subst h;exact .inr ⟨k,z,rfl,by simp[(dx r u).fc]⟩
  grind
def lH(k:Zs)(z:Int)(y:Nat)(code:BoundsCode)(a:0<=z)(b:z<=y):(sliceBound (.int k z) y code).run P w=.ok z.toNat w:=by unfold sliceBound;simp[run_bind,kS,andThen_ok,if_pos (And.intro a b),run_pure]
def kW(r:eC I μ n F a.tmps){O U:bt Zr}{l h:Z6}(e1:jA F O=some l)(e2:jA F U=some h)(D:Zl)(len b L H:Nat)(c:len<=b)
 (B:dW len l h=some (L,H)):(sliceBounds D len b (O.map a.eval) (U.map a.eval) none).run P w=.ok (L,H,b) w/\L<=H/\H<=len:=by
 unfold dW at B;simp only at B;split at B
 .rename_i u;obtain⟨rfl,rfl⟩:=B;have⟨G,T,J,W⟩:=u;refine⟨?_,Za,Za⟩
  unfold sliceBounds;rcases oZ r e1 with⟨rfl,Q⟩|⟨k1,C,rfl,Q⟩<;>rcases oZ r e2 with⟨rfl,S⟩|⟨k2,z,rfl,S⟩<;>
   simp only[Q,S,getD_some]at G T J W⊢
  .simp_all
  .simp only[run_pure,andThen_ok,run_bind,lH k2 z _ _ G (show z<=b by omega)]
   simp
  .simp only[run_pure,andThen_ok,run_bind,lH k1 C _ _ J (show C<=len by omega)]
   simp
  simp[run_pure,andThen_ok,run_bind,lH k2 z _ _ G (show z<=b by omega),lH k1 C _ _ J (show C<=z.toNat by omega)]
 grind
def Cx{es:Nat}{xs:Zt}{v:Zp}{L H:Nat}(h:eD I (.fsl es xs) v)(d:L<=H)(D:H<=xs.length):
 ∃B len a,v=.slice B len a/\len=xs.length/\len<=a/\eD I (.fsl es ((xs.take H).drop L)) (.slice (if a=L then B else B.map (·.add (L*es))) (H-L) (a-L)):=by
 cases h with
 |fsl0 _ B a=>
  simp at D;have z:L=0:=Za
  subst D;subst z;refine⟨some B,0,a,rfl,rfl,zero_le _,?_⟩;have:=eD.fsl0 (I:=I) es B a;split
  .grind
  simpa[Addr.add]using eD.fsl0 es (B.add (0*es)) a
 |fsl _ _ b o a c C hc hu G O hr=>
  refine⟨_,_,a,rfl,rfl,hc,?_⟩;have u:((xs.take H).drop L).length=H-L:=Ze
  by_cases J:H-L=0
  .have:(xs.take H).drop L=[]:=List.eq_nil_of_length_eq_zero Zd
   rw[this,J];split
   .exact .fsl0 es _ _
   exact .fsl0 es _ _
  simp[oP];have e:eD I (.fsl es ((xs.take H).drop L)) (.slice (some ⟨b,o+L*es,none⟩) ((xs.take H).drop L).length (a-L)):=by refine .fsl es _ b (o+L*es) (a-L) c C Zd (λx w=>hu x (mem_of_mem_take (mem_of_mem_drop w))) (λx w=>G x (mem_of_mem_take (mem_of_mem_drop w))) ?_ ?_;rw[u];have:L*es+(H-L)*es<=xs.length*es:=(by rw[<-add_mul];exact mul_le_mul_right _ Za);omega;grind
  grind
def Mb(j:eG P E)(r:eC I μ n F a.tmps){t:Zm}{o:Zr}{m y i:bt Zr}{x:V}(h:bP E F (.slice t o m y i)=some x):
 ∃v,(sliceAt t (a.eval o) (m.map a.eval) (y.map a.eval) (i.map a.eval)).run P w=.ok v w/\bM I μ x v:=by
 simp[bP]at h;split at h
 .
  rename_i s l hh A K U C S;obtain⟨d,M,T⟩:=e_ A;obtain⟨f,h1,Y,h3⟩:=(j.ty M).dK;rw[T]at Y;have:=xW Y;rw[(dx r K).sy];simp only[ζf]at h;obtain⟨⟨L,H⟩,G,rfl⟩:=h;obtain⟨g,_,_⟩:=kW (P:=P) (w:=w) r U C false s.size s.size L H (le_refl _) G;have hm:i.map a.eval=none:=by rcases oZ r S with⟨_,q⟩|⟨k,z,e,_⟩;exact q;cases e
  refine⟨.string (s.extract L H),?_,.c _ _ (.str _)⟩;unfold sliceAt Instr.slice;simp_all
 .rename_i e v l hh A K U C S;obtain⟨d,M,T⟩:=e_ A;obtain⟨f,h1,Y,h3⟩:=(j.ty M).dK;rw[T]at Y;have:=iY Y;subst this;have c:=dx r K;have hm:i.map a.eval=none:=by rcases oZ r S with⟨_,q⟩|⟨k,z,e,_⟩;exact q;cases e
  have B:∀(D:bt Addr)(len b L H:Nat)(J:TD),E.tt e=some J->len<=b->dW len l hh=some (L,H)->
   (sliceAt t (.slice D len b) (m.map a.eval) (y.map a.eval) (i.map a.eval)).run P w=.ok (.slice (if b=L then D else D.map (·.add (L*J.size))) (H-L) (b-L)) w:=by
   intro D len b L H J u hc G;obtain⟨g,_,_⟩:=kW (P:=P) (w:=w) r U C true len b L H hc G;unfold sliceAt Instr.slice;simp[run_bind,h3,andThen_ok,hm,g,(j.ty u).jM,run_pure]
  split at h
  .rename_i J u;split at h
   .rename_i es xs;split at h
    next Z=>simp only[ζf]at h;obtain⟨⟨L,H⟩,G,rfl⟩:=h;obtain⟨_,W,X⟩:=kW (P:=P) (w:=w) r U C true xs.length xs.length L H (le_refl _) G;obtain⟨D,len,b,e1,e2,e3,e4⟩:=Cx c.kX W X;rw[e1];subst e2;refine⟨_,B D _ b L H J u e3 G,?_⟩;rw[<-Z];exact .c _ _ e4
    grind
   .rename_i id es off len;split at h
    .rename_i Z;simp only[ζf]at h;obtain⟨⟨L,H⟩,G,rfl⟩:=h;obtain⟨_,W,X⟩:=kW (P:=P) (w:=w) r U C true len len L H (le_refl _) G;rcases c.kV with⟨p,b,aa,he,hc,ab,O⟩|⟨h0,D,O⟩
     .rw[O];refine⟨_,B _ _ b L H J u hc G,?_⟩
      by_cases hz:b=L
      .have:H-L=0:=by omega
       rw[if_pos hz,this,show b-L=0 by omega]
       exact .hsl0 id es (off+L) _
      rw[if_neg hz];simp only[map_some,oP];rw[<-Z];subst he;have:=bM.hsl (I:=I) (μ:=μ) id (off+L) (H-L) (b-L) p aa Za (by
       have:off+L+(b-L)=off+b:=Za
       rw[this];exact ab)
      rwa [add_mul,<-add_assoc]at this
     rw[O];subst h0;refine⟨_,B _ _ 0 L H J u (le_refl _) G,?_⟩;have N:L=0:=Za
     have R:H=0:=Za
     subst N;subst R;simpa using bM.hsl0 id es (off+0) D
    grind
   .simp only[ζf]at h;obtain⟨⟨L,H⟩,G,rfl⟩:=h;obtain⟨_,W,X⟩:=kW (P:=P) (w:=w) r U C true 0 0 L H (le_refl _) G;obtain⟨D,O⟩:=c.qK;rw[O];refine⟨_,B D 0 0 L H J u (le_refl _) G,?_⟩;have N:L=0:=by omega
    have R:H=0:=Za
    subst N;subst R;exact .c _ _ (.dF _)
   .simp only[ζf]at h;obtain⟨⟨L,H⟩,G,rfl⟩:=h;obtain⟨_,W,X⟩:=kW (P:=P) (w:=w) r U C true 0 0 L H (le_refl _) G;have O:=c.kY;rw[O];refine⟨_,B none 0 0 L H J u (le_refl _) G,?_⟩;have N:L=0:=by omega
    have R:H=0:=Za
    subst N;subst R;exact .c _ _ .bL
   grind
  grind
 .rename_i e v A K U C S;obtain⟨d,M,T⟩:=e_ A;obtain⟨f,h1,Y,h3⟩:=(j.ty M).dK;rw[T]at Y;have:=iY Y;subst this;have c:=dx r K;have q1:m.map a.eval=none:=by rcases oZ r U with⟨_,q⟩|⟨k,z,e,_⟩;exact q;cases e
  obtain⟨k2,q2⟩:∃k,y.map a.eval=some (.int k 0):=by rcases oZ r C with⟨q,_⟩|⟨k,z,e,q⟩;cases q;cases e;exact⟨k,q⟩
  obtain⟨k3,q3⟩:∃k,i.map a.eval=some (.int k 0):=by rcases oZ r S with⟨q,_⟩|⟨k,z,e,q⟩;cases q;cases e;exact⟨k,q⟩
  have B:∀(D:bt Addr)(len b:Nat)(J:TD),E.tt e=some J->∃Q,(sliceAt t (.slice D len b) (m.map a.eval) (y.map a.eval) (i.map a.eval)).run P w=.ok (.slice Q 0 0) w:=by intro D len b J u;refine⟨D,?_⟩;unfold sliceAt Instr.slice sliceBounds;simp only[run_bind,h3,andThen_ok,q1,q2,q3,lH k3 0 b _ (Int.le_refl _) Za,lH k2 0 _ _ (Int.le_refl _) Zc,(j.ty u).jM];simp
  split at h
  next J es xs u=>simp at h;subst h;obtain⟨D,len,b,e1,_⟩:=Cx c.kX (le_refl _) (zero_le _);rw[e1];obtain⟨Q,g⟩:=B D len b _ u;exact⟨_,g,.c _ _ (.dF _)⟩
  .rename_i J id es off len u;simp at h;subst h;rcases c.kV with⟨p,b,_,_,_,_,O⟩|⟨_,D,O⟩
   .rw[O];obtain⟨Q,g⟩:=B _ _ _ _ u;exact⟨_,g,.c _ _ (.dF _)⟩
   rw[O];obtain⟨Q,g⟩:=B _ _ _ _ u;exact⟨_,g,.c _ _ (.dF _)⟩
  next J u=>simp at h;subst h;obtain⟨D,O⟩:=c.qK;rw[O];obtain⟨Q,g⟩:=B _ _ _ _ u;exact⟨_,g,.c _ _ (.dF _)⟩
  next J u=>simp only[ζa]at h;subst h;have O:=c.kY;rw[O];obtain⟨Q,g⟩:=B _ _ _ _ u;exact⟨_,g,.c _ _ (.dF _)⟩
  simp at h
 grind
def cR.one{x:V}{vs:a_ Zp}(h:cR I μ [x] vs):∃v,vs=[v]/\bM I μ x v:=by obtain⟨v,r,rfl,a,b⟩:=h.cons_inv;exact⟨v,by rw[b.uk],a⟩
def cR.two{x y:V}{vs:a_ Zp}(h:cR I μ [x,y] vs):∃u v,vs=[u,v]/\bM I μ x u/\bM I μ y v:=by obtain⟨u,r,rfl,a,b⟩:=h.cons_inv;obtain⟨v,rfl,c⟩:=b.one;exact⟨u,v,rfl,a,c⟩
def cR.four{x y z t:V}{vs:a_ Zp}(h:cR I μ [x,y,z,t] vs):∃u v p q,vs=[u,v,p,q]/\bM I μ x u/\bM I μ y v/\bM I μ z p/\bM I μ t q:=by obtain⟨u,r,rfl,b,a⟩:=h.cons_inv;obtain⟨v,r2,rfl,c,a⟩:=a.cons_inv;obtain⟨p,q,rfl,w,B⟩:=a.two;exact⟨u,v,p,q,rfl,b,c,w,B⟩
theorem qU{args:Array Zr}{l:a_ Zp}(h:args.toList.map a.eval=l):args.map a.eval=l.toArray:=by subst h;apply ext';simp
def vK:bt TK->V->bt V
 |some .str,.str s=>some (.int .i64 s.size)|some (.slice _),.fsl _ xs=>some (.int .i64 xs.length)|some (.slice _),.hsl _ _ _ len=>some (.int .i64 len)|some (.slice _),.dF=>some (.int .i64 0)|some (.slice _),.bL=>some (.int .i64 0)|_,_=>none
def Q7(U:eG P E){t:Zm}{x z:V}{v:Zp}{ty:Zm}{D:Array Zm}(G:D[0]?=some t)(J:bM I μ x v)
 (h:vK (E.kindOf t) x=some z):∃u,(len_ D ty #[v]).run P w=.ok u w/\bM I μ z u:=by
 cases b:E.kindOf t with
 |none=>rw[b]at h;simp[vK]at h|some k=>
  rw[b]at h;have⟨d,W,Q⟩:=e_ b;have⟨c,g,S,T⟩:=(U.ty W).dK;rw[Q]at S
  cases k with
  |str=>
   have:=xW S;subst this
   cases x with
   |str s=>simp only[vK,ζa]at h;subst h;rw[J.sy];refine⟨_,?_,.c _ _ (.int _ _)⟩;unfold len_;simp[G,T,goInt]|_=>simp[vK]at h
  |slice e=>
   have:=iY S;subst this;have B:∀C(len a:Nat),(len_ D ty #[.slice C len a]).run P w=.ok (.int .i64 len) w:=by intro C len a;unfold len_;simp[G,T,goInt]
   cases x with
   |fsl es X=>simp only[vK,ζa]at h;subst h;have⟨C,len,a,e1,e2,_⟩:=Cx (L:=0) (H:=0) J.kX (le_refl _) (zero_le _);rw[e1,<-e2];exact⟨_,B _ _ _,.c _ _ (.int _ _)⟩|hsl id es off len=>
    simp only[vK,ζa]at h;subst h;rcases J.kV with⟨p,a,_,_,_,_,O⟩|⟨f,C,O⟩
    .rw[O];exact⟨_,B _ _ _,.c _ _ (.int _ _)⟩
    rw[O,f];exact⟨_,B _ _ _,.c _ _ (.int _ _)⟩
   |dF=>simp only[vK,ζa]at h;subst h;have⟨C,O⟩:=J.qK;rw[O];exact⟨_,B _ _ _,.c _ _ (.int _ _)⟩|bL=>simp only[vK,ζa]at h;subst h;rw[J.kY];exact⟨_,B _ _ _,.c _ _ (.int _ _)⟩|_=>simp[vK]at h
  |_=>simp[vK]at h
def RS:bt TK->V->bt V
 |some (.slice _),.bL=>some (.int .i64 0)|some (.slice _),.dF=>some (.int .i64 0)|_,_=>none
def Sq(O:eG P E){t:Zm}{x z:V}{v:Zp}{ty:Zm}{B:Array Zm}(D:B[0]?=some t)(J:bM I μ x v)
 (h:RS (E.kindOf t) x=some z):∃u,(cap_ B ty #[v]).run P w=.ok u w/\bM I μ z u:=by
 have key:∀e C,E.kindOf t=some (.slice e)->v=.slice C 0 0->(cap_ B ty #[v]).run P w=.ok (.int .i64 0) w:=λe C a c=>by have⟨d,Q,G⟩:=e_ a;have⟨b,f,L,S⟩:=(O.ty Q).dK;rw[G]at L;have:=iY L;subst this;unfold cap_;simp[D,S,goInt,c]
 unfold RS at h;split at h
 next _ _ e a=>cases h;exact⟨_,key _ _ a J.kY,.c _ _ (.int _ _)⟩
 next _ _ e a=>cases h;have⟨C,q⟩:=J.qK;exact⟨_,key _ _ a q,.c _ _ (.int _ _)⟩
 cases h
def eB{s:Sem Zp}{v:Zp}{w':World}(h:s.run P w=.ok v w'):(do pure (Next.value (<-s)):Sem Next).run P w=.ok (.value v) w':=by rw[run_bind,h];rfl
def PY(G:eG P E)(r:eC I μ n F a.tmps)(o:Oper){x:V}(h:bP E F o.op=some x):
 ∃v,(execOp a.eval o).run P w=.ok (.value v) w/\bM I μ x v:=by
 obtain⟨dst,op,ty,pos,after,M⟩:=o;simp only at h
 cases op with
 |move y=>exact⟨_,rfl,dx r (by simpa[bP]using h)⟩|assign y=>exact⟨_,rfl,dx r (by simpa[bP]using h)⟩|pick c y z=>
  simp only[bP]at h;simp only[execOp];split at h
  .rename_i t hc;have e:=(dx r hc).qE;simp only[e,asBool,run_bind,run_pure,andThen_ok]
   cases t with
   |true=>simp only[if_true]at h⊢;exact⟨_,rfl,dx r h⟩|false=>simp only[false_eq_true,if_false]at h⊢;exact⟨_,rfl,dx r h⟩
  simp at h
 |nilCheck y=>
  simp only[bP]at h;simp only[execOp];split at h
  next id el off D=>simp only[ζa]at h;subst h;have g:=dx r D;obtain⟨p,_,e⟩:=g.sJ;rw[e]at g⊢;exact⟨_,rfl,g⟩
  next Z D=>simp only[ζa]at h;subst h;have g:=dx r D;obtain⟨b,o,c,e,_⟩:=g.lz;rw[e]at g⊢;exact⟨_,rfl,g⟩
  next f u v D=>simp only[ζa]at h;subst h;have g:=dx r D;obtain⟨b,c,e,_⟩:=g.jD;rw[e]at g⊢;exact⟨_,rfl,g⟩
  simp at h
 |binOp op t y z yt=>
  simp only[bP]at h;split at h
  next u v A g=>obtain⟨q,O,H⟩:=O8 (w:=w) G y z h (dx r A) (dx r g);exact⟨q,eB O,H⟩
  simp at h
 |unOp op t y=>
  simp only[bP]at h;simp only[execOp];split at h
  next b D=>simp only[ζa]at h;subst h;rw[(dx r D).qE];exact⟨_,eB (by simp only[Op.unary];rfl),.c _ _ (.bool _)⟩
  next k m D=>simp only[ζa]at h;subst h;rw[(dx r D).fc];exact⟨_,eB (by simp only[Op.unary,intArith];rfl),by simpa using bM.c _ _ (.int k _)⟩
  simp at h
 |convert s d y=>obtain⟨v,l,C⟩:=Ji (w:=w) G r h;exact⟨v,eB l,C⟩|fieldAddr s y f=>obtain⟨v,l,C⟩:=ID (w:=w) G r h;exact⟨v,eB l,C⟩|field s y f=>obtain⟨v,l,C⟩:=MS (w:=w) G r h;exact⟨v,eB l,C⟩|indexAddr t y i=>obtain⟨v,l,C⟩:=Ir (w:=w) G r h;exact⟨v,eB l,C⟩|index t y i=>obtain⟨v,l,C⟩:=NC (w:=w) G r h;exact⟨v,eB l,C⟩|slice t y lo hi mx=>obtain⟨v,l,C⟩:=Mb (w:=w) G r h;exact⟨v,eB l,C⟩|build t ps=>obtain⟨v,l,C⟩:=MX (w:=w) G r h;exact⟨v,eB l,C⟩|makeFunc f u v=>
  cases f with
  |func f=>
   simp only[bP]at h;split at h
   next Q x2 l C=>simp only[ζa]at h;subst h;have r1:=mX r l;have r2:=mX r C;refine⟨.func (.func f) (u.map a.eval) (v.map a.eval),rfl,?_⟩;refine .clo f _ _ _ _ (by simpa using r1.1) (by simpa using r2.1) (λj p q s t=>r1.2 j p q s (by simpa using t)) (λj p q s t=>r2.2 j p q s (by simpa using t))
   simp at h
  |_=>simp[bP]at h
 |extract y i=>
  simp only[bP]at h;simp only[execOp];split at h
  .rename_i vs D;obtain⟨S,e,T⟩:=(dx r D).pn;rw[e];have U:=(ζe.1 h).1;have J:i<S.size:=by have:=T.1;simp at this;omega
   refine⟨S[i],eB (by simp[Instr.extract,J]),T.2 i x _ h (by simp[J])⟩
  simp at h
 |call c=>
  obtain⟨callee,args,W⟩:=c
  cases callee with
  |builtin b=>
   simp only[bP]at h;simp only[execOp,resolve,run_bind,run_pure,andThen_ok,invoke];split at h
   .rename_i v t B L;obtain⟨u,A,H⟩:=(mX r B).one;rw[qU A];obtain⟨q,l,C⟩:=Q7 (w:=w) (ty:=ty) G L H (by rw[<-h];rfl)
    exact⟨q,by simp only[builtin];exact eB l,C⟩
   .rename_i v t B L;obtain⟨u,A,H⟩:=(mX r B).one;rw[qU A];obtain⟨q,l,C⟩:=Sq (w:=w) (ty:=ty) G L H (by rw[<-h];rfl)
    exact⟨q,by simp only[builtin];exact eB l,C⟩
   .rename_i k Q X x2 B;split at h
    next K=>simp only[ζa]at h;subst h;subst K;obtain⟨u,v,e,A,g⟩:=(mX r B).two;rw[qU e,A.fc,g.fc];exact⟨_,by simp only[builtin];exact eB (by simp[max_,max2]),.c _ _ (.int _ _)⟩
    simp at h
   .rename_i k Q k1 x2 k2 x3 k3 x4 B;split at h
    next K=>simp only[ζa]at h;subst h;obtain⟨rfl,rfl,rfl⟩:=K;obtain⟨u,v,p,q,e,A,g,Y,O⟩:=(mX r B).four;rw[qU e,A.fc,g.fc,Y.fc,O.fc];exact⟨_,by simp only[builtin];exact eB (by simp[max_,max2,AT]),.c _ _ (.int _ _)⟩
    simp at h
   .rename_i k Q X x2 B;split at h
    next K=>simp only[ζa]at h;subst h;subst K;obtain⟨u,v,e,A,g⟩:=(mX r B).two;rw[qU e,A.fc,g.fc];exact⟨_,by simp only[builtin];exact eB (by simp[min_,min2]),.c _ _ (.int _ _)⟩
    simp at h
   simp at h
  |_=>simp[bP]at h
 |_=>simp[bP]at h
end
structure fN(I:cu)(μ:Mu)(p:Pl)(c:Array Value)(es:Nat)(xs:List (List V)):Prop where
 es_eq:p.es=es
 sz:c.size=p.sz
 oD:∀x∈xs,x.length=es
 one:∀x∈xs,∀y∈x,V.one y=true
 room:p.o+xs.length*es<=c.size
 rel:cR I μ xs.flatten ((c.toList.drop p.o).take (xs.length*es))
def uh(I:cu)(μ:Mu)(B:a_ (V×V))(es:Array MapEntry):Prop:=B.length=es.size/\∀(j:Nat)q e,B[j]?=some q->es[j]?=some e->bM I μ q.1 e.key/\bM I μ q.2 e.val
def Af.is:Af->LoopState->Prop
 |.ready,.ready|.busy,.busy|.done,.done=>True|_,_=>False
structure uo(I:cu)(μ:Mu)(r:uw)(l:Loop):Prop where
 st:r.st.is l.state
 pend:l.pending=r.pend.bind kg
 pendOk:r.pend≠some .norm
 frame:eC I μ r.nt r.frame l.tmps
 params:l.params.toList=r.params
 assign:l.assign=r.assign
 body:l.body=r.body
def Ob.live:Ob->Zl
 |.row ..|.map _|.loop _=>true|_=>false
def rO(I:cu)(μ:Mu)(w:World)(id:Nat):Ob->Prop
 |.free=>μ id=none|.dead=>True|.row es xs=>∃p c el,μ id=some p/\I p.b=none/\w.heap[p.b]?=some (.cells c el)/\fN I μ p c es xs|.frz es xs=>∃p c,μ id=some p/\I p.b=some (.cells c)/\fN I μ p c es xs|.map B=>∃p es a,μ id=some p/\I p.b=none/\w.heap[p.b]?=some (.map es a)/\uh I μ B es|.loop r=>∃p l,μ id=some p/\I p.b=none/\w.heap[p.b]?=some (.loop l)/\uo I μ r l
structure c9(I:cu)(μ:Mu)(H:bC)(w:World):Prop where
 dom:∀id,H.length<=id->μ id=none
 imm:∀b x,I b=some x->x.at w b
 obs:∀id ob,H[id]?=some ob->rO I μ w id ob
 inj:∀id id' ob ob' p p',H[id]?=some ob->H[id']?=some ob'->ob.live=true->ob'.live=true->μ id=some p->μ id'=some p'->p.b=p'.b->id=id'
 gl:s8 I
def gQ(μ:Mu)(H:bC)(b:Nat):Prop:=∃id p ob,H[id]?=some ob/\ob.live=true/\μ id=some p/\p.b=b
def Obj.nf(o:Obj):Prop:=∀c t fr,o=.cells c t fr->fr=(0,0)
def sD(c:Array Zp)(t:Zm):Obj.nf (.cells c t):=λ_ _ _ h=>Zd
def qF{o:Obj}(h:(match o with|.cells ..=>false|_=>true)=true):Obj.nf o:=λc t fr e=>Zd
theorem BT{w w':World}{o:Obj}{b:Nat}(B:Obj.nf o)(d:w'.heap[b]?=some o)(D:∀k,k≠b->w'.heap[k]?=w.heap[k]?)(a:Addr)(h:w.frozen? a=false):w'.frozen? a=false:=by by_cases e:a.block=b;unfold frozen?;rw[e,d];split;rename_i c t z C u;cases u;have:=B _ _ _ rfl;grind;rfl;grind[frozen?]
structure tZ(w w':World):Prop where
 out:w'.output=w.output
 tape:w'.tape=w.tape
 dr:w.drawn<=w'.drawn
def tZ.refl(w:World):tZ w w:=⟨rfl,rfl,le_refl _⟩
def tZ.trans{w w' w'':World}(h:tZ w w')(B:tZ w' w''):tZ w w'':=⟨B.out.trans h.out,B.tape.trans h.tape,le_trans h.dr B.dr⟩
structure Step(I:cu)(μ:Mu)(H:bC)(w:World)(I':cu)(μ':Mu)(H':bC)(w':World):Prop where
 le:cu.le I I'
 mu:Mu.le μ μ'
 len:H.length<=H'.length
 size:w.heap.size<=w'.heap.size
 frame:∀b,b<w.heap.size->¬gQ μ H b->w'.heap[b]?=w.heap[b]?
 terr:∀b,((I' b).isSome=true\/gQ μ' H' b)->(I b).isSome=true\/gQ μ H b\/w.heap.size<=b
 os:w'.os=w.os
 out:tZ w w'
 fz:∀a:Addr,a.block<w.heap.size->w.frozen? a=false->w'.frozen? a=false
section
variable{I I' I'':cu}{μ μ' μ'':Mu}{H H' H'':bC}{w w' w'':World}{P:Program}{E:Env}{n:Nat}{F:Zo}{a:Act}
def IC.uj{x:IC}{b:Nat}(h:x.at w b):b<w.heap.size:=by cases x with|cells c=>have⟨_,_,h⟩:=h;grind|map es=>have⟨_,h⟩:=h;grind
def IC.qI{x:IC}{b:Nat}(h:x.at w b)(e:w'.heap[b]?=w.heap[b]?):x.at w' b:=by cases x with|cells c=>have⟨el,fr,h⟩:=h;exact⟨el,fr,Zd⟩|map es=>have⟨a,h⟩:=h;exact⟨a,Zd⟩
def Step.refl(I:cu)(μ:Mu)(H:bC)(w:World):Step I μ H w I μ H w:=⟨cu.le_refl _,Mu.le_refl _,le_refl _,le_refl _,λ_ _ _=>rfl,λ_ h=>h.elim .inl λh=>.inr (.inl h),rfl,.refl _,λ_ _ h=>h⟩
theorem fG(s:c9 I μ H w){b:Nat}(h:gQ μ H b):I b=none:=by obtain⟨id,p,ob,h1,C,D,rfl⟩:=h;have:=s.obs id ob h1;cases ob with|row es G=>have⟨q,c,el,u,z,_⟩:=this;grind|map B=>have⟨q,c,el,u,z,_⟩:=this;grind|loop r=>have⟨q,c,u,z,_⟩:=this;grind|_=>grind[Ob.live]
theorem mj(s:c9 I μ H w){b:Nat}(h:gQ μ H b):b<w.heap.size:=by obtain⟨id,p,ob,h1,D,G,rfl⟩:=h;have:=s.obs id ob h1;cases ob with|row es J=>have⟨q,c,el,u,z,B,_⟩:=this;grind|map C=>have⟨q,c,el,u,z,B,_⟩:=this;grind|loop r=>have⟨q,c,u,z,B,_⟩:=this;grind|_=>grind[Ob.live]
def Step.trans(D:c9 I' μ' H' w')(c:Step I μ H w I' μ' H' w')(B:Step I' μ' H' w' I'' μ'' H'' w''):Step I μ H w I'' μ'' H'' w'' where
 fz:=λa u h=>B.fz a (Nat.lt_of_lt_of_le u c.size) (c.fz a u h)
 le:=cu.le_trans c.le B.le
 mu:=λid p h=>B.mu id p (c.mu id p h)
 len:=le_trans c.len B.len
 size:=le_trans c.size B.size
 frame:=by intro b u C;rw[B.frame b (Nat.lt_of_lt_of_le u c.size) ?_,c.frame b u C];intro z;rcases c.terr b (.inr z)with h|h|h;have:=fG D z;have⟨x,G⟩:=isSome_iff_exists.1 h;rw[c.le _ _ G]at this;simp_all;all_goals grind
 terr:=by intro b h;rcases B.terr b h with h|h|h;exact c.terr b (.inl h);exact c.terr b (.inr h);exact .inr (.inr (le_trans c.size h))
 os:=B.os.trans c.os
 out:=c.out.trans B.out
def fN.mono(h:cu.le I I')(B:Mu.le μ μ'){p:Pl}{c:Array Zp}{es:Nat}{xs:Zt}(r:fN I μ p c es xs):fN I' μ' p c es xs:=⟨r.es_eq,r.sz,r.oD,r.one,r.room,r.rel.mono h B⟩
def uh.mono(h:cu.le I I')(D:Mu.le μ μ'){B:a_ (V×V)}{es:Array MapEntry}(r:uh I μ B es):uh I' μ' B es:=⟨r.1,λj q e a b=>⟨(r.2 j q e a b).1.mono h D,(r.2 j q e a b).2.mono h D⟩⟩
def uo.mono(h:cu.le I I')(B:Mu.le μ μ'){r:uw}{l:Loop}(x:uo I μ r l):uo I' μ' r l:=⟨x.st,x.pend,x.pendOk,x.frame.mono h B,x.params,x.assign,x.body⟩
def rO.mono(h:cu.le I I')(B:Mu.le μ μ'){id:Nat}{ob:Ob}(r:rO I μ w id ob)
 (D:∀p,μ id=some p->ob.live=true->w'.heap[p.b]?=w.heap[p.b]?/\I' p.b=none)(G:ob=.free->μ' id=none):rO I' μ' w' id ob:=by
 cases ob with
 |free=>exact G rfl|dead=>trivial|row es J=>have⟨p,c,el,a,z,C,u⟩:=r;have⟨g1,g2⟩:=D p a rfl;exact⟨p,c,el,B _ _ a,g2,Zd,u.mono h B⟩|frz es J=>have⟨p,c,a,z,u⟩:=r;exact⟨p,c,B _ _ a,h _ _ z,u.mono h B⟩|map L=>have⟨p,es,b,a,z,C,u⟩:=r;have⟨g1,g2⟩:=D p a rfl;exact⟨p,es,b,B _ _ a,g2,Zd,u.mono h B⟩|loop x=>have⟨p,l,a,z,C,u⟩:=r;have⟨g1,g2⟩:=D p a rfl;exact⟨p,l,B _ _ a,g2,Zd,u.mono h B⟩
def c9.nX(s:c9 I μ H w)(e:w'.heap=w.heap):c9 I μ H w' where
 dom:=s.dom
 imm:=λb x h=>IC.qI (s.imm b x h) (by rw[e])
 obs:=λid ob h=>(s.obs id ob h).mono (cu.le_refl _) (Mu.le_refl _) (λp u z=>⟨by rw[e],fG s ⟨id,p,ob,h,z,u,rfl⟩⟩) (λB=>by subst B;exact s.obs id _ h)
 inj:=s.inj
 gl:=s.gl
def Step.nX(e:w'.heap=w.heap)(c:w'.os=w.os)(B:tZ w w'):Step I μ H w I μ H w':=⟨cu.le_refl _,Mu.le_refl _,le_refl _,Zd,λ_ _ _=>by rw[e],λb h=>h.elim .inl λh=>.inr (.inl h),c,B,λa _ h=>by grind[frozen?]⟩
def Mu.gq(μ:Mu)(k:Nat)(p:Pl):Mu:=λid=>if id=k then some p else μ id
theorem Mu.fP(μ:Mu)(k:Nat)(p:Pl):μ.gq k p k=some p:=by simp[Mu.gq]
theorem Mu.iq(μ:Mu){k id:Nat}(p:Pl)(h:id≠k):μ.gq k p id=μ id:=by grind[Mu.gq]
def Mu.p9{k:Nat}{p:Pl}(h:μ k=none):Mu.le μ (μ.gq k p):=by intro id q u;grind[Mu.iq]
theorem kO(o:Obj)(b:Nat)(h:b<w.heap.size):(w.alloc o).heap[b]?=w.heap[b]?:=by show(w.heap.push o)[b]?=_;grind
def lY(o:Obj):(w.alloc o).heap[w.heap.size]?=some o:=by show(w.heap.push o)[w.heap.size]?=_;simp
def Lq{o:Obj}(B:Obj.nf o)(a:Addr)(h:w.frozen? a=false):(w.alloc o).frozen? a=false:=
 BT B (lY o) (λk b=>by
  by_cases u:k<w.heap.size
  .grind[kO]
  show(w.heap.push o)[k]?=_
  grind) a h
def c9.place(s:c9 I μ H w){k:Nat}{ob:Ob}{o:Obj}{p:Pl}(c:μ k=none)(G:H.length<=H'.length)(j:k<H'.length)
 (l:∀id,id≠k->H'[id]?=some .free\/H'[id]?=H[id]?)(U:∀id,id≠k->H'[id]?=some .free->μ id=none)(m:H'[k]?=some ob)(n:p.b=w.heap.size)
 (r:rO I (μ.gq k p) (w.alloc o) k ob)(d:Obj.nf o):c9 I (μ.gq k p) H' (w.alloc o)/\Step I μ H w I (μ.gq k p) H' (w.alloc o):=by
 have f:∀b x,I b=some x->b<w.heap.size:=λb x h=>IC.uj (s.imm b x h)
 have z:∀id u,id≠k->H'[id]?=some u->u≠.free->H[id]?=some u:=by grind
 have L:∀b,gQ (μ.gq k p) H' b->gQ μ H b\/b=w.heap.size:=by rintro b ⟨id,q,u,h1,O,S,rfl⟩;by_cases e:id=k;grind[Mu.fP];rw[Mu.iq _ _ e]at S;exact .inl ⟨id,q,u,z id u e h1 Zd,O,S,rfl⟩
 refine⟨⟨?_,?_,?_,?_,s.gl⟩,⟨cu.le_refl _,Mu.p9 c,G,Zc,?_,?_,rfl,⟨rfl,rfl,le_refl _⟩,λa _=>BT (b:=w.heap.size) d (lY o) (λk c=>?_) a⟩⟩
 .intro id h;rw[Mu.iq _ _ Za]
  exact s.dom id Za
 .intro b x h;exact IC.qI (s.imm b x h) (kO o b (f b x h))
 .intro id u h
  by_cases e:id=k
  .grind
  by_cases Q:u=.free
  .subst Q;show(μ.gq k p) id=none;rw[Mu.iq _ _ e];grind
  have T:=z id u e h Q;refine(s.obs id u T).mono (cu.le_refl _) (Mu.p9 c) (λq g W=>?_) (λi=>absurd i Q)
  have t:gQ μ H q.b:=⟨id,q,u,T,W,g,rfl⟩
  grind[kO,mj,fG]
 .intro id B o1 o2 q X h1 O Y Z C D hb
  by_cases e:id=k<;>by_cases J:B=k
  .simp_all
  .subst e;rw[Mu.fP]at C;cases C;rw[Mu.iq _ _ J]at D;have:=mj s ⟨B,X,o2,z B o2 J O Zd,Z,D,rfl⟩
   omega
  .subst J;rw[Mu.fP]at D;cases D;rw[Mu.iq _ _ e]at C;have:=mj s ⟨id,q,o1,z id o1 e h1 Zd,Y,C,rfl⟩
   omega
  rw[Mu.iq _ _ e]at C;rw[Mu.iq _ _ J]at D;exact s.inj id B o1 o2 q X (z id o1 e h1 Zd) (z B o2 J O Zd) Y Z C D hb
 .grind[kO]
 .grind
 by_cases W:k<w.heap.size
 .grind[kO]
 show(w.heap.push o)[k]?=_;rw[getElem?_eq_none (by simp;omega),getElem?_eq_none Za]
def c9.push(s:c9 I μ H w){ob:Ob}{o:Obj}{p:Pl}(D:p.b=w.heap.size)(B:rO I (μ.gq H.length p) (w.alloc o) H.length ob)(G:Obj.nf o:=by first|exact sD _ _|exact qF rfl):
 c9 I (μ.gq H.length p) (H++[ob]) (w.alloc o)/\Step I μ H w I (μ.gq H.length p) (H++[ob]) (w.alloc o):=by
 refine s.place (s.dom _ (le_refl _)) Zc Zc (λid h=>.inr ?_) (λid h z=>?_) Zc D B G
 .grind
 by_cases u:id<H.length
 .rw[getElem?_append_left u]at z;exact s.obs id _ z
 grind
def c9.fill(s:c9 I μ H w){k:Nat}{ob:Ob}{o:Obj}{p:Pl}(a:H[k]?=some .free)(D:p.b=w.heap.size)(B:rO I (μ.gq k p) (w.alloc o) k ob)(G:Obj.nf o:=by first|exact sD _ _|exact qF rfl):
 c9 I (μ.gq k p) (H.set k ob) (w.alloc o)/\Step I μ H w I (μ.gq k p) (H.set k ob) (w.alloc o):=by
 have z:=(ζe.1 a).1;refine s.place (s.obs k _ a) Zc Zd (λid h=>.inr ?_) (λid h u=>?_) Ze D B G
 .grind
 rw[getElem?_set_ne (Ne.symm h)]at u;exact s.obs id _ u
def fM(w:World)(b:Nat)(o:Obj):World:={w with heap:=w.heap.setIfInBounds b o}
theorem gF(o:Obj){b B:Nat}(h:B≠b):(fM w b o).heap[B]?=w.heap[B]?:=by grind[fM]
def iJ(o:Obj){b:Nat}(h:b<w.heap.size):(fM w b o).heap[b]?=some o:=by grind[fM]
def vk(b:Nat)(o:Obj):(fM w b o).heap.size=w.heap.size:=by simp[fM]
def Kd(b:Nat)(o B:Obj):fM (fM w b o) b B=fM w b B:=by simp[fM]
def Ru{o:Obj}{b:Nat}(B:Obj.nf o)(a:Addr)(h:w.frozen? a=false):(fM w b o).frozen? a=false:=by grind[BT,fM,frozen?]
def c9.write(s:c9 I μ H w){id:Nat}{ob ob':Ob}{o:Obj}{p:Pl}(B:H[id]?=some ob)(U:ob.live=true)(W:μ id=some p)
 (Y:rO I μ (fM w p.b o) id ob')(d:Obj.nf o:=by first|exact sD _ _|exact qF rfl):c9 I μ (H.set id ob') (fM w p.b o)/\Step I μ H w I μ (H.set id ob') (fM w p.b o):=by
 have C:gQ μ H p.b:=⟨id,p,ob,B,U,W,rfl⟩;have u:∀k x,(H.set id ob')[k]?=some x->∃y,H[k]?=some y/\(x.live=true->y.live=true)/\(k≠id->y=x):=by grind
 have J:∀b,gQ μ (H.set id ob') b->gQ μ H b:=by rintro b ⟨k,q,x,c,L,Z,rfl⟩;have⟨y,O,z,_⟩:=u k x c;exact⟨k,q,y,O,z L,Z,rfl⟩
 refine⟨⟨?_,?_,?_,?_,s.gl⟩,⟨cu.le_refl _,Mu.le_refl _,Zc,by rw[vk];grind,?_,?_,rfl,⟨rfl,rfl,le_refl _⟩,λa _=>BT d (iJ o (mj s C)) (λk f=>gF o f) a⟩⟩
 .intro k h;exact s.dom k Zd
 .intro b x h;refine IC.qI (s.imm b x h) (gF o ?_)
  grind[fG]
 .intro k x h
  by_cases e:k=id
  .grind
  rw[getElem?_set_ne (Ne.symm e)]at h;refine(s.obs k x h).mono (cu.le_refl _) (Mu.le_refl _) (λq T D=>⟨gF o ?_,fG s ⟨k,q,x,h,D,T,rfl⟩⟩) (λg=>by subst g;exact s.obs k _ h)
  intro Q;exact e (s.inj k id x ob q p h B D U T W Q)
 .intro k X x x' q q' c L l1 l2 m1 m2 Q;have⟨y,O,z,_⟩:=u k x c;have⟨i,S,G,_⟩:=u X x' L;exact s.inj k X y i q q' O S (z l1) (G l2) m1 m2 Q
 all_goals grind[gF]
def c9.kill(s:c9 I μ H w){id:Nat}{ob:Ob}(B:H[id]?=some ob):c9 I μ (H.set id .dead) w/\Step I μ H w I μ (H.set id .dead) w:=by
 have C:=(ζe.1 B).1;have u:∀k x,(H.set id .dead)[k]?=some x->x.live=true->H[k]?=some x/\k≠id:=by grind[Ob.live]
 refine⟨⟨?_,s.imm,?_,?_,s.gl⟩,⟨cu.le_refl _,Mu.le_refl _,Zc,le_refl _,λ_ _ _=>rfl,?_,rfl,.refl _,λ_ _ h=>h⟩⟩;intro k h;exact s.dom k Zd;intro k x h;by_cases e:k=id;subst e;rw[getElem?_set_self C]at h;cases h;trivial;rw[getElem?_set_ne (Ne.symm e)]at h;exact s.obs k x h;intro k D x G q O a z J L Q S T;exact s.inj k D x G q O (u k x a J).1 (u D G z L).1 J L Q S T;rintro b (h|⟨k,q,x,a,z,U,rfl⟩);grind;exact .inr (.inl ⟨k,q,x,(u k x a z).1,z,U,rfl⟩)
end
section
variable{P:Program}{E:Env}{I:cu}{μ:Mu}{H:bC}{n:Nat}{F:Zo}{a:Act}{w:World}
def uq{b:Nat}{c:Array Zp}{el:Zm}{fr:Nat×Nat}(h:w.heap[b]?=some (.cells c el fr))(k:Nat):w.cell? ⟨b,k,none⟩=c[k]?:=by simp[cell?,h]
def GQ{b o:Nat}{c:Array Zp}(d:∀k,w.cell? ⟨b,k,none⟩=c[k]?):∀(m i:Nat)(a:Array Zp),o+i+m<=c.size->
 (loadCellsFrom ⟨b,o,none⟩ i m a).run P w=.ok (a++((c.toList.drop (o+i)).take m).toArray) w:=by
 intro m
 induction m with
 |zero=>intro i a _;simp[loadCellsFrom]|succ m z=>
  intro i a h;have u:o+i<c.size:=Za
  have e:w.cell? ⟨b,o+i,none⟩=some c[o+i]:=by rw[d];simp[u]
  simp only[loadCellsFrom,run_bind,oP,run_load,e,andThen_ok];rw[z (i+1) _ Za]
  congr 1
  rw[List.drop_eq_getElem_cons (show o+i<c.toList.length by simpa using u),List.take_succ_cons]
  apply ext';simp[add_assoc]
def CJ{b o m:Nat}{c:Array Zp}(a:∀k,w.cell? ⟨b,k,none⟩=c[k]?)(h:o+m<=c.size\/m=0):
 (loadCells ⟨b,o,none⟩ m).run P w=.ok ((c.toList.drop o).take m).toArray w:=by
 rcases h with h|h
 .have:=GQ (P:=P) a m 0 #[] (o:=o) Za
  simpa[loadCells]using this
 subst h;simp[loadCells,loadCellsFrom]
theorem fA{es:Nat}{xs:Zt}(a:∀x∈xs,x.length=es):xs.flatten.length=xs.length*es:=by induction xs with|nil=>simp|cons x xs u=>simp only[flatten_cons,ζi,length_cons];rw[u (λy w=>a y (mem_cons_of_mem _ w)),a x Zc,add_mul];omega
def CA{es:Nat}:∀{xs:Zt}(_:∀x∈xs,x.length=es){el:Nat}{cs:Zu},xs[el]?=some cs->(xs.flatten.drop (el*es)).take es=cs:=by intro xs;induction xs with|nil=>intro _ el cs h;simp at h|cons x xs w=>intro a el cs h;have u:x.length=es:=a x Zc;cases el with|zero=>simp at h;subst h;simp[u]|succ el=>have:=w (λy z=>a y (mem_cons_of_mem _ z)) (el:=el) (cs:=cs) (by simpa using h);rw[flatten_cons,show(el+1)*es=x.length+el*es by rw[u,add_mul];omega,<-drop_drop];simpa using this
def Gv{es:Nat}:∀{xs:Zt}(_:∀x∈xs,x.length=es){el:Nat}(cs:Zu),el<xs.length->cs.length=es->
 (xs.set el cs).flatten=xs.flatten.take (el*es)++cs++xs.flatten.drop (el*es+es):=by
 intro xs
 induction xs with
 |nil=>intro _ el cs h;simp at h|cons x xs w=>
  intro a el cs h b;have u:x.length=es:=a x Zc
  cases el with
  |zero=>simp[u]|succ el=>
   have:=w (λy z=>a y (mem_cons_of_mem _ z)) (el:=el) cs (by simpa using h) b
   simp only[List.set_cons_succ,flatten_cons,this];rw[show(el+1)*es=x.length+el*es by rw[u,add_mul];omega]
   rw[show x.length+el*es+es=x.length+(el*es+es)by omega]
   rw[List.take_append,List.drop_append];simp[List.take_of_length_le,List.drop_eq_nil_of_le,Nat.add_sub_cancel_left]
def uK{es:Nat}{xs:Zt}(a:∀x∈xs,x.length=es){i j:Nat}{x:Zu}{y:V}(b:xs[i]?=some x)(B:x[j]?=some y):xs.flatten[i*es+j]?=some y:=by
 have:=CA a b;have u:j<es:=by rw[<-a x (mem_of_getElem? b)];exact(ζe.1 B).1
 have e:=congrArg (·[j]?) this;simp only[getElem?_take,u,if_true,getElem?_drop]at e;rw[e];exact B
def fN.elem{p:Pl}{c:Array Zp}{es:Nat}{xs:Zt}(r:fN I μ p c es xs){el:Nat}{cs:Zu}(h:xs[el]?=some cs):
 cR I μ cs ((c.toList.drop (p.o+el*es)).take es)/\cs.length=es/\p.o+el*es+es<=c.size:=by
 have u:=(ζe.1 h).1;have z:=r.oD cs (mem_of_getElem? h);have a:=(r.rel.drop (el*es)).take es;rw[CA r.oD h]at a;have B:el*es+es<=xs.length*es:=by have:=mul_le_mul_right es (show el+1<=xs.length from u);rwa [add_mul,one_mul]at this
 have w:=r.room;refine⟨?_,z,Za⟩
 have e:(((c.toList.drop p.o).take (xs.length*es)).drop (el*es)).take es=(c.toList.drop (p.o+el*es)).take es:=by rw[drop_take,take_take,drop_drop,min_eq_left Za]
 rw[e]at a;exact a
def fN.span{p:Pl}{c:Array Zp}{es:Nat}{xs:Zt}(r:fN I μ p c es xs){off len:Nat}(h:off+len<=xs.length):
 cR I μ ((xs.drop off).take len).flatten ((c.toList.drop (p.o+off*es)).take (len*es))/\p.o+off*es+len*es<=c.size:=by
 have w:=r.room;have B:off*es+len*es<=xs.length*es:=by rw[<-add_mul];exact mul_le_mul_right _ h
 have e1:((xs.drop off).take len).flatten=(xs.flatten.drop (off*es)).take (len*es):=by have u:xs=xs.take off++((xs.drop off).take len++(xs.drop off).drop len):=(by rw[take_append_drop,take_append_drop]);have g1:(xs.take off).flatten.length=off*es:=(by rw[fA (λx u=>r.oD x (mem_of_mem_take u))];rw[List.length_take,min_eq_left Za]);have g2:((xs.drop off).take len).flatten.length=len*es:=(by rw[fA (λx u=>r.oD x (mem_of_mem_drop (mem_of_mem_take u))),List.length_take,List.length_drop,min_eq_left Za]);have z:=congrArg List.flatten u;simp only[flatten_append]at z;rw[z,<-g1,List.drop_left,<-g2,List.take_left]
 have a:=(r.rel.drop (off*es)).take (len*es);rw[e1];refine⟨?_,Za⟩
 have e:(((c.toList.drop p.o).take (xs.length*es)).drop (off*es)).take (len*es)=(c.toList.drop (p.o+off*es)).take (len*es):=by rw[drop_take,take_take,drop_drop,min_eq_left Za]
 rw[e]at a;exact a
def ES{ob:Ob}{es:Nat}{xs:Zt}(h:ob.rows=some (es,xs)):ob=.row es xs\/ob=.frz es xs:=by cases ob<;>simp_all [Ob.rows]
def c9.rows(s:c9 I μ H w){id es:Nat}{xs:Zt}(h:(H[id]?).bind Ob.rows=some (es,xs)):
 ∃p c,μ id=some p/\(∀k,w.cell? ⟨p.b,k,none⟩=c[k]?)/\fN I μ p c es xs:=by
 have⟨ob,a,u⟩:=ζg.1 h;have:=s.obs id ob a;rcases ES u with rfl|rfl
 .have⟨p,c,el,g1,_,g3,g4⟩:=this;exact⟨p,c,g1,uq g3,g4⟩
 have⟨p,c,g1,g2,g4⟩:=this;have⟨el,fr,g3⟩:=s.imm _ _ g2;exact⟨p,c,g1,uq g3,g4⟩
def NZ(s:c9 I μ H w){p:V}{v:Zp}(d:bM I μ p v){m:Nat}{cs:Zu}(h:dX H p m=some cs):
 ∃(b o:Nat)(c:Array Zp),v=.pointer (some ⟨b,o,none⟩)/\(∀k,w.cell? ⟨b,k,none⟩=c[k]?)/\(o+m<=c.size\/m=0)/\cR I μ cs ((c.toList.drop o).take m):=by
 unfold dX at h;split at h
 .rename_i z;have⟨b,o,c,e,G,Q,l⟩:=d.lz;have⟨el,fr,g⟩:=s.imm _ _ G;refine⟨b,o,c,e,uq g,?_⟩;have J:cR I μ z ((c.toList.drop o).take z.length):=by
   refine⟨by simp;omega,λj x y f C=>?_⟩
   have L:=(ζe.1 f).1;rw[getElem?_take,if_pos L,getElem?_drop]at C;exact .c _ _ (l j x y f (by simpa using C))
  rcases zw J h with⟨g1,g2,g3⟩|⟨g1,g2⟩
  .refine⟨.inl Za,?_⟩
   rw[List.drop_zero,take_take,min_eq_left Za]at g1
   exact g1
  refine⟨.inr g1,?_⟩;rw[g2,g1];exact .nil
 .rename_i id el off;split at h
  .rename_i es z u;split at h
   .rename_i O B;have⟨p,c,g1,g2,g3⟩:=s.rows u;have⟨q,D,e⟩:=d.sJ;rw[g1]at D;cases D;refine⟨_,_,c,e,g2,?_⟩;have⟨k1,k2,k3⟩:=g3.elem B;rw[g3.es_eq];rcases zw k1 h with⟨a,i,n⟩|⟨a,i⟩
    .refine⟨.inl Za,?_⟩
     rw[drop_take,take_take,min_eq_left Za,drop_drop]at a
     exact a
    refine⟨.inr a,?_⟩;rw[i,a];exact .nil
   simp at h
  simp at h
 simp at h
def BS(D:eG P E)(s:c9 I μ H w){t:Zm}{d:TD}(G:E.tt t=some d){p x:V}{v:Zp}(g:bM I μ p v)(h:(dX H p d.size).bind (mk d.agg)=some x):
 ∃u,(loadAt t v).run P w=.ok u w/\bM I μ x u/\∃J,v=.pointer (some J)/\(loadVar t J).run P w=.ok u w:=by
 have⟨S,i,C⟩:=ζg.1 h;have⟨b,o,c,e,g1,g2,g3⟩:=NZ s g i;have key:∃u,(loadVar t ⟨b,o,none⟩).run P w=.ok u w/\bM I μ x u:=by unfold loadVar;simp only[run_bind,(D.ty G).Iu,andThen_ok];cases z:d.agg with|true=>rw[z]at C;refine⟨.agg ((c.toList.drop o).take d.size).toArray,?_,K8 C (by simpa using g3)⟩;simp only[if_true,run_bind,(D.ty G).jM,andThen_ok,CJ g1 g2,run_pure]|false=>rw[z]at C;have⟨u,a,L⟩:=mk_one C g3;refine⟨u,?_,L⟩;have O:d.size≠0:=(by intro j;rw[j]at a;simp at a);have B:c[o]?=some u:=(by have:=congrArg (·[0]?) a;simp only[getElem?_take,getElem?_drop,getElem?_cons_zero]at this;rw[if_pos Za]at this;simpa using this);simp only[false_eq_true,if_false,run_load,g1,B]
 have⟨u,f,Q⟩:=key;refine⟨u,?_,Q,_,e,f⟩;rw[e];unfold loadAt;simp only[run_bind,sureAddr,run_pure,andThen_ok,f]
def c9.FN(s:c9 I μ H w){b:Nat}{x:IC}(h:I b=some x):b<w.heap.size:=IC.uj (s.imm b x h)
def P0{b es:Nat}{c:Array Zp}{xs:Zt}(h:cR I μ xs.flatten c.toList)(a:∀x∈xs,x.length=es)(B:∀x∈xs,∀y∈x,V.one y=true):
 fN I μ ⟨b,0,es,c.size⟩ c es xs:=by
 have u:xs.length*es=c.size:=by rw[<-fA a,h.1];simp
 exact⟨rfl,rfl,a,B,by simp[u],by simpa[u,List.take_of_length_le]using h⟩
structure OG(I:cu)(μ:Mu)(w:World)(ob:Ob)(m:Mk)(o:Obj)(p:Pl)(u:Value):Prop where
 b:p.b=w.heap.size
 live:ob.live=true
 nf:Obj.nf o
 len:∀es xs,ob=.row es xs->p.sz=xs.length*es
 rel:∀k,μ k=none->rO I (μ.gq k p) (w.alloc o) k ob/\bM I (μ.gq k p) (m.val k) u
def c9.wW(s:c9 I μ H w):I w.heap.size=none:=by cases h:I w.heap.size with|none=>rfl|some x=>have:=s.FN h;omega
def u7(s:c9 I μ H w){es:Nat}{xs:Zt}{c:Array Zp}{el:Zm}{m:Mk}{u:Zp}(h:cR I μ xs.flatten c.toList)(a:∀x∈xs,x.length=es)
 (B:∀x∈xs,∀y∈x,V.one y=true)(d:∀k,bM I (μ.gq k ⟨w.heap.size,0,es,c.size⟩) (m.val k) u):OG I μ w (.row es xs) m (.cells c el) ⟨w.heap.size,0,es,c.size⟩ u where
 nf:=sD _ _
 b:=rfl
 live:=rfl
 len:=λz C e=>by cases e;rw[<-fA a,h.1];simp
 rel:=λk f=>⟨⟨_,c,el,Mu.fP _ _ _,s.wW,lY _,(P0 h a B).mono (cu.le_refl _) (Mu.p9 f)⟩,d k⟩
def HW(t:Zm)(v:Zp):(newVar t v).run P w=.ok ⟨w.heap.size,0,none⟩ (w.alloc (.cells v.cells t)):=by simp[newVar,newRow]
def vi{z:Zu}{B:Array Zp}(h:cR I μ z B.toList)(m:Nat):
 cR I μ (replicate m z).flatten (((Array.range (m*B.size)).map (λi=>B[i % B.size]!)).toList):=by
 have G:z.length=B.size:=by simpa using h.1
 have d:∀x∈replicate m z,x.length=z.length:=λx L=>by rw[eq_of_mem_replicate L]
 have w:=fA d;simp only[List.length_replicate]at w;refine⟨by rw[w,G];simp,λj x y a J=>?_⟩
 have C:=(ζe.1 a).1;rw[w]at C;have u:0<z.length:=by rcases Nat.eq_zero_or_pos z.length with b|b;rw[b]at C;simp at C;exact b
 have O:j / z.length<m:=(Nat.div_lt_iff_lt_mul u).2 C;have c:j % z.length<z.length:=mod_lt _ u;have e1:=uK d (i:=j / z.length) (j:=j % z.length) (x:=z) (y:=z[j % z.length]) (by simp[O]) (by simp[c])
 rw[Nat.mul_comm,Nat.div_add_mod]at e1;rw[e1]at a;cases a;have D:j % B.size<B.size:=by rw[<-G];exact c
 have e2:y=B[j % B.size]:=by have Q:j<(Array.range (m*B.size)).size:=(by simp;rw[<-G];exact C);simp only[Array.toList_map,List.getElem?_map,ζf]at J;obtain⟨q,S,rfl⟩:=J;have:q=j:=(by have:=(ζe.1 S).2;simpa using this.symm);subst this;simp[D]
 rw[e2];exact h.2 (j % z.length) _ _ (by simp[c]) (by rw[G];simp[D])
def D5{es:Nat}:∀(vs:a_ (Nat×V))(xs ys:Zt),(∀x∈xs,x.length=es)->(∀x∈xs,∀y∈x,V.one y=true)->eR es xs vs=some ys->
 sZ (λi=>some (i*es,es)) xs.flatten vs=some ys.flatten/\(∀x∈ys,x.length=es)/\(∀x∈ys,∀y∈x,V.one y=true)/\ys.length=xs.length:=by
 intro vs
 induction vs with
 |nil=>intro xs ys a u h;simp only[eR,ζa]at h;subst h;exact⟨rfl,a,u,rfl⟩|cons v vs G=>
  intro xs ys a u h;have⟨i,v⟩:=v;simp only[eR]at h;split at h
  .rename_i hc;have⟨b,D,I⟩:=hc;have w:∀x∈xs.set i v.cells,x.length=es:=λx z=>by
    rcases List.mem_or_eq_of_mem_set z with h|h
    .exact a x h
    rw[h];exact b
   have B:∀x∈xs.set i v.cells,∀y∈x,V.one y=true:=λx z=>by rcases List.mem_or_eq_of_mem_set z with h|h;exact u x h;rw[h];simpa using I
   have⟨g1,g2,g3,g4⟩:=G _ ys w B h;refine⟨?_,g2,g3,by simpa using g4⟩
   rw[Gv a _ D b]at g1;have J:i*es+es<=xs.length*es:=by have:=mul_le_mul_right es (show i+1<=xs.length from D);rwa [add_mul,one_mul]at this
   have C:=fA a;simp only[sZ];rw[if_neg (by simp[b,C];omega),b]
   exact g1
  simp at h
def Ay(J:eG P E)(r:eC I μ n F a.tmps)(s:c9 I μ H w)(o:Oper){ob:Ob}{m:Mk}(h:eO E F o.op=some (ob,m)):
 ∃x p u,(execOp a.eval o).run P w=.ok (.value u) (w.alloc x)/\OG I μ w ob m x p u:=by
 have⟨dst,op,ty,pos,after,A⟩:=o;simp only at h
 cases op with
 |alloc t=>
  simp only[eO,ζf,ζc]at h;obtain⟨d,U,rfl,rfl⟩:=h;have⟨z,W,b,X,L⟩:=(J.ty U).B5;refine⟨.cells z.cells t,_,.pointer (some ⟨w.heap.size,0,none⟩),?_,u7 s (by simpa using b I μ) (by simp[X]) (by simpa using L) (λk=>?_)⟩
  .simp only[execOp];refine eB ?_;unfold Instr.alloc;simp only[run_bind,W,andThen_ok,HW,run_pure]
  have:=bM.hptr (I:=I) k 0 0 _ (Mu.fP μ k ⟨w.heap.size,0,d.size,z.cells.size⟩);simp only[zero_mul,add_zero]at this;exact this
 |box t x=>
  simp only[eO]at h;split at h
  .rename_i v hv;split at h
   .rename_i L;simp only[ζa,ζc]at h;obtain⟨rfl,rfl⟩:=h;have b:=dx r hv;refine⟨.cells (a.eval x).cells t,_,.pointer (some ⟨w.heap.size,0,none⟩),?_,u7 s (by simpa using b.cells) Zc (by simpa using L) (λk=>?_)⟩
    .simp only[execOp];refine eB ?_;unfold Instr.box;simp only[run_bind,HW,andThen_ok,run_pure]
    have:=bM.hptr (I:=I) k 0 0 _ (Mu.fP μ k ⟨w.heap.size,0,v.cells.length,(a.eval x).cells.size⟩);simp only[zero_mul,add_zero]at this;exact this
   simp at h
  simp at h
 |makeSlice t l c=>
  simp only[eO]at h;split at h
  .rename_i e k1 ln k2 B q X hc;have⟨d,U,O⟩:=e_ q;have⟨g,V,Y,K⟩:=(J.ty U).dK;rw[O]at Y;have:=iY Y;subst this;split at h
   .rename_i G D;split at h
    .rename_i Q;obtain⟨rfl,rfl,an,ao,hm,ap⟩:=Q;simp only[ζa,ζc]at h;obtain⟨rfl,rfl⟩:=h;have⟨z,W,b,S,L⟩:=(J.ty D).B5;have⟨i,_,hi,am,aq,_⟩:=(J.ty D).info;have C:z.cells.size=G.size:=by have:=(b I μ).1;simp at this;omega
     have Z:(0:Int)<=B:=Za
     have w1:i64.wrap ln=ln:=by simp[wrap,signed,IntKind.bits];omega
     have w2:i64.wrap B=B:=by simp[wrap,signed,IntKind.bits];omega
     have aa:∀y:Int,0<=y->y<=2147483648->((i.bytes:Int)*y>2 ^ 48)=False:=by
      intro y ae hy;simp only[eq_iff_iff,iff_false,Int.not_lt,gt_iff_lt];have af:(i.bytes:Int)<=4096:=Za
      calc (i.bytes:Int)*y<=4096*2147483648:=Int.mul_le_mul af hy ae Za
       _<=2 ^ 48:=by decide
     have ab:(Instr.makeSlice t (.int .i64 ln) (.int .i64 B)).run P w=
      .ok (.slice (some ⟨w.heap.size,0,none⟩) ln.toNat B.toNat) (w.alloc (.cells ((Array.range (B.toNat*z.cells.size)).map (λi=>z.cells[i % z.cells.size]!)) e)):=by
      unfold Instr.makeSlice;have t1:(decide (B<0)||decide ((i.bytes:Int)*B>2 ^ 48))=false:=by
       rw[Bool.or_eq_false_iff];exact⟨by simp;omega,by simp only[aa B Z hm,decide_false]⟩
      have q1:(((decide (B<0)||decide ((i.bytes:Int)*B>2 ^ 48))||decide (ln<0))||decide (ln>B))=false:=by rw[t1];simp;omega
      simp only[run_bind,K,andThen_ok,asInt,kS,run_pure,nU hi,w1,w2,q1,false_eq_true,if_false,run_askRoom,(J.ty D).jM];rw[C]
      by_cases f:B.toNat*G.size=0
      .have N:Array.range 0=(#[]:Array Nat):=rfl;simp[f,newRow,N]
      simp[f,W,C,newRow]
     refine⟨.cells ((Array.range (B.toNat*z.cells.size)).map (λi=>z.cells[i % z.cells.size]!)) e,_,.slice (some ⟨w.heap.size,0,none⟩) ln.toNat B.toNat,?_,u7 s (vi (b I μ) B.toNat) (λx T=>by rw[eq_of_mem_replicate T,S]) (λx T=>by rw[eq_of_mem_replicate T];simpa using L) (λk=>?_)⟩
     .simp only[execOp];refine eB ?_;rw[(dx r X).fc,(dx r hc).fc];exact ab
     have:=bM.hsl (I:=I) (μ:=μ.gq k ⟨w.heap.size,0,G.size,((Array.range (B.toNat*z.cells.size)).map (λi=>z.cells[i % z.cells.size]!)).size⟩) k 0 ln.toNat B.toNat _ (Mu.fP _ _ _) Za (by simp[C])
     simpa[Mk.val]using this
    simp at h
   simp at h
  simp at h
 |buildSlice t len ps=>
  simp only[eO]at h;split at h
  .rename_i e vs q ah;have⟨d,U,O⟩:=e_ q;have⟨g,V,Y,K⟩:=(J.ty U).dK;rw[O]at Y;have:=iY Y;subst this;split at h
   .rename_i G D;split at h
    .rename_i ai;simp only[ζf,ζc]at h;obtain⟨ys,aj,rfl,rfl⟩:=h;have⟨z,W,b,S,L⟩:=(J.ty D).B5;have C:z.cells.size=G.size:=by have:=(b I μ).1;simp at this;omega
     have⟨X,ak⟩:=DO r ah;have⟨g1,g2,g3,g4⟩:=D5 vs _ ys (λx T=>by rw[eq_of_mem_replicate T,S]) (λx T=>by rw[eq_of_mem_replicate T];simpa using L) aj
     have⟨M,j,R⟩:=AN (place':=λi=>some (i*G.size,G.size)) (λi p hp=>hp) vs _ _ _ ((Array.range (len*z.cells.size)).map (λi=>z.cells[i % z.cells.size]!)) X ak (vi (b I μ) len) g1
     have ad:M.size=len*G.size:=by
      have e1:=R.1;rw[fA g2,g4]at e1;simpa using e1.symm
     refine⟨.cells M e,_,.slice (some ⟨w.heap.size,0,none⟩) len len,?_,u7 s R g2 g3 (λk=>?_)⟩
     .simp only[execOp];refine eB ?_;unfold Instr.buildSlice;have al:¬(len*G.size>2 ^ 24):=by omega
      simp only[run_bind,K,andThen_ok,(J.ty D).jM,if_neg al]
      by_cases f:len*G.size=0
      .have e0:(Array.range (len*z.cells.size)).map (λi=>z.cells[i % z.cells.size]!)=#[]:=by rw[C,f];simp
       rw[e0]at j;have N:Array.range 0=(#[]:Array Nat):=rfl;simp only[f,if_true,run_pure,andThen_ok,N,Array.map_empty];rw[j];simp[newRow]
      simp only[if_neg f,run_bind,W,andThen_ok,run_pure];rw[C]at j;rw[C,j];simp[newRow]
     have:=bM.hsl (I:=I) (μ:=μ.gq k ⟨w.heap.size,0,G.size,M.size⟩) k 0 len len _ (Mu.fP _ _ _) (le_refl _) (by simp[ad])
     simpa[Mk.val]using this
    simp at h
   simp at h
  simp at h
 |makeMap t r=>
  cases r with
  |none=>
   simp only[eO,ζa,ζc]at h;obtain⟨rfl,rfl⟩:=h;refine⟨.map #[] 0,⟨w.heap.size,0,0,0⟩,.map (some w.heap.size),?_,⟨rfl,rfl,qF rfl,λ_ _ e=>(nomatch e),λk q=>⟨⟨_,#[],0,Mu.fP _ _ _,s.wW,lY _,rfl,Zc⟩,?_⟩⟩⟩
   .simp only[execOp];refine eB ?_;unfold Instr.makeMap;simp[run_newObj]
   exact bM.hmap (I:=I) k ⟨w.heap.size,0,0,0⟩ (Mu.fP _ _ _)
  |some x=>simp[eO]at h
 |_=>simp[eO]at h
end
section
variable{P:Program}{E:Env}{I:cu}{μ:Mu}{H H':bC}{n:Nat}{F:Zo}{a:Act}{w:World}
def bM.one{x:V}{v:Zp}(h:bM I μ x v)(B:x.one=true):v.oneCell'=true:=by
 cases h with
 |c _ _ h=>cases h<;>first|rfl|simp[V.one]at B
 |agg=>simp[V.one]at B|tup=>simp[V.one]at B|_=>rfl
def cR.NP{xs:Zu}{vs:a_ Zp}(h:cR I μ xs vs)(B:∀x∈xs,V.one x=true):∀v∈vs,v.oneCell'=true:=by
 intro v a;obtain⟨j,w,rfl⟩:=List.mem_iff_getElem.1 a;have u:j<xs.length:=by rw[h.1];exact w
 exact(h.2 j xs[j] vs[j] (by simp[u]) (by simp[w])).one (B _ (List.getElem_mem u))
def LO{b:Nat}{o:Obj}(h:w.heap[b]?=some o):fM w b o=w:=by
 unfold fM;have:w.heap.setIfInBounds b o=w.heap:=by apply Array.ext;simp;intro i a u;have⟨z,e⟩:=Array.getElem?_eq_some_iff.1 h;rw[Array.getElem_setIfInBounds];split;subst_vars;rfl;rfl
 rw[this]
def FT{b o:Nat}{c:Array Zp}{el:Zm}{v:Zp}(h:w.heap[b]?=some (.cells c el)):
 w.setCell ⟨b,o,none⟩ v=fM w b (.cells (c.setIfInBounds o v) el):=by
 unfold World.setCell fM
 congr 1
 have⟨C,e⟩:=Array.getElem?_eq_some_iff.1 h;apply Array.ext
 .simp
 intro i a B
 by_cases z:i=b
 .subst z;simp[Array.getElem_modify,e]
 have u:i<w.heap.size:=by simpa using B
 rw[Array.getElem_modify_of_ne (Ne.symm z) _ (by simpa using u),Array.getElem_setIfInBounds]
 .simp[Ne.symm z]
 exact u
def tL{b o:Nat}{el:Zm}:∀(vs:a_ Zp)(i:Nat)(w:World)(c:Array Zp),w.heap[b]?=some (.cells c el)->(∀v∈vs,v.oneCell'=true)->o+i+vs.length<=c.size->
 ∃c',(storeCells ⟨b,o,none⟩ vs i).run P w=.ok () (fM w b (.cells c' el))/\c'.toList=c.toList.take (o+i)++vs++c.toList.drop (o+i+vs.length):=by
 intro vs
 induction vs with
 |nil=>intro i w c h _ _;exact⟨c,by simp[storeCells,LO h],Zc⟩|cons v vs G=>
  intro i w c h D I;simp only[length_cons]at I;have z:o+i<c.size:=Za
  have u:w.cell? ⟨b,o+i,none⟩=some c[o+i]:=by rw[uq h];simp[z]
  have C:w.frozen? ⟨b,o+i,none⟩=false:=by simp[frozen?,h]
  have J:=(Array.getElem?_eq_some_iff.1 h).1;have⟨c',g1,g2⟩:=G (i+1) (fM w b (.cells (c.setIfInBounds (o+i) v) el)) (c.setIfInBounds (o+i) v) (iJ _ J) (λx L=>D x (mem_cons_of_mem _ L)) (by simp;omega)
  refine⟨c',?_,?_⟩
  .simp only[storeCells,run_bind,oP,run_store P w _ v _ (D v Zc),u,C,false_eq_true,if_false,andThen_ok,FT h]
   rw[g1,Kd]
  rw[g2];have B:o+i<c.toList.length:=by simpa using z
  simp only[Array.toList_setIfInBounds,length_cons];rw[show o+(i+1)=o+i+1 from Za,List.take_succ_eq_append_getElem (by simpa using B),List.take_set_of_le Za,List.getElem_set_self,List.drop_set_of_lt Za]
  simp[append_assoc];omega
structure AR(P:Program)(I:cu)(μ:Mu)(H:bC)(w:World)(s:Sem Next)(x:V)(H':bC):Prop where
 run:∃nx u w' μ',s.run P w=.ok nx w'/\(nx=.value u\/(nx=.skip/\u=undef))/\bM I μ' x u/\c9 I μ' H' w'/\Step I μ H w I μ' H' w'
def Al{α:Type}(L vs:a_ α)(o m k:Nat)(D:o+m<=L.length)(a:k+vs.length<=m):
 ((L.take (o+k)++vs++L.drop (o+k+vs.length)).drop o).take m=((L.drop o).take m).take k++vs++((L.drop o).take m).drop (k+vs.length):=by
 obtain⟨A,B,C,rfl,u,w⟩:∃A B C:a_ α,L=A++(B++C)/\A.length=o/\B.length=m:=⟨L.take o,(L.drop o).take m,(L.drop o).drop m,by rw[take_append_drop,take_append_drop],by simp;omega,by simp;omega⟩
 subst u;subst w;have e1:(A++(B++C)).take (A.length+k)=A++B.take k:=by rw[List.take_append,List.take_of_length_le Za,Nat.add_sub_cancel_left,List.take_append_of_le_length Za]
 have e2:(A++(B++C)).drop (A.length+k+vs.length)=B.drop (k+vs.length)++C:=by rw[List.drop_append,List.drop_eq_nil_of_le Za,List.nil_append,List.drop_append_of_le_length Za];congr 2;omega
 have e3:((A++(B++C)).drop A.length).take B.length=B:=Zc
 rw[e1,e2,e3];simp only[append_assoc,List.drop_left];have z:(B.take k++(vs++B.drop (k+vs.length))).length=B.length:=by simp;omega
 have:B.take k++(vs++(B.drop (k+vs.length)++C))=(B.take k++(vs++B.drop (k+vs.length)))++C:=by simp[append_assoc]
 rw[this,<-z,List.take_left]
def fN.splice{p:Pl}{c c':Array Zp}{es el off:Nat}{xs:Zt}{cs ys:Zu}{vs:a_ Zp}(r:fN I μ p c es xs)(B:xs[el]?=some cs)(U:cR I μ ys vs)
 (W:∀y∈ys,V.one y=true)(Y:off+ys.length<=cs.length)(a:c'.toList=c.toList.take (p.o+el*es+off)++vs++c.toList.drop (p.o+el*es+off+vs.length)):
 fN I μ p c' es (xs.set el (cs.take off++ys++cs.drop (off+ys.length))):=by
 have⟨k1,k2,k3⟩:=r.elem B;have D:=(ζe.1 B).1;have S:=U.1;have u:=r.room;have X:el*es+es<=xs.length*es:=by have:=mul_le_mul_right es (show el+1<=xs.length from D);rwa [add_mul,one_mul]at this
 have G:c'.size=c.size:=by have:=congrArg length a;simp at this;omega
 have J:(cs.take off++ys++cs.drop (off+ys.length)).length=es:=by simp;omega
 have z:∀x∈xs.set el (cs.take off++ys++cs.drop (off+ys.length)),x∈xs\/x=cs.take off++ys++cs.drop (off+ys.length):=λx L=>List.mem_or_eq_of_mem_set L
 refine⟨r.es_eq,by rw[G];exact r.sz,?_,?_,by rw[G];simpa using u,?_⟩
 .intro x L;rcases z x L with h|h
  .exact r.oD x h
  rw[h];exact J
 .intro x L y w;rcases z x L with h|h
  .exact r.one x h y w
  rw[h]at w;have O:=r.one cs (mem_of_getElem? B);simp only[mem_append]at w;rcases w with(h|h)|h
  .exact O y (mem_of_mem_take h)
  .exact W y h
  exact O y (mem_of_mem_drop h)
 rw[Gv r.oD _ D J,a,length_set];have C:=r.rel;have Q:=CA r.oD B;have e:take (xs.length*es) (List.drop p.o (take (p.o+el*es+off) c.toList++vs++List.drop (p.o+el*es+off+vs.length) c.toList))=
  (((c.toList.drop p.o).take (xs.length*es)).take (el*es+off))++vs++(((c.toList.drop p.o).take (xs.length*es)).drop (el*es+off+vs.length)):=by
  have:=Al c.toList vs p.o (xs.length*es) (el*es+off) (by simpa using u) Za
  simpa only[add_assoc]using this
 rw[e];have e2:xs.flatten.take (el*es)++(cs.take off++ys++cs.drop (off+ys.length))++xs.flatten.drop (el*es+es)=
  xs.flatten.take (el*es+off)++ys++xs.flatten.drop (el*es+off+ys.length):=by
  have T:=fA r.oD;have b:xs.flatten.take (el*es+off)=xs.flatten.take (el*es)++cs.take off:=by rw[<-Q,List.take_add,take_take,min_eq_left Za]
  have d:xs.flatten.drop (el*es+off+ys.length)=cs.drop (off+ys.length)++xs.flatten.drop (el*es+es):=by rw[<-Q,drop_take];have:xs.flatten.drop (el*es+es)=(xs.flatten.drop (el*es+(off+ys.length))).drop (es-(off+ys.length)):=(by rw[drop_drop];congr 1;omega);rw[this,drop_drop,take_append_drop,add_assoc]
  rw[b,d];simp[append_assoc]
 rw[e2,<-S];exact((C.take _).append U).append (C.drop _)
def MT(U:eG P E)(r:eC I μ n F a.tmps)(s:c9 I μ H w){t:Zm}{p q:Zr}{x:V}(h:cH E F H (.store t p q)=some (x,H')):
 AR P I μ H w (do storeAt t (a.eval p) (a.eval q);pure .skip) x H':=by
 simp only[cH]at h;split at h
 .rename_i d id el off v W X Y;split at h
  .rename_i es Q z;split at h
   .rename_i D B;split at h
    .rename_i hc;have⟨Z,k,G⟩:=hc;simp only[ζa,ζc]at h;obtain⟨rfl,rfl⟩:=h;have⟨pl,c,ty,g1,g2,g3,g4⟩:=s.obs id _ z;have⟨l,S,e⟩:=(dx r X).sJ;rw[g1]at S;cases S;have u:=(dx r Y).cells;have T:∀y∈v.cells,V.one y=true:=by simpa using G
     have⟨k1,k2,k3⟩:=g4.elem B;have J:=u.1;have b:pl.o+el*es+off+0+(a.eval q).cells.toList.length<=c.size:=Za
     have⟨c',f,g⟩:=tL (P:=P) (o:=pl.o+el*es+off) (a.eval q).cells.toList 0 w c g3 (u.NP T) b;have C:fN I μ pl c' es (Q.set el (D.take off++v.cells++D.drop (off+v.cells.length))):=g4.splice B u T Za (by simpa using g)
     have L:=(Array.getElem?_eq_some_iff.1 g3).1;have⟨i,j⟩:=s.write (ob':=.row es (Q.set el (D.take off++v.cells++D.drop (off+v.cells.length)))) (o:=.cells c' ty) z rfl g1
      ⟨pl,c',ty,g1,g2,iJ _ L,C⟩
     refine⟨.skip,undef,_,μ,?_,.inr ⟨rfl,rfl⟩,.undef I μ,i,j⟩;rw[e];have O:¬((a.eval q).cells.size≠d.size):=by simp at J;omega
     rw[g4.es_eq];unfold storeAt storeVar;simp only[run_bind,sureAddr,run_pure,andThen_ok,(U.ty W).jM,if_neg O,f]
    simp at h
   simp at h
  simp at h
 simp at h
def xU(s:c9 I μ H w){x:V}{v:Zp}(Y:bM I μ x v){es:Nat}{ys:Zt}(h:dH H es x=some ys):
 ∃D a arr,v=.slice D ys.length a/\ys.length<=a/\(∀G:World,G.heap=w.heap->(firstCells es ys.length v).run P G=.ok arr G)/\cR I μ ys.flatten arr.toList/\(∀y∈ys,y.length=es)/\
  (∀y∈ys,∀z∈y,V.one z=true):=by
 have B:∀(D:bt Addr)(a:Nat)(G:World),G.heap=w.heap->(firstCells es 0 (.slice D 0 a)).run P G=.ok #[] G:=by intro D a G _;cases D with|none=>rfl|some D=>simp[firstCells,loadCells,loadCellsFrom]
 cases x with
 |dF=>simp only[dH,ζa]at h;subst h;obtain⟨D,rfl⟩:=Y.qK;exact⟨D,0,#[],rfl,le_refl _,B D 0,.nil,Zc,Zc⟩|bL=>simp only[dH,ζa]at h;subst h;rw[Y.kY];exact⟨none,0,#[],rfl,le_refl _,B none 0,.nil,Zc,Zc⟩|fsl u L=>
  simp only[dH]at h;split at h
  .rename_i Z;simp only[ζa]at h;subst h;subst Z;have A:=Y.kX
   cases A with
   |fsl0 _ D a=>exact⟨some D,a,#[],rfl,zero_le _,B (some D) a,.nil,Zc,Zc⟩|fsl _ _ b o a c hI r hu ho t hr=>
    have⟨el,fr,E⟩:=s.imm _ _ hI;refine⟨_,a,((c.toList.drop o).take (L.length*u)).toArray,rfl,r,?_,?_,hu,ho⟩
    .intro G O;simp only[firstCells];exact CJ (uq (w:=G) (by rw[O];exact E)) (.inl t)
    have S:=fA hu;refine⟨by simp[S];omega,λj p q l m=>?_⟩
    have T:=(ζe.1 l).1;rw[S]at T;have J:0<u:=by rcases Nat.eq_zero_or_pos u with d|d;rw[d]at T;simp at T;exact d
    have f:j / u<L.length:=(Nat.div_lt_iff_lt_mul J).2 T;have U:j % u<u:=mod_lt _ J;have W:=hu _ (List.getElem_mem f);have e1:=uK hu (i:=j / u) (j:=j % u) (x:=L[j / u]) (y:=(L[j / u])[j % u]) (by simp[f]) (by simp[W,U])
    have n:j / u*u+j % u=j:=by rw[Nat.mul_comm,Nat.div_add_mod]
    rw[n,l]at e1;cases e1;simp only[getElem?_take,if_pos T,getElem?_drop]at m;refine .c _ _ (hr (j / u) (j % u) L[j / u] _ q (by simp[f]) (by simp[W,U]) ?_)
    rw[add_assoc,n];simpa using m
  simp at h
 |hsl id u off len=>
  simp only[dH]at h;split at h
  .rename_i Z;subst Z;split at h
   .rename_i Q L X;split at h
    .rename_i ab;simp only[ζa]at h;subst h;have⟨p,c,g1,g2,g3⟩:=s.rows X;have C:((L.drop off).take len).length=len:=by simp;omega
     rcases Y.kV with⟨q,a,U,F,r,t,e⟩|⟨d,D,e⟩
     .rw[g1]at U;cases U;have J:Q=u:=by rw[<-g3.es_eq,F]
      subst J;have⟨k1,k2⟩:=g3.span ab;refine⟨_,a,((c.toList.drop (p.o+off*Q)).take (len*Q)).toArray,by rw[e,C],Za,?_,by simpa using k1,?_,?_⟩
      .intro G O;rw[e,C];simp only[firstCells];exact CJ (λk=>by rw[<-g2 k];simp[cell?,O]) (.inl k2)
      .exact λy g=>g3.oD y (mem_of_mem_drop (mem_of_mem_take g))
      exactλy g=>g3.one y (mem_of_mem_drop (mem_of_mem_take g))
     subst d;simp only[List.take_zero]at C⊢;exact⟨_,0,#[],by rw[e];rfl,le_refl _,by rw[e];exact B _ 0,.nil,Zc,Zc⟩
    simp at h
   simp at h
  simp at h
 |_=>simp[dH]at h
def pg(z:Array Zp)(k:Nat):(zeroCells z k).size=k*z.size:=by simp[zeroCells]
def c9.drew(s:c9 I μ H w):c9 I μ H w.drew:=s.nX rfl
def zT(s:c9 I μ H w){es B:Nat}{xs ys:Zt}{old new rest:Array Zp}{el:Zm}(Y:cR I μ xs.flatten old.toList)(a:cR I μ ys.flatten new.toList)
 (G:∀x∈xs,x.length=es)(J:∀x∈ys,x.length=es)(U:∀x∈xs,∀y∈x,V.one y=true)(W:∀x∈ys,∀y∈x,V.one y=true)
 (D:xs.length+ys.length<=B)(b:rest.size=(B-(xs.length+ys.length))*es):
 ∃μ',bM I μ' (.hsl H.length es 0 (xs.length+ys.length)) (.slice (some ⟨w.heap.size,0,none⟩) (xs.length+ys.length) B)/\c9 I μ' (H++[.row es (xs++ys)]) (w.alloc (.cells (old++new++rest) el))/\
  Step I μ H w I μ' (H++[.row es (xs++ys)]) (w.alloc (.cells (old++new++rest) el)):=by
 have L:=fA G;have O:=fA J;have z:=Y.1;have C:=a.1;simp only[length_toList]at z C;have Q:(old++new++rest).size=B*es:=by simp only[Array.size_append];rw[<-z,<-C,L,O,b,<-add_mul,<-add_mul];congr 1;omega
 have u:(xs.length+ys.length)*es<=B*es:=mul_le_mul_right _ D;rw[add_mul]at u;have S:fN I μ ⟨w.heap.size,0,es,(old++new++rest).size⟩ (old++new++rest) es (xs++ys):=by refine⟨rfl,rfl,?_,?_,?_,?_⟩;intro x T;rcases mem_append.1 T with h|h;exact G x h;exact J x h;intro x T;rcases mem_append.1 T with h|h;exact U x h;exact W x h;rw[Q];simp only[ζi,zero_add,add_mul];exact u;have e:((old++new++rest).toList.drop 0).take ((xs++ys).length*es)=old.toList++new.toList:=(by simp only[List.drop_zero,Array.toList_append];rw[List.take_left' (by simp[<-z,<-C,L,O,add_mul])]);rw[e,flatten_append];exact Y.append a
 have⟨X,Z⟩:=s.push (ob:=.row es (xs++ys)) (o:=.cells (old++new++rest) el) (p:=⟨w.heap.size,0,es,(old++new++rest).size⟩) rfl
  ⟨_,_,el,Mu.fP _ _ _,s.wW,lY _,S.mono (cu.le_refl _) (Mu.p9 (s.dom _ (le_refl _)))⟩
 refine⟨_,?_,X,Z⟩;have:=bM.hsl (I:=I) H.length 0 (xs.length+ys.length) B _ (Mu.fP μ H.length ⟨w.heap.size,0,es,(old++new++rest).size⟩) D (by simp only[zero_add];rw[Q];exact le_refl _)
 simpa using this
def JG(s:c9 I μ H w){id:Nat}{ob ob':Ob}{p p':Pl}{o:Obj}(B:H[id]?=some ob)(U:ob.live=true)(W:μ id=some p)(d:p'.b=p.b)
 (m:rO I (μ.gq H.length p') (fM w p.b o) H.length ob')(n:Obj.nf o:=by first|exact sD _ _|exact qF rfl):c9 I (μ.gq H.length p') (H.set id .dead++[ob']) (fM w p.b o)/\Step I μ H w I (μ.gq H.length p') (H.set id .dead++[ob']) (fM w p.b o):=by
 have r:=(ζe.1 B).1;have z:gQ μ H p.b:=⟨id,p,ob,B,U,W,rfl⟩;have c:=s.dom H.length (le_refl _);have u:∀k x,(H.set id .dead++[ob'])[k]?=some x->(k=H.length/\x=ob')\/(k≠H.length/\k=id/\x=.dead)\/(k≠H.length/\k≠id/\H[k]?=some x):=by intro k x h;by_cases e:k<H.length;rw[getElem?_append_left (by simpa using e)]at h;by_cases D:k=id;subst D;rw[getElem?_set_self r]at h;cases h;exact .inr (.inl ⟨Za,rfl,rfl⟩);rw[getElem?_set_ne (Ne.symm D)]at h;exact .inr (.inr ⟨Za,D,h⟩);have:=(ζe.1 h).1;simp at this;have e2:k=H.length:=Za;subst e2;simp at h;exact .inl ⟨rfl,h.symm⟩
 have C:∀b,gQ (μ.gq H.length p') (H.set id .dead++[ob']) b->gQ μ H b:=by rintro b ⟨k,q,x,i,Q,T,rfl⟩;rcases u k x i with⟨rfl,rfl⟩|⟨_,_,rfl⟩|⟨e,D,h⟩;rw[Mu.fP]at T;cases T;rw[d];exact z;simp[Ob.live]at Q;rw[Mu.iq _ _ e]at T;exact⟨k,q,x,h,Q,T,rfl⟩
 refine⟨⟨?_,?_,?_,?_,s.gl⟩,⟨cu.le_refl _,Mu.p9 c,Zc,by rw[vk];exact le_refl _,?_,?_,rfl,⟨rfl,rfl,le_refl _⟩,λa _=>BT (b:=p.b) n (iJ o (mj s z)) (λk c=>gF o c) a⟩⟩
 .intro k h;simp at h;rw[Mu.iq _ _ Za]
  exact s.dom k Za
 .intro b x h;refine IC.qI (s.imm b x h) (gF o ?_);intro G;rw[G,fG s z]at h;cases h
 .intro k x h;rcases u k x h with⟨rfl,rfl⟩|⟨_,_,rfl⟩|⟨e,D,h⟩
  .exact m
  .trivial
  refine(s.obs k x h).mono (cu.le_refl _) (Mu.p9 c) (λq j S=>⟨gF o ?_,fG s ⟨k,q,x,h,S,j,rfl⟩⟩) (λt=>?_)
  .intro G;exact D (s.inj k id x ob q p h B S U j W G)
  subst t;rw[Mu.iq _ _ e];exact s.obs k _ h
 .intro k X x Y q q' i Q l1 Z L O J;rcases u k x i with⟨rfl,rfl⟩|⟨_,_,rfl⟩|⟨e,D,h⟩
  .rcases u X Y Q with⟨rfl,rfl⟩|⟨_,_,rfl⟩|⟨f,l,g⟩
   .rfl
   .simp[Ob.live]at Z
   rw[Mu.fP]at L;cases L;rw[Mu.iq _ _ f]at O;exact absurd (s.inj X id Y ob q' p g B Z U O W (by rw[<-J,d])) l
  .simp[Ob.live]at l1
  rcases u X Y Q with⟨rfl,rfl⟩|⟨_,_,rfl⟩|⟨f,l,g⟩
  .rw[Mu.fP]at O;cases O;rw[Mu.iq _ _ e]at L;exact absurd (s.inj k id x ob q p h B l1 U L W (by rw[J,d])) D
  .simp[Ob.live]at Z
  rw[Mu.iq _ _ e]at L;rw[Mu.iq _ _ f]at O;exact s.inj k X x Y q q' h g l1 Z L O J
 .intro b _ hn;refine gF o ?_;rintro rfl;exact hn z
 intro b h;rcases h with h|h
 .exact .inl h
 exact .inr (.inl (C b h))
def BC(f:eG P E){t g e:Zm}{d:TD}{D:TypeDesc}(j:P.underlying t=some (.slice e))(W:P.underlying g=some D)(Y:∃k,D=.slice k)(h:E.tt e=some d)
 (U J:bt Addr)(sl sc B c:Nat)(new:Array Zp)(l:(firstCells d.size B (.slice J B c)).run P w=.ok new w)(ty:Zm):
 (sl+B<=sc->∀w',(match U with|some b=>(storeCells (b.add (sl*d.size)) new.toList).run P w=.ok () w'|none=>w'=w)->
  (append_ #[t,g] ty #[.slice U sl sc,.slice J B c]).run P w=.ok (.slice U (sl+B) sc) w')/\
 (sc<sl+B->sl+B<=2147483648->d.bytes<=4096->0<d.bytes->∀old,(∀O,O.heap=w.heap->(firstCells d.size sl (.slice U sl sc)).run P O=.ok old O)->
  (∀O,O.heap=w.heap->(firstCells d.size B (.slice J B c)).run P O=.ok new O)->
  ∃G rest,sl+B<=G/\rest.size=(G-(sl+B))*d.size/\
   (append_ #[t,g] ty #[.slice U sl sc,.slice J B c]).run P w=.ok (.slice (some ⟨w.heap.size,0,none⟩) (sl+B) G) (w.drew.alloc (.cells (old++new++rest) e))):=by
 have⟨i,z,Z,n,o,p,L,q,_⟩:=(f.ty h).info;have u:∀w,(zeroValue e).run P w=.ok z w:=λw=>by simp_all[zeroValue,nU]
 have Q:z.cells.size=d.size:=by have:=(L (λ_=>none) (λ_=>none)).1;grind
 obtain⟨k,rfl⟩:=Y;constructor
 .intro S w' aj;unfold append_;simp only[run_bind,List.getElem?_toArray,getElem?_cons_zero,List.getElem?_cons_succ,dK j,dK W,andThen_ok,(f.ty h).jM,run_pure,lenOf,false_eq_true,if_false,Bool.not_false,if_true,if_pos S,l]
  cases U with
  |none=>simp_all|some b=>simp_all
 intro T r s v old a C;have X:=nextslicecap_le T;have m:¬(nextslicecap (sl+B) sc*i.bytes>2 ^ 48):=by have:nextslicecap (sl+B) sc*i.bytes<=(2*2147483648)*4096:=mul_le_mul Za Za;omega
 have I:¬(sl+B<=sc):=Za
 refine⟨(appendCap (sl+B) sc e).cut (w.tape w.drawn (appendCap (sl+B) sc e)),zeroCells z.cells (((appendCap (sl+B) sc e).cut (w.tape w.drawn (appendCap (sl+B) sc e)))-(sl+B)),?_,?_,?_⟩
 .simp[Question.cut]
 .rw[pg,Q]
 unfold append_;simp only[run_bind,List.getElem?_toArray,getElem?_cons_zero,List.getElem?_cons_succ,dK j,dK W,andThen_ok,(f.ty h).jM,run_pure,lenOf,false_eq_true,if_false,Bool.not_false,if_true,if_neg I,nU Z];rw[if_neg Zd]
 simp only[run_bind,nU Z,if_neg m,run_choose,forced,false_eq_true,if_false,andThen_ok,run_askRoom,u,newRow,run_newObj,run_pure];rw[a {w with drawn:=w.drawn+1} rfl];simp only[andThen_ok];rw[C {w with drawn:=w.drawn+1} rfl];rfl
def wrap_small{m:Nat}(h:m<=2147483648):i64.wrap (m:Int)=m:=by grind[wrap,IntKind.bits]
def DT(O:eG P E){t U e:Zm}{d:TD}{kk k:Zs}(a:P.underlying t=some (.slice e))(G:P.underlying U=some (.int kk))(W:E.tt e=some d)(ty:Zm)(m:Nat)(D:m<=2147483648):
 (m=0->(append_ #[t,U] ty #[.slice none 0 0,.int k m]).run P w=.ok (.slice none 0 0) w)/\
 (0<m->d.bytes<=4096->0<d.bytes->∃B z rest,m<=B/\rest.size=(B-m)*d.size/\cR I μ d.zero z.toList/\
  (append_ #[t,U] ty #[.slice none 0 0,.int k m]).run P w=.ok (.slice (some ⟨w.heap.size,0,none⟩) m B) (w.drew.alloc (.cells (#[]++zeroCells z m++rest) e))):=by
 have⟨i,z,Q,Z,j,l,C,n,_⟩:=(O.ty W).info;have u:∀w,(zeroValue e).run P w=.ok z w:=λw=>by simp_all[zeroValue,nU]
 have S:z.cells.size=d.size:=by have:=(C (λ_=>none) (λ_=>none)).1;grind
 have b:=wrap_small D;constructor
 .rintro rfl;unfold append_;have T:i64.wrap 0=0:=by omega
  simp[dK a,dK G,(O.ty W).jM,asInt,nU Q,kS,T]
 intro o p q;have X:nextslicecap (0+m) 0<=2*(0+m):=nextslicecap_le Za
 have c:¬(nextslicecap (0+m) 0*i.bytes>2 ^ 48):=by have:nextslicecap (0+m) 0*i.bytes<=(2*2147483648)*4096:=mul_le_mul Za Za;omega
 have f:¬(m*(i.bytes:Int)>2 ^ 48):=by have r:m*i.bytes<=2147483648*4096:=mul_le_mul D Za;grind
 have g:¬((0+m:Nat)>i64.max):=by have:i64.max=9223372036854775807:=(by rfl);omega
 have J:¬(0+m<=0):=Za
 have L:¬((m:Int)<0):=Za
 refine⟨(appendCap (0+m) 0 e).cut (w.tape w.drawn (appendCap (0+m) 0 e)),z.cells,zeroCells z.cells (((appendCap (0+m) 0 e).cut (w.tape w.drawn (appendCap (0+m) 0 e)))-(0+m)),?_,?_,C _ _,?_⟩
 .simp[Question.cut]
 .rw[pg,S,zero_add]
 unfold append_;have Y:(if m*d.size=0 then pure #[]else do pure (zeroCells (<-zeroValue e).cells m))=(do pure (zeroCells (<-zeroValue e).cells m))\/(m*d.size=0/\zeroCells z.cells m=#[]):=by by_cases h:m*d.size=0;all_goals simp_all[Array.eq_empty_of_size_eq_zero,pg]
 simp only[run_bind,List.getElem?_toArray,getElem?_cons_zero,List.getElem?_cons_succ,dK a,dK G,andThen_ok,(O.ty W).jM,run_pure,if_true,asInt,kS,b,if_neg L,nU Q,if_neg f,Int.toNat_natCast,if_neg J,if_false];rw[if_neg (λh=>g h.1)]
 simp only[run_bind,nU Q,if_neg c,run_choose,forced,andThen_ok,u,newRow,firstCells];rcases Y with h|⟨h,s⟩
 all_goals simp_all
def Lj(g:eG P E)(r:eC I μ n F a.tmps)(s:c9 I μ H w){args:Array Zr}{O:Array Zm}{x:V}{ty:Zm}
 (h:cH E F H (.call {callee:=.builtin .append,args,argTypes:=O})=some (x,H')):
 AR P I μ H w (do let d<-resolve a.eval {callee:=.builtin .append,args,argTypes:=O} ty;invoke d.target d.args) x H':=by
 simp[cH]at h;split at h
 .rename_i t t' vs vx aQ ae;obtain⟨us,ux,S,i,j⟩:=(mX r ae).two;split at h
  .rename_i e e' hk af;obtain⟨d0,ah,ai⟩:=e_ hk;obtain⟨N,R,h2,h3⟩:=(g.ty ah).dK;rw[ai]at h2;have:=iY h2;subst this;obtain⟨d1,iW,T⟩:=e_ af;obtain⟨aj,g1,g2,g3⟩:=(g.ty iW).dK;rw[T]at g2;have:=iY g2;subst this;have C:∀v w',(append_ #[t,t'] ty #[us,ux]).run P w=.ok v w'->
    (do let d<-resolve a.eval {callee:=.builtin .append,args,argTypes:=O} ty;invoke d.target d.args).run P w=.ok (.value v) w':=by
    simp[resolve,run_bind,run_pure,andThen_ok,invoke,builtin];rw[qU S];have ea:O=#[t,t']:=Zd
    simp_all
   split at h
   .rename_i d hd;split at h
    .
     rename_i xs B ak;obtain⟨ad,f,arr,e1,e2,e3,e4,_⟩:=xU (P:=P) s i B;obtain⟨al,U,D,M,f2,A,l,_⟩:=xU s j ak;simp at M A;have aR:D=#[]:=by have:=l.1;grind
     have A:=A w rfl;rw[M]at A;have key:=(BC g R g1 ⟨_,rfl⟩ hd ad al xs.length f 0 U D A ty).1 Za w
      (by
       cases ad with
       |none=>rfl|some b=>simp_all[storeCells])
     rw[<-M,<-e1,add_zero,<-e1]at key;have am:x=vs/\H'=H:=by grind
     obtain⟨rfl,rfl⟩:=am;exact⟨_,us,w,μ,C _ _ key,.inl rfl,i,s,.refl _ _ _ _⟩
    .rename_i xs ys aT B ak;obtain⟨ad,f,arr,e1,e2,e3,e4,e5,e6⟩:=xU s i B;obtain⟨al,U,D,M,f2,A,l,f5,f6⟩:=xU s j ak;split at h
     .rename_i hc;obtain⟨av,an,ao⟩:=hc;have aD:0<ys.length:=by
       grind
      have key:=BC g R g1 ⟨_,rfl⟩ hd ad al xs.length f ys.length U D (by rw[<-M];exact A w rfl) ty
      rw[<-M,<-e1]at key;have L:f<xs.length+ys.length->∃G rest,xs.length+ys.length<=G/\rest.size=(G-(xs.length+ys.length))*d.size/\
       (append_ #[t,t'] ty #[us,ux]).run P w=.ok (.slice (some ⟨w.heap.size,0,none⟩) (xs.length+ys.length) G) (w.drew.alloc (.cells (arr++D++rest) e)):=by
       intro ap;refine key.2 ap av an ao arr ?_ ?_
       .intro w2 aE;exact e3 w2 aE
       grind
      simp at h;obtain⟨H1,J,rfl,rfl⟩:=h
      cases vs with
      |dF=>
       simp[gE]at J;subst J;simp[dH]at B;subst B;obtain⟨aF,q⟩:=i.qK;have aw:f=0:=by rw[q]at e1;cases e1;rfl
       obtain⟨G,rest,k1,k2,k3⟩:=L (by simp;omega)
       obtain⟨μ',m1,o,K⟩:=zT s.drew e4 l e5 f5 e6 f6 k1 k2;refine⟨_,_,_,μ',C _ _ k3,.inl rfl,m1,o,?_⟩;exact Step.trans s.drew (Step.nX rfl rfl ⟨rfl,rfl,le_succ _⟩) K
      |bL=>
       simp[gE]at J;subst J;simp[dH]at B;subst B;have q:=i.kY;have aw:f=0:=by rw[q]at e1;cases e1;rfl
       obtain⟨G,rest,k1,k2,k3⟩:=L (by simp;omega)
       obtain⟨μ',m1,o,K⟩:=zT s.drew e4 l e5 f5 e6 f6 k1 k2;refine⟨_,_,_,μ',C _ _ k3,.inl rfl,m1,o,?_⟩;exact Step.trans s.drew (Step.nX rfl rfl ⟨rfl,rfl,le_succ _⟩) K
      |hsl id es off len=>
       simp[gE]at J;split at J
       .rename_i u aG Z;simp at J;subst J;have ax:(H[id]?).bind Ob.rows=some (u,aG):=by rw[Z];rfl
        have aS:=B;simp only[dH]at B;split at B
        .rename_i aH;rw[ax]at B;simp only at B;split at B
         .rename_i aI;simp at B;obtain⟨p,c,ay,q1,q2,q3,q4⟩:=s.obs id _ Z;have W:xs.length=len:=by rw[<-B];simp;omega
          have aq:f<xs.length+ys.length->AR P I μ H w (do let d<-resolve a.eval {callee:=.builtin .append,args,argTypes:=O} ty;invoke d.target d.args)
           (.hsl H.length d.size 0 (xs.length+ys.length)) (H.set id .dead++[.row d.size (xs++ys)]):=by
           intro ap;obtain⟨G,rest,k1,k2,k3⟩:=L ap;obtain⟨s1,s2⟩:=s.drew.kill Z;obtain⟨μ',m1,o,K⟩:=zT s1 e4 l e5 f5 e6 f6 k1 k2;rw[length_set]at m1;exact⟨_,_,_,μ',C _ _ k3,.inl rfl,m1,o,Step.trans s.drew (Step.nX rfl rfl ⟨rfl,rfl,le_succ _⟩) (Step.trans s1 s2 K)⟩
          rcases i.kV with⟨p',Q,hm,aJ,aU,aK,ee⟩|⟨h0,aF,ee⟩
          .rw[q1]at hm;cases hm;have ar:Q=f/\ad=some ⟨p.b,p.o+off*es,none⟩:=by rw[ee]at e1;grind
           obtain⟨rfl,rfl⟩:=ar
           by_cases ab:xs.length+ys.length<=Q
           .have aA:u=es:=by rw[<-q4.es_eq,aJ]
            subst aA;have X:=aH;obtain⟨r1,r2⟩:=q4.span aI;rw[B]at r1;have aa:=l.1;simp only[length_toList]at aa;rw[fA f5]at aa;have aL:(len+ys.length)*u<=Q*u:=mul_le_mul_right _ Za
            rw[add_mul]at aL;rw[add_mul]at aK;have aM:=q4.sz;rw[<-X]at aa;have au:p.o+off*u+len*u+0+D.toList.length<=c.size:=by simp;omega
            obtain⟨c',u1,u2⟩:=tL D.toList 0 w c q3 (l.NP (λx j=>by
             grind[mem_flatten])) au
            have aB:c'.size=c.size:=by have:=congrArg length u2;grind
            have aC:=key.1 ab (fM w p.b (.cells c' ay)) (by
             simp[oP,W];rw[<-X];exact u1)
            have Y:fN I μ ⟨p.b,p.o+off*u,u,p.sz⟩ c' u (xs++ys):=by refine⟨rfl,by rw[aB];exact aM,?_,?_,?_,?_⟩;grind;grind;rw[aB,ζi,W,add_mul];grind;have e:(c'.toList.drop (p.o+off*u)).take ((xs++ys).length*u)=(c.toList.drop (p.o+off*u)).take (len*u)++D.toList:=(by rw[u2,ζi,W,add_mul,aa];simp only[add_zero];have aN:(take (p.o+off*u+len*u) c.toList).length=p.o+off*u+len*u:=(by simp;omega);rw[append_assoc,List.drop_append_of_le_length (by rw[aN];omega),drop_take,show p.o+off*u+len*u-(p.o+off*u)=len*u by omega];grind[List.take_left']);rw[e,flatten_append];exact r1.append l
            obtain⟨s1,s2⟩:=JG (ob':=.row u (xs++ys)) (p':=⟨p.b,p.o+off*u,u,p.sz⟩) s Z rfl q1 rfl
             ⟨_,c',ay,Mu.fP _ _ _,q2,iJ _ (Array.getElem?_eq_some_iff.1 q3).1,Y.mono (cu.le_refl _) (Mu.p9 (s.dom _ (le_refl _)))⟩
            rw[<-X];refine⟨_,_,_,_,C _ _ aC,.inl rfl,?_,s1,s2⟩;have:=bM.hsl (I:=I) H.length 0 (xs.length+ys.length) Q _ (Mu.fP μ H.length ⟨p.b,p.o+off*u,u,p.sz⟩) ab (by simp;omega)
            grind
           grind
          grind
         grind
        grind
       grind
      |_=>simp[gE]at J
     grind
    grind
   grind
  .
   rename_i e kk hk af;obtain⟨d0,ah,ai⟩:=e_ hk;obtain⟨N,R,h2,h3⟩:=(g.ty ah).dK;rw[ai]at h2;have:=iY h2;subst this;obtain⟨d1,iW,T⟩:=e_ af;obtain⟨aj,g1,g2,g3⟩:=(g.ty iW).dK;rw[T]at g2;have:=A9 g2;subst this;have C:∀v w',(append_ #[t,t'] ty #[us,ux]).run P w=.ok v w'->
    (do let d<-resolve a.eval {callee:=.builtin .append,args,argTypes:=O} ty;invoke d.target d.args).run P w=.ok (.value v) w':=by
    intro v w' hv;simp[resolve,run_bind,run_pure,andThen_ok,invoke,builtin];rw[qU S];have ea:O=#[t,t']:=Zd
    rw[ea,hv];rfl
   split at h
   .rename_i d hd;unfold mkApp at h;split at h
    .rename_i k m;have q:=i.kY;subst q;have q:=j.fc;subst q;split at h
     .rename_i h0;subst h0;cases h;have key:=(DT (μ:=μ) (I:=I) (w:=w) (k:=k) g R g1 hd ty 0 Za).1 rfl
      exact⟨_,_,w,μ,C _ _ key,.inl rfl,i,s,.refl _ _ _ _⟩
     split at h
     .rename_i hc;obtain⟨aO,av,an,ao⟩:=hc;cases h;obtain⟨m,rfl⟩:=Int.eq_ofNat_of_zero_le (Int.le_of_lt aO);obtain⟨G,z,rest,k1,k2,k3,k4⟩:=(DT g R g1 hd ty m Za).2 Za an ao
      have aP:=(g.ty hd).info.choose_spec.choose_spec.2.2.2.2.2.1;have aV:=(g.ty hd).info.choose_spec.choose_spec.2.2.2.2.2.2.1;have hu:∀x∈replicate m d.zero,x.length=d.size:=λx j=>by rw[eq_of_mem_replicate j];exact aP
      have ho:∀x∈replicate m d.zero,∀y∈x,V.one y=true:=λx j y hy=>by rw[eq_of_mem_replicate j]at hy;grind
      obtain⟨μ',m1,o,K⟩:=zT (xs:=[]) (ys:=replicate m d.zero) (old:=#[]) (new:=zeroCells z m) (rest:=rest) s.drew .nil (vi k3 m) Zc hu Zc ho (by simpa using k1) Zd
      simp at m1 o K;refine⟨_,_,_,μ',C _ _ k4,.inl rfl,Zd,by simpa using o,?_⟩
      exact Step.trans s.drew (Step.nX rfl rfl ⟨rfl,rfl,le_succ _⟩) Zd
     cases h
    cases h
   cases h
  grind
 grind
def yx{es:Nat}{xs:Zt}(a:∀x∈xs,x.length=es)(k:Nat)(b:k<=xs.length):(xs.take k).flatten=xs.flatten.take (k*es)/\(xs.drop k).flatten=xs.flatten.drop (k*es):=by grind[take_append_drop,fA]
def Md(l:eG P E)(r:eC I μ n F a.tmps)(s:c9 I μ H w){args:Array Zr}{D:Array Zm}{x:V}{ty:Zm}
 (h:cH E F H (.call {callee:=.builtin .clear,args,argTypes:=D})=some (x,H')):
 AR P I μ H w (do let d<-resolve a.eval {callee:=.builtin .clear,args,argTypes:=D} ty;invoke d.target d.args) x H':=by
 simp[cH]at h;split at h
 .rename_i t v ab L;have⟨u,hu,g⟩:=(mX r L).one;split at h
  .rename_i e hk;have⟨d0,N,R⟩:=e_ hk;have⟨m,h1,A,h3⟩:=(l.ty N).dK;rw[R]at A;have:=iY A;split at h
   .rename_i d hd;have⟨i,z,hi,an,ap,hz,S,ah,aq,_⟩:=(l.ty hd).info;have ai:∀w,(zeroValue e).run P w=.ok z w:=λw=>by simp_all[zeroValue,nU]
    have aj:z.cells.size=d.size:=by have:=(S (λ_=>none) (λ_=>none)).1;grind
    have J:∀v w',(clear_ D ty #[u]).run P w=.ok v w'->
     (do let d<-resolve a.eval {callee:=.builtin .clear,args,argTypes:=D} ty;invoke d.target d.args).run P w=.ok (.value v) w':=by
     grind[resolve,run_bind,run_pure,andThen_ok,invoke,builtin,qU]
    have T:∀U f,u=.slice U 0 f->AR P I μ H w (do let d<-resolve a.eval {callee:=.builtin .clear,args,argTypes:=D} ty;invoke d.target d.args) .undef H:=λU f q=>by subst q;refine⟨_,.tuple #[],w,μ,J (.tuple #[]) w ?_,.inl rfl,bM.undef _ _,s,.refl _ _ _ _⟩;unfold clear_;cases U<;>simp[ab,h3]
    unfold Bg at h;split at h
    .cases h;exact T _ _ g.kY
    .have⟨U,q⟩:=g.qK;grind
    .rename_i id es off len;split at h
     .rename_i O;subst O;split at h
      .rcases g.kV with⟨p,f,_,_,_,_,q⟩|⟨_,U,q⟩
       all_goals grind
      rename_i len;split at h
      .rename_i ak Q W;split at h
       .rename_i X;cases h;have⟨p,c,el,j,hI,C,B⟩:=s.obs id _ W;rcases g.kV with⟨q,f,K,al,ao,am,rfl⟩|⟨h0,_⟩
        .rw[j]at K;cases K;have O:ak=d.size:=by rw[<-B.es_eq,al]
         subst O;have ar:(zeroCells z.cells (len+1)).size=(len+1)*d.size:=by rw[pg,aj]
         have au:=B.room;have Y:(off+(len+1))*d.size<=Q.length*d.size:=mul_le_mul_right _ X;rw[add_mul]at Y;have G:=vi (S I μ) (len+1);have av:∀x∈replicate (len+1) d.zero,x.length=d.size:=λx b=>by rw[eq_of_mem_replicate b];exact ah
         have aw:∀x∈replicate (len+1) d.zero,∀y∈x,V.one y=true:=λx b y hy=>by rw[eq_of_mem_replicate b]at hy;grind
         have⟨c',u1,k⟩:=tL (P:=P) (o:=p.o+off*d.size) (zeroCells z.cells (len+1)).toList 0 w c C (cR.NP G (λx b=>by
          grind[mem_flatten])) Zd
         rw[add_zero]at k;have Z:c'.size=c.size:=by have:=congrArg length k;grind
         have⟨s2,st2⟩:=s.write (ob':=.row d.size (Q.take off++replicate (len+1) d.zero++Q.drop (off+(len+1)))) W rfl j
          ⟨p,c',el,j,hI,iJ _ (Array.getElem?_eq_some_iff.1 C).1,by
           have M:(Q.take off++replicate (len+1) d.zero++Q.drop (off+(len+1))).length=Q.length:=by simp;omega
           refine⟨B.es_eq,by rw[Z];exact B.sz,?_,?_,by rw[M,Z];grind,?_⟩
           .intro x b;rcases mem_append.1 b with b|b
            .rcases mem_append.1 b with b|b
             .exact B.oD x (mem_of_mem_take b)
             grind
            exact B.oD x (mem_of_mem_drop b)
           .intro x b;rcases mem_append.1 b with b|b
            .rcases mem_append.1 b with b|b
             .exact B.one x (mem_of_mem_take b)
             grind
            exact B.one x (mem_of_mem_drop b)
           rw[M,k];have hL:=Al c.toList (zeroCells z.cells (len+1)).toList p.o (Q.length*d.size) (off*d.size) (by simp;omega) Zd
           rw[hL,flatten_append,flatten_append,(yx B.oD off Za).1,(yx B.oD _ X).2]
           have e:off*d.size+(zeroCells z.cells (len+1)).toList.length=(off+(len+1))*d.size:=Zd
           rw[e];exact((B.rel.take _).append G).append (B.rel.drop _)⟩
         refine⟨_,.tuple #[],_,μ,J (.tuple #[]) (fM w p.b (.cells c' el)) ?_,.inl rfl,bM.undef _ _,s2,st2⟩;simp_all[clear_]
        simp_all
       simp_all
      simp_all
     simp_all
    simp_all
   simp_all
  simp_all
 simp_all
def Tt(s t:Zq)(h:(s==t)=true):s=t:=by
 cases s with|mk a=>cases t with|mk b=>
 have u:(a==b)=true:=h;grind
inductive w5(P:Program)(E:Env)(t:TypeId):V->Value->Prop
 |int(k:IntKind)(m:Int)(h:P.underlying t=some (.int k)):w5 P E t (.int k m) (.int k m)|str(s:ByteArray)(h:P.underlying t=some .string):w5 P E t (.str s) (.string s)|agg(m:Nat)(cs:List V)(l:List Int)(h:uP P t m)(hl:l.length=m)(hi:gY cs=some l):w5 P E t (.agg cs) (.agg (ic l))
def L4(B:eG P E){t:Zm}{k:V}{v:Zp}(h:zl E t k=true)(b:bM I μ k v):w5 P E t k v:=by
 unfold zl at h;split at h;rename_i k1 k2 m c;have⟨d,z,u⟩:=e_ c;have⟨a,f,w,J⟩:=(B.ty z).dK;rw[u]at w;have:=A9 w;subst this;have e:k1=k2:=by grind
 subst e;rw[b.fc];exact .int _ _ f;next s c=>have⟨d,z,u⟩:=e_ c;have⟨a,f,w,J⟩:=(B.ty z).dK;rw[u]at w;have:=xW w;subst this;rw[b.sy];exact .str _ f
 rename_i L _;split at h;next m C=>simp[isSome_iff_exists]at h;have⟨O,l,G⟩:=h;obtain⟨Q,rfl,D⟩:=b.h_;obtain⟨rfl,e⟩:=pq G D;exact .agg m L l (B.eqN _ _ C) Za G
 grind;grind
def LZ(d:Nat)(e:Zl){t:Zm}{k:Zs}{m:Int}(h:P.underlying t=some (.int k)):(checkKey e (d+1) t (.int k m)).run P w=.ok () w:=by simp[checkKey,run_bind,dK h,andThen_ok,run_pure]
def K6(d:Nat)(e:Zl){t:Zm}{m:Zq}(h:P.underlying t=some .string):(checkKey e (d+1) t (.string m)).run P w=.ok () w:=by simp[checkKey,run_bind,dK h,andThen_ok,run_pure]
def xm{t:Zm}{k:V}{v:Zp}(h:w5 P E t k v)(e:Zl):(checkKey e 10000 t v).run P w=.ok () w:=by cases h with|int k m h=>exact LZ 9999 e h|str s h=>exact K6 9999 e h|agg m z l h u B=>exact h.check w e l u
def kU(I:cu)(μ:Mu)(es:a_ MapEntry)(i:Nat):bt (Nat×V)->bt (Nat×Zp)->Prop
 |none,none=>True|some (j,x),some (B,v)=>j=B/\bM I μ x v/\i<=j/\∃e,es[j-i]?=some e/\e.val=v|_,_=>False
def BB{d:TypeDesc}{k:V}{v:Zp}(U:(∃kk m,d=.int kk/\k=.int kk m/\v=.int kk m)\/(∃s,d=.string/\k=.str s/\v=.string s)):
 ∀(B:a_ (V×V))(es:a_ MapEntry)(i:Nat)(r:bt (Nat×V)),B.length=es.length->(∀(j:Nat)q e,B[j]?=some q->es[j]?=some e->bM I μ q.1 e.key/\bM I μ q.2 e.val)->
 hG k B i=some r->∃D,findNow d v es i=some D/\kU I μ es i r D/\∀j x,r=some (j,x)->∃e,es[j-i]?=some e/\e.key=v:=by
 intro B
 induction B with
 |nil=>
  intro es i r O _ h
  cases es with
  |nil=>simp only[hG,ζa]at h;subst h;exact⟨none,rfl,trivial,Zc⟩|cons _ _=>simp_all
 |cons q B Q=>
  intro es i r O f h
  cases es with
  |nil=>simp_all|cons e es=>
   have⟨G,S⟩:=q;have⟨g1,g2⟩:=f 0 (G,S) e rfl rfl;simp only[hG]at h;have u:∀b,uW k G=some b->sameNow d v e.key=some b/\(b=true->e.key=v):=by
    intro b w;rcases U with⟨kk,m,rfl,rfl,rfl⟩|⟨s,rfl,rfl,rfl⟩
    .cases G<;>simp only[uW]at w<;>(try grind);rename_i k2 p;split at w;(next J=>simp only[ζa]at w;subst w;subst J;rw[g1.fc];exact⟨by simp[sameNow],by simp;grind⟩);grind
    cases G<;>simp only[uW]at w<;>(try (simp at w;done));simp only[ζa]at w;subst w;rw[g1.sy];exact⟨by simp[sameNow],λT=>by rw[Tt _ _ T]⟩
   split at h
   .rename_i hk;have⟨c,g⟩:=u true hk;simp only[ζa]at h;subst h;refine⟨some (i,e.val),by simp[findNow,c],⟨rfl,g2,le_refl _,e,Zc,rfl⟩,?_⟩
    intro j x C;simp only[ζa,ζc]at C;obtain⟨rfl,_⟩:=C;exact⟨e,Zc,g rfl⟩
   .rename_i hk;have⟨c,_⟩:=u false hk;have⟨D,p1,p2,p3⟩:=Q es (i+1) r (by simpa using O) (λj a b x y=>f (j+1) a b (by simpa using x) (by simpa using y)) h
    refine⟨D,by simp[findNow,c,p1],?_,?_⟩
    .cases r with
     |none=>cases D<;>simp_all [kU]|some z=>
      cases D with
      |none=>simp[kU]at p2|some W=>have⟨X,Y,t,L,Z,l⟩:=p2;exact⟨X,Y,Za,L,by rw[show z.1-i=(z.1-(i+1))+1 by omega];simpa using Z,l⟩
    intro j x C;have⟨L,n,o⟩:=p3 j x C;subst C;have:i+1<=j:=by cases D with|none=>simp[kU]at p2|some W=>exact p2.2.2.1
    exact⟨L,by rw[show j-i=(j-(i+1))+1 by omega];simpa using n,o⟩
   grind
def IY{t:Zm}{m:Nat}(U:uP P t m){cs:Zu}{l:Zy}(W:l.length=m)(Y:gY cs=some l):
 ∀(B:a_ (V×V))(es:a_ MapEntry)(i:Nat)(r:bt (Nat×V)),B.length=es.length->(∀(j:Nat)q e,B[j]?=some q->es[j]?=some e->bM I μ q.1 e.key/\bM I μ q.2 e.val)->
 hG (.agg cs) B i=some r->∃D,(findAsking t (.agg (ic l)) es i).run P w=.ok D w/\kU I μ es i r D/\∀j x,r=some (j,x)->∃e,es[j-i]?=some e/\e.key=.agg (ic l):=by
 intro B
 induction B with
 |nil=>
  intro es i r C _ h
  cases es with
  |nil=>simp[hG]at h;subst h;exact⟨none,rfl,trivial,Zc⟩|cons _ _=>simp_all
 |cons q B T=>
  intro es i r C d h
  cases es with
  |nil=>simp_all|cons e es=>
   have⟨G,X⟩:=q;have⟨g1,g2⟩:=d 0 (G,X) e rfl rfl;simp[hG]at h;have u:∀b,uW (.agg cs) G=some b->(equal t (.agg (ic l)) e.key).run P w=.ok b w/\(b=true->e.key=.agg (ic l)):=by intro b J;cases G<;>simp[uW]at J<;>(try (simp at J));obtain⟨s,Z,Q,x2,v,rfl⟩:=vF J;rw[Y]at Q;cases Q;have⟨A,ev,L⟩:=g1.h_;obtain⟨rfl,e2⟩:=pq x2 L;rw[ev];refine⟨U.key w l Z W Za,?_⟩;grind
   split at h
   .rename_i hk;have⟨c,E⟩:=u true hk;simp at h;subst h;refine⟨some (i,e.val),by simp[findAsking,c],⟨rfl,g2,le_refl _,e,Zc,rfl⟩,?_⟩
    grind
   .rename_i hk;have⟨c,_⟩:=u false hk;have⟨D,p1,p2,p3⟩:=T es (i+1) r Zd (λj a b x y=>d (j+1) a b Zd (by simpa using y)) h
    refine⟨D,by simp[findAsking,c,p1],?_,?_⟩
    .cases r with
     |none=>cases D<;>simp_all [kU]|some z=>
      cases D with
      |none=>simp[kU]at p2|some z'=>have⟨f,g,F,O,k,n⟩:=p2;exact⟨f,g,Za,O,by rw[show z.1-i=(z.1-(i+1))+1 by omega];simpa using k,n⟩
    intro j x S;have⟨O,o,p⟩:=p3 j x S;subst S;have:=by cases D with|none=>simp[kU]at p2|some z'=>exact p2.2.2.1
    exact⟨O,by rw[show j-i=(j-(i+1))+1 by omega];simpa using o,p⟩
   grind
def tV{t:Zm}{k:V}{v:Zp}(h:w5 P E t k v){B:a_ (V×V)}{es:Array MapEntry}(a:uh I μ B es){r:bt (Nat×V)}(G:hG k B 0=some r):
 ∃D,(findKey t v es.toList).run P w=.ok D w/\kU I μ es.toList 0 r D/\∀j x,r=some (j,x)->∃e,es[j]?=some e/\e.key=v:=by
 have u:=by simpa using a.1
 have z:∀(j:Nat)q e,B[j]?=some q->es.toList[j]?=some e->bM I μ q.1 e.key/\bM I μ q.2 e.val:=λj q e x y=>a.2 j q e x Zd
 have fin:∀(D:bt (Nat×Zp)),(∀j x,r=some (j,x)->∃e,es.toList[j-0]?=some e/\e.key=v)->∀j x,r=some (j,x)->∃e,es[j]?=some e/\e.key=v:=by grind
 cases h with
 |int kk m h=>have⟨D,g1,g2,g3⟩:=BB (.inl ⟨kk,m,rfl,rfl,rfl⟩) B es.toList 0 r u z G;exact⟨D,by simp[findKey,run_bind,dK h,andThen_ok,g1,run_pure],g2,fin D g3⟩|str s h=>have⟨D,g1,g2,g3⟩:=BB (.inr ⟨s,rfl,rfl,rfl⟩) B es.toList 0 r u z G;exact⟨D,by simp[findKey,run_bind,dK h,andThen_ok,g1,run_pure],g2,fin D g3⟩|agg m S l h L O=>
  have⟨D,g1,g2,g3⟩:=IY (w:=w) h L O B es.toList 0 r u z G;have⟨d,Q,C⟩:=h.kind;refine⟨D,?_,g2,fin D g3⟩;simp[findKey,run_bind,dK Q,andThen_ok]
  cases J:es.toList with
  |nil=>rw[J]at g1;simp[findNow,run_pure];simpa[findAsking]using g1|cons e rest=>
   have:findNow d (.agg (ic l)) (e::rest) 0=none:=by rcases C with⟨_,_,rfl⟩|⟨_,rfl⟩<;>simp[findNow,sameNow]
   grind
def yz{b:Nat}{o:Obj}(h:w.heap[b]?=some o)(B:∀c e f,o≠.cells c e f):(getObj b).run P w=.ok o w:=by simp[getObj,Sem.run,h]
def Me(s:c9 I μ H w){m:V}{v:Zp}(d:bM I μ m v){B:a_ (V×V)}(h:me H m=some B):
 (v=.map none/\B=[])\/∃b es a,v=.map (some b)/\w.heap[b]?=some (.map es a)/\uh I μ B es:=by
 cases m with
 |fZ=>simp only[me,ζa]at h;exact .inl ⟨d.Nz,h.symm⟩|fmap k=>
  simp[me]at h;subst h
  cases d with
  |c _ _ d=>cases d with
   |fmap _ b es C D hk u=>have⟨f,g⟩:=s.imm _ _ C;exact .inr ⟨b,es,f,rfl,g,D,λj q e x y=>⟨.c _ _ (hk j q e x y),.c _ _ (u j q e x y)⟩⟩
 |hmap id=>
  simp[me]at h;split at h
  .rename_i G z;simp at h;have⟨p,es,f,g1,g2,g3,g4⟩:=s.obs id _ z;have⟨q,J,e⟩:=d.Ap
   grind
  grind
 |_=>simp[me]at h
def KJ(U:eG P E)(r:eC I μ n F a.tmps)(s:c9 I μ H w){t:Zm}{m k:Zr}{ok:Zl}{x:V}(h:dP E F H (.lookup t m k ok)=some x):
 ∃v,(Instr.lookup t (a.eval m) (a.eval k) ok).run P w=.ok v w/\bM I μ x v:=by
 simp[dP]at h;split at h
 .rename_i kt et mv kv hk hm Q;obtain⟨d,l,S⟩:=e_ hk;obtain⟨c,o,e,f⟩:=(U.ty l).dK;rw[S]at e;have:=yQ e;subst this;split at h
  .rename_i de T W J;split at h
   .rename_i X;have D:=L4 U X (dx r Q);obtain⟨z,g,Y⟩:=(U.ty W).Qf;obtain⟨es,L,G⟩:∃es:Array MapEntry,uh I μ T es/\∀u,(findKey kt (a.eval k) es.toList).run P w=.ok u w->(Instr.lookup t (a.eval m) (a.eval k) ok).run P w=
     .ok (if ok then .tuple #[(u.map (·.2)).getD z,.bool u.isSome]else(u.map (·.2)).getD z) w:=by
     rcases Me s (dx r hm) J with⟨e1,rfl⟩|⟨b,es,p,e1,e2,e3⟩
     .refine⟨#[],⟨rfl,Zc⟩,λu C=>?_⟩
      unfold Instr.lookup;rw[e1];simp[run_bind,f,andThen_ok,run_pure,xm D,C];cases u<;>cases ok<;>simp[g]
     refine⟨es,e3,λu C=>?_⟩
     unfold Instr.lookup;rw[e1];simp[run_bind,f,andThen_ok,run_pure,yz e2 Zc,xm D,C]
     cases u<;>cases ok<;>simp[g]
    split at h
    .rename_i j y _ B;simp at h;obtain⟨u,Z,O,_⟩:=tV D L B
     cases u with
     |none=>simp[kU]at O|some q=>
      obtain⟨_,i,_⟩:=O;refine⟨_,G _ Z,?_⟩;subst h
      cases ok with
      |true=>exact .OO (.cons i (.cons (.c _ _ (.bool _)) .nil))|false=>exact i
    .rename_i y B hy;simp at h;obtain⟨u,Z,O,_⟩:=tV D L B
     cases u with
     |some q=>simp[kU]at O|none=>
      refine⟨_,G _ Z,?_⟩;subst h
      cases ok with
      |true=>exact .OO (.cons (Y _ _ _ hy) (.cons (.c _ _ (.bool _)) .nil))|false=>grind
    grind
   grind
  grind
 grind
def GZ(l:Zy)(d:Nat):sameBits (d+2) (.agg (ic l)) (.agg (ic l))=true:=by simp only[sameBits,beq_self_eq_true,Bool.true_and,all_eq_true];intro p u;obtain⟨j,w,rfl⟩:=List.mem_iff_getElem.1 u;simp[ic,sameBits]
def MY{t:Zm}{k:V}{v:Zp}(h:w5 P E t k v):(Instr.keyThatStays v v).run P w=.ok v w:=by
 have:sameBits 10000 v v=true:=by cases h with|int k m h=>simp[sameBits]|str s h=>simp[sameBits];exact(by cases s;exact beq_self_eq_true (α:=Array UInt8) _)|agg m u l h z B=>exact GZ l 9998
 unfold Instr.keyThatStays;rw[this];rfl
def Dp{b:Nat}{es:Array MapEntry}{a:Nat}(o:Obj)(h:w.heap[b]?=some (.map es a)):(setObj b o).run P w=.ok () (fM w b o):=by simp only[setObj,Sem.run,h];rfl
def yU(K:eG P E)(r:eC I μ n F a.tmps)(s:c9 I μ H w){t:Zm}{m k y:Zr}{x:V}(h:cH E F H (.mapUpdate t m k y)=some (x,H')):
 AR P I μ H w (do Instr.mapUpdate t (a.eval m) (a.eval k) (a.eval y);pure .skip) x H':=by
 simp only[cH]at h;split at h
 .rename_i kt et id Z yv hk hm W hy;have⟨d,hd,aa⟩:=e_ hk;have⟨M,b,B,N⟩:=(K.ty hd).dK;rw[aa]at B;have:=yQ B;subst this;split at h
  .rename_i D U;split at h
   .rename_i ab;simp only[ζf,ζc]at h;obtain⟨af,u,rfl,rfl⟩:=h;have G:=L4 K ab (dx r W);have⟨p,es,c,g1,g2,g3,g4⟩:=s.obs id _ U;have⟨q,R,em⟩:=(dx r hm).Ap;rw[g1]at R;cases R;have T:=(Array.getElem?_eq_some_iff.1 g3).1;have ah:∀(f:Unit->Sem Next),True:=λ_=>trivial
    unfold oT at u;have J:=dx r W;have L:=dx r hy;split at u
    .rename_i j z C;simp only[ζa]at u;subst u;have⟨O,l,g,q3⟩:=tV (w:=w) G g4 C
     cases O with
     |none=>simp[kU]at g|some O=>
      have⟨j',zv⟩:=O;obtain⟨rfl,_,_,e',ai,_⟩:=g;have⟨e2,X,ad⟩:=q3 j z rfl;have hj:=(Array.getElem?_eq_some_iff.1 X).1;have Q:uh I μ (D.set j (Z,yv)) (es.modify j λe=>{e with key:=a.eval k,val:=a.eval y}):=by refine⟨by simpa using g4.1,λi q e b B=>?_⟩;by_cases S:i=j;subst S;rw[getElem?_set_self (by rw[g4.1];exact hj)]at b;cases b;rw[Array.getElem?_modify]at B;simp only[if_true,ζf]at B;obtain⟨_,_,rfl⟩:=B;exact⟨J,L⟩;rw[getElem?_set_ne (Ne.symm S)]at b;rw[Array.getElem?_modify]at B;rw[if_neg (Ne.symm S)]at B;exact g4.2 i q e b B
      have⟨v,A⟩:=s.write (ob':=.map (D.set j (Z,yv))) (o:=.map (es.modify j λe=>{e with key:=a.eval k,val:=a.eval y}) c) U rfl g1
       ⟨p,_,c,g1,g2,iJ _ T,Q⟩
      refine⟨.skip,undef,_,μ,?_,.inr ⟨rfl,rfl⟩,.undef I μ,v,A⟩;unfold Instr.mapUpdate;rw[em];have Y:((es[j]?).map (·.key)).getD (a.eval k)=a.eval k:=by rw[X];simpa using ad
      simp only[run_bind,N,andThen_ok,yz g3 Zc,xm G,l,Y,MY G,Dp _ g3,run_pure]
    .rename_i C;simp only[ζa]at u;subst u;have⟨O,l,g,q3⟩:=tV (w:=w) G g4 C
     cases O with
     |some q=>simp[kU]at g|none=>
      have Q:uh I μ (D++[(Z,yv)]) (es.push {key:=a.eval k,val:=a.eval y,born:=c}):=by refine⟨by simp[g4.1],λi q e b B=>?_⟩;by_cases S:i<D.length;rw[getElem?_append_left S]at b;rw[Array.getElem?_push]at B;rw[if_neg (by rw[<-g4.1];omega)]at B;exact g4.2 i q e b B;have ae:=(ζe.1 b).1;simp at ae;have:i=D.length:=Za;subst this;simp at b;subst b;rw[Array.getElem?_push,if_pos g4.1]at B;cases B;exact⟨J,L⟩
      have⟨v,A⟩:=s.write (ob':=.map (D++[(Z,yv)])) (o:=.map (es.push {key:=a.eval k,val:=a.eval y,born:=c}) (c+1)) U rfl g1
       ⟨p,_,_,g1,g2,iJ _ T,Q⟩
      refine⟨.skip,undef,_,μ,?_,.inr ⟨rfl,rfl⟩,.undef I μ,v,A⟩;unfold Instr.mapUpdate;rw[em];simp only[run_bind,N,andThen_ok,yz g3 Zc,xm G,l,Dp _ g3,run_pure]
    simp at u
   simp at h
  simp at h
 simp at h
theorem P5(B:eG P E)(r:eC I μ n F a.tmps)(s:c9 I μ H w)(o:Oper){x:V}(h:dP E F H o.op=some x):
 ∃v,(execOp a.eval o).run P w=.ok (.value v) w/\bM I μ x v:=by
 have⟨dst,op,ty,pos,after,b⟩:=o;simp only at h
 cases op with
 |load t p=>
  simp only[dP]at h;split at h
  next d G C D=>have⟨u,c,z,_⟩:=BS B s C (dx r D) h;exact⟨u,eB c,z⟩
  simp at h
 |lookup t m k ok=>have⟨u,c,z⟩:=KJ B r s h;exact⟨u,eB c,z⟩|_=>simp[dP]at h
def Pk(B:eG P E)(r:eC I μ n F a.tmps)(s:c9 I μ H w)(o:Oper){x:V}(h:cH E F H o.op=some (x,H')):AR P I μ H w (execOp a.eval o) x H':=by
 have⟨dst,op,ty,pos,after,d⟩:=o;simp only at h
 cases op with
 |store t p q=>exact MT B r s h|mapUpdate t m k y=>exact yU B r s h|insert t m k y=>exact yU (t:=t) (m:=m) (k:=k) (y:=y) B r s h|call c=>
  have⟨callee,args,u⟩:=c
  cases callee with
  |builtin b=>cases b with|append=>exact Lj B r s h|clear=>exact Md B r s h|_=>simp[cH]at h
  |_=>simp[cH]at h
 |_=>simp[cH]at h
end
def sO{xs:Zu}(h:V.gP xs=true):∀x∈xs,V.closed x=true:=by induction xs with|nil=>simp|cons x r u=>simp[V.gP]at h;grind
def s7{xs:Zu}(h:V.cZ xs=true):∀x∈xs,V.scalar x=true:=by induction xs with|nil=>simp|cons x r u=>simp[V.cZ]at h;grind
section
variable{I I':cu}{μ:Mu}{H H':bC}{w:World}
def bM.closed{x:V}{v:Zp}(h:bM I μ x v)(d:x.closed=true):eD I x v:=by induction h with|c x v h=>omega|hsl id off len cap p w h1 Q=>simp[V.closed]at d|hsl0 id es off a=>simp[V.closed]at d|hptr id el off p w=>simp[V.closed]at d|yld id p w=>simp[V.closed]at d|hmap id p w=>simp[V.closed]at d|clo f x y u v L O _ _ z B=>simp[V.closed]at d;exact .clo f x y u v L O (λj a b p q=>z j a b p q (sO d.1 a (mem_of_getElem? p))) (λj a b p q=>B j a b p q (sO d.2 a (mem_of_getElem? p)))|agg C D G _ J=>exact .agg C D G λj a b p q=>J j a b p q (sO d a (mem_of_getElem? p))|tup C D G _ J=>exact .tup C D G λj a b p q=>J j a b p q (sO d a (mem_of_getElem? p))
def eD.scalar{x:V}{v:Zp}(h:eD I x v)(B:x.scalar=true):eD I' x v:=by induction h with|bool b=>exact .bool b|int k n=>exact .int k n|str s=>exact .str s|dF a=>exact .dF a|bL=>exact .bL|gN=>exact .gN|fZ=>exact .fZ|q_=>exact .q_|agg u w z _ C=>exact .agg u w z λj a b p q=>C j a b p q (s7 B a (mem_of_getElem? p))|tup u w z _ C=>exact .tup u w z λj a b p q=>C j a b p q (s7 B a (mem_of_getElem? p))|_=>simp[V.scalar]at B
def iC{f:V->bt V}:∀{xs ys:Zu},gO f xs=some ys->ys.length=xs.length/\∀(j:Nat)y,ys[j]?=some y->∃x,xs[j]?=some x/\f x=some y:=by intro xs;induction xs with|nil=>intro ys h;simp[gO]at h;grind|cons x xs u=>intro ys h;simp[gO]at h;split at h;grind;grind
def Jg{f:V->bt V}:∀{xs ys:Zt},kG f xs=some ys->ys.length=xs.length/\∀(j:Nat)y,ys[j]?=some y->∃x,xs[j]?=some x/\gO f x=some y:=by intro xs;induction xs with|nil=>intro ys h;simp[kG]at h;grind|cons x xs u=>intro ys h;simp[kG]at h;grind
def Iz{f:V->bt V}:∀{xs ys:a_ (V×V)},kD f xs=some ys->ys.length=xs.length/\∀(j:Nat)y,ys[j]?=some y->∃x,xs[j]?=some x/\f x.1=some y.1/\f x.2=some y.2:=by intro xs;induction xs with|nil=>intro ys h;simp only[kD]at h;grind|cons x xs u=>intro ys h;simp only[kD]at h;grind
def Obj.ic:Obj->bt IC
 |.cells c _ _=>some (.cells c)|.map es _=>some (.map es)|_=>none
def zF(μ:Mu)(H:bC)(T:Zv)(b:Nat):Prop:=∃id p ob,id∈T/\H[id]?=some ob/\ob.live=true/\μ id=some p/\p.b=b
open Classical in
noncomputable def plus(I:cu)(μ:Mu)(H:bC)(w:World)(T:Zv):cu:=λb=>
 match I b with
 |some x=>some x|none=>if zF μ H T b then(w.heap[b]?).bind Obj.ic else none
def n9(I:cu)(μ:Mu)(H:bC)(w:World)(T:Zv):cu.le I (plus I μ H w T):=by intro b x h;simp[plus,h]
theorem sB(s:c9 I μ H w)(T:Zv):∀b x,plus I μ H w T b=some x->x.at w b:=by
 intro b x h;unfold plus at h;split at h;next y B=>cases h;exact s.imm b _ B
 split at h;have⟨o,z,u⟩:=ζg.1 h;cases o<;>simp[Obj.ic]at u;subst u;exact⟨_,_,z⟩;subst u;exact⟨_,z⟩;grind
theorem w_{T:Zv}{b:Nat}(h:(plus I μ H w T b).isSome=true):(I b).isSome=true\/zF μ H T b:=by unfold plus at h;grind
theorem Ao{T:Zv}{b:Nat}(h:zF μ H T b):gQ μ H b:=by have⟨id,p,ob,_,h1,u,w,z⟩:=h;exact⟨id,p,ob,h1,u,w,z⟩
def A2(s:c9 I μ H w){T:Zv}{id es:Nat}{xs:Zt}(B:id∈T)(h:(H[id]?).bind Ob.rows=some (es,xs)):
 ∃p c,μ id=some p/\plus I μ H w T p.b=some (.cells c)/\fN I μ p c es xs:=by
 have⟨ob,a,z⟩:=ζg.1 h;have u:=s.obs id ob a;rcases ES z with rfl|rfl
 .have⟨p,c,el,g1,g2,g3,g4⟩:=u;refine⟨p,c,g1,?_,g4⟩;have C:zF μ H T p.b:=⟨id,p,_,B,a,rfl,g1,rfl⟩;unfold plus;rw[g2];simp[C,g3,Obj.ic]
 have⟨p,c,g1,g2,g4⟩:=u;exact⟨p,c,g1,n9 _ _ _ _ _ _ _ g2,g4⟩
def fN.idx{p:Pl}{c:Array Zp}{es:Nat}{xs:Zt}(r:fN I μ p c es xs){i j:Nat}{x:Zu}{y:V}{v:Zp}(a:xs[i]?=some x)(B:x[j]?=some y)
 (D:c[p.o+i*es+j]?=some v):bM I μ y v:=by
 have w:=uK r.oD a B;refine r.rel.2 (i*es+j) y v w ?_;have u:=(ζe.1 w).1;rw[fA r.oD]at u
 grind
def jI{f:V->Zv}{xs:Zu}{x:V}{k:Nat}(B:x∈xs)(a:k∈f x):k∈c7 f xs:=by induction xs with|nil=>simp_all|cons y r u=>simp[c7];grind
def iP(n:Nat)(H:bC){x:V}(h:x.closed=true):borrow n H x=some x:=by cases n<;>simp[borrow,h]
def tn(s:c9 I μ H w)(T:Zv):∀(n:Nat)(x y:V)(v:Zp),borrow n H x=some y->(∀k∈cm n H x,k∈T)->bM I μ x v->
 eD (plus I μ H w T) y v/\(x.one=true->y.one=true):=by
 intro n
 induction n with
 |zero=>
  intro x y v h _ g;simp only[borrow]at h;split at h
  next F=>simp at h;subst h;exact⟨(g.closed F).mono (n9 _ _ _ _ _),id⟩
  grind
 |succ n ih=>
  intro x y v h O g;simp[borrow]at h;split at h
  next F=>simp at h;subst h;exact⟨(g.closed F).mono (n9 _ _ _ _ _),id⟩
  rename_i al;simp[cm,if_neg al]at O;split at h
  .
   rename_i id es off len;split at h
   .rename_i B xs J;split at h
    .rename_i F;obtain⟨rfl,am⟩:=F;simp only[J]at O;simp at h;obtain⟨U,l,rfl⟩:=h;have⟨ab,W⟩:=Jg l;refine⟨?_,λ_=>rfl⟩
     have aj:U.length=len:=Zd
     rcases g.kV with⟨p,K,A,hp,ar,r,rfl⟩|⟨h0,a,rfl⟩
     .have⟨p',c,g1,g2,g3⟩:=A2 s (O id Zc) J
      rw[A]at g1;cases g1;have X:∀i z,U[i]?=some z->∃Q,xs[off+i]?=some Q/\gO (borrow n H) Q=some z:=by grind
      have ak:∀i Q,i<len->xs[off+i]?=some Q->∀q∈Q,∀k∈cm n H q,k∈T:=by intro i Q m an q M k d;refine O k ?_;refine mem_cons_of_mem _ (jI (mem_flatten.2 ⟨Q,mem_of_getElem? (i:=i) ?_,M⟩) d);rw[getElem?_take,if_pos m,getElem?_drop];exact an
      have au:eD (plus I μ H w T) (.fsl B U) (.slice (some ⟨p.b,p.o+off*B,none⟩) U.length K):=by refine .fsl B U p.b (p.o+off*B) K c g2 Za ?_ ?_ ?_ ?_;intro z af;have⟨i,m⟩:=List.mem_iff_getElem?.1 af;have⟨Q,G,Y⟩:=X i z m;rw[(iC Y).1];exact g3.oD Q (mem_of_getElem? G);intro z af q M;have⟨i,m⟩:=List.mem_iff_getElem?.1 af;have⟨Q,G,Y⟩:=X i z m;have⟨j,o⟩:=List.mem_iff_getElem?.1 M;have⟨L,D,Z⟩:=(iC Y).2 j q o;have ad:=mem_of_getElem? G;have ae:=mem_of_getElem? D;have ao:=g3.room;have aw:=g3.oD Q ad;have ax:=(ζe.1 D).1;have ap:=(ζe.1 G).1;have av:(off+i)*B+B<=xs.length*B:=(by have:=mul_le_mul_right B (ap);grind);have aq:=Za;have N:=g3.idx G D (v:=c[p.o+(off+i)*B+j]) (by simp[aq]);exact(ih L q _ Z (ak i Q (by have:=(ζe.1 m).1;omega) G L ae) N).2 (g3.one Q ad L ae);have E:=(g3.span am).2;grind;intro i j z q u m o hu;have⟨Q,G,Y⟩:=X i z m;have⟨L,D,Z⟩:=(iC Y).2 j q o;have N:=g3.idx G D (v:=u) Zd;exact(ih L q u Z (ak i Q (by have:=(ζe.1 m).1;omega) G L (mem_of_getElem? D)) N).1
      grind
     subst h0;have:=List.eq_nil_of_length_eq_zero aj;subst this;exact .fsl0 B _ _
    grind
   grind
  .
   rename_i id el off;split at h
   .rename_i B xs J;split at h
    .rename_i cs ah;split at h
     .simp only[J]at O;simp at h;obtain⟨U,l,rfl⟩:=h;have⟨ab,W⟩:=iC l;refine⟨?_,λ_=>rfl⟩
      obtain⟨p,A,rfl⟩:=g.sJ;have⟨p',c,g1,g2,g3⟩:=A2 s (O id Zc) J
      rw[A]at g1;cases g1;have⟨k1,k2,k3⟩:=g3.elem ah;rw[g3.es_eq];refine .fptr U p.b _ c g2 ?_ ?_
      .rw[ab,List.length_drop];omega
      intro j q u o hu;have⟨L,D,Z⟩:=W j q o;rw[getElem?_drop]at D;have N:=g3.idx ah D (by rw[<-add_assoc];exact hu)
      refine(ih L q u Z (λk d=>O k ?_) N).1
      exact mem_cons_of_mem _ (jI (mem_of_getElem? (i:=j) (by rw[ah,getD_some,getElem?_drop];exact D)) d)
     simp at h
    simp at h
   simp at h
  .
   rename_i id;split at h
   .rename_i ay ai;simp at h;obtain⟨U,l,rfl⟩:=h;simp only[ai]at O;have⟨ab,W⟩:=Iz l;refine⟨?_,λ_=>rfl⟩
    obtain⟨p,A,rfl⟩:=g.Ap;have⟨p',es,cl,g1,g2,g3,g4⟩:=s.obs id _ ai;rw[A]at g1;cases g1;have ht:zF μ H T p.b:=⟨id,p,_,O id Zc,ai,rfl,A,rfl⟩
    have hI:plus I μ H w T p.b=some (.map es):=by unfold plus;rw[g2];simp[ht,g3,Obj.ic]
    refine .fmap U p.b es hI (by rw[ab];exact g4.1) ?_ ?_
    .intro j q e o he;have⟨L,E,h2,h3⟩:=W j q o;refine(ih L.1 q.1 e.key h2 (λk d=>O k ?_) (g4.2 j L e E he).1).1
     exact mem_cons_of_mem _ (mem_append.2 (.inl (jI (mem_map.2 ⟨L,mem_of_getElem? E,rfl⟩) d)))
    intro j q e o he;have⟨L,E,h2,h3⟩:=W j q o;refine(ih L.2 q.2 e.val h3 (λk d=>O k ?_) (g4.2 j L e E he).2).1
    exact mem_cons_of_mem _ (mem_append.2 (.inr (jI (mem_map.2 ⟨L,mem_of_getElem? E,rfl⟩) d)))
   simp at h
  .rename_i f p q;split at h
   .rename_i p' q' hp M;simp at h;subst h;obtain⟨P,u2,rfl,r1,r2⟩:=g.jD;have⟨R,m1⟩:=iC hp;have⟨l2,m2⟩:=iC M;refine⟨.clo f p' q' P u2 (by rw[R];simpa using r1.1) (by rw[l2];simpa using r2.1) ?_ ?_,λ_=>rfl⟩
    .intro j a b t r;have⟨a0,C,S⟩:=m1 j a t;exact(ih a0 a b S (λk d=>O k (mem_append.2 (.inl (jI (mem_of_getElem? C) d)))) (r1.2 j a0 b C (by simpa using r))).1
    intro j a b t r;have⟨a0,C,S⟩:=m2 j a t;exact(ih a0 a b S (λk d=>O k (mem_append.2 (.inr (jI (mem_of_getElem? C) d)))) (r2.2 j a0 b C (by simpa using r))).1
   simp at h
  .rename_i cs;simp at h;obtain⟨U,l,rfl⟩:=h;have⟨R,m1⟩:=iC l;obtain⟨P,rfl,r1⟩:=g.h_;refine⟨.agg U P (by rw[R];simpa using r1.1) ?_,λh=>by simp[V.one]at h⟩
   intro j a b t r;have⟨a0,C,S⟩:=m1 j a t;exact(ih a0 a b S (λk d=>O k (jI (mem_of_getElem? C) d)) (r1.2 j a0 b C (by simpa using r))).1
  .rename_i cs;simp at h;obtain⟨U,l,rfl⟩:=h;have⟨R,m1⟩:=iC l;obtain⟨P,rfl,r1⟩:=g.pn;refine⟨.tup U P (by rw[R];simpa using r1.1) ?_,λh=>by simp[V.one]at h⟩
   intro j a b t r;have⟨a0,C,S⟩:=m1 j a t;exact(ih a0 a b S (λk d=>O k (jI (mem_of_getElem? C) d)) (r1.2 j a0 b C (by simpa using r))).1
  grind
end
def fr(ro:bt Nat):Fence:={fn:=λ_=>True,depth:=none,alive:=false,round:=ro}
def wu(I:cu)(μ:Mu)(H:bC)(w:World)(r:V)(H':bC):Ending->World->Prop:=λe w'=>∃u I' μ',e=.returned u/\bM I' μ' r u/\c9 I' μ' H' w'/\Step I μ H w I' μ' H' w'
def xe(P:Program)(f:Zk):Prop:=∃fn,P.funcs[f]?=some fn/\fn.body.isSome=true/\(fn.name== "runtime.NumGoroutine")=false
structure j9(P:Program)(call:dw):Prop where
 fn:∀f args H r H',call (.fn f) args H=some (r,H')->xe P f/\∀I μ w vs,c9 I μ H w->cR I μ args vs->CallsIn (fr none) 0 P f vs.toArray w (wu I μ H w r H')
 yld:∀id args H r H',call (.yld id) args H=some (r,H')->∀I μ w vs p,c9 I μ H w->cR I μ args vs->μ id=some p->
  ∃l f tmps assign body,(Instr.yield p.b vs.toArray).run P w=.ok (.round l f tmps assign body) w/\RoundIn (fr none) 0 P l f tmps assign body w (wu I μ H w r H')
def rF:Ob->Ob
 |.row es xs=>.frz es xs|.map _=>.dead|o=>o
theorem Ea(H:bC)(k id:Nat):(tD H k)[id]?=(H[id]?).map λob=>if id=k then rF ob else ob:=by
 unfold tD;by_cases e:id=k;subst e;cases h:H[id]?with|none=>simp[h]|some ob=>have u:=(ζe.1 h).1;cases ob<;>simp[rF,u]<;>exact(ζe.1 h).2
 grind
theorem G8(o:Ob):rF (rF o)=rF o:=by cases o<;>rfl
theorem g_:∀(T:Zv)(H:bC)(id:Nat),(cV H T)[id]?=(H[id]?).map λob=>if id∈T then rF ob else ob:=by intro T;induction T with|nil=>simp[cV]|cons k T u=>intro H id;have:=u (tD H k) id;grind[cV,Ea,G8]
def jC(T:Zv)(H:bC):(cV H T).length=H.length:=by induction T generalizing H with|nil=>rfl|cons k T u=>simp[cV]at u⊢;rw[u];grind[tD]
section
variable{P:Program}{I I':cu}{μ μ':Mu}{H H':bC}{w w':World}
def c9.kept(s:c9 I μ H w)(a:∀b,b<w.heap.size->w'.heap[b]?=w.heap[b]?):c9 I μ H w' where
 dom:=s.dom
 imm:=λb x h=>IC.qI (s.imm b x h) (a b (s.FN h))
 obs:=λid ob h=>(s.obs id ob h).mono (cu.le_refl _) (Mu.le_refl _) (λp u z=>by
  have C:gQ μ H p.b:=⟨id,p,ob,h,z,u,rfl⟩
  grind[mj,fG]) (λB=>by subst B;exact s.obs id _ h)
 inj:=s.inj
 gl:=s.gl
theorem qp(μ:Mu)(b:Nat):¬gQ μ [] b:=by rintro⟨id,p,ob,h,_⟩;simp_all
def Bo{call:dw}(N:j9 P call){f:Zk}{args:Zu}{y:V}(h:bY call f args H=some y)(s:c9 I μ H w){vs:a_ Zp}(n:cR I μ args vs):
 xe P f/\CallsIn (fr none) 0 P f vs.toArray w (wu I μ H w y (if y.scalar then H else cV H (c7 (cm call.lv H) args))):=by
 unfold bY at h;split at h
 .rename_i az has;split at h
  .rename_i r H1 S;split at h
   .rename_i y' hy;split at h
    .rename_i aa;simp at h;subst h;generalize R:c7 (cm call.lv H) args=T;obtain⟨ab,D⟩:=iC has;have s0:c9 (plus I μ H w T) (λ_=>none) [] w:=⟨λ_ _=>rfl,sB s T,Zc,Zc,s.gl.mono (n9 I μ H w T)⟩
     have U:cR (plus I μ H w T) (λ_=>none) az vs:=by refine⟨ab.trans n.1,λj a b d z=>?_⟩;obtain⟨x,Y,af⟩:=D j a d;refine .c _ _ (tn s T call.lv x a b af (λk o=>?_) (n.2 j x b Y z)).1;rw[<-R];exact jI (mem_of_getElem? Y) o
     obtain⟨hf,L⟩:=N.fn f az [] r H1 S;refine⟨hf,(L _ _ w vs s0 U).mono ?_⟩;rintro e w' ⟨u,I1,t,rfl,hr,v,st⟩;have B:=λb D=>st.frame b D (qp _ _)
     generalize ak:cm call.lv H1 r=T1;have A:=(tn v T1 call.lv r y' u hy (λk o=>Zd) hr).1
     cases ah:y'.scalar with
     |true=>exact⟨u,I,μ,rfl,.c _ _ (A.scalar ah),s.kept B,⟨cu.le_refl _,Mu.le_refl _,le_refl _,st.size,λb D _=>B b D,λ_ h=>h.elim .inl λh=>.inr (.inl h),st.os,st.out,st.fz⟩⟩|false=>
      simp only[false_eq_true,if_false]
      let I2:=plus I1 t H1 w' T1
      have G:cu.le I I2:=cu.le_trans (n9 I μ H w T) (cu.le_trans st.le (n9 _ _ _ _ _));have W:∀b,(I2 b).isSome=true->(I b).isSome=true\/zF μ H T b\/w.heap.size<=b:=by intro b D;have d:(I1 b).isSome=true\/gQ t H1 b:=(by rcases w_ D with h|h;all_goals grind[Ao]);rcases st.terr b d with h|h|h;all_goals grind[w_,qp]
      have X:∀id ob p,H[id]?=some ob->ob.live=true->id∉T->μ id=some p->I2 p.b=none:=by intro id ob p d z h3 h4;cases E:I2 p.b with|none=>rfl|some x=>have F:gQ μ H p.b:=⟨id,p,ob,d,z,h4,rfl⟩;rcases W p.b Zd with h|⟨O,p',ai,g0,g1,g2,g3,g4⟩|h;rw[fG s F]at h;cases h;have:=s.inj O id ai ob p' p g1 d g2 z g3 h4 g4;simp_all;have:=mj s F;omega
      have Q:∀id x,(cV H T)[id]?=some x->∃ob,H[id]?=some ob/\x=(if id∈T then rF ob else ob):=by grind[g_]
      have C:∀id x,(cV H T)[id]?=some x->x.live=true->H[id]?=some x/\(id∉T\/∃r,x=.loop r):=by intro id x Y g;obtain⟨ob,d,z⟩:=Q id x Y;by_cases Z:id∈T;rw[if_pos Z]at z;cases ob<;>simp[rF]at z<;>subst z<;>simp[Ob.live]at g;grind;grind
      refine⟨u,I2,μ,rfl,.c _ _ A,⟨?_,?_,?_,?_,s.gl.mono G⟩,⟨G,Mu.le_refl _,by rw[jC];grind,st.size,λb D _=>B b D,?_,st.os,st.out,st.fz⟩⟩
      .intro id h;rw[jC]at h;exact s.dom id h
      .grind[sB]
      .intro id x Y;obtain⟨ob,d,z⟩:=Q id x Y;have J:=s.obs id ob d
       by_cases Z:id∈T
       .rw[if_pos Z]at z
        cases ob with
        |row es xs=>
         subst z;obtain⟨p,c,g1,g2,g3⟩:=A2 s Z (by rw[d];rfl)
         exact⟨p,c,g1,n9 _ _ _ _ _ _ _ (st.le _ _ g2),g3.mono G (Mu.le_refl _)⟩
        |frz es xs=>subst z;exact J.mono G (Mu.le_refl _) (λp _ g=>by grind[Ob.live]) (λi=>by cases i)|map al=>subst z;trivial|free=>simp[rF]at z;subst z;exact J|dead=>subst z;trivial|loop r=>
         simp[rF]at z;subst z;obtain⟨p,l,g1,g2,g3,g4⟩:=J;refine⟨p,l,g1,?_,?_,g4.mono G (Mu.le_refl _)⟩
         .
          cases E:I2 p.b with
          |none=>rfl|some x=>
           have K:=sB v T1 p.b x E;have aj:=(Array.getElem?_eq_some_iff.1 g3).1;have m:=B p.b aj;rw[g3]at m
           cases x with
           |cells c=>obtain⟨_,_,q⟩:=K;rw[m]at q;cases q|map es=>obtain⟨_,q⟩:=K;rw[m]at q;cases q
         grind
       rw[if_neg Z]at z;subst z;refine J.mono G (Mu.le_refl _) (λp M g=>⟨B _ (mj s ⟨id,p,x,d,g,M,rfl⟩),X id x p d g Z M⟩) (λi=>by subst i;exact J)
      .intro id O o1 o2 p p' d z l1 l2 m1 m2 D;exact s.inj id O o1 o2 p p' (C id o1 d l1).1 (C O o2 z l2).1 l1 l2 m1 m2 D
      intro b D;rcases D with h|⟨id,p,x,d,z,h3,rfl⟩
      .grind[Ao]
      exact .inr (.inl ⟨id,p,x,(C id x d z).1,z,h3,rfl⟩)
    grind
   grind
  grind
 grind
def bM.scalar{x:V}{v:Zp}(h:bM I μ x v)(B:x.scalar=true):bM I' μ' x v:=by
 have key:∀(l:Zu)(u:a_ Zp),(∀x∈l,∀v,bM I μ x v->x.scalar=true->bM I' μ' x v)->V.cZ l=true->(∀(j:Nat)a b,l[j]?=some a->u[j]?=some b->bM I μ a b)->
  ∀(j:Nat)a b,l[j]?=some a->u[j]?=some b->bM I' μ' a b:=by
  intro l
  induction l with
  |nil=>grind|cons x l C=>
   intro u f L O j a b D G;simp only[V.cZ,ζh]at L
   cases j with
   |zero=>grind|succ j=>
    cases u with
    |nil=>simp at G|cons v u=>exact C u (λy w=>f y (mem_cons_of_mem _ w)) L.2 (λj a b p q=>O (j+1) a b Zd Zd) j a b Zd Zd
 have d:∀(k:Nat)(x:V)(v:Zp),SizeOf.sizeOf x<k->bM I μ x v->x.scalar=true->bM I' μ' x v:=by intro k;induction k with|zero=>grind|succ k C=>intro x v g h B;cases h with|c _ _ h=>exact .c _ _ (h.scalar B)|agg z u J h=>refine .agg z u J (λj a b D G=>key z u.toList (λy w v e B=>C y v ?_ e B) B (λj a b p q=>h j a b p (by simpa using q)) j a b D Zd);have:=List.sizeOf_lt_of_mem w;grind|tup z u J h=>refine .tup z u J (λj a b D G=>key z u.toList (λy w v e B=>C y v ?_ e B) B (λj a b p q=>h j a b p (by simpa using q)) j a b D Zd);have:=List.sizeOf_lt_of_mem w;grind|_=>grind[V.scalar]
 exact d (SizeOf.sizeOf x+1) x v Za h B
def c9.JG(s:c9 I μ H w){ob:Ob}{p:Pl}(U:ob≠.free)(Y:I p.b=none)(G:¬gQ μ H p.b)(W:rO I (μ.gq H.length p) w H.length ob):
 c9 I (μ.gq H.length p) (H++[ob]) w:=by
 have a:=s.dom _ (le_refl _);have u:∀id x,(H++[ob])[id]?=some x->(id≠H.length/\H[id]?=some x)\/(id=H.length/\x=ob):=by grind
 refine⟨?_,s.imm,?_,?_,s.gl⟩
 .intro id h;simp at h;rw[Mu.iq _ _ Za];exact s.dom id Za
 .intro id x h;rcases u id x h with⟨e,h⟩|⟨rfl,rfl⟩
  .refine(s.obs id x h).mono (cu.le_refl _) (Mu.p9 a) (λq Q S=>?_) (λT=>by subst T;rw[Mu.iq _ _ e];exact s.obs id _ h)
   exact⟨rfl,fG s ⟨id,q,x,h,S,Q,rfl⟩⟩
  grind
 intro id z o1 o2 q J h1 X L O B C D;rcases u id o1 h1 with⟨e1,k1⟩|⟨a1,Z⟩<;>rcases u z o2 X with⟨e2,k2⟩|⟨a2,b⟩
 .rw[Mu.iq _ _ e1]at B;rw[Mu.iq _ _ e2]at C;exact s.inj id z o1 o2 q J k1 k2 L O B C D
 .subst a2;rw[Mu.iq _ _ e1]at B;rw[Mu.fP]at C;cases C;exact absurd ⟨id,q,o1,k1,L,B,D⟩ G
 .subst a1;rw[Mu.iq _ _ e2]at C;rw[Mu.fP]at B;cases B;exact absurd ⟨z,J,o2,k2,O,C,D.symm⟩ G
 grind
theorem Sk{call:dw}(hc:j9 P call){f:Zk}{args:Zu}{y:V}(h:jR call f args H=some (y,H'))(s:c9 I μ H w){vs:a_ Zp}(F:cR I μ args vs):
 xe P f/\CallsIn (fr none) 0 P f vs.toArray w (wu I μ H w y H'):=by
 unfold jR at h;split at h
 .rename_i az has;split at h
  .rename_i r H1 L;generalize hT:c7 (cm call.lv H) args=T;have⟨W,D⟩:=iC has;have s0:c9 (plus I μ H w T) (λ_=>none) [] w:=⟨λ_ _=>rfl,sB s T,Zc,Zc,s.gl.mono (n9 I μ H w T)⟩
   have O:cR (plus I μ H w T) (λ_=>none) az vs:=by refine⟨W.trans F.1,λj a b d m=>?_⟩;have⟨x,U,aa⟩:=D j a d;refine .c _ _ (tn s T call.lv x a b aa (λk hk=>?_) (F.2 j x b U m)).1;rw[<-hT];exact jI (mem_of_getElem? U) hk
   have⟨hf,G⟩:=hc.fn f az [] r H1 L;refine⟨hf,(G _ _ w vs s0 O).mono ?_⟩;rintro e w' ⟨u,I1,μ1,rfl,n,s1,st⟩;have z:∀b,b<w.heap.size->w'.heap[b]?=w.heap[b]?:=λb D=>st.frame b D (qp _ _)
   have K:c9 I μ H w':=s.kept z;have ab:Step I μ H w I μ H w':=⟨cu.le_refl _,Mu.le_refl _,le_refl _,st.size,λb D _=>z b D,λ_ h=>h.elim .inl λh=>.inr (.inl h),st.os,st.out,st.fz⟩
   split at h
   next ae=>simp only[ζa,ζc]at h;obtain⟨rfl,rfl⟩:=h;exact⟨u,I,μ,rfl,n.scalar ae,K,ab⟩

   have key:∀(id es off len:Nat)(v:V)(ob:Ob)(u:Zp),qa H.length H1 id es off len=some (v,ob)->bM I1 μ1 (.hsl id es off len) u->
    ∃p,bM I (μ.gq H.length p) v u/\c9 I (μ.gq H.length p) (H++[ob]) w'/\Step I μ H w I (μ.gq H.length p) (H++[ob]) w':=by
    intro id es off len v ob u B hu;unfold qa at B;split at B
    .rename_i X xs J;split at B
     .rename_i Q;obtain⟨rfl,am⟩:=Q;obtain⟨rfl,rfl⟩:=B;have⟨p,c,el,g1,g2,g3,g4⟩:=s1.obs id _ J;have an:w.heap.size<=p.b:=by
       rcases st.terr p.b (.inr ⟨id,p,_,J,rfl,g1,rfl⟩)with h|h|h
       .have⟨x,U⟩:=isSome_iff_exists.1 h;have:=st.le _ _ U
        grind
       all_goals grind[qp]
      have M:I p.b=none:=by cases U:I p.b with|none=>rfl|some x=>have:=s.FN U;omega
      have hn:¬gQ μ H p.b:=λho=>by have:=mj s ho;omega
      have af:fN I (μ.gq H.length p) p c X xs:=by refine⟨g4.es_eq,g4.sz,g4.oD,g4.one,g4.room,g4.rel.1,λj a b B D=>(g4.rel.2 j a b B D).scalar ?_⟩;have g:=mem_of_getElem? B;rw[mem_flatten]at g;grind
      have sa:=K.JG (ob:=.row X xs) Zc M hn ⟨p,c,el,Mu.fP _ _ _,M,g3,af⟩
      refine⟨p,?_,sa,⟨cu.le_refl _,Mu.p9 (s.dom _ (le_refl _)),Zc,st.size,λb D _=>z b D,?_,st.os,st.out,st.fz⟩⟩
      .rcases hu.kV with⟨p',o,g,ah,ai,aj,t⟩|⟨h0,ad,t⟩
       .rw[g1]at g;cases g;rw[t];subst ah;exact .hsl _ off len o p (Mu.fP _ _ _) ai aj
       rw[t,h0];exact .hsl0 _ _ _ _
      rintro b (h|⟨k,q,x,d,m,N,rfl⟩)
      .exact .inl h
      by_cases e:k=H.length
      .grind[Mu.fP]
      rw[Mu.iq _ _ e]at N;have ak:k<H.length:=by have:=(ζe.1 d).1;grind
      rw[getElem?_append_left ak]at d;exact .inr (.inl ⟨k,q,x,d,m,N,rfl⟩)
     grind
    grind
   split at h
   next id es off len _=>simp only[ζf]at h;obtain⟨⟨v,ob⟩,B,rfl,rfl⟩:=h;have⟨p,k1,k2,k3⟩:=key id es off len v ob u B n;exact⟨u,I,_,rfl,k1,k2,k3⟩
   .rename_i id es off len rest _;split at h
    .rename_i S;simp only[ζf,ζc]at h;obtain⟨⟨v,ob⟩,B,rfl,rfl⟩:=h;obtain⟨A,rfl,C⟩:=n.pn;have Y:0<A.toList.length:=by have:=C.1;grind
     obtain⟨i,E,Z⟩:∃i E,A.toList=i::E:=by cases hl:A.toList with|nil=>rw[hl]at Y;simp at Y|cons a b=>grind
     rw[Z]at C;have⟨p,k1,k2,k3⟩:=key id es off len v ob i B (C.2 0 _ _ rfl rfl);refine⟨_,I,_,rfl,.tup _ _ ?_ ?_,k2,k3⟩
     .have:=C.1;grind
     intro j a b R D;have al:(i::E)[j]?=some b:=by rw[<-Z];grind
     cases j with
     |zero=>grind|succ j=>
      simp at R al;refine(C.2 (j+1) a b Zd Zd).scalar ?_
      have:∀(l:Zu),V.cZ l=true->∀x∈l,x.scalar=true:=by intro l;induction l with|nil=>grind|cons y l ih=>simp_all[V.cZ]
      exact this rest S a (mem_of_getElem? R)
    simp at h
   grind
  grind
 grind
def Rn{E:Env}{call:dw}(a:j9 P call){f:Zk}{args:Zu}{y:V}(h:eX E call f args H=some (y,H'))(s:c9 I μ H w){vs:a_ Zp}(b:cR I μ args vs):
 xe P f/\CallsIn (fr none) 0 P f vs.toArray w (wu I μ H w y H'):=by
 unfold eX at h;split at h
 .grind[Sk]
 have⟨k1,k2⟩:=a.fn f args H y H' h
 grind
end
def Ob.mp:Ob->bt (a_ (V×V))
 |.map B=>some B|_=>none
def lV(H H2:bC):Prop:=∀id:Nat,(H[id]?).bind Ob.rows=(H2[id]?).bind Ob.rows/\(H[id]?).bind Ob.mp=(H2[id]?).bind Ob.mp
def lV.refl(H:bC):lV H H:=λ_=>⟨rfl,rfl⟩
def lV.symm{H H2:bC}(h:lV H H2):lV H2 H:=λid=>⟨(h id).1.symm,(h id).2.symm⟩
def lV.trans{H H2 B:bC}(h:lV H H2)(k:lV H2 B):lV H B:=λid=>⟨(h id).1.trans (k id).1,(h id).2.trans (k id).2⟩
theorem lV.of_eq{H H2:bC}(h:H=H2):lV H H2:=by subst h;exact .refl _
def GW{H H2:bC}(h:lV H H2):∀n,borrow n H=borrow n H2:=by
 intro n
 induction n with
 |zero=>funext x;rfl|succ n u=>
  funext x
  cases x with
  |hsl id es off len=>simp only[borrow,(h id).1,u]|hptr id el off=>simp only[borrow,(h id).1,u]|hmap id=>
   have:=(h id).2;simp only[borrow,u];split;rfl
   cases a:H[id]?with
   |none=>cases w:H2[id]?with|none=>rfl|some o2=>rw[a,w]at this;cases o2<;>simp[Ob.mp]at this<;>rfl
   |some o=>cases w:H2[id]?with|none=>rw[a,w]at this;cases o<;>simp[Ob.mp]at this<;>rfl|some o2=>rw[a,w]at this;cases o<;>cases o2<;>simp[Ob.mp]at this<;>first|rfl|(subst this;rfl)
  |_=>simp only[borrow,u]
theorem Jp{H H2:bC}(h:lV H H2):∀n,cm n H=cm n H2:=by
 intro n
 induction n with
 |zero=>funext x;rfl|succ n u=>
  funext x
  cases x with
  |hsl id es off len=>simp only[cm,(h id).1,u]|hptr id el off=>simp only[cm,(h id).1,u]|hmap id=>
   have:=(h id).2;simp only[cm,u];split;rfl
   cases a:H[id]?with
   |none=>cases w:H2[id]?with|none=>rfl|some o2=>rw[a,w]at this;cases o2<;>simp[Ob.mp]at this<;>rfl
   |some o=>cases w:H2[id]?with|none=>rw[a,w]at this;cases o<;>simp[Ob.mp]at this<;>rfl|some o2=>rw[a,w]at this;cases o<;>cases o2<;>simp[Ob.mp]at this<;>first|rfl|(subst this;rfl)
  |_=>simp only[cm,u]
theorem zf{H H2:bC}(h:lV H H2)(call:dw)(f:Zk)(args:Zu):bY call f args H=bY call f args H2:=by unfold bY borrows;rw[GW h]
def FD{H H2:bC}(h:lV H H2)(p:V)(n:Nat):dX H p n=dX H2 p n:=by cases p with|hptr id el off=>simp only[dX,(h id).1]|_=>rfl
def Ij{H H2:bC}(h:lV H H2)(p:V):me H p=me H2 p:=by
 cases p with
 |hmap id=>
  have:=(h id).2;simp only[me]
  cases a:H[id]?with
  |none=>cases u:H2[id]?with|none=>rfl|some o2=>rw[a,u]at this;cases o2<;>simp[Ob.mp]at this<;>rfl
  |some o=>cases u:H2[id]?with|none=>rw[a,u]at this;cases o<;>simp[Ob.mp]at this<;>rfl|some o2=>rw[a,u]at this;cases o<;>cases o2<;>simp[Ob.mp]at this<;>first|rfl|(subst this;rfl)
 |_=>rfl
theorem xF{E:Env}{F:Zo}{H H2:bC}(h:lV H H2)(op:Op):dP E F H op=dP E F H2 op:=by cases op<;>simp only[dP,FD h,Ij h]
theorem tO{H H2:bC}(h:lV H H2)(T:Zv):iw H T=iw H2 T:=by unfold iw;congr 1;funext id;rw[(h id).1]
def yG{H:bC}{T:Zv}(h:iw H T=true){id:Nat}(B:id∈T):∃es xs,H[id]?=some (.row es xs)\/H[id]?=some (.frz es xs):=by unfold iw at h;rw[all_eq_true]at h;have:=h id B;cases a:H[id]?with|none=>rw[a]at this;simp at this|some o=>rw[a]at this;cases o<;>simp[Ob.rows]at this<;>exact⟨_,_,by first|exact .inl rfl|exact .inr rfl⟩
def oO{H:bC}{b id:Nat}:(H.take b)[id]?=if id<b then H[id]?else none:=by rw[getElem?_take]
def qd{H:bC}{T:Zv}{b:Nat}(h:iw (H.take b) T=true):lV (cV H T) H:=by intro id;rw[g_];by_cases u:id∈T;have⟨es,z,a⟩:=yG h u;rw[oO]at a;by_cases w:id<b;rw[if_pos w]at a;rcases a with a|a<;>simp[a,u,rF,Ob.rows,Ob.mp];rw[if_neg w]at a;rcases a with a|a<;>cases a;cases H[id]?<;>simp[u]
def lV.take{H H2:bC}(h:lV H H2)(b:Nat):lV (H.take b) (H2.take b):=by intro id;rw[oO,oO];by_cases u:id<b;rw[if_pos u,if_pos u];exact h id;rw[if_neg u,if_neg u];exact⟨rfl,rfl⟩
def yZ{H:bC}{T:Zv}{b:Nat}(h:iw (H.take b) T=true){id:Nat}(B:id∈T):id<b:=by have⟨es,w,a⟩:=yG h B;rw[oO]at a;by_cases u:id<b;exact u;rw[if_neg u]at a;rcases a with a|a<;>cases a
def BW{H:bC}{T:Zv}{k:Nat}{ob:Ob}(h:k∉T):cV (H.set k ob) T=(cV H T).set k ob:=by apply List.ext_getElem?;intro i;rw[g_];by_cases e:i=k;subst e;by_cases u:i<H.length;rw[getElem?_set_self u,getElem?_set_self (by rw[jC];exact u)];simp[h];rw[List.getElem?_eq_none (by simp;omega),List.getElem?_eq_none (by rw[length_set,jC];omega)];rfl;rw[getElem?_set_ne (Ne.symm e),getElem?_set_ne (Ne.symm e),g_]
def GX(H:bC)(T B:Zv):cV (cV H T) B=cV (cV H B) T:=by apply List.ext_getElem?;intro i;simp only[g_];cases H[i]?with|none=>rfl|some o=>by_cases a:i∈T<;>by_cases u:i∈B<;>simp[a,u]
def Io{H:bC}{b:Nat}:∀(n:Nat)(x:V),(∀id∈cm n (H.take b) x,id<b)->cm n H x=cm n (H.take b) x:=by
 intro n
 induction n with
 |zero=>intro x _;rfl|succ n C=>
  have u:∀l:Zu,(∀id∈c7 (cm n (H.take b)) l,id<b)->c7 (cm n H) l=c7 (cm n (H.take b)) l:=by intro l;induction l with|nil=>intro _;rfl|cons x r B=>intro h;simp only[c7,mem_append]at h⊢;rw[C x λid w=>h id (.inl w),B λid w=>h id (.inr w)]
  intro x h;simp only[cm]at h⊢;split;rfl;rename_i e;rw[if_neg e]at h
  cases x with
  |hsl id es off len=>simp only at h⊢;have z:id<b:=h id (mem_cons_self ..);rw[oO,if_pos z]at h⊢;cases d:(H[id]?).bind Ob.rows with|none=>rfl|some q=>rw[d]at h;simp only at h⊢;rw[u _ λi w=>h i (mem_cons_of_mem _ w)]
  |hptr id el off=>simp only at h⊢;have z:id<b:=h id (mem_cons_self ..);rw[oO,if_pos z]at h⊢;cases d:(H[id]?).bind Ob.rows with|none=>rfl|some q=>rw[d]at h;simp only at h⊢;rw[u _ λi w=>h i (mem_cons_of_mem _ w)]
  |hmap id=>simp only at h⊢;have z:id<b:=h id (mem_cons_self ..);rw[oO,if_pos z]at h⊢;split;(next D g=>rw[g]at h;simp only[mem_cons,mem_append]at h;rw[u _ λi w=>h i (.inr (.inl w)),u _ λi w=>h i (.inr (.inr w))]);rfl|clo f a c=>simp only[mem_append]at h⊢;rw[u _ λi w=>h i (.inl w),u _ λi w=>h i (.inr w)]|agg G=>simp only at h⊢;exact u _ h|tup G=>simp only at h⊢;exact u _ h|_=>rfl
def sS{H:bC}{b n:Nat}:∀(l:Zu),(∀id∈c7 (cm n (H.take b)) l,id<b)->c7 (cm n H) l=c7 (cm n (H.take b)) l
 |[],_=>rfl|x::r,h=>by simp only[c7,mem_append]at h⊢;rw[Io n x λid B=>h id (.inl B),sS r λid B=>h id (.inr B)]
def Dq{H:bC}{b id es:Nat}{xs:Zt}(h:((H.take b)[id]?).bind Ob.rows=some (es,xs)):(H[id]?).bind Ob.rows=some (es,xs):=by grind
theorem EN{H:bC}{b:Nat}{p:V}{n:Nat}{cs:Zu}(h:dX (H.take b) p n=some cs):dX H p n=some cs:=by unfold dX at h⊢;grind
theorem IV{H:bC}{b:Nat}{m:V}{B:a_ (V×V)}(h:me (H.take b) m=some B):me H m=some B:=by unfold me at h⊢;grind
def xB{E:Env}{F:Zo}{H:bC}{b:Nat}{op:Op}{x:V}(h:dP E F (H.take b) op=some x):dP E F H op=some x:=by cases op with|load t a=>grind[dP,ζg,EN]|lookup t m k ok=>grind[dP,IV]|_=>simp[dP]at h
theorem rA{f g:V->bt V}(B:∀x y,f x=some y->g x=some y):∀{xs ys:Zu},gO f xs=some ys->gO g xs=some ys:=by intro xs;induction xs with|nil=>intro ys h;exact h|cons x xs u=>grind[gO]
theorem G3{f g:V->bt V}(B:∀x y,f x=some y->g x=some y):∀{xs ys:Zt},kG f xs=some ys->kG g xs=some ys:=by intro xs;induction xs with|nil=>intro ys h;exact h|cons x xs u=>grind[kG,rA]
theorem GY{f g:V->bt V}(B:∀x y,f x=some y->g x=some y):∀{xs ys:a_ (V×V)},kD f xs=some ys->kD g xs=some ys:=by intro xs;induction xs with|nil=>intro ys h;exact h|cons x xs u=>grind[kD]
theorem Ab{H:bC}{b:Nat}:∀(n:Nat)(x y:V),borrow n (H.take b) x=some y->borrow n H x=some y:=by intro n;induction n with|zero=>intro x y h;exact h|succ n z=>intro x y h;simp[borrow]at h⊢;split at h;grind;rename_i c;rw[if_neg c];split at h;split at h;rename_i a;simp only[Dq a];split at h;rename_i u;rw[if_pos u];grind[ζf,G3];grind;grind;split at h;rename_i a;simp[Dq a];split at h;split at h;rename_i w;rw[if_pos w];grind[ζf,rA];grind;grind;grind;all_goals grind[ζf,GY,rA]
def oV{call:dw}{f:Zk}{args:Zu}{H:bC}{b:Nat}{y:V}(h:bY call f args (H.take b)=some y):bY call f args H=some y:=by grind[bY,borrows,rA,Ab]
theorem yI(n:Nat)(H:bC){x:V}(h:x.closed=true):cm n H x=[]:=by cases n with|zero=>rfl|succ n=>simp[cm,h]
def D6(n:Nat)(H:bC){xs:Zu}(h:V.gP xs=true):c7 (cm n H) xs=[]:=by induction xs with|nil=>rfl|cons x r u=>grind[V.gP,c7,yI]
section
variable{P:Program}{E:Env}{I I':cu}{μ μ':Mu}{H H':bC}{n:Nat}{F:Zo}{a:Act}{w w':World}
def vz{f:Zk}(h:xe P f)(args:Array Zp):(callFunc f args).run P w=.ok (.enter f args) w:=by have⟨fn,a,B,u⟩:=h;unfold callFunc;have z:fn.body.isNone=false:=Ze;simp only[run_bind,run_program,andThen_ok,a,u,z,false_eq_true,if_false,run_pure]
theorem Ck{o:Oper}{ro:bt Nat}{K:Act->World->Prop}{Q:Exit->Act->World->Prop}{f:Zk}{args:Array Zp}{r:V}
 (B:CallsIn (fr none) 0 P f args w (wu I μ H w r H'))(D:∀u I' μ' w',bM I' μ' r u->c9 I' μ' H' w'->Step I μ H w I' μ' H' w'->K (a.put o.dst u) w'):
 o.uponIn (fr ro) 0 P a K Q (.ok (.enter f args) w):=by
 refine⟨λh=>by grind[fr],?_⟩
 have z:=B;refine z.mono ?_;rintro e w' ⟨u,I',μ',rfl,b,z,C⟩
 grind
def D9{x:V}(h:x.scalar=true){I:cu}{μ:Mu}{v:Zp}(r:bM I μ x v):eD I x v:=by induction r with|c x v C=>omega|agg u w z _ B=>exact .agg u w z λj a b p q=>B j a b p q (s7 h a (mem_of_getElem? p))|tup u w z _ B=>exact .tup u w z λj a b p q=>B j a b p q (s7 h a (mem_of_getElem? p))|_=>grind[V.scalar]
theorem P6(m:eG P E)(r:eC I μ n F a.tmps)(s:c9 I μ H w)(o:Oper){x:V}(h:oA E F o.op=some x):
 ∃u I' w',(execOp a.eval o).run P w=.ok (.value u) w'/\bM I' μ x u/\c9 I' μ H w'/\Step I μ H w I' μ H w':=by
 unfold oA at h;split at h
 rotate_left
 .cases h
 rename_i es C B n Y;split at h
 rotate_left
 .cases h
 rename_i t;obtain⟨rfl,rfl,Z⟩:=t;have⟨obj,p,u,A,W⟩:=Ay m r s o Y;have K:=W.len _ _ rfl;have⟨⟨q,c,el,g1,g2,g3,g4⟩,f⟩:=W.rel _ (s.dom _ (le_refl _));rw[Mu.fP]at g1;cases g1;have O:=W.b;have Q:obj=.cells c el:=by rw[O,lY]at g3;cases g3;rfl
 subst Q
 let I':cu:=λb=>if b=w.heap.size then some (.cells c)else I b
 have D:cu.le I I':=λb y L=>by grind
 have G:I' p.b=some (.cells c):=Zd
 have M:∀y∈C,∀z∈y,z.scalar=true:=λy L z N=>all_eq_true.1 (all_eq_true.1 Z y L) z N
 have g:∀b,b<w.heap.size->(w.alloc (.cells c el)).heap[b]?=w.heap[b]?:=λb S=>kO _ b S
 have af:∀b,b<w.heap.size->I' b=I b:=λb S=>Zd
 refine⟨u,I',_,A,?_,⟨s.dom,?_,?_,s.inj,s.gl.mono D⟩,⟨D,Mu.le_refl _,le_refl _,Zc,λb S _=>g b S,?_,rfl,⟨rfl,rfl,le_refl _⟩,λa S=>Lq W.nf a⟩⟩
 .refine .c _ _ ?_;have ah:∀d,C.length<=d->p.o+(0+d)*B<=p.sz->u=.slice (some ⟨p.b,p.o+0*B,none⟩) C.length d->eD I' x u:=by
   rintro d k1 k2 rfl;rw[zero_mul,add_zero];have hf:eD I' (.fsl B C) (.slice (some ⟨p.b,p.o,none⟩) C.length d):=.fsl B C p.b p.o d c G k1 g4.oD g4.one g4.room λi j y z v m1 l R=>eD.mono D (D9 (M y (mem_of_getElem? m1) z (mem_of_getElem? l)) (g4.idx m1 l R))
   split at h
   .split at h
    .rename_i X;split at h
     rotate_left
     .cases h
     rename_i T;simp only[ζa]at h;subst h;simp only[List.isEmpty_iff,bne_iff_ne,ne_eq]at X T;subst X;have:d=0:=by simp only[List.length_nil,zero_mul]at K;rcases Nat.eq_zero_or_pos d with k|k;exact k;have:=Nat.mul_pos k (Nat.pos_of_ne_zero T);rw[zero_add]at k2;omega
     subst this;exact .dF _
    grind
   grind
  have hp:p.es=B:=g4.es_eq;change bM I _ (.hsl H.length B 0 C.length) u at f;generalize ad:C.length=ln at f
  cases f with
  |c _ _ ae=>cases ae|hsl id off len d p' hm k1 k2=>rw[Mu.fP]at hm;grind|hsl0 id es off a=>
   have X:C=[]:=List.length_eq_zero_iff.1 ad;subst X;split at h
   .split at h
    .split at h
     .simp only[ζa]at h;subst h;exact .dF _
     cases h
    grind
   simp only[ζa]at h;subst h;exact .fsl0 _ _ _
 .intro b y L
  by_cases e:b=w.heap.size
  .subst e;have:y=.cells c:=by have:=G;rw[O]at this;rw[this]at L;cases L;rfl
   subst this;exact⟨el,_,lY _⟩
  have U:I b=some y:=by have:(if b=w.heap.size then some (IC.cells c)else I b)=some y:=L;rw[if_neg e]at this;exact this
  exact IC.qI (s.imm b y U) (g b (IC.uj (s.imm b y U)))
 .intro id ob J;refine(s.obs id ob J).mono D (Mu.le_refl _) (λq hq hl=>?_) (λe=>by subst e;exact s.obs id _ J)
  have ho:gQ μ H q.b:=⟨id,q,ob,J,hl,hq,rfl⟩;have ai:=mj s ho
  grind[fG]
 grind
def DE:∀{ys:Zt}{l:Zy},kC ys=some l->ys.flatten=l.map (V.int .u8)/\l.length=ys.length
 |[],l,h=>by cases h;grind|x::r,l,h=>by unfold kC at h;split at h;grind;rename_i n B e;cases e;obtain⟨k,a,rfl⟩:=ζf.1 h;have⟨u,w⟩:=DE a;grind;cases h
def Qe(O:eG P E)(r:eC I μ n F a.tmps)(s:c9 I μ H w)(o:Oper){x:V}(h:evalConv E F H o.op=some x):∃u,(execOp a.eval o).run P w=.ok (.value u) w/\bM I μ x u:=by
 unfold evalConv at h;split at h;rename_i st Q y B;split at h;rename_i e v S T f;split at h;rename_i U;obtain⟨D,g,W⟩:=ζg.1 h;obtain⟨l,X,rfl⟩:=ζf.1 W;obtain⟨Y,m⟩:=DE X;have C:∀{t:Zm}{k:TK},E.kindOf t=some k->∃d b,E.tt t=some d/\P.underlying t=some b/\kZ b=k:=λ{t k}hk=>by unfold Env.kindOf at hk;obtain⟨d,g1,g2⟩:=ζf.1 hk;obtain⟨b,G,J,_⟩:=(O.ty g1).dK;grind
 obtain⟨_,p,_,p1,G⟩:=C S;obtain⟨_,A,_,p2,J⟩:=C T;obtain⟨_,K,_,p3,Z⟩:=C U;rw[iY G]at p1;rw[xW J]at p2;rw[A9 Z]at p3;obtain⟨L,c,arr,e1,_,e2,e3,_⟩:=xU s (dx r f) g;have z:arr=(l.map (Value.int .u8)).toArray:=by apply ext';rw[Y]at e3;refine List.ext_getElem (by simpa using e3.1.symm) λj g1 g2=>?_;have g3:j<l.length:=Zd;have:=e3.2 j (V.int .u8 l[j]) arr.toList[j] (by simp[g3]) (ζd g1);rw[this.fc];simp
 refine⟨.string (pU l),?_,.c _ _ (.str _)⟩;rw[show execOp a.eval o=_ from by unfold execOp;rw[B]];refine eB ?_;rw[e1];rw[run_convert_bytes_string w st Q e L D.length c p1 p3 p2];cases L with|none=>have:=e2 w rfl;rw[e1]at this;simp only[firstCells,run_pure]at this;cases this;have i:l=[]:=(by have:=congrArg Array.size z;grind);subst i;rfl|some q=>have:=e2 w rfl;rw[e1]at this;simp only[firstCells,Nat.mul_one]at this;rw[z]at this;exact run_bytesToString w q D.length c l this
 cases h;cases h;cases h
def Mh(Y:eG P E){call:dw}(k:j9 P call){ops:Zz}{place:bt (Nat×Nat)}{o:Oper}{x:V}(h:cW E call ops place F H o.op=some (x,H'))
 (r:eC I μ n F a.tmps)(s:c9 I μ H w)(ro:bt Nat){K:Act->World->Prop}{Q:Exit->Act->World->Prop}
 (t:∀u I' μ' w',bM I' μ' x u->c9 I' μ' H' w'->Step I μ H w I' μ' H' w'->K (a.put o.dst u) w'):o.wpIn (fr ro) 0 P a w K Q:=by
 refine⟨λ_ _=>trivial,?_⟩
 have aa:∀c,o.op≠.defer c:=by intro c ab;rw[ab]at h;simp[cW,cO,rz,bP]at h;all_goals grind[evalConv]
 show o.uponIn (fr ro) 0 P a K Q ((o.semAt ro a.eval).run P w);rw[Oper.semAt_eq ro a.eval o aa];have ae:∀v,(execOp a.eval o).run P w=.ok (.value v) w->bM I μ x v->H'=H->o.uponIn (fr ro) 0 P a K Q ((execOp a.eval o).run P w):=by intro v e j hH;rw[e,Oper.uponIn_value];subst hH;exact t v I μ w j s (.refl _ _ _ _)
 unfold cW at h;split at h
 .
  simp at h;obtain⟨v,j,rfl,rfl⟩:=h;unfold rz at j;split at j
  .rename_i hp;cases j;have⟨u,d,B⟩:=PY (w:=w) Y r o hp
   grind
  split at j
  .have⟨u,d,B⟩:=Qe Y r s o j
   grind
  cases j
 .
  have hr:dP E F H o.op=some x/\H'=H:=by split at h;simp at h;grind;split at h;split at h;(next v j=>obtain⟨rfl,rfl⟩:=h;exact⟨xB j,rfl⟩);split at h;simp at h;grind;grind;grind
  grind[P5]
 .
  by_cases G:mF E ops place=true
  .rw[if_pos G]at h
   grind[ζf,P6,Oper.uponIn_value]
  rw[if_neg G]at h;split at h
  .rename_i ob m T;have⟨obj,p,u,d,B⟩:=Ay Y r s o T;rw[d,Oper.uponIn_value];have⟨g1,g2⟩:=B.rel _ (s.dom _ (le_refl _));have⟨s1,s2⟩:=s.push B.b g1 B.nf
   grind
  .rename_i ob m b i T;split at h
   .rename_i J;have⟨obj,p,u,d,B⟩:=Ay Y r s o T;rw[d,Oper.uponIn_value];have⟨g1,g2⟩:=B.rel _ (s.obs _ _ J);have⟨s1,s2⟩:=s.fill J B.b g1 B.nf
    grind
   grind
  grind
 .
  have hl:cH E F H o.op=some (x,H'):=by grind
  have⟨nx,u,w',μ',d,B,Z,A,R⟩:=(Pk Y r s o hl).run;rw[d];rcases B with rfl|⟨rfl,rfl⟩
  .exact t u I μ' w' Z A R
  exact t _ I μ' w' Z A R

 have z:∀c args,jo F o.op=some (c,args)->∃O:a_ Zp,cR I μ args O/\
  (∀f,c=.fn f->xe P f->(execOp a.eval o).run P w=.ok (.enter f O.toArray) w)/\
  (∀id,c=.yld id->∃p,μ id=some p/\(execOp a.eval o).run P w=(Instr.yield p.b O.toArray).run P w):=by
  intro c args C;have⟨dst,op,ty,pos,after,M⟩:=o
  cases op with
  |call cl=>
   have⟨callee,L,ai⟩:=cl
   cases callee with
   |value f=>
    simp only[jo]at C;split at C
    .rename_i g p q O hf U;obtain⟨rfl,rfl⟩:=C;have⟨u,v,ef,hu,j⟩:=(dx r hf).jD;have D:=mX r U;refine⟨u.toList++L.toList.map a.eval++v.toList,(hu.append D).append j,?_,Zc⟩
     simp_all[execOp,resolve,Deferred.ofValue,invoke,vz]
    .rename_i id O hf U;simp at C;obtain⟨rfl,rfl⟩:=C;have⟨p,N,ef⟩:=(dx r hf).QF;have D:=mX r U;refine⟨L.toList.map a.eval,D,Zc,?_⟩
     intro aj X;cases X;refine⟨p,N,?_⟩;simp[execOp,resolve,run_bind];rw[ef];simp[Deferred.ofValue,run_pure,andThen_ok,invoke]
     congr 1
     congr 1
     grind
    grind
   |_=>grind[jo]
  |_=>simp[jo]at C
 have S:∀f args y,jo F o.op=some (.fn f,args)->bY call f args H=some y->x=y->H'=(if y.scalar then H else cV H (c7 (cm call.lv H) args))->
  o.uponIn (fr ro) 0 P a K Q ((execOp a.eval o).run P w):=by
  intro f args y d B Z A;have⟨O,g1,g2,_⟩:=z _ _ d;have⟨k1,k2⟩:=Bo k B s g1;rw[g2 f rfl k1]
  grind[Ck]
 have af:∀f args,jo F o.op=some (.fn f,args)->eX E call f args H=some (x,H')->o.uponIn (fr ro) 0 P a K Q ((execOp a.eval o).run P w):=by intro f args d B;have⟨O,g1,g2,_⟩:=z _ _ d;have⟨k1,k2⟩:=Rn k B s g1;rw[g2 f rfl k1];grind[Ck]
 have ah:∀id args,jo F o.op=some (.yld id,args)->call (.yld id) args H=some (x,H')->o.uponIn (fr ro) 0 P a K Q ((execOp a.eval o).run P w):=by intro id args d B;have⟨O,g1,_,g3⟩:=z _ _ d;have⟨p,N,e⟩:=g3 id rfl;have⟨l,f,tmps,assign,body,k1,k2⟩:=k.yld id args H x H' B I μ w O p s g1 N;rw[e,k1,Oper.uponIn_round];refine⟨λh=>by grind[fr],?_⟩;have B:=k2;refine B.mono ?_;rintro e w' ⟨u,I',μ',rfl,d,B,Z⟩;grind
 split at h
 .rename_i f args C;split at h
  rotate_left
  .cases h
  unfold dU at h;split at h
  .grind
  split at h
  .grind
  split at h
  .rename_i y hy;split at h
   next W=>simp at h;refine S f args y C (oV hy) h.1.symm ?_;rw[<-h.2,if_pos W]
   rename_i W;split at h
   next ad=>simp at h;refine S f args y C (oV hy) h.1.symm ?_;rw[<-h.2,if_neg W,sS _ λid hi=>yZ ad hi]
   simp at h
  grind
 all_goals grind
end
structure jE(B:Nat)(ds:List Deferred)(w:World):Prop where
 all:∀d∈ds,∃r,d.target=.collected r/\B<=r/\w.heap[r]?=some (.deferred (some []))
 apart:ds.Pairwise λd d'=>∀r,d.target=.collected r->d'.target≠.collected r
section
variable{P:Program}{E:Env}{I I' I'':cu}{μ μ' μ'':Mu}{H H' H'':bC}{n B:Nat}{F F':Zo}{a:Act}{w w' w'':World}
def tC(s:c9 I μ H w){r:Nat}{c:bt (a_ Deferred)}(h:w.heap[r]?=some (.deferred c)):¬gQ μ H r:=by rintro⟨id,p,ob,h1,C,B,rfl⟩;have:=s.obs id ob h1;cases ob with|row es G=>have⟨q,c,el,u,_,z,_⟩:=this;rw[B]at u;cases u;rw[h]at z;cases z|map D=>have⟨q,c,el,u,_,z,_⟩:=this;rw[B]at u;cases u;rw[h]at z;cases z|loop x=>have⟨q,c,u,_,z,_⟩:=this;rw[B]at u;cases u;rw[h]at z;cases z|_=>simp[Ob.live]at C
def jE.step{ds:a_ Deferred}(h:jE B ds w)(s:c9 I μ H w)(st:Step I μ H w I' μ' H' w'):jE B ds w' where
 all:=by intro d z;have⟨r,a,C,u⟩:=h.all d z;refine⟨r,a,C,?_⟩;rw[st.frame r (Array.getElem?_eq_some_iff.1 u).1 (tC s u)];exact u
 apart:=h.apart
def Ly(r:eC I μ n F a.tmps)(ops:Array Oper)(o:Oper):fD ops.toList F o=Region.wanted o (yielded ops a.tmps):=by unfold fD Region.wanted;cases i:o.guard with|none=>rfl|some g=>have⟨j,b⟩:=g;simp only;unfold yielded;have e:ops.toList[j]?=ops[j]?:=Zc;rw[e];cases C:(ops[j]?).bind (·.dst)with|none=>simp|some d=>simp only[ζb];have f:=r.2 d;by_cases w:d<a.tmps.size;have u:a.tmps[d]?=some a.tmps[d]:=(by simp[w]);have z:a.tmps.getD d undef=a.tmps[d]:=(by simp[w]);rw[z]at f;rw[u];(cases B:get F d with|bool c=>rw[B]at f;rw[f.qE];cases c<;>cases b<;>rfl|_=>cases h:a.tmps[d]with|bool c=>rw[h]at f;have:=f.of_bool;rw[B]at this;cases this|_=>rfl);have u:a.tmps[d]?=none:=getElem?_eq_none (Nat.le_of_not_lt w);have z:a.tmps.getD d undef=undef:=(by simp[w]);rw[z]at f;rw[u];cases B:get F d with|bool c=>rw[B]at f;have:=f.qE;simp[undef]at this|_=>rfl
def Bc(O:eG P E){call:dw}(b:j9 P call){ops:Array Oper}{place:bt (Nat×Nat)}{o:Oper}(h:fW E call n ops.toList place o F H=some (F',H'))
 (r:eC I μ n F a.tmps)(s:c9 I μ H w)(ro:bt Nat){K:Act->World->Prop}{Q:Exit->Act->World->Prop}
 (J:∀a' I' μ' w',eC I' μ' n F' a'.tmps->a'.defers=a.defers->c9 I' μ' H' w'->Step I μ H w I' μ' H' w'->K a' w'):
 if Region.wanted o (yielded ops a.tmps)then o.wpIn (fr ro) 0 P a w K Q else(∀f,o.about P w a.eval=some f->(fr ro).fn f)/\K (a.put o.dst undef) w:=by
 unfold fW at h;rw[<-Ly r];have z:∀v,(a.put o.dst v).defers=a.defers:=λv=>by cases o.dst<;>rfl
 split at h
 .rename_i C;rw[if_pos C];split at h
  .rename_i x H2 D;simp only[ζf,ζc]at h;obtain⟨L,G,rfl,rfl⟩:=h;refine Mh O b D r s ro (λu I' μ' w' S T B=>?_)
   exact J _ I' μ' w' ((r.mono B.le B.mu).put S G) (z u) T B
  simp at h
 rename_i C;rw[if_neg C];simp only[ζf,ζc]at h;obtain⟨L,G,rfl,rfl⟩:=h;exact⟨λ_ _=>trivial,J _ I μ w (r.put (.undef I μ) G) (z _) s (.refl _ _ _ _)⟩
def Lo(U:eG P E){call:dw}(b:j9 P call){ops:Array Oper}(ro:bt Nat){Q:Exit->Act->World->Prop}:∀(rest:Zz)(k:Nat)(I:cu)(μ:Mu)(F:Zo)(H:bC)(a:Act)(w:World),
 (∀j,rest[j]?=ops[k+j]?)->lu E call n ops.toList rest F H=some (F',H')->eC I μ n F a.tmps->c9 I μ H w->
 (∀a' I' μ' w',eC I' μ' n F' a'.tmps->a'.defers=a.defers->c9 I' μ' H' w'->Step I μ H w I' μ' H' w'->Q .normal a' w')->
 wpOpsIn (fr ro) 0 P ops Q (List.range' k rest.length) a w:=by
 intro rest
 induction rest with
 |nil=>intro k I μ F H a w _ h r s C;simp only[lu,ζa,ζc]at h;obtain⟨rfl,rfl⟩:=h;exact C a I μ w r rfl s (.refl _ _ _ _)|cons o rest S=>
  intro k I μ F H a w u h r s C;simp only[lu]at h;split at h
  .rename_i F1 H1 z;have c:ops[k]?=some o:=by simpa using(u 0).symm
   simp only[length_cons,List.range'_succ,wpOpsIn,c];refine Bc U b z r s ro (λa' I' μ' w' d T O D=>?_)
   refine S (k+1) I' μ' F1 H1 a' w' (λj=>by have:=u (j+1);simpa[add_assoc,Nat.add_comm 1 j]using this) h d O ?_
   intro a2 I2 W X G J L B;exact C a2 I2 W X G (J.trans T) L (Step.trans O D B)
  simp at h
end
def mY(F F':Zo)(op:Op):Prop:=∀x∈op.operands,ev F x=ev F' x
def qY{F F':Zo}:∀{l:a_ Zr},(∀x∈l,ev F x=ev F' x)->fu F l=fu F' l:=by intro l;induction l with|nil=>intro _;rfl|cons x l u=>grind[fu]
def xX{F F':Zo}:∀{l:a_ (Nat×Zr)},(∀x∈l,ev F x.2=ev F' x.2)->lg F l=lg F' l:=by intro l;induction l with|nil=>intro _;rfl|cons x l u=>grind[lg]
def vw{F F':Zo}{o:bt Zr}(h:∀x∈o.toArray,ev F x=ev F' x):jA F o=jA F' o:=by cases o with|none=>rfl|some x=>grind[jA]
def CV{E:Env}{F F':Zo}{op:Op}(h:mY F F' op):bP E F op=bP E F' op:=by
 cases op with
 |move x=>exact h x (by simp[operands])|assign x=>exact h x (by simp[operands])|pick c a b=>simp[bP];rw[h c (by simp[operands]),h a (by simp[operands]),h b (by simp[operands])]|nilCheck x=>simp[bP];rw[h x (by simp[operands])]|binOp op t x y B=>simp[bP];rw[h x (by simp[operands]),h y (by simp[operands])]|unOp op t x=>simp[bP];rw[h x (by simp[operands])]|convert s d x=>simp[bP];rw[h x (by simp[operands])]|fieldAddr s x f=>simp[bP];rw[h x (by simp[operands])]|field s x f=>simp[bP];rw[h x (by simp[operands])]|indexAddr t x i=>simp[bP];rw[h x (by simp[operands]),h i (by simp[operands])]|index t x i=>simp[bP];rw[h x (by simp[operands]),h i (by simp[operands])]|slice t x C D G=>
  simp[bP];rw[h x (by simp[operands]),vw (λy w=>h y (by grind[operands])),vw (λy w=>h y (by grind[operands])),
   vw (λy w=>h y (by grind[operands]))]
 |build t ps=>simp[bP];rw[xX (λx u=>h x.2 (by grind[operands]))]|makeFunc f a b=>cases f with|func f=>simp[bP];rw[qY (λx u=>h x (by grind[operands])),qY (λx u=>h x (by grind[operands]))]|_=>rfl
 |extract x i=>simp[bP];rw[h x (by simp[operands])]|call c=>have⟨callee,args,z⟩:=c;cases callee with|builtin b=>simp[bP];rw[qY (λx u=>h x (by grind[operands,Call.operands]))]|_=>rfl
 |_=>rfl
def wk{E:Env}{F F':Zo}{H:bC}{op:Op}(h:mY F F' op):dP E F H op=dP E F' H op:=by cases op with|load t x=>simp[dP];rw[h x (by simp[operands])]|lookup t m k ok=>simp[dP];rw[h m (by simp[operands]),h k (by simp[operands])]|_=>rfl
theorem vt{E:Env}{F F':Zo}{op:Op}(h:mY F F' op):eO E F op=eO E F' op:=by cases op with|alloc t=>rfl|box t x=>simp[eO];rw[h x (by simp[operands])]|makeSlice t l c=>simp[eO];rw[h l (by simp[operands]),h c (by simp[operands])]|buildSlice t len ps=>simp[eO];rw[xX (λx u=>h x.2 (by grind[operands]))]|makeMap t r=>cases r<;>rfl|_=>rfl
def CP{E:Env}{F F':Zo}{H:bC}{op:Op}(h:mY F F' op):cH E F H op=cH E F' H op:=by
 cases op with
 |store t p x=>simp[cH];rw[h p (by simp[operands]),h x (by simp[operands])]|mapUpdate t m k x=>simp[cH];rw[h m (by simp[operands]),h k (by simp[operands]),h x (by simp[operands])]|insert t m k x=>simp[cH];rw[h m (by simp[operands]),h k (by simp[operands]),h x (by simp[operands])]|call c=>
  have⟨callee,args,u⟩:=c
  cases callee with
  |builtin b=>cases b with|append=>simp[cH];rw[qY (λx w=>h x (by grind[operands,Call.operands]))]|clear=>simp[cH];rw[qY (λx w=>h x (by grind[operands,Call.operands]))]|_=>rfl
  |_=>rfl
 |_=>rfl
def Cz{F F':Zo}{op:Op}(h:mY F F' op):jo F op=jo F' op:=by
 cases op with
 |call c=>have⟨callee,args,u⟩:=c;cases callee with|value f=>simp[jo];rw[h f (by simp[operands,Call.operands]),qY (λx w=>h x (by grind[operands,Call.operands]))]|_=>rfl
 |_=>rfl
def He{E:Env}{F F':Zo}{op:Op}(h:mY F F' op):oA E F op=oA E F' op:=by grind[oA,vt]
def Jh{F F':Zo}{ops:Zz}{i b:Nat}{H:bC}{op:Op}(h:mY F F' op):yC ops i b F H op=yC ops i b F' H op:=by
 have:oQ F op=oQ F' op:=by
  unfold oQ;split;rename_i args _;split;rename_i x r u;rw[h x (by
   have:x∈args.toList:=by rw[u];simp
   grind[operands,Call.operands])]
  rfl;rfl
 grind[yC]
def GS{E:Env}{place:bt (Nat×Nat)}{F F':Zo}{H:bC}{op:Op}(h:mY F F' op):rz E F H place op=rz E F' H place op:=by
 unfold rz;rw[CV h];have:evalConv E F H op=evalConv E F' H op:=by unfold evalConv;split;rw[h _ (by simp[operands])];rfl
 rw[this]
def BI{E:Env}{b:Nat×Nat}{F:Zo}{H:bC}{op:Op}:rz E F H (some b) op=bP E F op:=by grind[rz]
def Bl{E:Env}{call:dw}{ops:Zz}{place:bt (Nat×Nat)}{F F':Zo}{H:bC}{op:Op}(h:mY F F' op)(B:∀b i,place=some (b,i)->oU ops i F=oU ops i F'/\qx ops b i F=qx ops b i F'/\mS ops i F op=mS ops i F' op):cW E call ops place F H op=cW E call ops place F' H op:=by
 unfold cW;rw[GS h,vt h,CP h,Cz h,wk (H:=H) h,He h];split<;>(try rfl)
 .split<;>(try rfl);rename_i i;rw[wk h,(B _ i rfl).2.2]
 split<;>(try rfl);rename_i b i;rw[(B _ i rfl).1,(B _ i rfl).2.1,Jh h]
section
variable{E:Env}{call:dw}{n:Nat}{ops:Zz}{base:Nat}
def JZ{o:Oper}{t:Nat}(h:.tmp t∈o.op.operands):t∈tmpsOf o ops:=by refine mem_append.2 (.inl (List.mem_filterMap.2 ⟨.tmp t,Zd,rfl⟩))
def C0{F F':Zo}{o:Oper}{dst:bt Nat}{v:V}(B:jB n F dst v=some F')(h:∀d,dst=some d->d∉tmpsOf o ops):mY F' F o.op:=by
 intro x u
 cases x with
 |tmp t=>cases dst with|none=>grind[jB]|some d=>simp only[jB]at B;split at B;simp at B;subst B;have w:d≠t:=λe=>h d rfl (by rw[e];exact JZ u);grind[ev,iV];grind
 |const v=>rfl|func f=>rfl|global g=>rfl
def zZ{F F':Zo}{o:Oper}{dst:bt Nat}{v:V}(B:jB n F dst v=some F')(h:∀d,dst=some d->d∉tmpsOf o ops):fD ops F' o=fD ops F o:=by unfold fD;cases a:o.guard with|none=>rfl|some g=>have⟨j,b⟩:=g;simp only;cases w:(ops[j]?).bind (·.dst)with|none=>rfl|some t=>simp only;cases dst with|none=>grind[jB]|some d=>simp only[jB]at B;split at B;simp at B;subst B;have u:d≠t:=λe=>h d rfl (by grind[tmpsOf]);rw[iV _ _ u];grind
def KN{F F1 G:Zo}{d D:bt Nat}{u v:V}(a:jB n F d u=some F1)(O:jB n F1 D v=some G)(J:∀x,d=some x->D≠some x):
 ∃B,jB n F D v=some B/\jB n B d u=some G:=by
 cases d with
 |none=>simp_all[jB]|some x=>
  cases D with
  |none=>simp_all[jB]|some y=>simp_all[jB,EV]
def G6{i k:Nat}{B ok:Oper}(h:dJ ops i=true)(G:ops[i]?=some B)(a:ops[k]?=some ok)(D:k≠i):cO ok.op=.pure\/(if k<i then before ops i k else before ops k i)=true\/(isApp B.op=true/\cO ok.op=.alloc/\i<k):=by grind[dJ]
theorem Dx{H:bC}{j es:Nat}{ob:Ob}{x:V}{xs:Zt}(B:H[j]?=some .free)(h:dH H es x=some xs):dH (H.set j ob) es x=some xs:=by unfold dH at h⊢;all_goals grind[Ob.rows]
def Mg{H H1:bC}{j:Nat}{ob:Ob}{x:V}(h:gE H x=some H1):H1.length=H.length/\(H1[j]?=some .free->H[j]?=some .free)/\(H[j]?=some .free->gE (H.set j ob) x=some (H1.set j ob)):=by unfold gE at h⊢;split at h;grind;grind;rename_i id a b c;split at h;rename_i d;cases h;refine⟨Zc,λh=>?_,λh=>?_⟩;grind;have e:id≠j:=λe=>Zd;rw[getElem?_set_ne (Ne.symm e),d];rw[set_comm _ _ e];simp_all;simp_all
def NX{H:bC}{o:Ob}{j:Nat}(B:o≠.free)(h:(H++[o])[j]?=some .free):j<H.length/\H[j]?=some .free:=by grind
def Pn{F:Zo}{H H1:bC}{op:Op}{v:V}{j:Nat}{ob:Ob}(B:isApp op=true)(h:cH E F H op=some (v,H1))(D:H1[j]?=some .free):H[j]?=some .free/\cH E F (H.set j ob) op=some (v,H1.set j ob):=by unfold isApp at B;split at B;simp only[cH]at h⊢;split at h;split at h;rename_i e _ u w;split at h;rename_i d C;split at h;simp_all[Dx];rename_i O Q G S T;split at h;obtain⟨H0,a,I⟩:=ζf.1 h;obtain⟨rfl,rfl⟩:=I;obtain⟨J,z⟩:=NX Zc D;obtain⟨g1,g2,g3⟩:=Mg (ob:=ob) a;have L:=g2 z;grind[Dx];simp_all;simp_all;simp_all;rename_i e _ u w;split at h;rename_i d C;unfold mkApp at h;split at h;split at h;simp_all[mkApp];split at h;obtain⟨rfl,rfl⟩:=h;grind[mkApp];simp_all;simp_all;simp_all;simp_all;simp_all;simp_all
def sV{i:Nat}{F:Zo}{H H':bC}{op:Op}{v:V}(h:cW E call ops (some (base,i)) F H op=some (v,H'))(O:dJ ops i=false)(B:cO op≠.loud):
 (H'=H/\∀H2:bC,lV (H2.take base) (H.take base)->cW E call ops (some (base,i)) F H2 op=some (v,H2))\/
 (∃ob,H[base+i]?=some .free/\H'=H.set (base+i) ob/\∀H2:bC,H2[base+i]?=some .free->cW E call ops (some (base,i)) F H2 op=some (v,H2.set (base+i) ob))\/
 (∃T,iw (H.take base) T=true/\H'=cV H T/\∀H2:bC,lV (H2.take base) (H.take base)->cW E call ops (some (base,i)) F H2 op=some (v,cV H2 T)):=by
 unfold cW at h;split at h
 next Q=>simp at h;obtain⟨x,L,rfl,rfl⟩:=h;simp_all[BI,cW]
 .rename_i B;simp only at h;split at h
  .rename_i S;split at h
   .rename_i x L;obtain⟨rfl,rfl⟩:=h;refine .inl ⟨rfl,λH2 D=>?_⟩
    grind[cW,xF]
   grind
  grind
 .split at h
  .have⟨x,L,e⟩:=ζf.1 h;simp_all[cW]
  split at h
  .grind
  .rename_i ob m W X U G;obtain⟨rfl,rfl⟩:=G;split at h
   .rename_i w;obtain⟨rfl,rfl⟩:=h;refine .inr (.inl ⟨ob,w,rfl,λH2 D=>?_⟩)
    grind[cW]
   grind
  grind
 .grind
 rename_i B;split at h
 .rename_i f args z;split at h
  rotate_left
  .cases h
  rename_i C;unfold dU at h;split at h
  .grind
  rename_i u;simp only at h;split at h
  .rename_i y Y;split at h
   .rename_i I;obtain⟨rfl,rfl⟩:=h;refine .inl ⟨rfl,λH2 D=>?_⟩
    unfold cW dU;rw[B];simp only[z,if_pos C];rw[if_neg u]
    grind[zf]
   split at h
   .rename_i J;obtain⟨rfl,rfl⟩:=h;refine .inr (.inr ⟨_,J,rfl,λH2 D=>?_⟩)
    unfold cW dU;rw[B];simp only[z,if_pos C];rw[if_neg u]
    grind[zf,Jp,tO]
   grind
  grind
 all_goals grind
def DZ{g:Zl}{i:Nat}:∀{r l:Zv},AO g ops i r=some l->∀k∈r,∃a,Eb g ops i k=some a/\∀s∈a,s∈l
 |[],l,h,k,c=>Ze|q::r,l,h,k,c=>by simp[AO]at h;split at h;rename_i a b d B;simp at h;rcases mem_cons.1 c with rfl|c;grind;have⟨a',g1,g2⟩:=DZ B k c;exact⟨a',g1,λs u=>Zd⟩;grind
def EF{g:Zl}{i:Nat}:∀{r l:Zv},AO g ops i r=some l->∀s∈l,s∉dstsOf ops
 |[],l,h,s,c=>by grind[AO]|q::r,l,h,s,c=>by simp[AO]at h;split at h;rename_i a b d B;simp at h;subst h;rcases mem_append.1 c with c|c;grind[Eb];exact EF B s c;grind
def oS{g:Zl}{i a:Nat}{l:Zv}{B:Oper}(D:ops[i]?=some B)(h:qH g ops i=some (a,l)):(∃t x,B.op=.store t (.tmp a) x)/\a∉dstsOf ops/\(∀s∈l,s∉dstsOf ops)/\
 ∀k ok,ops[k]?=some ok->k≠i->cO ok.op=.pure\/(if k<i then before ops i k else before ops k i)=true\/(∃G a',ok.op=.load G (.tmp a')/\(a'∈l\/a'∈dstsOf ops))\/(g=true/\(cO ok.op=.alloc\/cO ok.op=.call)):=by
 unfold qH at h;rw[D]at h;simp at h;split at h
 .rename_i t a0 x w;simp at w;split at h
  .simp_all
  have⟨I,z,e⟩:=ζf.1 h;obtain⟨rfl,rfl⟩:=e;refine⟨⟨t,x,w⟩,Zd,EF z,λk ok d C=>?_⟩
  have⟨b,c,J⟩:=DZ z k (List.mem_range.2 (ζe.1 d).1);unfold Eb at c;rw[d]at c;simp only at c;split at c
  .rename_i u;simp at u;rcases u with(u|u)|u
   .grind
   .grind
   exact .inr (.inl u)
  grind
 grind
def Ew{F F':Zo}{dst:bt Nat}{v:V}{s:Nat}(B:jB n F dst v=some F')(h:∀d,dst=some d->s≠d):get F' s=get F s:=by unfold jB at B;split at B;grind;rename_i d;split at B;simp at B;subst B;simp_all[iV,Ne.symm];grind
def Fa{k d:Nat}{ok:Oper}(a:ops[k]?=some ok)(B:ok.dst=some d):d∈dstsOf ops:=List.mem_filterMap.2 ⟨ok,mem_of_getElem? a,B⟩
def wN{F F':Zo}{k i:Nat}{ok D:Oper}{v:V}(c:ops[k]?=some ok)(B:ops[i]?=some D)(G:jB n F ok.dst v=some F'):oU ops i F'=oU ops i F/\∀b,qx ops b i F'=qx ops b i F:=by
 have f:∀s,s∉dstsOf ops->get F' s=get F s:=λs z=>Ew G λd C e=>z (e▸Fa c C);refine⟨?_,λb=>?_⟩;unfold oU;cases u:qH false ops i with|none=>rfl|some w=>have⟨a,l⟩:=w;have⟨_,I,J,_⟩:=oS B u;grind
 unfold qx;cases u:qH true ops i with|none=>rfl|some w=>have⟨a,l⟩:=w;have⟨_,I,J,_⟩:=oS B u;grind
def Ld{i k a a':Nat}{t:Zm}{x:Zr}{B:Oper}(D:ops[i]?=some B)(e1:B.op=.store t (.tmp a) x)(b:a'∈dstsOf ops)(G:a∉dstsOf ops)(J:qu ops i k=false):a∈ow ops k a':=by grind[ow]
theorem BF{k a' s:Nat}(h:s∈ow ops k a'):s∉dstsOf ops/\∃i B t x,ops[i]?=some B/\B.op=.store t (.tmp s) x/\qu ops i k=false:=by grind[ow]
def DW{F F':Zo}{k i:Nat}{ok:Oper}{op:Op}{v:V}(a:ops[k]?=some ok)(B:jB n F ok.dst v=some F')(D:mY F' F op):mS ops i F' op=mS ops i F op:=by
 have b:∀s,s∉dstsOf ops->get F' s=get F s:=λs h=>Ew B λd u e=>h (e▸Fa a u);unfold mS;split;rename_i t w;have z:=by have:=D (.tmp w) (by simp[operands]);simpa[ev]using this
 rw[z,Bool.eq_iff_iff];grind[BF];rfl
def BP{k a':Nat}{ok:Oper}{t:Zm}(a:ops[k]?=some ok)(e:ok.op=.load t (.tmp a'))(h:dJ ops k=true):ow ops k a'=[]:=by refine List.eq_nil_iff_forall_not_mem.2 λs w=>?_;have⟨_,i,B,C,x,b,z,D⟩:=BF w;have u:i≠k:=λe2=>Zd;rcases G6 h a b u with g|g|g;rw[z]at g;cases g;all_goals grind[qu,isApp]
def vJ{F:Zo}{H H':bC}{t:Zm}{a:Nat}{x:Zr}{id el off:Nat}{u:V}(B:get F a=.hptr id el off)(h:cH E F H (.store t (.tmp a) x)=some (u,H')):∃r,H'=H.set id r:=by grind[cH,ev]
theorem Jb{F:Zo}{H:bC}{t:Zm}{a id b:Nat}{r:Ob}(B:mJ id (get F a)=true):dP E F ((H.set id r).take b) (.load t (.tmp a))=dP E F (H.take b) (.load t (.tmp a)):=by
 have:∀m,dX ((H.set id r).take b) (get F a) m=dX (H.take b) (get F a) m:=λm=>by unfold mJ at B;grind[dX]
 grind[dP,ev]
def C1{i:Nat}{B:Oper}(U:ops[i]?=some B)(W:cO B.op=.loud)(Y:dJ ops i=false)(J:isApp B.op=false){F:Zo}{O G:bC}{u:V}(D:cW E call ops (some (base,i)) F O B.op=some (u,G)):
 ∃g a l id el off t x,qH g ops i=some (a,l)/\B.op=.store t (.tmp a) x/\get F a=.hptr id el off/\(∀s∈l,mJ id (get F s)=true)/\(g=true->id<base)/\cH E F O B.op=some (u,G)/\∀H,cW E call ops (some (base,i)) F H B.op=cH E F H B.op:=by
 have key:(oU ops i F||qx ops base i F)=true/\cH E F O B.op=some (u,G)/\∀H,cW E call ops (some (base,i)) F H B.op=cH E F H B.op:=by have J:∀F b H,yC ops i b F H B.op=false:=λF b H=>(by grind[yC]);(have e:∀H,cW E call ops (some (base,i)) F H B.op=if oU ops i F||qx ops base i F then cH E F H B.op else none:=λH=>by unfold cW;rw[W];simp only[Y,Bool.false_or,J,Bool.or_false]);rw[e]at D;split at D;(next d=>exact⟨d,D,λH=>by rw[e,if_pos d]⟩);cases D
 have⟨f,C,I⟩:=key;rcases Bool.or_eq_true_iff.1 f with c|c
 .unfold oU at c;split at c
  .rename_i a l w;split at c
   next id el off hg=>obtain⟨⟨t,x,z⟩,-⟩:=oS U w;exact⟨false,a,l,id,el,off,t,x,w,z,hg,λs D=>all_eq_true.1 c s D,λh=>(by cases h),C,I⟩
   cases c
  cases c
 unfold qx at c;split at c
 .rename_i a l w;split at c
  next id el off hg=>obtain⟨⟨t,x,z⟩,-⟩:=oS U w;simp only[ζh,decide_eq_true_eq]at c;exact⟨true,a,l,id,el,off,t,x,w,z,hg,λs D=>all_eq_true.1 c.2 s D,λ_=>c.1,C,I⟩
  cases c
 cases c
def FV{g:Zl}{k i a a' id el off:Nat}{l:Zv}{ok O:Oper}{t W:Zm}{x:Zr}(d:ops[k]?=some ok)(U:ops[i]?=some O)(e:(if k<i then before ops i k else before ops k i)=false)(lk:dJ ops k=false)
 (G:qH g ops i=some (a,l))(J:O.op=.store t (.tmp a) x){F:Zo}(f:get F a=.hptr id el off)(Y:∀s∈l,mJ id (get F s)=true)(D:ok.op=.load W (.tmp a'))(b:a'∈l\/a'∈dstsOf ops)
 {H0 H1:bC}{v:V}(B:cW E call ops (some (base,k)) F H0 ok.op=some (v,H1)):
 H1=H0/\(∀(H:bC)(r:Ob),dP E F ((H.set id r).take base) ok.op=dP E F (H.take base) ok.op)/\cO ok.op=.read/\dP E F (H0.take base) ok.op=some v/\mS ops k F ok.op=true:=by
 obtain⟨-,z,-,-⟩:=oS U G;unfold cW at B;rw[D]at B;simp only[cO]at B;split at B
 rotate_left
 .simp at B
 rename_i u;have C:mJ id (get F a')=true:=by rcases b with b|b;exact Y a' b;have w:qu ops i k=false:=(by grind[qu]);have I:=Ld U J b z w;grind[mS]
 split at B
 next L c=>simp only[ζa,ζc]at B;obtain⟨rfl,rfl⟩:=B;exact⟨rfl,λH r=>by rw[D];grind[Jb],by rw[D];rfl,by rw[D];exact c,by rw[D];exact u⟩
 grind
def Db{F:Zo}{H:bC}{t:Zm}{a:Nat}{x:Zr}{id el off j:Nat}{ob:Ob}(D:get F a=.hptr id el off)(B:id≠j):cH E F (H.set j ob) (.store t (.tmp a) x)=(cH E F H (.store t (.tmp a) x)).map λp=>(p.1,p.2.set j ob):=by
 have b:(H.set j ob)[id]?=H[id]?:=getElem?_set_ne (Ne.symm B);have c:∀r,(H.set j ob).set id r=(H.set id r).set j ob:=λr=>set_comm _ _ (Ne.symm B);simp only[cH,ev,D];split
 .rename_i h1 u w;cases u;rw[b];(repeat' split)<;>first|rfl|simp only[c,map_some]
 rfl
def Ag{i:Nat}{F:Zo}{H H':bC}{op:Op}{v:V}(B:cO op=.alloc)(D:mF E ops (some (base,i))=false)(h:cW E call ops (some (base,i)) F H op=some (v,H')):
 ∃ob,H[base+i]?=some .free/\H'=H.set (base+i) ob/\∀H2:bC,H2[base+i]?=some .free->cW E call ops (some (base,i)) F H2 op=some (v,H2.set (base+i) ob):=by
 unfold cW at h;rw[B]at h;simp only[D,false_eq_true,if_false]at h;split at h
 .grind
 .rename_i ob m G I w z;obtain⟨rfl,rfl⟩:=z;split at h
  .rename_i u;obtain⟨rfl,rfl⟩:=h;refine⟨ob,u,rfl,λH2 C=>?_⟩
   unfold cW;rw[B];simp only[D,false_eq_true,if_false,w,C]
  cases h
 cases h
def sw(n:Nat)(H:bC):∀{l:Zu},V.gP l=true->borrows n H l=some l
 |[],_=>rfl|x::r,h=>by simp only[V.gP,ζh]at h;have:=sw n H h.2;unfold borrows at this⊢;simp only[gO,iP n H h.1,this]
def BM{k i:Nat}{a:Nat}{l:Zv}{F:Zo}{H H':bC}{op:Op}{v:V}(B:cO op=.call)(lk:dJ ops k=false)(D:qH true ops i=some (a,l))(G:i<ops.length)(O:qu ops i k=false)(h:cW E call ops (some (base,k)) F H op=some (v,H')):
 H'=H/\∀H2:bC,cW E call ops (some (base,k)) F H2 op=some (v,H2):=by
 have z:Gc ops k=true:=by unfold Gc;rw[List.any_eq_true];exact⟨i,List.mem_range.2 G,by simp[O,D]⟩
 unfold cW at h;rw[B]at h;simp only at h;split at h
 .rename_i f args C;split at h
  .rename_i u;have b:V.gP args=true:=by
    unfold uH at u;simpa[z]using u
   have w:∀H2,bY call f args H2=bY call f args []:=λH2=>by unfold bY;rw[sw _ _ b,sw _ _ b]
   have I:∀n H2,c7 (cm n H2) args=[]:=λn H2=>D6 n H2 b
   have e:∀H2,cW E call ops (some (base,k)) F H2 op=dU E call ops (some (base,k)) f args H2:=λH2=>by unfold cW;rw[B];simp only[C,if_pos u]
   have J:∀H2:bC,cV H2 []=H2:=λ_=>rfl
   have L:jZ E ops (some (base,k)) f=false:=by cases c:jZ E ops (some (base,k)) f with|false=>rfl|true=>unfold dU at h;rw[if_pos c]at h;simp only[lk,false_eq_true,if_false]at h;cases h
   have e2:∀H2,dU E call ops (some (base,k)) f args H2=(bY call f args []).map λy=>(y,H2):=λH2=>by unfold dU;simp only[L,false_eq_true,if_false,w,I,J,lk];cases bY call f args []with|none=>rfl|some y=>simp[iw]
   rw[e2]at h;have⟨y,Q,e3⟩:=ζf.1 h;cases e3;exact⟨rfl,λH2=>by rw[e,e2,Q];rfl⟩
  cases h
 .simp only[lk,false_eq_true,if_false]at h;cases h
 cases h
def Bp{place:Nat×Nat}{F:Zo}{H H':bC}{op:Op}{v:V}(B:cO op=.pure\/cO op=.alloc/\mF E ops (some place)=true)(h:cW E call ops (some place) F H op=some (v,H')):
 H'=H/\∀H2:bC,cW E call ops (some place) F H2 op=some (v,H2):=by
 rcases B with B|⟨B,u⟩
 rotate_left
 .unfold cW at h;rw[B]at h;simp only[u]at h;have⟨x,w,e⟩:=ζf.1 h;simp_all[cW]
 unfold cW at h;rw[B]at h;simp at h;obtain⟨x,w,rfl,rfl⟩:=h;simp_all[BI,cW]
def take_set_of_le{H:bC}{b k:Nat}{x:Ob}(h:b<=k):(H.set k x).take b=H.take b:=List.take_set_of_le h
def apart_spec{a b:Oper}(h:vQ ops a b=true):(∀d,a.dst=some d->d∉tmpsOf b ops/\b.dst≠some d)/\(∀d,b.dst=some d->d∉tmpsOf a ops):=by grind[vQ]
def Ba{i k:Nat}{ok:Oper}(h:u_ ops i=true)(a:ops[k]?=some ok)(B:k≠i)(D:qu ops i k=false):cO ok.op=.pure\/cO ok.op=.read\/cO ok.op=.alloc/\(zB ops k=true\/i<k):=by grind[u_]
def zb{op:Op}(h:isApp op=true):cO op=.loud:=by unfold isApp at h;split at h;rfl;cases h
theorem FO{F:Zo}{H H1:bC}{op:Op}{v:V}{b:Nat}(B:isApp op=true)(D:oQ F op=true)(G:b<=H.length)(h:cH E F H op=some (v,H1)):H1.take b=H.take b:=by
 unfold isApp at B;split at B;rotate_left;cases B;rename_i args u;simp only[cH]at h;split at h;rotate_left;cases h;rename_i t I s x w z;have C:s=.dF\/s=.bL:=by grind[oQ,fu]
 have a:∀H2,gE H s=some H2->H2=H:=λH2 h=>by rcases C with rfl|rfl<;>(grind[gE])
 split at h;grind[ζf];split at h;unfold mkApp at h;grind;cases h;cases h
def CD{i:Nat}{F:Zo}{H H':bC}{op:Op}{u:V}(D:isApp op=true)(G:dJ ops i=false)(J:(ops[i]?).map Oper.op=some op)(h:cW E call ops (some (base,i)) F H op=some (u,H')):
 u_ ops i=true/\oQ F op=true/\base<=H.length/\cH E F H op=some (u,H'):=by
 unfold cW at h;rw[zb D]at h;have w:∀g,qH g ops i=none:=λg=>by unfold qH;rw[J];grind[isApp]
 have z:oU ops i F=false:=by unfold oU;rw[w]
 have B:qx ops base i F=false:=by unfold qx;rw[w]
 simp only[G,z,B,Bool.false_or]at h
 grind[yC]
theorem L0{i:Nat}{F:Zo}{H H':bC}{op:Op}{u:V}(B:isApp op=true)(h:cH E F H op=some (u,H'))(a:dJ ops i=true\/u_ ops i=true/\oQ F op=true/\base<=H.length):cW E call ops (some (base,i)) F H op=some (u,H'):=by unfold cW;rw[zb B];grind[yC]
def Bh{i:Nat}{F:Zo}{H H':bC}{op:Op}{v:V}(B:cO op=.read)(D:dJ ops i=false)(h:cW E call ops (some (base,i)) F H op=some (v,H')):
 H'=H/\∀H2:bC,lV (H2.take base) (H.take base)->cW E call ops (some (base,i)) F H2 op=some (v,H2):=by
 unfold cW at h;rw[B]at h;simp only at h;split at h
 .rename_i u;split at h
  .rename_i x w;simp only[ζa,ζc]at h;obtain⟨rfl,rfl⟩:=h;refine⟨rfl,λH2 z=>?_⟩
   unfold cW;rw[B];simp only[xF z,w,u,if_true]
  grind
 simp at h
def swap{k i:Nat}{ok G:Oper}(p:ops[k]?=some ok)(U:ops[i]?=some G)(af:k<i)(W:before ops i k=false)(J:vQ ops ok G=true){F F1 F2:Zo}{H H1 H2:bC}
 (P:fW E call n ops (some (base,k)) ok F H=some (F1,H1))(y:fW E call n ops (some (base,i)) G F1 H1=some (F2,H2)):
 ∃B D,fW E call n ops (some (base,i)) G F H=some (B,D)/\fW E call n ops (some (base,k)) ok B D=some (F2,H2):=by
 obtain⟨a1,a2⟩:=apart_spec J;have ah:∃v,jB n F ok.dst v=some F1/\((fD ops F ok=true/\cW E call ops (some (base,k)) F H ok.op=some (v,H1))\/(fD ops F ok=false/\v=.undef/\H1=H)):=by unfold fW at P;split at P;rename_i hw;split at P;rename_i v H' K;simp only[ζf,ζc]at P;grind;simp at P;rename_i hw;simp only[ζf,ζc]at P;grind
 have ai:∃v,jB n F1 G.dst v=some F2/\((fD ops F1 G=true/\cW E call ops (some (base,i)) F1 H1 G.op=some (v,H2))\/(fD ops F1 G=false/\v=.undef/\H2=H1)):=by unfold fW at y;split at y;rename_i hw;split at y;rename_i v H' K;simp only[ζf,ζc]at y;grind;simp at y;rename_i hw;simp only[ζf,ζc]at y;grind
 obtain⟨v,Q,iW⟩:=ah;obtain⟨u,ay,ao⟩:=ai;have aA:fD ops F1 G=fD ops F G:=zZ Q λd K=>(a1 d K).1
 have ap:mY F1 F G.op:=C0 Q λd K=>(a1 d K).1
 have aB:∀(b j:Nat),(some (base,i):bt (Nat×Nat))=some (b,j)->oU ops j F1=oU ops j F/\qx ops b j F1=qx ops b j F/\mS ops j F1 G.op=mS ops j F G.op:=λb j e=>by cases e;exact⟨(wN p U Q).1,(wN p U Q).2 _,DW p Q ap⟩
 rw[aA,Bl ap aB]at ao;obtain⟨B,S,aC⟩:=KN Q ay λx hx=>(a1 x hx).2
 have aD:fD ops B ok=fD ops F ok:=zZ S λd K=>a2 d K
 have aq:mY B F ok.op:=C0 S λd K=>a2 d K
 have aE:∀(b j:Nat),(some (base,k):bt (Nat×Nat))=some (b,j)->oU ops j B=oU ops j F/\qx ops b j B=qx ops b j F/\mS ops j B ok.op=mS ops j F ok.op:=λb j e=>by cases e;exact⟨(wN U p S).1,(wN U p S).2 _,DW U S aq⟩
 have fin:∀D,((fD ops F G=true/\cW E call ops (some (base,i)) F H G.op=some (u,D))\/(fD ops F G=false/\u=.undef/\D=H))->
  ((fD ops F ok=true/\cW E call ops (some (base,k)) F D ok.op=some (v,H2))\/(fD ops F ok=false/\v=.undef/\H2=D))->
  ∃B D,fW E call n ops (some (base,i)) G F H=some (B,D)/\fW E call n ops (some (base,k)) ok B D=some (F2,H2):=by
  intro D e1 e2;refine⟨B,D,?_,?_⟩
  .grind[fW]
  unfold fW;rw[aD];rcases e2 with⟨x1,x2⟩|⟨x1,x2,x3⟩
  .rw[if_pos x1,Bl aq aE,x2];simp[aC]
  grind
 rcases iW with⟨I,s⟩|⟨I,rfl,rfl⟩
 .rcases ao with⟨L,f⟩|⟨L,rfl,rfl⟩
  .by_cases pk:cO ok.op=.pure\/cO ok.op=.alloc/\mF E ops (some (base,k))=true
   .obtain⟨rfl,q⟩:=Bp pk s
    grind
   by_cases pi:cO G.op=.pure\/cO G.op=.alloc/\mF E ops (some (base,i))=true
   .obtain⟨rfl,q⟩:=Bp pi f
    grind
   by_cases J:isApp ok.op=true/\cO G.op=.alloc
   .
    obtain⟨J,aF⟩:=J;have aI:=zb J;have ar:(dJ ops k=true\/u_ ops k=true/\oQ F ok.op=true/\base<=H.length)/\cH E F H ok.op=some (v,H1):=by cases hl:dJ ops k with|true=>simp_all[cW]|false=>obtain⟨a,b,c,d⟩:=CD J hl (by rw[p];rfl) s;grind
    obtain⟨ar,e1⟩:=ar;have ad:mF E ops (some (base,i))=false:=by grind
    have e2:∃ob m,eO E F G.op=some (ob,m)/\H1[base+i]?=some .free/\u=m.val (base+i)/\H2=H1.set (base+i) ob:=by unfold cW at f;rw[aF]at f;grind
    obtain⟨ob,m,aJ,aj,rfl,rfl⟩:=e2;obtain⟨f0,R⟩:=Pn (ob:=ob) J e1 aj;refine fin (H.set (base+i) ob) (.inl ⟨L,?_⟩) (.inl ⟨I,?_⟩)
    .grind[cW]
    grind[L0]
   have lk:dJ ops k=false:=by grind[dJ]
   have M:dJ ops i=false:=by grind[dJ]
   by_cases au:isApp G.op=true
   .obtain⟨g1,g2,g3,g4⟩:=CD au M (by rw[U];rfl) f
    rcases Ba g1 p Za (by grind[qu])with h|h|⟨h,y⟩
    .grind
    .obtain⟨rfl,q⟩:=Bh h lk s
     grind[lV.of_eq,FO]
    rcases y with y|y
    .exact absurd (.inr ⟨h,show(zB ops k||Oz E ops k)=true by rw[y];rfl⟩) pk
    omega
   by_cases av:isApp ok.op=true
   .obtain⟨g1,g2,g3,g4⟩:=CD av lk (by rw[p];rfl) s
    rcases Ba g1 U Za (by grind[qu])with h|h|⟨h,y⟩
    .grind
    .obtain⟨rfl,q⟩:=Bh h M f
     grind[lV.of_eq,FO]
    grind
   by_cases O:cO G.op=.loud
   .obtain⟨g,a,l,id,el,off,t,x,C,w,hg,Y,ak,he,al⟩:=C1 U O M (by simpa using au) f
    obtain⟨r,hr⟩:=vJ hg (by rw[<-w];exact he)
    obtain⟨-,-,-,h4⟩:=oS U C;rcases h4 k ok p Za with h|h|⟨t',a',am,Z⟩|⟨rfl,h|h⟩
    .exact absurd (.inl h) pk
    .rw[if_pos af,W]at h;cases h
    .obtain⟨rfl,q1,q3,q4,q5⟩:=FV p U (by rw[if_pos af];exact W) lk C w hg Y am Z s
     refine fin H2 (.inl ⟨L,f⟩) (.inl ⟨I,?_⟩);unfold cW;rw[q3];subst hr;simp only[q1,q4,q5,if_true]
    .have ad:mF E ops (some (base,k))=false:=by
      cases hc:mF E ops (some (base,k))with
      |false=>rfl|true=>exact absurd (.inr ⟨h,hc⟩) pk
     obtain⟨ob,R,rfl,A⟩:=Ag h ad s;have aG:=ak rfl;rw[w,Db hg (show id≠base+k by omega)]at he
     obtain⟨⟨u',H'⟩,e1,e2⟩:=ζf.1 he;cases e2;obtain⟨r',rfl⟩:=vJ hg e1;exact fin (H.set id r') (.inl ⟨L,by rw[al,w];exact e1⟩) (.inl ⟨I,A _ (by rw[getElem?_set_ne Za];exact R)⟩)
    obtain⟨rfl,A⟩:=BM h lk C (ζe.1 U).1 (by unfold qu;rw[if_pos af];exact W) s
    exact fin H2 (.inl ⟨L,f⟩) (.inl ⟨I,A H2⟩)
   by_cases ae:cO ok.op=.loud
   .obtain⟨g,a,l,id,el,off,t,x,C,w,hg,Y,ak,he,al⟩:=C1 p ae lk (by simpa using av) s
    obtain⟨r,hr⟩:=vJ hg (by rw[<-w];exact he)
    obtain⟨-,-,-,h4⟩:=oS p C;rcases h4 i G U Za with h|h|⟨t',a',am,Z⟩|⟨rfl,h|h⟩
    .exact absurd (.inl h) pi
    .rw[if_neg Za,W]at h;cases h
    .obtain⟨rfl,q1,q3,q4,q5⟩:=FV U p (by rw[if_neg Za];exact W) M C w hg Y am Z f
     refine fin H (.inl ⟨L,?_⟩) (.inl ⟨I,s⟩);unfold cW;rw[q3];subst hr;rw[q1]at q4;simp only[q4,q5,if_true]
    .have ad:mF E ops (some (base,i))=false:=by
      cases hc:mF E ops (some (base,i))with
      |false=>rfl|true=>exact absurd (.inr ⟨h,hc⟩) pi
     obtain⟨ob,R,rfl,z⟩:=Ag h ad f;have aG:=ak rfl;subst hr;rw[getElem?_set_ne Za]at R
     refine fin (H.set (base+i) ob) (.inl ⟨L,z H R⟩) (.inl ⟨I,?_⟩);rw[al,w,Db hg (show id≠base+i by omega),<-w,he];rfl
    obtain⟨rfl,z⟩:=BM h M C (ζe.1 p).1 (by unfold qu;rw[if_neg Za];exact W) f
    exact fin H (.inl ⟨L,z H⟩) (.inl ⟨I,s⟩)
   have tk:∀(X:bC)(k:Nat)(o:Ob),lV ((X.set (base+k) o).take base) (X.take base):=λX k o=>lV.of_eq (take_set_of_le Za)
   rcases sV s lk ae with⟨rfl,A⟩|⟨ob,fk,rfl,A⟩|⟨T,tr,rfl,A⟩
   .rcases sV f M O with⟨rfl,z⟩|⟨an,fi,rfl,z⟩|⟨N,V,rfl,z⟩
    .grind
    .grind
    exact fin _ (.inl ⟨L,f⟩) (.inl ⟨I,A _ ((qd V).take base)⟩)
   .rcases sV f M O with⟨rfl,z⟩|⟨an,fi,rfl,z⟩|⟨N,V,rfl,z⟩
    .refine fin H (.inl ⟨L,z H (tk _ _ _).symm⟩) (.inl ⟨I,s⟩)
    .grind[set_comm]
    have ab:iw (H.take base) N=true:=by rw[<-tO (tk H k ob)];exact V
    have aw:base+k∉N:=λhm=>absurd (yZ ab hm) Za
    refine fin (cV H N) (.inl ⟨L,z H (tk _ _ _).symm⟩) (.inl ⟨I,?_⟩);rw[A _ (by rw[g_,fk];simp[aw]),BW aw]
   rcases sV f M O with⟨rfl,z⟩|⟨an,fi,rfl,z⟩|⟨N,V,rfl,z⟩
   .refine fin H (.inl ⟨L,z H ((qd tr).take base).symm⟩) (.inl ⟨I,s⟩)
   .have ax:base+i∉T:=λhm=>absurd (yZ tr hm) Za
    have aH:H[base+i]?=some .free:=by rw[g_]at fi;obtain⟨o,ho,hf⟩:=ζf.1 fi;rw[if_neg ax]at hf;rw[ho,hf]
    refine fin (H.set (base+i) an) (.inl ⟨L,z H aH⟩) (.inl ⟨I,?_⟩);rw[A _ (tk _ _ _),BW ax]
   have ab:iw (H.take base) N=true:=by rw[<-tO ((qd tr).take base)];exact V
   refine fin (cV H N) (.inl ⟨L,z H ((qd tr).take base).symm⟩) (.inl ⟨I,?_⟩);rw[A _ ((qd ab).take base),GX]
  grind
 grind
theorem Hl(h:uA ops=true){k i:Nat}{ok B:Oper}(a:ops[k]?=some ok)(G:ops[i]?=some B)(D:k<i):CQ B k=true\/vQ ops ok B=true:=by unfold uA at h;simp at h;grind
def MO(U:uA ops=true){i:Nat}{B:Oper}(D:ops[i]?=some B):∀(l r:Zv),(∀k∈l,k<i/\CQ B k=false/\before ops i k=false)->∀{F F':Zo}{H H':bC},
 jq E call n ops base (l++i::r) F H=some (F',H')->jq E call n ops base (i::(l++r)) F H=some (F',H'):=by
 intro l
 induction l with
 |nil=>grind|cons k l G=>
  intro r C F F' H H' h;have⟨u,I,w⟩:=C k Zc
  simp[jq]at h;split at h
  .rename_i ok hk;split at h
   .rename_i F1 H1 h1;have:=G r (λx J=>C x (mem_cons_of_mem _ J)) h
    simp[jq,D]at this;split at this
    .rename_i S H2 L;have z:vQ ops ok B=true:=by
      grind[Hl]
     have⟨O,Q,g1,g2⟩:=swap hk D u w z h1 L
     grind[jq]
    grind
   grind
  grind
inductive Reach(ops:List Oper):Nat->Nat->Prop
 |one(i k:Nat)(o:Oper)(e:Edge)(hi:ops[i]?=some o)(he:e∈o.after)(hb:kn e=true)(hk:e.on=k):Reach ops i k|more(i j k:Nat)(o:Oper)(e:Edge)(hi:ops[i]?=some o)(he:e∈o.after)(hb:kn e=true)(hk:e.on=j)(h:Reach ops j k):Reach ops i k
def B6:∀(B l:Zv)(k:Nat),k∈B.foldl (λl k=>if l.contains k then l else k::l) l->k∈B\/k∈l
 |[],_,_,h=>.inr h|x::B,l,k,h=>by rcases B6 B _ k h with h|h;all_goals grind
def It{a:a_ Zv}{o:Oper}{k:Nat}(h:k∈Gy a o):∃e∈o.after,kn e=true/\(k=e.on\/∃S,a[e.on]?=some S/\k∈S):=by
 have key:∀(es:a_ Edge)(l:Zv),k∈es.foldl (λl e=>(e.on::(a[e.on]?).getD []).foldl (λl k=>if l.contains k then l else k::l) l) l->k∈l\/∃e∈es,k=e.on\/∃S,a[e.on]?=some S/\k∈S:=by
  intro es;induction es with|nil=>grind|cons e es u=>
   intro l h;rcases u _ h with h|⟨z,b,w⟩
   .rcases B6 _ _ _ h with h|h;all_goals grind
   grind
 rcases key _ _ h with h|⟨e,b,w⟩;all_goals grind
def v7(ops:Zz):∀(l:Zz)(a:a_ Zv)(pre:Zz),ops=pre++l->a.length=pre.length->(∀(i:Nat)S,a[i]?=some S->∀k∈S,Reach ops i k)->
 ∀(i:Nat)S,(l.foldl (λa o=>a++[Gy a o]) a)[i]?=some S->∀k∈S,Reach ops i k
 |[],_,_,_,_,h=>h|o::l,a,pre,G,J,h=>by refine v7 ops l _ (pre++[o]) Ze Ze ?_;intro i S B k b;by_cases O:i<a.length;grind;rw[List.getElem?_append_right Za]at B;have D:i=a.length:=(by grind);subst D;simp at B;subst B;have u:ops[a.length]?=some o:=Zd;have⟨e,w,z,b⟩:=It b;rcases b with b|⟨S,B,b⟩;exact .one _ _ o e u w z b.symm;exact .more _ e.on _ o e u w z rfl (h _ S B k b)
def F9{i k:Nat}(h:before ops i k=true):Reach ops i k:=by unfold before at h;cases u:(Ff ops)[i]?with|none=>grind|some S=>exact v7 ops ops [] [] rfl rfl Zc i S u k Zd
end
section
variable{P:Program}{E:Env}{I I':cu}{μ μ':Mu}{H H':bC}{n B:Nat}{F F':Zo}{a:Act}{w w':World}
def Dj(e:Edge):Region.binds .any e=kn e:=by unfold Region.binds kn;grind
def todo(ops:Array Oper)(a:Array Zl):Zv:=(range ops.size).filter λi=> !a.getD i true
def vu(ops:Array Oper)(a:Array Zl):(todo ops a).Pairwise (·<·):=List.pairwise_lt_range.filter _
def MM{ops:Array Oper}{a:Array Zl}{i:Nat}(G:a.size=ops.size)(J:i<ops.size){B D:Zv}(h:todo ops a=B++i::D):
 todo ops (a.setIfInBounds i true)=B++D:=by
 have I:∀j∈range ops.size,(!(a.setIfInBounds i true).getD j true)=((!a.getD j true)&&(j != i)):=by intro j _;by_cases e:j=i;simp_all;have:(a.setIfInBounds i true).getD j true=a.getD j true:=(by simp[Array.getElem?_setIfInBounds_ne (Ne.symm e)]);grind
 have:todo ops (a.setIfInBounds i true)=(todo ops a).filter (· != i):=by unfold todo;rw[List.filter_filter];grind
 rw[this,h];have u:=vu ops a;rw[h]at u;rw[List.pairwise_append]at u;have⟨_,z,C⟩:=u;rw[List.pairwise_cons]at z;rw[List.filter_append,List.filter_cons];simp;rw[List.filter_eq_self.2 (λx w=>by have:=C x w i Zc;simp;omega),List.filter_eq_self.2 (λx w=>Zd)]
def Down(ops:Array Oper)(a:Array Zl):Prop:=∀j o,a.getD j false=true->ops[j]?=some o->∀e∈o.after,kn e=true->a.getD e.on false=true
def IZ{ops:Array Oper}{a:Array Zl}(B:Down ops a){i k:Nat}(h:Reach ops.toList i k)(D:∀o,ops[i]?=some o->∀e∈o.after,kn e=true->a.getD e.on false=true):a.getD k false=true:=by induction h with|one i k o e C w z hk=>grind|more i j k o e C w z hk _ G=>subst hk;exact G λI u=>B _ _ (D o Zd e w z) u
def DY(hE:eG P E){call:dw}(hc:j9 P call){ops:Array Oper}(hd:uA ops.toList=true)(q:xJ ops.toList=true)(ro:bt Nat){Q:Exit->Act->World->Prop}(base:Nat):
 ∀(D:Nat)(b:Array Zl)(I:cu)(μ:Mu)(F:Zo)(H:bC)(a:Act)(w:World),b.size=ops.size->Down ops b->(todo ops b).length=D->
 jq E call n ops.toList base (todo ops b) F H=some (F',H')->eC I μ n F a.tmps->c9 I μ H w->
 (∀a' I' μ' w',eC I' μ' n F' a'.tmps->a'.defers=a.defers->c9 I' μ' H' w'->Step I μ H w I' μ' H' w'->Q .normal a' w')->
 wpAnyIn (fr ro) 0 P .any ops Q D b a w:=by
 intro D
 induction D with
 |zero=>
  intro b I μ F H a w O L c h r s t;have S:todo ops b=[]:=List.eq_nil_of_length_eq_zero c;rw[S]at h;obtain⟨rfl,rfl⟩:=h;refine⟨?_,t a I μ w r rfl s (.refl _ _ _ _)⟩;unfold Region.ready;rw[List.filter_eq_nil_iff];intro i d;have:i∉todo ops b:=Zd
  unfold todo at this
  grind
 |succ D ih=>
  intro b I μ F H a w O L c h r s t;have W:∀i,i∈Region.ready .any ops b->i<ops.size/\i∈todo ops b/\∃o,ops[i]?=some o/\∀e∈o.after,kn e=true->b.getD e.on false=true:=by intro i d;unfold Region.ready at d;rw[mem_filter]at d;have⟨v,h2⟩:=d;simp only[ζh]at h2;have G:i<ops.size:=Zd;refine⟨G,by unfold todo;grind,ops[i],Ze,?_⟩;have M:(ops[i].after.all λe=> !Region.binds .any e||b.getD e.on false)=true:=(by grind);rw[Array.all_eq_true_iff_forall_mem]at M;intro e U X;have:=M e U;rw[Dj,X]at this;grind
  refine⟨?_,?_⟩
  .
   intro S
   cases Y:todo ops b with
   |nil=>rw[Y]at c;simp at c|cons Z rest=>
    have z:Z∈todo ops b:=by rw[Y];simp
    have g:=vu ops b;rw[Y,List.pairwise_cons]at g;unfold todo at z;rw[mem_filter]at z;have G:Z<ops.size:=by simpa using z.1
    have:Z∈Region.ready .any ops b:=by unfold Region.ready;rw[mem_filter];refine⟨z.1,?_⟩;simp only[ζh];refine⟨z.2,?_⟩;have e0:ops[Z]?=some ops[Z]:=(by simp[G]);rw[e0];simp only[map_some,getD_some];rw[Array.all_eq_true_iff_forall_mem];intro e U;rw[Dj];cases am:kn e with|false=>simp|true=>simp only[Bool.not_true];have an:e.on<Z:=(by unfold xJ at q;simp only[all_eq_true]at q;have:=q Z (by simpa using G);have e1:ops.toList[Z]?=some ops[Z]:=(by simp[G]);rw[e1]at this;simp only[Array.all_eq_true_iff_forall_mem]at this;have:=this e U;rw[am]at this;simpa using this);cases ao:b.getD e.on false with|true=>rfl|false=>exfalso;have N:e.on∈todo ops b:=(by unfold todo;rw[mem_filter];refine⟨by simp;omega,?_⟩;have aj:e.on<b.size:=Za;have:b.getD e.on true=b.getD e.on false:=(by simp[aj]);rw[this,ao];rfl);rw[Y]at N;rcases mem_cons.1 N with h|h;omega;have:=g.1 _ h;omega
    rw[S]at this;simp at this
  intro i d;have⟨G,z,o,l,C⟩:=W i d;have⟨R,l2,u⟩:=List.append_of_mem z;have J:=vu ops b;rw[u,List.pairwise_append]at J;have aa:∀k∈R,k<i/\CQ o k=false/\before ops.toList i k=false:=by intro k x;have ap:b.getD k false=false:=(by have B:k∈todo ops b:=(by rw[u];simp[x]);unfold todo at B;rw[mem_filter]at B;have y:k<b.size:=(by rw[O];simpa using B.1);have:b.getD k true=b.getD k false:=(by simp[y]);rw[this]at B;simpa using B.2);refine⟨J.2.2 k x i Zc,?_,?_⟩;rotate_left;(cases aq:before ops.toList i k with|false=>rfl|true=>have:=IZ L (F9 aq) (λo' m=>by rw[l]at m;cases m;exact C);rw[ap]at this;cases this);cases U:CQ o k with|false=>rfl|true=>exfalso;unfold CQ at U;rw[Array.any_eq_true]at U;have⟨ix,ar,p⟩:=U;have V:o.after[ix]∈o.after:=Array.getElem_mem ar;generalize o.after[ix]=e at V p;simp only[ζh,beq_iff_eq]at p;have v:=C e V p.2;rw[p.1]at v;have B:k∈todo ops b:=(by rw[u];simp[x]);unfold todo at B;rw[mem_filter]at B;have y:k<b.size:=(by rw[O];simpa using B.1);have:b.getD k true=b.getD k false:=(by simp[y]);rw[this,v]at B;simp at B
  rw[u]at h;have f:=MO hd (by simpa using l) R l2 aa h
  simp only[jq]at f;have m:ops.toList[i]?=some o:=by simpa using l
  rw[m]at f;simp only at f;split at f
  .rename_i F1 H1 af;unfold wpOpIn;rw[l];simp only;refine Bc hE hc af r s ro (λa' I' μ' w' hr au g av=>?_)
   have ht:=MM O G u;refine ih (b.setIfInBounds i true) I' μ' F1 H1 a' w' (by simpa using O) ?_ ?_ (by rw[ht];exact f) hr g ?_
   .have T:∀j,b.getD j false=true->(b.setIfInBounds i true).getD j false=true:=by
     intro j A
     by_cases e:i=j
     .subst e;simp[O,G]
     simpa[Array.getD_eq_getD_getElem?,Array.getElem?_setIfInBounds_ne e]using A
    intro j oj A K e U X
    by_cases e':i=j
    .subst e';rw[l]at K;cases K;exact T _ (C e U X)
    refine T _ (L j oj ?_ K e U X);simpa[Array.getD_eq_getD_getElem?,Array.getElem?_setIfInBounds_ne e']using A
   .rw[ht];rw[u]at c;simp at c⊢;omega
   intro a2 I2 μ2 w2 aw ax ay al;exact t a2 I2 μ2 w2 aw (ax.trans au) ay (Step.trans g av al)
  simp at f
def c9.Ec(s:c9 I μ H w)(k:Nat):c9 I μ (H++replicate k .free) w:=by
 have u:∀id ob,(H++replicate k Ob.free)[id]?=some ob->H[id]?=some ob\/(ob=.free/\H.length<=id):=by grind
 refine⟨λid h=>s.dom id Zd,s.imm,?_,?_,s.gl⟩;intro id ob h;rcases u id ob h with h|⟨rfl,z⟩;exact s.obs id ob h;exact s.dom id z;intro id B ob C p J a z D G;rcases u id ob a with a|⟨rfl,_⟩;rcases u B C z with z|⟨rfl,_⟩;exact s.inj id B ob C p J a z D G;simp[Ob.live]at G;simp[Ob.live]at D
def GK(k:Nat)(b:Nat):gQ μ (H++replicate k .free) b↔gQ μ H b:=by constructor;rintro⟨id,p,ob,h1,u,w,z⟩;by_cases B:id<H.length;rw[getElem?_append_left B]at h1;exact⟨id,p,ob,h1,u,w,z⟩;rw[List.getElem?_append_right Za,List.getElem?_replicate]at h1;split at h1;simp at h1;subst h1;simp[Ob.live]at u;grind;rintro⟨id,p,ob,h1,u,w,z⟩;exact⟨id,p,ob,Zd,u,w,z⟩
def Step.Ec(k:Nat):Step I μ H w I μ (H++replicate k .free) w:=⟨cu.le_refl _,Mu.le_refl _,Zc,le_refl _,λ_ _ _=>rfl,λb h=>h.elim .inl λh=>.inr (.inl ((GK k b).1 h)),rfl,.refl _,λ_ _ h=>h⟩
def EK(G:eG P E)(U:P.follows .mixedOrders=true){call:dw}(b:j9 P call){id:Nat}{ops:Array Oper}{B:Zl}(ro:bt Nat){Q:Exit->Act->World->Prop}
 (h:jf E call n ops.toList B F H=some (F',H'))(r:eC I μ n F a.tmps)(s:c9 I μ H w)
 (J:∀a' I' μ' w',eC I' μ' n F' a'.tmps->a'.defers=a.defers->c9 I' μ' H' w'->Step I μ H w I' μ' H' w'->Q .normal a' w'):
 (Code.region id ops B).wpIn (fr ro) 0 P Q a w:=by
 unfold jf at h
 cases B with
 |false=>refine wpIn_region ?_;rw[List.range_eq_range',<-length_toList];exact Lo G b ro ops.toList 0 I μ F H a w Zc h r s J|true=>
  simp only[if_true]at h;split at h
  .rename_i u;simp at u;refine wpIn_region_draw λt=>?_
   simp[Region.schedule,U];have D:c9 I μ H {w with drawn:=w.drawn+1}:=s.nX rfl;have st0:Step I μ H w I μ H {w with drawn:=w.drawn+1}:=Step.nX rfl rfl ⟨rfl,rfl,le_succ _⟩;have z:todo ops (Array.replicate ops.size false)=range ops.toList.length:=by unfold todo;simp_all
   have C:Down ops (Array.replicate ops.size false):=by intro j o T;simp[Array.getElem?_replicate]at T;grind
   refine wpAnyIn_sound ops.size t _ a _ ?_;split at h
   .refine DY G b u.1 u.2 ro H.length ops.size _ I μ F (H++replicate ops.toList.length .free) a _ Zc C Zd (by rw[z];omega) r (D.Ec _) ?_
    intro a' I' μ' w' c L O S;exact J a' I' μ' w' c L O (Step.trans D st0 (Step.trans (D.Ec _) (Step.Ec _) S))
   refine DY G b u.1 u.2 ro H.length ops.size _ I μ F H a _ Zc C Zd (by rw[z];omega) r D ?_
   intro a' I' μ' w' c L O S;exact J a' I' μ' w' c L O (Step.trans D st0 S)
  grind
end
def Out.E4:Out->Exit
 |.norm=>.normal|.exit id=>.exit id|.ret=>.ret
def exists_least(p:Nat->Prop):∀k,p k->∃m,p m/\∀j,p j->m<=j:=by intro k;induction k using Nat.strongRecOn with|_ k z=>intro a;by_cases h:∃j,j<k/\p j;have⟨j,B,u⟩:=h;exact z j B u;exact⟨k,a,λj u=>Nat.le_of_not_lt λw=>h ⟨j,w,u⟩⟩
open Classical in
noncomputable def least(p:Nat->Prop):Nat:=if h:∃m,p m/\∀j,p j->m<=j then h.choose else 0
def JP(p:Nat->Prop){k:Nat}(a:p k):p (least p)/\least p<=k:=by have h:=exists_least p k a;unfold least;rw[dif_pos h];exact⟨h.choose_spec.1,h.choose_spec.2 k a⟩
section
variable{P:Program}{E:Env}{I I':cu}{μ μ':Mu}{H H':bC}{n B:Nat}{F F':Zo}{a:Act}{w w':World}
def Post(B n:Nat)(I:cu)(μ:Mu)(H:bC)(w:World)(o:Out)(F':Zo)(H':bC):Exit->Act->World->Prop:=λe u w'=>e=o.E4/\(∃I' μ',eC I' μ' n F' u.tmps/\c9 I' μ' H' w'/\Step I μ H w I' μ' H' w')/\jE B u.defers w'
def Post.mono{I1:cu}{D:Mu}{H1:bC}{G:World}{o:Out}(J:c9 I1 D H1 G)(st:Step I μ H w I1 D H1 G){e:Exit}{a':Act}{w':World}(h:Post B n I1 D H1 G o F' H' e a' w'):
 Post B n I μ H w o F' H' e a' w':=by
 have⟨a,⟨I',μ',u,z,C⟩,L⟩:=h;exact⟨a,⟨I',μ',u,z,Step.trans J st C⟩,L⟩
def c9.zD(s:c9 I μ H w){b:Nat}(o:Obj)(B:I b=none)(D:¬gQ μ H b):c9 I μ H (fM w b o)where
 dom:=s.dom
 imm:=λz x h=>IC.qI (s.imm z x h) (gF o (by rintro rfl;rw[B]at h;cases h))
 obs:=λid ob h=>(s.obs id ob h).mono (cu.le_refl _) (Mu.le_refl _) (λp C G=>by
  have u:gQ μ H p.b:=⟨id,p,ob,h,G,C,rfl⟩;exact⟨gF o (λe=>D (e▸u)),fG s u⟩) (λJ=>by subst J;exact s.obs id _ h)
 inj:=s.inj
 gl:=s.gl
def Qk(s:c9 I μ H w){b:Nat}{o:Obj}(h:w.heap[b]?=some o)(a:∀c e f,o≠.cells c e f)(B:∀es c,o≠.map es c):I b=none:=by cases u:I b with|none=>rfl|some x=>have:=s.imm b x u;cases x with|cells c=>have⟨_,_,q⟩:=this;rw[h]at q;cases q;exact absurd rfl (a _ _ _)|map es=>have⟨_,q⟩:=this;rw[h]at q;cases q;exact absurd rfl (B _ _)
def Step.kept(c:∀b,b<w.heap.size->w'.heap[b]?=w.heap[b]?)(B:w.heap.size<=w'.heap.size)(d:w'.os=w.os)(D:tZ w w')(G:∀a:Addr,a.block<w.heap.size->w.frozen? a=false->w'.frozen? a=false):Step I μ H w I μ H w':=⟨cu.le_refl _,Mu.le_refl _,le_refl _,B,λb u _=>c b u,λ_ h=>h.elim .inl λh=>.inr (.inl h),d,D,G⟩
def Step.after(st:Step I μ H w I' μ' H' w'){b:Nat}(o:Obj)(B:w.heap.size<=b)(D:Obj.nf o:=by first|exact sD _ _|exact qF rfl):Step I μ H w I' μ' H' (fM w' b o):=⟨st.le,st.mu,st.len,by rw[vk];exact st.size,λz u C=>by rw[gF o Za];exact st.frame z u C,st.terr,st.os,⟨st.out.out,st.out.tape,st.out.dr⟩,λa B G=>Ru D a (st.fz a B G)⟩
def jE.zD{ds:a_ Deferred}(h:jE B ds w){b:Nat}{o:Obj}(D:∀r,w.heap[r]?=some (.deferred (some []))->r≠b):jE B ds (fM w b o):=
 ⟨λd z=>by
  have⟨r,a,C,u⟩:=h.all d z;exact⟨r,a,C,by rw[gF o (D r u)];exact u⟩,h.apart⟩
def Ih{step:Zo->bC->bt (Out×Zo×bC)}{c:Code}{ro:bt Nat}{o:Out}
 (D:∀I μ F H a w o F' H',step F H=some (o,F',H')->eC I μ n F a.tmps->c9 I μ H w->jE B a.defers w->B<=w.heap.size->c.wpIn (fr ro) 0 P (Post B n I μ H w o F' H') a w)
 {k:Nat}(h:jU step k F H=some (o,F',H'))(r:eC I μ n F a.tmps)(s:c9 I μ H w)(m:jE B a.defers w)(i:B<=w.heap.size):
 (Code.loop c).wpIn (fr ro) 0 P (Post B n I μ H w o F' H') a w:=by
 let b:Nat->Act->World->Prop:=λk u w'=>∃I1 J F1 H1,jU step k F1 H1=some (o,F',H')/\eC I1 J n F1 u.tmps/\c9 I1 J H1 w'/\Step I μ H w I1 J H1 w'/\jE B u.defers w'/\B<=w'.heap.size
 let M:Act->World->Nat:=λu w'=>least (λk=>b k u w')
 have Z:∀k u w',b k u w'->b (M u w') u w'/\M u w'<=k:=λk u w' S=>JP (λk=>b k u w') S
 refine wpIn_loop (λu w'=>∃k,b k u w') M ⟨k,I,μ,F,H,h,r,s,.refl _ _ _ _,m,i⟩ ?_
 rintro a1 T ⟨k1,U⟩;have⟨S,_⟩:=Z k1 a1 T U;generalize t:M a1 T=kk at S;have⟨I1,J,F1,H1,L,r1,O,C,m1,G⟩:=S
 cases kk with
 |zero=>simp[jU]at L|succ kk=>
  simp only[jU]at L;split at L
  next d H2 W=>refine wpIn_mono (D I1 J F1 H1 a1 T .norm d H2 W r1 O m1 G) ?_;rintro e a2 Q ⟨rfl,⟨I2,j,r2,l,st2⟩,p⟩;show(∃k,b k a2 Q)/\M a2 Q<kk+1;have z:b kk a2 Q:=⟨I2,j,d,H2,L,r2,l,Step.trans O C st2,p,le_trans G st2.size⟩;exact⟨⟨kk,z⟩,Nat.lt_succ_of_le (Z kk a2 Q z).2⟩
  rename_i X;refine wpIn_mono (D I1 J F1 H1 a1 T o F' H' L r1 O m1 G) ?_;intro e a2 Q q;have Y:o≠.norm:=by rintro rfl;exact X F' H' L
  obtain⟨rfl,f,g⟩:=q
  cases o with
  |norm=>exact absurd rfl Y|exit id=>exact Post.mono O C ⟨rfl,f,g⟩|ret=>exact Post.mono O C ⟨rfl,f,g⟩
end
end Go.VE
