/-
 The engine: operations of the loaded code on values without a heap; a run of it is a run of the program.
-/
import Derived.RangeFuncLeaves
import Derived.Sort.Defs
import Derived.Lib.BitFns
import Derived.Laws.Sem
import Derived.Laws.World
import Derived.Laws.Append
import Derived.Laws.BytesString
import Derived.OrdersIn
set_option linter.all false
open BitVec(ofInt)
open Go.IntKind(i64 signed wrap)
open Go.Op(bytesLess equal equalIn intArith intBits intCmp operands)
open List(all_eq_true append_assoc drop_drop drop_take eq_of_mem_replicate finRange flatten_append flatten_cons getElem?_append_left getElem?_cons_zero getElem?_drop getElem?_set_ne getElem?_set_self getElem?_take length length_cons length_set length_take mem_append mem_cons mem_cons_of_mem mem_cons_self mem_filter mem_flatten mem_map mem_of_getElem? mem_of_mem_drop mem_of_mem_take range replicate set_comm take take_append_drop take_take)
open Array(ext' getD_eq_getD_getElem? getElem?_eq_none length_toList)
open Go.Instr(checkKey fieldAt fill findAsking findKey findNow indexAt loadAt sameBits sameNow sliceAt sliceBound sliceBounds storeAt sureAddr)
open Go.Sem(run_bind run_ite run_pure)
open Go.Result(andThen andThen_ok)
open Bool(false_eq_true)
open Option(getD_some isSome_iff_exists map_some)
open Nat(add_assoc add_mul add_zero eq_zero_or_pos le_refl le_succ le_trans min_eq_left mod_lt mul_le_mul mul_le_mul_right one_mul zero_add zero_le zero_mul)
open Go.Builtin(append_ cap_ clear_ firstCells lenOf len_ max2 max_ min2 min_ nextslicecap zeroCells)
open Go.World(cell? frozen?)
open Ne(symm)
open Go.Question(appendCap forced)
namespace Go.VE
abbrev Zs:=IntKind
abbrev Zr:=Operand
abbrev Zq:=ByteArray
abbrev Zp:=Value
abbrev Zm:=TypeId
abbrev Zl:=Bool
abbrev Zk:=FuncId
def Za{p:Prop}(h:p:=by omega):p:=h
def Zc{p:Prop}(h:p:=by simp):p:=h
def Zd{p:Prop}(h:p:=by grind):p:=h
def Ze{p:Prop}(h:p:=by simp_all):p:=h
def ζa{α:Type _}(a b:α):(some a=some b)=(a=b):=Option.some.injEq a b
def ζb{α β:Type _}(a:α)(f:α->Option β):(some a).bind f=f a:=rfl
def ζc{α β:Type _}(a:α)(b:β)(c:α)(d:β):((a,b)=(c,d))=(a=c/\b=d):=Prod.mk.injEq a b c d
def ζd{α:Type _}{l:List α}{i:Nat}(h:i<l.length):l[i]?=some l[i]:=List.getElem?_eq_getElem h
def ζe{α:Type _}{l:List α}{i:Nat}{a:α}:l[i]?=some a↔∃h:i<l.length,l[i]=a:=List.getElem?_eq_some_iff
def ζf{α β:Type _}{b:β}{x:Option α}{f:α->β}:x.map f=some b↔∃a,x=some a/\f a=b:=Option.map_eq_some_iff
def ζg{α β:Type _}{b:β}{x:Option α}{f:α->Option β}:x.bind f=some b↔∃a,x=some a/\f a=some b:=Option.bind_eq_some_iff
def ζh(a b:Zl):((a&&b)=true)=(a=true/\b=true):=Bool.and_eq_true a b
def ζi{α:Type _}{a b:List α}:(a++b).length=a.length+b.length:=List.length_append
abbrev aZ:=@List
abbrev Zz:=aZ Oper
abbrev Zy:=aZ Int
abbrev Zv:=aZ Nat
abbrev a_:=@Option
abbrev Z6:=a_ Int
inductive V where
 |bool(b:Bool)|int(k:IntKind)(n:Int)|str(s:ByteArray)|dG|bJ|fsl(es:Nat)(xs:List (List V))|hsl(id es off len:Nat)|gP|fptr(cs:List V)|hptr(id el off:Nat)|clo(f:FuncId)(first cap:List V)|yld(id:Nat)|gb|ri|fmap(kvs:List (V×V))|hmap(id:Nat)|agg(cs:List V)|tup(vs:List V)
 deriving Inhabited
abbrev Zu:=aZ V
abbrev Zt:=aZ (aZ V)
def V.undef:V:=.tup []
def V.one:V->Zl
 |.agg _|.tup _=>false|_=>true
def V.cells:V->Zu
 |.agg cs=>cs|v=>[v]
mutual
def V.scalar:V->Zl
 |.bool _|.int ..|.str _|.gP|.gb|.ri|.dG|.bJ=>true|.agg cs=>V.cO cs|.tup cs=>V.cO cs|_=>false
def V.cO:Zu->Zl
 |[]=>true|v::r=>V.scalar v&&V.cO r
end
mutual
def V.closed:V->Zl
 |.hsl ..|.hptr ..|.yld ..|.hmap ..=>false|.clo _ a b=>V.kr a&&V.kr b|.agg cs=>V.kr cs|.tup cs=>V.kr cs|_=>true
def V.kr:Zu->Zl
 |[]=>true|v::r=>V.closed v&&V.kr r
end
inductive TK where
 |bool|int (k:IntKind)|str|ptr (e:TypeId)|slice (e:TypeId)|struct(fs:List (Nat×TypeId))|array (n:Nat) (e:TypeId)|map (k e:TypeId)|other
 deriving Inhabited
structure TD where
 size:Nat
 bytes:Nat
 zero:List V
 kind:TK
 deriving Inhabited
def TD.agg(d:TD):Zl:=match d.kind with|.struct _|.array _ _=>true|_=>false
abbrev Frame:=aZ V
abbrev Zo:=Frame
def get:Zo->Nat->V
 |[],_=>.undef|x::_,0=>x|_::r,i+1=>get r i
def set:Zo->Nat->V->Zo
 |[],0,v=>[v]|[],i+1,v=>.undef::set [] i v|_::r,0,v=>v::r|x::r,i+1,v=>x::set r i v
inductive AI where
 |ready|busy|done
inductive Out where
 |norm|exit(id:Nat)|ret
 deriving DecidableEq,Inhabited
structure uH where
 st:AI
 pend:Option Out
 frame:Frame
 nt:Nat
 params:List Nat
 assign:Code
 body:Code
inductive Ob where
 |free|dead|row(es:Nat)(xs:List (List V))|frz(es:Nat)(xs:List (List V))|map(kvs:List (V×V))|loop(r:uH)
def Ob.rows:Ob->a_ (Nat×Zt)
 |.row es xs|.frz es xs=>some (es,xs)|_=>none
abbrev bp:=aZ Ob
structure FI where
 ntmps:Nat
 results:List ResultVar
 body:Code
structure Env where
 tt:TypeId->Option TD
 ft:FuncId->Option FI
 keep:FuncId->Bool
 own:FuncId->Bool
 eqN:TypeId->Option Nat
 sort:FuncId->Bool
 known:FuncId->List V->Option V:=λ_ _=>none
def Env.cN(E:Env)(t:Zm):a_ TK:=(E.tt t).map TD.kind
def ofValue:Nat->Zp->a_ V
 |0,_=>none|n+1,v=>
  match v with
  |.bool b=>some (.bool b)|.int k n=>some (.int k n)|.string s=>some (.str s)|.pointer none=>some .gP|.slice none 0 0=>some .bJ|.map none=>some .gb|.nilFunc=>some .ri|.agg cs=>(cs.toList.mapM (ofValue n)).map .agg|_=>none
class bV where
 gl:Nat->Option (List V)
 sc:∀g cs,gl g=some cs->∃(k:IntKind)(l:List Int),cs=l.map (V.int k)
variable[bV]
def ev(F:Zo):Zr->a_ V
 |.tmp t=>some (get F t)|.const v=>ofValue 4 v|.func f=>some (.clo f [] [])|.global g=>(bV.gl g).map .fptr
def fA(F:Zo):aZ Zr->a_ Zu
 |[]=>some []|x::r=>match ev F x,fA F r with
  |some v,some vs=>some (v::vs)|_,_=>none
def mk(agg:Zl)(cs:Zu):a_ V:=if agg then some (.agg cs)else match cs with|[v]=>some v|_=>none
def cut(cs:Zu)(off n:Nat):a_ Zu:=
 let r:=(cs.drop off).take n
 if r.length=n then some r else none
def g_:Zu->a_ Zy
 |[]=>some []|.int .i64 a::r=>(g_ r).map (a::·)|_=>none
def kf(az B:Zu):a_ Zl:=
 match g_ az,g_ B with
 |some a,some b=>if a.length=b.length then some (a==b)else none|_,_=>none
def mT(op:BinOp)(x y:Int):a_ Zl:=
 match op with
 |.eql=>some (x==y)|.neq=>some (x != y)|.lss=>some (decide (x<y))|.leq=>some (decide (x<=y))|.gtr=>some (decide (x>y))|.geq=>some (decide (x>=y))|_=>none
def tE(k:TK)(x y:V):a_ Zl:=
 match k,x,y with
 |.slice _,.bJ,.bJ=>some true|.slice _,.fsl ..,.bJ=>some false|.slice _,.hsl ..,.bJ=>some false|.ptr _,.gP,.gP=>some true|.ptr _,.fptr _,.gP=>some false|.ptr _,.hptr ..,.gP=>some false|.map ..,.gb,.gb=>some true|.map ..,.fmap _,.gb=>some false|.map ..,.hmap _,.gb=>some false|_,_,_=>none
def Gm(E:Env)(op:BinOp)(t:Zm)(x y:V):a_ V:=
 match x,y with
 |.int k a,.int u b=>
  match op with
  |.shl=>if b<0 then none else some (.int k (k.wrap (a*2 ^ (min b.toNat k.bits))))|.shr=>if b<0 then none else some (.int k (a.fdiv (2 ^ (min b.toNat k.bits))))|_=>if k=u then
   match op with
   |.add=>some (.int k (k.wrap (a+b)))|.sub=>some (.int k (k.wrap (a-b)))|.mul=>some (.int k (k.wrap (a*b)))|.quo=>if b=0 then none else some (.int k (k.wrap (a.tdiv b)))|.rem=>if b=0 then none else some (.int k (a.tmod b))|.and=>some (.int k (k.wrap (ofInt k.bits a &&& ofInt k.bits b).toNat))|.or=>some (.int k (k.wrap (ofInt k.bits a ||| ofInt k.bits b).toNat))|.xor=>some (.int k (k.wrap (ofInt k.bits a ^^^ ofInt k.bits b).toNat))|.andNot=>some (.int k (k.wrap (ofInt k.bits a &&& ~~~ ofInt k.bits b).toNat))|op=>(mT op a b).map .bool
   else none
 |.str a,.str b=>
  match op with
  |.add=>if((a.size+b.size:Nat):Int)>i64.max then none else some (.str (a++b))|.eql=>some (.bool (a.toList==b.toList))|.neq=>some (.bool !(a.toList==b.toList))|.lss=>some (.bool (bytesLess a.toList b.toList))|.leq=>some (.bool (bytesLess a.toList b.toList||a.toList==b.toList))|.gtr=>some (.bool !(bytesLess a.toList b.toList||a.toList==b.toList))|.geq=>some (.bool !(bytesLess a.toList b.toList))|_=>none
 |.bool a,.bool b=>
  match E.cN t,op with
  |some .bool,.eql=>some (.bool (a==b))|some .bool,.neq=>some (.bool !(a==b))|_,_=>none
 |.agg a,.agg b=>
  match E.eqN t,op with
  |some n,.eql=>if a.length=n then(kf a b).map .bool else none|some n,.neq=>if a.length=n then(kf a b).map (λt=>.bool !t)else none|_,_=>none
 |x,y=>
  match E.cN t,op with
  |some k,.eql=>(tE k x y).map .bool|some k,.neq=>(tE k x y).map λt=>.bool !t|_,_=>none
def tf(place:Nat->a_ (Nat×Nat))(cells:Zu):aZ (Nat×V)->a_ Zu
 |[]=>some cells|(i,v)::rest=>
  match place i with
  |none=>none|some (off,size)=>
   if v.cells.length≠size||off+v.cells.length>cells.length then none
   else tf place (cells.take off++v.cells++cells.drop (off+v.cells.length)) rest
def lE(F:Zo):aZ (Nat×Zr)->a_ (aZ (Nat×V))
 |[]=>some []|(i,x)::r=>match ev F x,lE F r with
  |some v,some vs=>some ((i,v)::vs)|_,_=>none
def mm(E:Env):aZ (Nat×Zm)->a_ (aZ (Nat×Nat))
 |[]=>some []|(off,t)::r=>match E.tt t,mm E r with
  |some d,some ps=>some ((off,d.size)::ps)|_,_=>none
def jt(F:Zo):a_ Zr->a_ Z6
 |none=>some none|some x=>match ev F x with
  |some (.int _ n)=>some (some n)|_=>none
def dO(len:Nat)(B D:Z6):a_ (Nat×Nat):=
 let h:=D.getD len
 let l:=B.getD 0
 if 0<=h/\h<=len/\0<=l/\l<=h then some (l.toNat,h.toNat)else none
def Bp(a b:Int):Int:=if b>a then b else a
def bP(E:Env)(F:Zo)(op:Op):a_ V:=
 match op with
 |.move x|.assign x=>ev F x|.pick c a b=>match ev F c with
  |some (.bool t)=>if t then ev F a else ev F b|_=>none
 |.nilCheck x=>match ev F x with
  |some (.hptr id el off)=>some (.hptr id el off)|some (.fptr u)=>some (.fptr u)|some (.clo f a b)=>some (.clo f a b)|_=>none
 |.binOp op t x y _=>match ev F x,ev F y with
  |some a,some b=>Gm E op t a b|_,_=>none
 |.unOp op _ x=>match op,ev F x with
  |.not,some (.bool b)=>some (.bool !b)|.neg,some (.int k n)=>some (.int k (k.wrap (0-n)))|_,_=>none
 |.convert s d x=>match E.tt s,E.tt d,ev F x with
  |some _,some D,some (.int _ n)=>match D.kind with
   |.int k=>some (.int k (k.wrap n))|_=>none
  |_,_,_=>none
 |.fieldAddr s x f=>match E.cN s,ev F x with
  |some (.struct fs),some p=>match fs[f]?with
   |some (off,t)=>match E.tt t with
    |some d=>if d.size=0 then none else match p with
     |.fptr u=>if off<=u.length then some (.fptr (u.drop off))else none|.hptr id el o=>some (.hptr id el (o+off))|_=>none
    |none=>none
   |none=>none
  |_,_=>none
 |.field s x f=>match E.cN s,ev F x with
  |some (.struct fs),some (.agg u)=>match fs[f]?with
   |some (off,t)=>match E.tt t with
    |some d=>(cut u off d.size).bind (mk d.agg)|none=>none
   |none=>none
  |_,_=>none
 |.indexAddr t x i=>match E.cN t,ev F x,ev F i with
  |some (.slice e),some s,some (.int _ n)=>match E.tt e with
   |some d=>if n<0 then none else match s with
    |.fsl es w=>if es=d.size then(w[n.toNat]?).map .fptr else none|.hsl id es off len=>if es=d.size/\n.toNat<len then some (.hptr id (off+n.toNat) 0)else none|_=>none
   |none=>none
  |some (.array len e),some p,some (.int _ n)=>match E.tt e with
   |some d=>if 0<=n/\n<len then match p with
    |.fptr u=>if n.toNat*d.size<=u.length then some (.fptr (u.drop (n.toNat*d.size)))else none|.hptr id el o=>some (.hptr id el (o+n.toNat*d.size))|_=>none
    else none
   |none=>none
  |_,_,_=>none
 |.index t x i=>match E.cN t,ev F x,ev F i with
  |some .str,some (.str s),some (.int _ n)=>if 0<=n then(s[n.toNat]?).map (λb=>.int .u8 b.toNat)else none|some (.array len e),some (.agg u),some (.int _ n)=>match E.tt e with
   |some d=>if 0<=n/\n<len then(cut u (n.toNat*d.size) d.size).bind (mk d.agg)else none|none=>none
  |_,_,_=>none
 |.slice t x G I J=>match E.cN t,ev F x,jt F G,jt F I,jt F J with
  |some .str,some (.str s),some l,some h,some none=>(dO s.size l h).map λ(l,h)=>.str (s.extract l h)|some (.slice e),some v,some l,some h,some none=>match E.tt e with
   |some d=>match v with
    |.fsl es w=>if es=d.size then(dO w.length l h).map λ(l,h)=>.fsl es ((w.take h).drop l)else none|.hsl id es off len=>if es=d.size then(dO len l h).map λ(l,h)=>.hsl id es (off+l) (h-l)else none|.dG=>(dO 0 l h).map λ_=>.dG|.bJ=>(dO 0 l h).map λ_=>.bJ|_=>none
   |none=>none
  |some (.slice e),some v,some none,some (some 0),some (some 0)=>match E.tt e,v with
   |some _,.fsl ..|some _,.hsl ..|some _,.dG|some _,.bJ=>some .dG|_,_=>none
  |_,_,_,_,_=>none
 |.build t L=>match E.tt t,lE F L.toList with
  |some d,some z=>match d.kind with
   |.struct fs=>match mm E fs with
    |some pl=>(tf (λi=>pl[i]?) d.zero z).map .agg|none=>none
   |.array _ e=>match E.tt e with
    |some C=>(tf (λi=>some (i*C.size,C.size)) d.zero z).map .agg|none=>none
   |_=>none
  |_,_=>none
 |.makeFunc (.func f) a b=>match fA F a.toList,fA F b.toList with
  |some a,some b=>some (.clo f a b)|_,_=>none
 |.extract x i=>match ev F x with
  |some (.tup z)=>z[i]?|_=>none
 |.call {callee:=.builtin b,args,argTypes}=>match b,fA F args.toList,argTypes[0]?with
  |.len,some [v],some t=>match E.cN t,v with
   |some .str,.str s=>some (.int .i64 s.size)|some (.slice _),.fsl _ w=>some (.int .i64 w.length)|some (.slice _),.hsl _ _ _ len=>some (.int .i64 len)|some (.slice _),.dG=>some (.int .i64 0)|some (.slice _),.bJ=>some (.int .i64 0)|_,_=>none
  |.cap,some [v],some t=>match E.cN t,v with
   |some (.slice _),.bJ=>some (.int .i64 0)|some (.slice _),.dG=>some (.int .i64 0)|_,_=>none
  |.max,some [.int k a,.int B b],_=>if k=B then some (.int k (if b>a then b else a))else none|.max,some [.int k a,.int O b,.int Q c,.int S d],_=>if k=O/\k=Q/\k=S then some (.int k (Bp (Bp (Bp a b) c) d))else none|.min,some [.int k a,.int B b],_=>if k=B then some (.int k (if b<a then b else a))else none|_,_,_=>none
 |_=>none
def eo(H:bp)(p:V)(n:Nat):a_ Zu:=
 match p with
 |.fptr t=>cut t 0 n|.hptr id el off=>match(H[id]?).bind Ob.rows with
  |some (_,u)=>match u[el]?with
   |some t=>cut t off n|none=>none
  |none=>none
 |_=>none
def vv:V->V->a_ Zl
 |.int k a,.int B b=>if k=B then some (a==b)else none|.str a,.str b=>some (a==b)|.agg a,.agg b=>kf a b|_,_=>none
def iy(k:V):aZ (V×V)->Nat->a_ (a_ (Nat×V))
 |[],_=>some none|(B,v)::r,i=>match vv k B with
  |some true=>some (some (i,v))|some false=>iy k r (i+1)|none=>none
def zT(E:Env)(t:Zm)(k:V):Zl:=
 match E.cN t,k with
 |some (.int k),.int w _=>k==w|some .str,.str _=>true|some _,.agg u=>match E.eqN t with|some n=>u.length==n&&(g_ u).isSome|none=>false
 |_,_=>false
def l_(H:bp):V->a_ (aZ (V×V))
 |.gb=>some []|.fmap B=>some B|.hmap id=>match H[id]?with
  |some (.map B)=>some B|_=>none
 |_=>none
def dW(E:Env)(F:Zo)(H:bp)(op:Op):a_ V:=
 match op with
 |.load t a=>match E.tt t,ev F a with
  |some d,some p=>(eo H p d.size).bind (mk d.agg)|_,_=>none
 |.lookup t m k ok=>match E.cN t,ev F m,ev F k with
  |some (.map w B),some m,some k=>match E.tt B,l_ H m with
   |some d,some u=>if zT E w k then match iy k u 0,mk d.agg d.zero with
    |some (some (_,v)),_=>some (if ok then .tup [v,.bool true]else v)|some none,some z=>some (if ok then .tup [z,.bool false]else z)|_,_=>none
    else none
   |_,_=>none
  |_,_,_=>none
 |_=>none
inductive Mk where
 |ptr|sl (es len:Nat)|map
def Mk.val(id:Nat):Mk->V
 |.ptr=>.hptr id 0 0|.sl es len=>.hsl id es 0 len|.map=>.hmap id
def eY(es:Nat)(xs:Zt):aZ (Nat×V)->a_ Zt
 |[]=>some xs|(i,v)::r=>if v.cells.length=es/\i<xs.length/\v.cells.all V.one=true then eY es (xs.set i v.cells) r else none
def eM(E:Env)(F:Zo)(op:Op):a_ (Ob×Mk):=
 match op with
 |.alloc t=>(E.tt t).map λd=>(.row d.size [d.zero],.ptr)|.box _ x=>match ev F x with
  |some v=>if v.cells.all V.one then some (.row v.cells.length [v.cells],.ptr)else none|none=>none
 |.makeSlice t l c=>match E.cN t,ev F l,ev F c with
  |some (.slice e),some (.int k n),some (.int u m)=>match E.tt e with
   |some d=>if k=.i64/\u=.i64/\0<=n/\n<=m/\m<=2147483648/\d.bytes<=4096 then some (.row d.size (replicate m.toNat d.zero),.sl d.size n.toNat)else none|none=>none
  |_,_,_=>none
 |.buildSlice t len w=>match E.cN t,lE F w.toList with
  |some (.slice e),some z=>match E.tt e with
   |some d=>if len*d.size<=16777216 then(eY d.size (replicate len d.zero) z).map λB=>(.row d.size B,.sl d.size len)else none|none=>none
  |_,_=>none
 |.makeMap _ none=>some (.map [],.map)|_=>none
def oD(E:Env)(F:Zo)(op:Op):a_ V:=
 match eM E F op with
 |some (.row es t,.sl u n)=>if u=es/\n=t.length/\(t.all λx=>x.all V.scalar)=true then match op with
  |.buildSlice ..=>if t.isEmpty then(if es != 0 then some .dG else none)else some (.fsl es t)|_=>some (.fsl es t)
  else none
 |_=>none
def dD(H:bp)(es:Nat):V->a_ Zt
 |.dG=>some []|.bJ=>some []|.fsl B xs=>if B=es then some xs else none|.hsl id B off len=>if B=es then match(H[id]?).bind Ob.rows with
  |some (_,xs)=>if off+len<=xs.length then some ((xs.drop off).take len)else none|none=>none
  else none
 |_=>none
def oG(k v:V)(B:aZ (V×V)):a_ (aZ (V×V)):=
 match iy k B 0 with
 |some (some (j,_))=>some (B.set j (k,v))|some none=>some (B++[(k,v)])|none=>none
def gB(H:bp):V->a_ bp
 |.dG=>some H|.bJ=>some H|.hsl id _ _ _=>match H[id]?with
  |some (.row _ _)=>some (H.set id .dead)|_=>none
 |_=>none
def mkApp(H:bp)(size bytes:Nat)(zero:Zu)(s x:V):a_ (V×bp):=
 match s,x with
 |.bJ,.int _ n=>if n=0 then some (.bJ,H)else if 0<n/\n<=2147483648/\bytes<=4096/\0<bytes then some (.hsl H.length size 0 n.toNat,H++[.row size (replicate n.toNat zero)])else none|_,_=>none
def BQ(H:bp)(size:Nat)(zero:Zu):V->a_ (V×bp)
 |.bJ|.dG=>some (.undef,H)|.hsl id es off len=>if es=size then match len with
  |0=>some (.undef,H)|len+1=>match H[id]?with
   |some (.row B xs)=>if off+(len+1)<=xs.length then some (.undef,H.set id (.row B (xs.take off++replicate (len+1) zero++xs.drop (off+(len+1)))))else none|_=>none
  else none
 |_=>none
def c8(E:Env)(F:Zo)(H:bp)(op:Op):a_ (V×bp):=
 match op with
 |.store t a x=>match E.tt t,ev F a,ev F x with
  |some d,some (.hptr id el off),some v=>match H[id]?with
   |some (.row es w)=>match w[el]?with
    |some z=>if v.cells.length=d.size/\off+d.size<=z.length/\v.cells.all V.one=true then
     some (.undef,H.set id (.row es (w.set el (z.take off++v.cells++z.drop (off+v.cells.length)))))else none
    |none=>none
   |_=>none
  |_,_,_=>none
 |.mapUpdate t m k x|.insert t m k x=>match E.cN t,ev F m,ev F k,ev F x with
  |some (.map C _),some (.hmap id),some k,some v=>match H[id]?with
   |some (.map u)=>if zT E C k then(oG k v u).map λu=>(.undef,H.set id (.map u))else none|_=>none
  |_,_,_,_=>none
 |.call {callee:=.builtin .append,args,argTypes}=>match argTypes.toList,fA F args.toList with
  |[t,D],some [s,x]=>match E.cN t,E.cN D with
   |some (.slice e),some (.slice _)=>match E.tt e with
    |some d=>match dD H d.size s,dD H d.size x with
     |some _,some []=>some (s,H)|some w,some B=>
      if w.length+B.length<=2147483648/\d.bytes<=4096/\0<d.bytes then
       (gB H s).map λH1=>(.hsl H.length d.size 0 (w.length+B.length),H1++[.row d.size (w++B)])
      else none
     |_,_=>none
    |none=>none
   |some (.slice e),some (.int _)=>match E.tt e with
    |some d=>mkApp H d.size d.bytes d.zero s x|none=>none
   |_,_=>none
  |_,_=>none
 |.call {callee:=.builtin .clear,args,argTypes}=>match argTypes[0]?,fA F args.toList with
  |some t,some [v]=>match E.cN t with
   |some (.slice e)=>match E.tt e with
    |some d=>BQ H d.size d.zero v|none=>none
   |_=>none
  |_,_=>none
 |_=>none
def o9:Zt->a_ Zy
 |[]=>some []|[.int .u8 n]::r=>(o9 r).map (n::·)|_=>none
def Jb(l:Zy):Zq:=l.foldl (λr n=>r.push (UInt8.ofNat n.toNat)) ByteArray.empty
def evalConv(E:Env)(F:Zo)(H:bp)(op:Op):a_ V:=
 match op with
 |.convert s d x=>match E.cN s,E.cN d,ev F x with
  |some (.slice e),some .str,some v=>match E.cN e with
   |some (.int .u8)=>(dD H 1 v).bind λt=>(o9 t).map λl=>.str (Jb l)|_=>none
  |_,_,_=>none
 |_=>none
def rP(E:Env)(F:Zo)(H:bp)(place:a_ (Nat×Nat))(op:Op):a_ V:=
 match bP E F op with
 |some v=>some v|none=>match place with
  |none=>evalConv E F H op|some _=>none
inductive Callee where
 |fn(f:FuncId)|yld(id:Nat)
def jx(F:Zo)(op:Op):a_ (Callee×Zu):=
 match op with
 |.call {callee:=.value f,args,..}=>match ev F f,fA F args.toList with
  |some (.clo g a b),some t=>some (.fn g,a++t++b)|some (.yld id),some t=>some (.yld id,t)|_,_=>none
 |_=>none
inductive P0 where
 |pure|read|alloc|loud|call
 deriving DecidableEq
def c_:Op->P0
 |.load ..|.lookup ..=>.read|.alloc ..|.box ..|.makeSlice ..|.buildSlice ..|.makeMap ..=>.alloc|.store ..|.mapUpdate ..|.insert ..=>.loud|.call {callee:=.builtin .append,..}=>.loud|.call {callee:=.builtin .clear,..}=>.loud|.call {callee:=.value _,..}=>.call|_=>.pure
def gX(f:V->a_ V):Zu->a_ Zu
 |[]=>some []|x::r=>match f x,gX f r with
  |some y,some s=>some (y::s)|_,_=>none
def kR(f:V->a_ V):Zt->a_ Zt
 |[]=>some []|x::r=>match gX f x,kR f r with
  |some y,some s=>some (y::s)|_,_=>none
def kL(f:V->a_ V):aZ (V×V)->a_ (aZ (V×V))
 |[]=>some []|(k,x)::r=>match f k,f x,kL f r with
  |some k,some y,some s=>some ((k,y)::s)|_,_,_=>none
def borrow:Nat->bp->V->a_ V
 |0,_,x=>if x.closed then some x else none|n+1,H,x=>
  if x.closed then some x else
  match x with
  |.hsl id es off len=>match(H[id]?).bind Ob.rows with
   |some (B,xs)=>if B=es/\off+len<=xs.length then(kR (borrow n H) ((xs.drop off).take len)).map (.fsl es)else none|none=>none
  |.hptr id el off=>match(H[id]?).bind Ob.rows with
   |some (_,xs)=>match xs[el]?with
    |some cs=>if off<=cs.length then(gX (borrow n H) (cs.drop off)).map .fptr else none|none=>none
   |none=>none
  |.hmap id=>match H[id]?with
   |some (.map D)=>(kL (borrow n H) D).map .fmap|_=>none
  |.clo f a b=>match gX (borrow n H) a,gX (borrow n H) b with
   |some a,some b=>some (.clo f a b)|_,_=>none
  |.agg cs=>(gX (borrow n H) cs).map .agg|.tup cs=>(gX (borrow n H) cs).map .tup|_=>none
def borrows(n:Nat)(H:bp)(l:Zu):a_ Zu:=gX (borrow n H) l
def cM(f:V->Zv):Zu->Zv
 |[]=>[]|x::r=>f x++cM f r
def cg:Nat->bp->V->Zv
 |0,_,_=>[]|n+1,H,x=>
  if x.closed then[]else
  match x with
  |.hsl id _ off len=>id::(match(H[id]?).bind Ob.rows with|some (_,xs)=>cM (cg n H) ((xs.drop off).take len).flatten|none=>[])|.hptr id el off=>id::(match(H[id]?).bind Ob.rows with|some (_,xs)=>cM (cg n H) (((xs[el]?).getD []).drop off)|none=>[])|.hmap id=>id::(match H[id]?with|some (.map B)=>cM (cg n H) (B.map (·.1))++cM (cg n H) (B.map (·.2))|_=>[])|.clo _ a b=>cM (cg n H) a++cM (cg n H) b|.agg cs=>cM (cg n H) cs|.tup cs=>cM (cg n H) cs|_=>[]
def tj(H:bp)(id:Nat):bp:=
 match H[id]?with
 |some (.row es t)=>H.set id (.frz es t)|some (.map _)=>H.set id .dead|_=>H
def cH(H:bp)(l:Zv):bp:=l.foldl tj H
structure dw where
 lv:Nat
 go:Callee->List V->bp->Option (V×bp)
instance:CoeFun dw λ_=>Callee->Zu->bp->a_ (V×bp):=⟨dw.go⟩
def iI(H:bp)(T:Zv):Zl:=T.all λid=>((H[id]?).bind Ob.rows).isSome
def b8(call:dw)(f:Zk)(args:Zu)(H:bp):a_ V:=
 match borrows call.lv H args with
 |some az=>match call (.fn f) az []with
  |some (r,H1)=>match borrow call.lv H1 r with
   |some y=>if y.closed then some y else none|none=>none
  |none=>none
 |none=>none
def qd(k:Nat)(H1:bp)(id es off len:Nat):a_ (V×Ob):=
 match H1[id]?with
 |some (.row t u)=>if t=es/\(u.all λx=>x.all V.scalar)=true then some (.hsl k es off len,.row es u)else none|_=>none
def jW(call:dw)(f:Zk)(args:Zu)(H:bp):a_ (V×bp):=
 match borrows call.lv H args with
 |some az=>match call (.fn f) az []with
  |some (r,H1)=>
   if r.scalar then some (r,H)else
   match r with
   |.hsl id es off len=>(qd H.length H1 id es off len).map λ(v,ob)=>(v,H++[ob])|.tup (.hsl id es off len::rest)=>if V.cO rest then(qd H.length H1 id es off len).map λ(v,ob)=>(.tup (v::rest),H++[ob])else none|_=>none
  |none=>none
 |none=>none
def eO(E:Env)(call:dw)(f:Zk)(args:Zu)(H:bp):a_ (V×bp):=if E.own f then jW call f args H else call (.fn f) args H
def kB(e:Edge):Zl:=match e.ground with|.textOnly _|.gcOnly _=>false|_=>true
def C7(o:Oper)(i:Nat):Zl:=o.after.any λe=>e.on==i&&kB e
def Fj(a:aZ Zv)(o:Oper):Zv:=(o.after.toList.filter kB).foldl (λl e=>(e.on::(a[e.on]?).getD []).foldl (λl k=>if l.contains k then l else k::l) l) []
def Gg(ops:Zz):aZ Zv:=ops.foldl (λa o=>a++[Fj a o]) []
def before(ops:Zz)(i k:Nat):Zl:=(((Gg ops)[i]?).getD []).contains k
def isApp:Op->Zl
 |.call {callee:=.builtin .append,..}=>true|_=>false
def dA(ops:Zz)(i:Nat):Zl:=
 match ops[i]?with
 |some o=>(range ops.length).all λk=>match ops[k]?with
  |some p=>k==i||c_ p.op==.pure||(if k<i then before ops i k else before ops k i)||(isApp o.op&&c_ p.op==.alloc&&decide (i<k))|none=>true
 |none=>false
def dstsOf(ops:Zz):Zv:=ops.filterMap (·.dst)
def u5(ops:Zz)(i k:Nat):Zl:=if k<i then before ops i k else before ops k i
def ET(ops:Zz)(i k:Nat):a_ Zv:=
 match ops[k]?with
 |some p=>
  if k==i||c_ p.op==.pure||u5 ops i k then some []else
  match p.op with
  |.load _ (.tmp a)=>if(dstsOf ops).contains a then some []else some [a]|_=>none
 |none=>some []
def Bd(ops:Zz)(i:Nat):Zv->a_ Zv
 |[]=>some []|k::r=>match ET ops i k,Bd ops i r with
  |some a,some b=>some (a++b)|_,_=>none
def yA(ops:Zz)(i:Nat):a_ (Nat×Zv):=
 match(ops[i]?).map Oper.op with
 |some (.store _ (.tmp a) _)=>if(dstsOf ops).contains a then none else(Bd ops i (range ops.length)).map λl=>(a,l)|_=>none
def qf(id:Nat):V->Zl
 |.hptr B _ _=>B != id|.fptr _=>true|_=>false
def qy(ops:Zz)(i:Nat)(F:Zo):Zl:=
 match yA ops i with
 |some (a,l)=>match get F a with
  |.hptr id _ _=>l.all λs=>qf id (get F s)|_=>false
 |none=>false
def ot(ops:Zz)(k a':Nat):Zv:=
 if(dstsOf ops).contains a' then(range ops.length).filterMap λi=>match(ops[i]?).map Oper.op with
  |some (.store _ (.tmp a) _)=>if u5 ops i k||(dstsOf ops).contains a then none else some a|_=>none
 else[]
def mL(ops:Zz)(k:Nat)(F:Zo)(op:Op):Zl:=
 match op with
 |.load _ (.tmp t)=>(ot ops k t).all λa=>match get F a with
  |.hptr id _ _=>qf id (get F t)|_=>true
 |_=>true
def zS(d:Nat)(op:Op):Zl:=op.operands.any λx=>match x with|.tmp t=>t==d|_=>false
def OJ(d:Nat):Op->Zl
 |.call {callee:=.builtin .append,args,..}=>match args.toList with
  |.tmp t::r=>t==d&&r.all λx=>match x with|.tmp t=>t != d|_=>true
  |_=>false
 |_=>false
def z8(ops:Zz)(i:Nat):Zl:=
 match ops[i]?with
 |some o=>match o.op,o.dst with
  |.makeSlice ..,some d=>(ops.any λp=>zS d p.op)&&ops.all λp=> !zS d p.op||c_ p.op==.call|.buildSlice _ len t,some d=>len==0&&t.size==0&&((range ops.length).any λk=>match ops[k]?with|some p=>zS d p.op&& !dA ops k|none=>false)&&ops.all λp=> !zS d p.op||OJ d p.op|_,_=>false
 |none=>false
def Pm(E:Env)(ops:Zz)(i:Nat):Zl:=
 match ops[i]?with
 |some o=>match o.op,o.dst with
  |.buildSlice t len _,some d=>decide (0<len)&&(match E.cN t with
   |some (.slice e)=>(match E.cN e with|some .bool|some (.int _)|some .str=>true|_=>false)|_=>false)&&(ops.any λp=>zS d p.op)&&ops.all λp=> !zS d p.op||c_ p.op==.call
  |_,_=>false
 |none=>false
def BD(E:Env)(ops:Zz)(i:Nat):Zl:=z8 ops i||Pm E ops i
def qv(E:Env)(ops:Zz):a_ (Nat×Nat)->Zl
 |some (_,i)=>BD E ops i|none=>false
def kH(E:Env)(ops:Zz)(place:a_ (Nat×Nat))(f:Zk):Zl:=E.keep f&&(match place with|none=>true|some (_,i)=>dA ops i|| !E.own f)
def vR(ops:Zz)(i:Nat):Zl:=
 match ops[i]?with
 |some o=>isApp o.op&&(range ops.length).all λk=>match ops[k]?with
  |some p=>k==i||c_ p.op==.pure||u5 ops i k||c_ p.op==.read||(c_ p.op==.alloc&&(z8 ops k||decide (i<k)))|none=>true
 |none=>false
def oK(F:Zo):Op->Zl
 |.call {callee:=.builtin .append,args,..}=>match args.toList with
  |x::_=>match ev F x with|some .dG|some .bJ=>true|_=>false
  |_=>false
 |_=>false
def xE(ops:Zz)(i b:Nat)(F:Zo)(H:bp)(op:Op):Zl:=vR ops i&&(isApp op&&oK F op&&decide (b<=H.length))
def dm(E:Env)(call:dw)(ops:Zz)(place:a_ (Nat×Nat))(F:Zo)(H:bp)(op:Op):a_ (V×bp):=
 match c_ op with
 |.pure=>(rP E F H place op).map λv=>(v,H)|.read=>match place with
  |none=>(dW E F H op).map λv=>(v,H)|some (b,i)=>if mL ops i F op then match dW E F (H.take b) op with
   |some v=>some (v,H)|none=>if dA ops i then(dW E F H op).map λv=>(v,H)else none
   else none
 |.alloc=>if qv E ops place then(oD E F op).map λv=>(v,H)else match eM E F op,place with
  |some (ob,m),none=>some (m.val H.length,H++[ob])|some (ob,m),some (b,i)=>match H[b+i]?with
   |some .free=>some (m.val (b+i),H.set (b+i) ob)|_=>none
  |none,_=>none
 |.loud=>match place with
  |none=>c8 E F H op|some (b,i)=>if dA ops i||qy ops i F||xE ops i b F H op then c8 E F H op else none
 |.call=>match jx F op with
  |some (.fn f,args)=>
   if kH E ops place f then
    match place with
    |none=>eO E call f args H|some (_,i)=>if dA ops i then eO E call f args H else none
   else match place with
    |none=>match b8 call f args H with
     |some y=>some (y,if y.scalar then H else cH H (cM (cg call.lv H) args))|none=>none
    |some (b,i)=>match b8 call f args (H.take b)with
     |some y=>if y.scalar then some (y,H)else if iI (H.take b) (cM (cg call.lv (H.take b)) args)then some (y,cH H (cM (cg call.lv (H.take b)) args))else none|none=>if dA ops i then match b8 call f args H with
      |some y=>some (y,if y.scalar then H else cH H (cM (cg call.lv H) args))|none=>none
      else none
  |some (.yld id,args)=>match place with
   |none=>call (.yld id) args H|some (_,i)=>if dA ops i then call (.yld id) args H else none
  |none=>none
def jD(n:Nat)(F:Zo)(dst:a_ Nat)(v:V):a_ Zo:=
 match dst with
 |none=>some F|some d=>if d<n then some (set F d v)else none
def fE(ops:Zz)(F:Zo)(o:Oper):Zl:=
 match o.guard with
 |none=>true|some (j,b)=>match(ops[j]?).bind (·.dst)with
  |some d=>match get F d with
   |.bool c=>c==b|_=>false
  |none=>false
def fW(E:Env)(call:dw)(n:Nat)(ops:Zz)(place:a_ (Nat×Nat))(o:Oper)(F:Zo)(H:bp):a_ (Zo×bp):=
 if fE ops F o then
  match dm E call ops place F H o.op with
  |some (v,H')=>(jD n F o.dst v).map λF'=>(F',H')|none=>none
 else(jD n F o.dst .undef).map λF'=>(F',H)
def lC(E:Env)(call:dw)(n:Nat)(ops:Zz):Zz->Zo->bp->a_ (Zo×bp)
 |[],F,H=>some (F,H)|o::r,F,H=>match fW E call n ops none o F H with
  |some (F',H')=>lC E call n ops r F' H'|none=>none
def jy(E:Env)(call:dw)(n:Nat)(ops:Zz)(base:Nat):Zv->Zo->bp->a_ (Zo×bp)
 |[],F,H=>some (F,H)|i::r,F,H=>match ops[i]?with
  |some o=>match fW E call n ops (some (base,i)) o F H with
   |some (F',H')=>jy E call n ops base r F' H'|none=>none
  |none=>none
def tmpsOf(o:Oper)(ops:Zz):Zv:=
 (o.op.operands.toList.filterMap λ|.tmp t=>some t|_=>none)++
 (match o.guard with|some (g,_)=>((ops[g]?).bind (·.dst)).toList|none=>[])
def wY(ops:Zz)(a b:Oper):Zl:=
 (match a.dst with|some d=> !(tmpsOf b ops).contains d&&b.dst != some d|none=>true)&&
 (match b.dst with|some d=> !(tmpsOf a ops).contains d|none=>true)
def uR(ops:Zz):Zl:=
 (range ops.length).all λj=>(range j).all λi=>
  match ops[i]?,ops[j]?with
  |some a,some b=>C7 b i||wY ops a b|_,_=>false
def zo(ops:Zz):Zl:=
 (range ops.length).all λj=>match ops[j]?with
  |some o=>o.after.all λe=> !kB e||decide (e.on<j)|none=>true
def qA(ops:Zz):Zl:=ops.any λo=>c_ o.op==.alloc
def ji(E:Env)(call:dw)(n:Nat)(ops:Zz)(B:Zl)(F:Zo)(H:bp):a_ (Zo×bp):=if B then if uR ops&&zo ops then jy E call n ops H.length (range ops.length) F (if qA ops then H++replicate ops.length .free else H)else none else lC E call n ops ops F H
def j9(step:Zo->bp->a_ (Out×Zo×bp)):Nat->Zo->bp->a_ (Out×Zo×bp)
 |0,_,_=>none|k+1,F,H=>match step F H with
  |some (.norm,F',H')=>j9 step k F' H'|r=>r
def ku:Out->a_ Code
 |.norm=>none|.ret=>some .ret|.exit id=>some (.exit id)
def exec(E:Env)(call:dw)(lf:Nat)(ro:Zl)(n:Nat):Code->Zo->bp->a_ (Out×Zo×bp)
 |.skip,F,H=>some (.norm,F,H)|.label _,F,H=>some (.norm,F,H)|.region _ ops B,F,H=>(ji E call n ops.toList B F H).map λ(F',H')=>(.norm,F',H')|.seq a b,F,H=>match exec E call lf ro n a F H with
  |some (.norm,F',H')=>exec E call lf ro n b F' H'|r=>r
 |.cond c x y,F,H=>match ev F c with
  |some (.bool t)=>if t then exec E call lf ro n x F H else exec E call lf ro n y F H|_=>none
 |.block id c,F,H=>match exec E call lf ro n c F H with
  |some (.exit D,F',H')=>if D=id then some (.norm,F',H')else some (.exit D,F',H')|r=>r
 |.loop c,F,H=>j9 (exec E call lf ro n c) lf F H|.rangeFunc g ps assign body,F,H=>match ro,ev F g with
  |false,some (.clo f a b)=>
   match call (.fn f) (a++.yld H.length::b) (H++[.loop ⟨.ready,none,F,n,ps.toList,assign,body⟩])with
   |some (_,H')=>match H'[H.length]?with
    |some (.loop r)=>match r.st with
     |.busy=>none|_=>some (r.pend.getD .norm,F,H'.set H.length .dead)
    |_=>none
   |none=>none
  |_,_=>none
 |.exit id,F,H=>some (.exit id,F,H)|.ret,F,H=>some (.ret,F,H)|_,_,_=>none
def gG(E:Env)(F:Zo)(H:bp):aZ ResultVar->a_ Zu
 |[]=>some []|.tmp t::r=>(gG E F H r).map (get F t::·)|.cell a t::r=>match E.tt t,gG E F H r with
  |some d,some vs=>((eo H (get F a) d.size).bind (mk d.agg)).map (·::vs)|_,_=>none
def result:Zu->V
 |[v]=>v|vs=>.tup vs
def wO:Zv->Zu->Zo->Zo
 |t::B,v::vs,F=>wO B vs (set F t v)|_,_,F=>F
def Gl{α:Type}[Inhabited α](lt:α->α->Zl):Nat->Nat->Array α->Array α
 |0,_,d=>d|k+1,i,d=>Gl lt k (i+1) (Sort.insInner lt 0 i d)
def pg(n:Nat)(lt:Fin (n+1)->Fin (n+1)->Zl):Array (Fin (n+1)):=if n<12 then Gl lt n 1 (finRange (n+1)).toArray else Sort.pdq lt (finRange (n+1)).toArray 0 (n+1) (Lib.bitLen (n+1)) true true
def iN(call:dw)(g:Zk)(D B:Zu)(n:Nat)(i j:Fin (n+1)):Z6:=
 match D[i.1]?,D[j.1]?with
 |some a,some b=>match b8 call g (a::b::B) []with
  |some (.int .i64 c)=>some c|_=>none
 |_,_=>none
def oC{n:Nat}(t:Fin (n+1)->Fin (n+1)->Z6)(i j:Fin (n+1)):Zl:=decide ((t i j).getD 0<0)
def zU{n:Nat}(t:Fin (n+1)->Fin (n+1)->Z6):Zl:=
 let l:=finRange (n+1)
 l.all λi=> !oC t i i&&l.all λj=>(t i j).isSome&&l.all λk=>(!(oC t i j&&oC t j k)||oC t i k)&&((oC t i j||oC t j k)|| !oC t i k)
def qo(xs:Zt)(off n:Nat)(l:aZ (Fin (n+1))):Zt:=xs.take off++l.map (λi=>(xs[off+i.1]?).getD [])++xs.drop (off+(n+1))
def pU(keep:Zk->Zl)(call:dw)(args:Zu)(H:bp):a_ (V×bp):=
 match args with
 |[s,c]=>match s with
  |.bJ|.dG=>some (.undef,H)|.hsl id es off len=>match len,c with
   |0,_=>some (.undef,H)|n+1,.clo g [] cb=>match H[id]?with
    |some (.row u w)=>if es=1/\u=1/\off+(n+1)<=w.length/\n<2147483648/\keep g=false then
     match borrows call.lv (H.set id .dead) ((w.drop off).take (n+1)).flatten,borrows call.lv (H.set id .dead) cb with
     |some z,some t=>if zU (iN call g z t n)then some (.undef,H.set id (.row 1 (qo w off n (pg n (oC (iN call g z t n))).toList)))else none|_,_=>none
     else none
    |_=>none
   |_,_=>none
  |_=>none
 |_=>none
def jm(E:Env)(c:dw)(n:Nat):Callee->Zu->bp->a_ (V×bp)
 |.fn f,args,H=>match E.ft f with
  |some fi=>if args.length<=fi.ntmps then
   match exec E c n false fi.ntmps fi.body args H with
   |some (.exit _,_,_)=>none|some (_,F',H')=>(gG E F' H' fi.results).map λvs=>(result vs,H')|none=>none
   else none
  |none=>if E.sort f then pU E.keep c args H else(E.known f args).map λy=>(y,H)
 |.yld id,args,H=>match H[id]?with
  |some (.loop r)=>match r.st with
   |.ready=>if args.length=r.params.length/\r.params.all (·<r.nt)then
    match exec E c n true r.nt r.assign (wO r.params args r.frame) H with
    |some (.norm,D,H2)=>match H2[id]?with
     |some (.loop r2)=>match r2.st with
      |.ready=>match exec E c n true r.nt r.body D (H2.set id (.loop {r2 with st:=.busy}))with
       |some (o,_,B)=>match B[id]?with
        |some (.loop r4)=>some (.bool (o==.norm),B.set id (.loop {r4 with st:=(if o==.norm then .ready else .done),pend:=(if o==.norm then none else some o)}))|_=>none
       |none=>none
      |_=>none
     |_=>none
    |_=>none
    else none
   |_=>none
  |_=>none
def run(E:Env):Nat->dw
 |0=>⟨0,λ_ _ _=>none⟩|n+1=>⟨n+1,jm E (run E n) n⟩
def E4{E:Env}{n:Nat}{x:Callee}{a:Zu}{H:bp}:run E (n+1) x a H=jm E (run E n) n x a H:=rfl
end Go.VE
namespace Go.VE
variable[bV]
@[simp] def get_nil(i:Nat):get [] i=.undef:=by cases i<;>rfl
@[simp] def rF(F:Zo)(i:Nat)(v:V):get (set F i v) i=v:=by
 induction F generalizing i with
 |nil=>induction i with
  |zero=>rfl|succ i t=>simpa[set,get]using t
 |cons x r t=>cases i with
  |zero=>rfl|succ i=>simpa[set,get]using t i
def iW(F:Zo){i j:Nat}(v:V)(h:i≠j):get (set F i v) j=get F j:=by
 induction F generalizing i j with
 |nil=>
  induction i generalizing j with
  |zero=>cases j with
   |zero=>grind|succ j=>simp[set,get]
  |succ i t=>cases j with
   |zero=>simp[set,get]|succ j=>simpa[set,get]using t Za
 |cons x r t=>cases i with
  |zero=>cases j with
   |zero=>grind|succ j=>simp[set,get]
  |succ i=>cases j with
   |zero=>simp[set,get]|succ j=>simpa[set,get]using t Za
def Fh(F:Zo){i j:Nat}(u v:V)(h:i≠j):set (set F i u) j v=set (set F j v) i u:=by
 induction F generalizing i j with
 |nil=>
  induction i generalizing j with
  |zero=>cases j with
   |zero=>grind|succ j=>simp[set]
  |succ i t=>cases j with
   |zero=>simp[set]|succ j=>simpa[set]using t Za
 |cons x r t=>cases i with
  |zero=>cases j with
   |zero=>grind|succ j=>simp[set]
  |succ i=>cases j with
   |zero=>simp[set]|succ j=>simpa[set]using t Za
inductive IC where
 |cells(c:Array Value)|map(es:Array MapEntry)
abbrev ct:=Nat->a_ IC
def IC.at(x:IC)(w:World)(b:Nat):Prop:=
 match x with
 |.cells c=>∃el fr,w.heap[b]?=some (.cells c el fr)|.map es=>∃a,w.heap[b]?=some (.map es a)
def ct.le(I I':ct):Prop:=∀b x,I b=some x->I' b=some x
def ct.le_refl(I:ct):ct.le I I:=λ_ _ h=>h
def ct.le_trans{I J K:ct}(h:ct.le I J)(B:ct.le J K):ct.le I K:=λb x e=>B b x (h b x e)
inductive eE(I:ct):V->Value->Prop
 |bool(b:Bool):eE I (.bool b) (.bool b)|int(k:IntKind)(n:Int):eE I (.int k n) (.int k n)|str(s:ByteArray):eE I (.str s) (.string s)|dG(a:Option Addr):eE I .dG (.slice a 0 0)|bJ:eE I .bJ (.slice none 0 0)|fsl0(es:Nat)(a:Addr)(cap:Nat):eE I (.fsl es []) (.slice (some a) 0 cap)|fsl(es:Nat)(xs:List (List V))(b o cap:Nat)(c:Array Value)(hI:I b=some (.cells c))(hc:xs.length<=cap)
  (hu:∀x∈xs,x.length=es) (ho:∀x∈xs,∀y∈x,V.one y=true) (hb:o+xs.length*es<=c.size)
  (hr:∀(i j:Nat)x y v,xs[i]?=some x->x[j]?=some y->c[o+i*es+j]?=some v->eE I y v):
  eE I (.fsl es xs) (.slice (some ⟨b,o,none⟩) xs.length cap)
 |gP:eE I .gP (.pointer none)|fptr(cs:List V)(b o:Nat)(c:Array Value)(hI:I b=some (.cells c))(hb:o+cs.length<=c.size)
  (hr:∀(j:Nat)y v,cs[j]?=some y->c[o+j]?=some v->eE I y v):eE I (.fptr cs) (.pointer (some ⟨b,o,none⟩))
 |clo(f:FuncId)(x y:List V)(u v:Array Value)(hx:x.length=u.size)(hy:y.length=v.size)
  (h1:∀(j:Nat)a b,x[j]?=some a->u[j]?=some b->eE I a b) (h2:∀(j:Nat)a b,y[j]?=some a->v[j]?=some b->eE I a b):
  eE I (.clo f x y) (.func (.func f) u v)
 |gb:eE I .gb (.map none)|ri:eE I .ri .nilFunc|fmap(kvs:List (V×V))(b:Nat)(es:Array MapEntry)(hI:I b=some (.map es))(hl:kvs.length=es.size)
  (hk:∀(j:Nat)p e,kvs[j]?=some p->es[j]?=some e->eE I p.1 e.key)
  (hv:∀(j:Nat)p e,kvs[j]?=some p->es[j]?=some e->eE I p.2 e.val):eE I (.fmap kvs) (.map (some b))
 |agg(cs:List V)(vs:Array Value)(hl:cs.length=vs.size)(h:∀(j:Nat)a b,cs[j]?=some a->vs[j]?=some b->eE I a b):
  eE I (.agg cs) (.agg vs)
 |tup(cs:List V)(vs:Array Value)(hl:cs.length=vs.size)(h:∀(j:Nat)a b,cs[j]?=some a->vs[j]?=some b->eE I a b):
  eE I (.tup cs) (.tuple vs)
structure Pl where
 b:Nat
 o:Nat
 es:Nat
 sz:Nat
abbrev Mu:=Nat->a_ Pl
inductive bH(I:ct)(μ:Mu):V->Value->Prop
 |c(x:V)(v:Value)(h:eE I x v):bH I μ x v|hsl(id off len cap:Nat)(p:Pl)(hm:μ id=some p)(hc:len<=cap)(hb:p.o+(off+cap)*p.es<=p.sz):
  bH I μ (.hsl id p.es off len) (.slice (some ⟨p.b,p.o+off*p.es,none⟩) len cap)
 |hsl0(id es off:Nat)(a:Addr):bH I μ (.hsl id es off 0) (.slice (some a) 0 0)|hptr(id el off:Nat)(p:Pl)(hm:μ id=some p):bH I μ (.hptr id el off) (.pointer (some ⟨p.b,p.o+el*p.es+off,none⟩))|yld(id:Nat)(p:Pl)(hm:μ id=some p):bH I μ (.yld id) (.func (.yield p.b) #[] #[])|hmap(id:Nat)(p:Pl)(hm:μ id=some p):bH I μ (.hmap id) (.map (some p.b))|clo(f:FuncId)(x y:List V)(u v:Array Value)(hx:x.length=u.size)(hy:y.length=v.size)
  (h1:∀(j:Nat)a b,x[j]?=some a->u[j]?=some b->bH I μ a b) (h2:∀(j:Nat)a b,y[j]?=some a->v[j]?=some b->bH I μ a b):
  bH I μ (.clo f x y) (.func (.func f) u v)
 |agg(cs:List V)(vs:Array Value)(hl:cs.length=vs.size)(h:∀(j:Nat)a b,cs[j]?=some a->vs[j]?=some b->bH I μ a b):
  bH I μ (.agg cs) (.agg vs)
 |tup(cs:List V)(vs:Array Value)(hl:cs.length=vs.size)(h:∀(j:Nat)a b,cs[j]?=some a->vs[j]?=some b->bH I μ a b):
  bH I μ (.tup cs) (.tuple vs)
def Mu.le(μ μ':Mu):Prop:=∀id p,μ id=some p->μ' id=some p
def Mu.le_refl(μ:Mu):Mu.le μ μ:=λ_ _ h=>h
def eE.mono{I I':ct}(h:ct.le I I'){x:V}{v:Zp}(r:eE I x v):eE I' x v:=by induction r with|bool b=>exact .bool b|int k n=>exact .int k n|str s=>exact .str s|dG a=>exact .dG a|bJ=>exact .bJ|fsl0 es a cap=>exact .fsl0 es a cap|fsl es O b o cap c B hc hu Q G _ t=>exact .fsl es O b o cap c (h _ _ B) hc hu Q G t|gP=>exact .gP|fptr C b o c B G _ t=>exact .fptr C b o c (h _ _ B) G t|clo f x y u v S T _ _ w z=>exact .clo f x y u v S T w z|gb=>exact .gb|ri=>exact .ri|fmap J b es B D _ _ w z=>exact .fmap J b es (h _ _ B) D w z|agg C L D _ t=>exact .agg C L D t|tup C L D _ t=>exact .tup C L D t
def bH.mono{I I':ct}{μ μ':Mu}(h:ct.le I I')(B:Mu.le μ μ'){x:V}{v:Zp}(r:bH I μ x v):bH I' μ' x v:=by induction r with|c x v r=>exact .c _ _ (r.mono h)|hsl id off len cap p hp hc J=>exact .hsl id off len cap p (B _ _ hp) hc J|hsl0 id es off a=>exact .hsl0 id es off a|hptr id el off p hp=>exact .hptr id el off p (B _ _ hp)|yld id p hp=>exact .yld id p (B _ _ hp)|hmap id p hp=>exact .hmap id p (B _ _ hp)|clo f x y u v L O _ _ t w=>exact .clo f x y u v L O t w|agg z C D _ G=>exact .agg z C D G|tup z C D _ G=>exact .tup z C D G
def cK(I:ct)(μ:Mu)(xs:Zu)(vs:aZ Zp):Prop:=xs.length=vs.length/\∀(j:Nat)a b,xs[j]?=some a->vs[j]?=some b->bH I μ a b
def cK.nil{I:ct}{μ:Mu}:cK I μ [] []:=⟨rfl,Zc⟩
def cK.cons{I:ct}{μ:Mu}{x:V}{v:Zp}{xs:Zu}{vs:aZ Zp}(h:bH I μ x v)(r:cK I μ xs vs):cK I μ (x::xs) (v::vs):=by refine⟨by simp[r.1],?_⟩;intro j a b c t;cases j with|zero=>grind|succ j=>exact r.2 j a b Zd Zd
def cK.cons_inv{I:ct}{μ:Mu}{x:V}{xs:Zu}{B:aZ Zp}(r:cK I μ (x::xs) B):∃v vs,B=v::vs/\bH I μ x v/\cK I μ xs vs:=by have⟨t,h⟩:=r;cases B with|nil=>simp_all|cons v vs=>refine⟨v,vs,rfl,h 0 x v Zc Zc,Zd,?_⟩;intro j a b c u;exact h (j+1) a b Zd Zd
def cK.uN{I:ct}{μ:Mu}{B:aZ Zp}(r:cK I μ [] B):B=[]:=by have:=r.1;grind
def cK.append{I:ct}{μ:Mu}{xs ys:Zu}{B vs:aZ Zp}(h:cK I μ xs B)(D:cK I μ ys vs):cK I μ (xs++ys) (B++vs):=by induction xs generalizing B with|nil=>rw[cK.uN h];exact D|cons x xs t=>obtain⟨v,B,rfl,a,b⟩:=h.cons_inv;exact .cons a (t b)
def cK.mono{I I':ct}{μ μ':Mu}(h:ct.le I I')(B:Mu.le μ μ'){xs:Zu}{vs:aZ Zp}(r:cK I μ xs vs):cK I' μ' xs vs:=⟨r.1,λj a b c t=>(r.2 j a b c t).mono h B⟩
def cK.take{I:ct}{μ:Mu}{xs:Zu}{vs:aZ Zp}(r:cK I μ xs vs)(n:Nat):cK I μ (xs.take n) (vs.take n):=by refine⟨by simp[r.1],λj a b c t=>?_⟩;rw[getElem?_take]at c t;split at c<;>simp_all;exact r.2 j a b c t
def cK.drop{I:ct}{μ:Mu}{xs:Zu}{vs:aZ Zp}(r:cK I μ xs vs)(n:Nat):cK I μ (xs.drop n) (vs.drop n):=by refine⟨by simp[r.1],λj a b c t=>?_⟩;rw[getElem?_drop]at c t;exact r.2 _ a b c t
def bH.cells{I:ct}{μ:Mu}{x:V}{v:Zp}(r:bH I μ x v):cK I μ x.cells v.cells.toList:=by
 cases r with
 |c x v h=>cases h with|agg w C t h=>exact⟨by simpa[V.cells,Value.cells]using t,λj a b d z=>.c _ _ (h j a b d (by simpa[Value.cells]using z))⟩|bool b=>exact .cons (.c _ _ (.bool b)) .nil|int k n=>exact .cons (.c _ _ (.int k n)) .nil|str s=>exact .cons (.c _ _ (.str s)) .nil|dG a=>exact .cons (.c _ _ (.dG a)) .nil|bJ=>exact .cons (.c _ _ .bJ) .nil|fsl0 es a cap=>exact .cons (.c _ _ (.fsl0 es a cap)) .nil|fsl es Q b o cap c D hc hu S G hr=>exact .cons (.c _ _ (.fsl es Q b o cap c D hc hu S G hr)) .nil|gP=>exact .cons (.c _ _ .gP) .nil|fptr w b o c D G hr=>exact .cons (.c _ _ (.fptr w b o c D G hr)) .nil|clo f x y u v J L d z=>exact .cons (.c _ _ (.clo f x y u v J L d z)) .nil|gb=>exact .cons (.c _ _ .gb) .nil|ri=>exact .cons (.c _ _ .ri) .nil|fmap O b es D t hk hv=>exact .cons (.c _ _ (.fmap O b es D t hk hv)) .nil|tup w C t h=>exact .cons (.c _ _ (.tup w C t h)) .nil
 |hsl id off len cap p B hc G=>exact .cons (.hsl id off len cap p B hc G) .nil|hsl0 id es off a=>exact .cons (.hsl0 id es off a) .nil|hptr id el off p B=>exact .cons (.hptr id el off p B) .nil|yld id p B=>exact .cons (.yld id p B) .nil|hmap id p B=>exact .cons (.hmap id p B) .nil|clo f x y u v J L d z=>exact .cons (.clo f x y u v J L d z) .nil|agg w C t h=>exact⟨by simpa[V.cells,Value.cells]using t,λj a b d z=>h j a b d (by simpa[Value.cells]using z)⟩|tup w C t h=>exact .cons (.tup w C t h) .nil
def bH.ES{I:ct}{μ:Mu}{cs:Zu}{vs:Array Zp}(h:cK I μ cs vs.toList):bH I μ (.agg cs) (.agg vs):=.agg cs vs (by simpa using h.1) λj a b c t=>h.2 j a b c Zd
def bH.OV{I:ct}{μ:Mu}{cs:Zu}{vs:Array Zp}(h:cK I μ cs vs.toList):bH I μ (.tup cs) (.tuple vs):=.tup cs vs (by simpa using h.1) λj a b c t=>h.2 j a b c Zd
section inv
variable{I:ct}{μ:Mu}
def bH.qz{b:Zl}{v:Zp}(h:bH I μ (.bool b) v):v=.bool b:=by cases h with|c _ _ h=>cases h;rfl
def bH.fe{k:Zs}{n:Int}{v:Zp}(h:bH I μ (.int k n) v):v=.int k n:=by cases h with|c _ _ h=>cases h;rfl
def bH.sH{s:Zq}{v:Zp}(h:bH I μ (.str s) v):v=.string s:=by cases h with|c _ _ h=>cases h;rfl
def bH.qJ{v:Zp}(h:bH I μ .dG v):∃a,v=.slice a 0 0:=by cases h with|c _ _ h=>cases h;grind
def bH.lu{es:Nat}{xs:Zt}{v:Zp}(h:bH I μ (.fsl es xs) v):eE I (.fsl es xs) v:=by cases h with|c _ _ h=>omega
def bH.lH{cs:Zu}{v:Zp}(h:bH I μ (.fptr cs) v):∃b o c,v=.pointer (some ⟨b,o,none⟩)/\I b=some (.cells c)/\o+cs.length<=c.size/\
 (∀(j:Nat)y u,cs[j]?=some y->c[o+j]?=some u->eE I y u):=by
 cases h with|c _ _ h=>cases h with|fptr cs b o c t w hr=>grind
def bH.lp{v:Zp}(h:bH I μ .bJ v):v=.slice none 0 0:=by cases h with|c _ _ h=>cases h;rfl
def bH.Nn{v:Zp}(h:bH I μ .gb v):v=.map none:=by cases h with|c _ _ h=>cases h;rfl
def bH.sj{id el off:Nat}{v:Zp}(h:bH I μ (.hptr id el off) v):∃p,μ id=some p/\v=.pointer (some ⟨p.b,p.o+el*p.es+off,none⟩):=by cases h with|c _ _ h=>cases h|hptr _ _ _ p t=>grind
def bH.QJ{id:Nat}{v:Zp}(h:bH I μ (.yld id) v):∃p,μ id=some p/\v=.func (.yield p.b) #[] #[]:=by cases h with|c _ _ h=>cases h|yld _ p t=>grind
def bH.AZ{id:Nat}{v:Zp}(h:bH I μ (.hmap id) v):∃p,μ id=some p/\v=.map (some p.b):=by cases h with|c _ _ h=>cases h|hmap _ p t=>grind
def bH.lB{id es off len:Nat}{v:Zp}(h:bH I μ (.hsl id es off len) v):
 (∃p b,μ id=some p/\p.es=es/\len<=b/\p.o+(off+b)*es<=p.sz/\v=.slice (some ⟨p.b,p.o+off*es,none⟩) len b)\/(len=0/\∃a,v=.slice (some a) 0 0):=by
 cases h with
 |c _ _ h=>cases h|hsl _ _ _ b p t hc u=>simp_all|hsl0 _ _ _ a=>grind
def bH.iu{cs:Zu}{v:Zp}(h:bH I μ (.agg cs) v):∃vs,v=.agg vs/\cK I μ cs vs.toList:=by
 cases h with
 |c _ _ h=>cases h with|agg _ vs t h=>exact⟨vs,rfl,Zd,λj a b d u=>.c _ _ (h j a b d Zd)⟩
 |agg _ vs t h=>exact⟨vs,rfl,Zd,λj a b d u=>h j a b d Zd⟩
def bH.pR{cs:Zu}{v:Zp}(h:bH I μ (.tup cs) v):∃vs,v=.tuple vs/\cK I μ cs vs.toList:=by
 cases h with
 |c _ _ h=>cases h with|tup _ vs t h=>exact⟨vs,rfl,Zd,λj a b d u=>.c _ _ (h j a b d Zd)⟩
 |tup _ vs t h=>exact⟨vs,rfl,Zd,λj a b d u=>h j a b d Zd⟩
def bH.jI{f:Zk}{x y:Zu}{v:Zp}(h:bH I μ (.clo f x y) v):∃a b,v=.func (.func f) a b/\cK I μ x a.toList/\cK I μ y b.toList:=by
 cases h with
 |c _ _ h=>cases h with
  |clo _ _ _ u v w z h1 t=>exact⟨u,v,rfl,⟨Zd,λj a b p q=>.c _ _ (h1 j a b p Zd)⟩,⟨Zd,λj a b p q=>.c _ _ (t j a b p Zd)⟩⟩
 |clo _ _ _ u v w z h1 t=>exact⟨u,v,rfl,⟨Zd,λj a b p q=>h1 j a b p Zd⟩,⟨Zd,λj a b p q=>t j a b p Zd⟩⟩
def bH.of_bool{x:V}{b:Zl}(h:bH I μ x (.bool b)):x=.bool b:=by cases h with|c _ _ h=>cases h;rfl
end inv
def uo(I:ct):Prop:=∀g t,bV.gl g=some t->eE I (.fptr t) (.pointer (some ⟨g,0,none⟩))
def uo.mono{I I':ct}(h:ct.le I I')(r:uo I):uo I':=λg t a=>(r g t a).mono h
structure eC(I:ct)(μ:Mu)(n:Nat)(F:Frame)(tmps:Array Value):Prop where
 size:tmps.size=n
 rel:∀t,bH I μ (get F t) (tmps.getD t undef)
 gl:uo I
def bH.undef(I:ct)(μ:Mu):bH I μ .undef Go.undef:=.c _ _ (.tup [] #[] rfl Zc)
def eC.mono{I I':ct}{μ μ':Mu}{n:Nat}{F:Zo}{tmps:Array Zp}(h:ct.le I I')(B:Mu.le μ μ')(r:eC I μ n F tmps):eC I' μ' n F tmps:=⟨r.1,λt=>(r.2 t).mono h B,r.gl.mono h⟩
def eC.put{I:ct}{μ:Mu}{n:Nat}{F F':Zo}{a:Act}{dst:a_ Nat}{x:V}{v:Zp}(r:eC I μ n F a.tmps)(h:bH I μ x v)
 (b:jD n F dst x=some F'):eC I μ n F' (a.put dst v).tmps:=by
 cases dst with
 |none=>simp[jD]at b;subst b;exact r|some d=>
  simp only[jD]at b;split at b
  .simp at b;subst b;refine⟨by simp[Act.put,r.1],λt=>?_,r.gl⟩
   by_cases u:d=t
   .subst u;have:d<a.tmps.size:=by rw[r.1];omega
    simpa[Act.put,getD_eq_getD_getElem?,Array.getElem?_setIfInBounds,this]using h
   have:=r.2 t;rw[iW _ _ u];simpa[Act.put,getD_eq_getD_getElem?,Array.getElem?_setIfInBounds,u]using this
  grind
def AF{I:ct}:∀(n:Nat)(v:Zp)(x:V),ofValue n v=some x->eE I x v:=by intro n;induction n with|zero=>intro v x h;simp[ofValue]at h|succ n z=>intro v x h;unfold ofValue at h;split at h<;>(try (simp at h;subst h;constructor))<;>(try grind);simp at h;obtain⟨B,u,rfl⟩:=h;have key:∀(l:aZ Zp)(t:Zu),l.mapM (ofValue n)=some t->t.length=l.length/\∀(j:Nat)a b,t[j]?=some a->l[j]?=some b->eE I a b:=(by intro l;induction l with|nil=>grind|cons v l w=>intro t h;simp[ζg]at h;grind);have⟨C,c⟩:=key _ _ u;exact .agg _ _ Zd λj a b d D=>c j a b d Zd
def dx{I:ct}{μ:Mu}{n:Nat}{F:Zo}{a:Act}(r:eC I μ n F a.tmps){o:Zr}{x:V}(h:ev F o=some x):bH I μ x (a.eval o):=by cases o with|tmp t=>simp[ev]at h;subst h;exact r.2 t|const v=>exact .c _ _ (AF 4 _ _ h)|func f=>simp[ev]at h;subst h;exact .c _ _ (.clo f [] [] #[] #[] rfl rfl Zc Zc)|global g=>obtain⟨u,b,rfl⟩:=ζf.1 h;exact .c _ _ (r.gl g u b)
def mP{I:ct}{μ:Mu}{n:Nat}{F:Zo}{a:Act}(r:eC I μ n F a.tmps):∀{l:aZ Zr}{xs:Zu},fA F l=some xs->cK I μ xs (l.map a.eval):=by intro l;induction l with|nil=>intro xs h;simp[fA]at h;subst h;exact .nil|cons o l t=>intro xs h;simp[fA]at h;split at h;(next v w b u=>simp at h;subst h;exact .cons (dx r b) (t u));grind
def Ky{I:ct}{μ:Mu}{n:Nat}{F:Zo}{a:Act}(r:eC I μ n F a.tmps):∀{l:aZ (Nat×Zr)}{xs:aZ (Nat×V)},lE F l=some xs->
 xs.length=l.length/\∀(j:Nat)x y,xs[j]?=some x->l[j]?=some y->x.1=y.1/\bH I μ x.2 (a.eval y.2):=by
 intro l
 induction l with
 |nil=>intro xs h;simp[lE]at h;grind|cons o l w=>
  intro xs h;simp[lE]at h;split at h
  .rename_i v C h1 z;simp at h;subst h;have⟨B,b⟩:=w z;refine⟨by simp[B],λj x y t u=>?_⟩
   cases j with
   |zero=>simp at t u;subst t;subst u;exact⟨rfl,dx r h1⟩|succ j=>grind
  grind
def lP:TypeDesc->TK
 |.bool=>.bool|.int k=>.int k|.string=>.str|.pointer e=>.ptr e|.slice e=>.slice e|.struct fs=>.struct (fs.toList.map λf=>(f.offset,f.type))|.array n e=>.array n e|.map k e=>.map k e|_=>.other
def CK:Zp->Zl
 |.agg _=>true|_=>false
def vj(P:Program)(t:Zm):a_ TD:=
 match P.info? t,P.underlying t with
 |some i,some d=>match i.zero with
  |some z=>match z.cells.toList.mapM (ofValue 4)with
   |some u=>if u.length=i.size/\u.all V.one=true/\CK z=(TD.mk i.size i.bytes u (lP d)).agg then some ⟨i.size,i.bytes,u,lP d⟩else none|none=>none
  |none=>none
 |_,_=>none
def ic(a:Zy):Array Zp:=(a.map (Value.int .i64)).toArray
structure uY(P:Program)(t:TypeId)(n:Nat):Prop where
 eq:∀(w:World)(x y:Operand)(a b:List Int),a.length=n->b.length=n->
  (do eqGuard .eql t x y (.agg (ic a)) (.agg (ic b));binOp .eql t (.agg (ic a)) (.agg (ic b))).run P w=.ok (.bool (a==b)) w
 ne:∀(w:World)(x y:Operand)(a b:List Int),a.length=n->b.length=n->
  (do eqGuard .neq t x y (.agg (ic a)) (.agg (ic b));binOp .neq t (.agg (ic a)) (.agg (ic b))).run P w=.ok (.bool !(a==b)) w
 key:∀(w:World)(a b:List Int),a.length=n->b.length=n->(equal t (.agg (ic a)) (.agg (ic b))).run P w=.ok (a==b) w
 check:∀(w:World)(e:Bool)(a:List Int),a.length=n->(checkKey e 10000 t (.agg (ic a))).run P w=.ok () w
 kind:∃d,P.underlying t=some d/\((∃n e,d=.array n e)\/(∃fs,d=.struct fs))
structure eD(P:Program)(E:Env):Prop where
 tt:∀t d,E.tt t=some d->vj P t=some d
 ft:∀f fi,E.ft f=some fi->∃fn,P.funcs[f]?=some fn/\fn.body=some fi.body/\fn.ntmps=fi.ntmps/\fn.results.toList=fi.results/\(fn.name== "runtime.NumGoroutine")=false
 eqN:∀t n,E.eqN t=some n->uY P t n
structure oV(P:Program)(t:TypeId)(d:TD):Prop where
 info:∃i z,P.info? t=some i/\i.size=d.size/\i.bytes=d.bytes/\i.zero=some z/\(∀I μ,cK I μ d.zero z.cells.toList)/\d.zero.length=d.size/\d.zero.all V.one=true/\CK z=d.agg
 und:∃desc,P.underlying t=some desc/\lP desc=d.kind
def NN{I:ct}{μ:Mu}:∀(l:aZ Zp)(ys:Zu),l.mapM (ofValue 4)=some ys->cK I μ ys l:=by intro l;induction l with|nil=>intro ys h;simp at h;subst h;exact .nil|cons v l t=>intro ys h;simp only[List.mapM_cons,Option.pure_def,Option.bind_eq_bind,ζg,ζa]at h;obtain⟨y,u,w,z,rfl⟩:=h;exact .cons (.c _ _ (AF 4 _ _ u)) (t w z)
def eD.ty{P:Program}{E:Env}(h:eD P E){t:Zm}{d:TD}(B:E.tt t=some d):oV P t d:=by
 have:=h.tt t d B;unfold vj at this;split at this;rename_i i a u w;split at this;rename_i z C;split at this;rename_i G b;split at this;next D=>simp only[ζa]at this;subst this;exact⟨⟨i,z,u,rfl,rfl,C,λI μ=>NN _ _ b,D⟩,⟨a,w,rfl⟩⟩
 simp at this;simp at this;simp at this;simp at this
section runs
variable{P:Program}{w:World}{t:Zm}{d:TD}
def dH{a:TypeDesc}(h:P.underlying t=some a):(underlying t).run P w=.ok a w:=by simp[underlying,h]
def nS{i:TypeInfo}(h:P.info? t=some i):(typeInfo t).run P w=.ok i w:=by simp[typeInfo,h]
def oV.jT(h:oV P t d):(sizeOf t).run P w=.ok d.size w:=by have⟨i,z,u,B,_⟩:=h.info;simp[sizeOf,nS u,B]
def oV.dH(h:oV P t d):∃a,P.underlying t=some a/\lP a=d.kind/\∀w,(underlying t).run P w=.ok a w:=by have⟨a,b,u⟩:=h.und;exact⟨a,b,u,λw=>VE.dH b⟩
def oV.KE(h:oV P t d):(isAgg t).run P w=.ok d.agg w:=by have⟨a,b,u⟩:=h.und;unfold isAgg;simp only[run_bind,VE.dH b,andThen_ok];cases a<;>simp[TD.agg,<-u,lP]
def oV.BR(h:oV P t d):∃z,(∀w,(zeroValue t).run P w=.ok z w)/\(∀I μ,cK I μ d.zero z.cells.toList)/\d.zero.length=d.size/\d.zero.all V.one=true:=by have⟨i,z,u,_,_,B,a,C,b,_⟩:=h.info;exact⟨z,λw=>by simp[zeroValue,nS u,B],a,C,b⟩
end runs
def oV.P5{P:Program}{t:Zm}{d:TD}(h:oV P t d):∃z,(∀w,(zeroValue t).run P w=.ok z w)/\∀I μ x,VE.mk d.agg d.zero=some x->bH I μ x z:=by
 have⟨i,z,G,_,_,J,a,L,b,u⟩:=h.info;refine⟨z,λw=>by simp[zeroValue,nS G,J],λI μ x C=>?_⟩;have B:=a I μ;cases D:d.agg with|true=>rw[D]at C u;cases z<;>simp[CK]at u;simp only[VE.mk,if_true,ζa]at C;subst C;exact .ES (by simpa[Value.cells]using B)|false=>
  rw[D]at C u;simp only[VE.mk,false_eq_true,if_false]at C;split at C
  .rename_i v hv;simp only[ζa]at C;subst C;rw[hv]at B;have e:z.cells.toList=[z]:=(by cases z<;>first|rfl|simp[CK]at u);rw[e]at B;exact B.2 0 _ _ rfl rfl
  simp at C
def fh{E:Env}{t:Zm}{k:TK}(h:E.cN t=some k):∃d,E.tt t=some d/\d.kind=k:=by unfold Env.cN at h;simpa[ζf]using h
def Ct{d:TypeDesc}{k:Zs}(h:lP d=.int k):d=.int k:=by cases d<;>simp_all [lP]
def Ia{d:TypeDesc}(h:lP d=.bool):d=.bool:=by cases d<;>simp_all [lP]
def yW{d:TypeDesc}(h:lP d=.str):d=.string:=by cases d<;>simp_all [lP]
def i_{d:TypeDesc}{e:Zm}(h:lP d=.slice e):d=.slice e:=by cases d<;>simp_all [lP]
def A4{d:TypeDesc}{n:Nat}{e:Zm}(h:lP d=.array n e):d=.array n e:=by cases d<;>simp_all [lP]
def yu{d:TypeDesc}{k e:Zm}(h:lP d=.map k e):d=.map k e:=by cases d<;>simp_all [lP]
def zM{d:TypeDesc}{fs:aZ (Nat×Zm)}(h:lP d=.struct fs):∃B,d=.struct B/\fs=B.toList.map λf=>(f.offset,f.type):=by cases d<;>simp_all [lP]
def Ap{I:ct}{μ:Mu}{cs r:Zu}{vs:aZ Zp}{off n:Nat}(h:cK I μ cs vs)(a:cut cs off n=some r):
 cK I μ r ((vs.drop off).take n)/\r.length=n/\off+n<=cs.length\/(n=0/\r=[]):=by
 unfold cut at a;simp only at a;split at a
 .rename_i t;simp only[ζa]at a;subst a
  by_cases u:n=0
  .right;subst u;simp
  left;refine⟨(h.drop off).take n,t,?_⟩;simp at t;omega
 simp at a
def LF{I:ct}{μ:Mu}{cs:Zu}{x:V}{vs:Array Zp}(h:mk true cs=some x)(r:cK I μ cs vs.toList):bH I μ x (.agg vs):=by simp only[mk,if_true,ζa]at h;subst h;exact .ES r
def mk_one{I:ct}{μ:Mu}{cs:Zu}{x:V}{vs:aZ Zp}(h:mk false cs=some x)(r:cK I μ cs vs):∃v,vs=[v]/\bH I μ x v:=by simp only[mk,false_eq_true,if_false]at h;split at h;simp only[ζa]at h;subst h;obtain⟨v,t,rfl,a,b⟩:=r.cons_inv;exact⟨v,by rw[b.uN],a⟩;simp at h
def G6{P:Program}{w:World}{I:ct}{μ:Mu}{t:Zm}{d:TD}{cs r:Zu}{vs:Array Zp}{x:V}{off:Nat}(D:oV P t d)(h:cK I μ cs vs.toList)
 (b:cut cs off d.size=some r)(B:mk d.agg r=some x):∃u,(part t vs off).run P w=.ok u w/\bH I μ x u:=by
 unfold part;simp only[run_bind,D.KE,andThen_ok]
 cases z:d.agg with
 |true=>
  rw[z]at B;refine⟨.agg (vs.extract off (off+d.size)),by simp[D.jT],?_⟩
  refine LF B ?_;have e:(vs.extract off (off+d.size)).toList=(vs.toList.drop off).take d.size:=Zc
  rw[e];rcases Ap h b with⟨a,_⟩|⟨c,rfl⟩
  .exact a
  rw[c];exact .nil
 |false=>
  rw[z]at B;rcases Ap h b with⟨a,J,_⟩|⟨c,rfl⟩
  .have⟨v,hv,C⟩:=mk_one B a;refine⟨v,?_,C⟩;have G:d.size=1:=by
    have:=a.1;rw[hv]at this;simp at this;omega
   rw[G]at hv;have:vs[off]?=some v:=by have:=congrArg (·[0]?) hv;simpa[getElem?_take,getElem?_drop]using this
   simp[this]
  simp[mk]at B
def JW{I:ct}{μ:Mu}:∀(az:Zu)(a:Zy)(B:aZ Zp),g_ az=some a->cK I μ az B->B=a.map (Value.int .i64)/\a.length=az.length:=by intro az;induction az with|nil=>intro a B h t;simp only[g_,ζa]at h;subst h;rw[t.uN];simp|cons x az u=>intro a B h t;obtain⟨v,B,rfl,c,d⟩:=t.cons_inv;have w:∃y,x=.int .i64 y:=(by cases x with|int k y=>cases k<;>simp[g_]at h⊢|_=>simp[g_]at h);obtain⟨y,rfl⟩:=w;simp only[g_,ζf]at h;obtain⟨b,z,rfl⟩:=h;have⟨g1,g2⟩:=u _ _ z d;have:=c.fe;subst this;exact⟨by simp[g1],by simp[g2]⟩
def pM{I:ct}{μ:Mu}{az:Zu}{a:Zy}{B:Array Zp}(h:g_ az=some a)(D:cK I μ az B.toList):B=ic a/\a.length=az.length:=by have⟨b,t⟩:=JW _ _ _ h D;refine⟨?_,t⟩;have:=congrArg List.toArray b;simpa[ic]using this
def vX{az B:Zu}{r:Zl}(h:kf az B=some r):∃a b,g_ az=some a/\g_ B=some b/\a.length=b.length/\r=(a==b):=by
 unfold kf at h;split at h;rename_i a b c t;split at h;next u=>simp only[ζa]at h;exact⟨a,b,c,t,u,h.symm⟩
 simp at h;simp at h
section
variable{P:Program}{E:Env}{I:ct}{μ:Mu}{n:Nat}{F:Zo}{a:Act}{w:World}
def K8(f:BinOp)(t:Zm)(p q:Zr)(k B:Zs)(m m':Int):(eqGuard f t p q (.int k m) (.int B m')).run P w=.ok () w:=by unfold eqGuard;cases f<;>simp
def Mc(f:BinOp)(t:Zm)(p q:Zr)(s B:Zq):(eqGuard f t p q (.string s) (.string B)).run P w=.ok () w:=by unfold eqGuard;cases f<;>simp
def Jo(f:BinOp)(t:Zm)(p q:Zr)(s B:Zl):(eqGuard f t p q (.bool s) (.bool B)).run P w=.ok () w:=by unfold eqGuard;cases f<;>simp
def FY(d:Nat){t:Zm}(x y:Zl)(h:P.underlying t=some .bool):(equalIn (d+1) t (.bool x) (.bool y)).run P w=.ok (x==y) w:=by simp only[equalIn,run_bind,dH h,andThen_ok,run_pure]
def BX{t:Zm}(x y:Zl)(h:P.underlying t=some .bool):(equal t (.bool x) (.bool y)).run P w=.ok (x==y) w:=FY 9999 x y h
def AO(d:Nat){t:Zm}{k:Zs}(x y:Int)(h:P.underlying t=some (.int k)):(equalIn (d+1) t (.int k x) (.int k y)).run P w=.ok (x==y) w:=by simp only[equalIn,run_bind,dH h,andThen_ok,run_pure,if_true]
def EJ(d:Nat){t e:Zm}(B:a_ Addr)(l c:Nat)(h:P.underlying t=some (.slice e)):(equalIn (d+1) t (.slice B l c) (.slice none 0 0)).run P w=.ok B.isNone w:=by cases B<;>simp only[equalIn,run_bind,dH h,andThen_ok,run_pure]<;>rfl
def H_(d:Nat){t e:Zm}(B:a_ Addr)(h:P.underlying t=some (.pointer e)):(equalIn (d+1) t (.pointer B) (.pointer none)).run P w=.ok B.isNone w:=by cases B<;>simp only[equalIn,run_bind,dH h,andThen_ok,run_pure]<;>rfl
def H9(d:Nat){t e D:Zm}(B:a_ Nat)(h:P.underlying t=some (.map e D)):(equalIn (d+1) t (.map B) (.map none)).run P w=.ok B.isNone w:=by cases B<;>simp only[equalIn,run_bind,dH h,andThen_ok,run_pure]<;>rfl
def En(U:eD P E){t:Zm}{k:TK}{x y:V}{u v:Zp}{b:Zl}(m:E.cN t=some k)(h:tE k x y=some b)(B:bH I μ x u)(D:bH I μ y v):
 (equal t u v).run P w=.ok b w/\(∀op p q,(eqGuard op t p q u v).run P w=.ok () w)/\binOp .eql t u v=(do pure (.bool (<-equal t u v)))/\binOp .neq t u v=(do pure (.bool (!(<-equal t u v)))):=by
 have⟨d,T,O⟩:=fh m;have⟨a,f,C,_⟩:=(U.ty T).dH;rw[O]at C;have g:∀(e:Zm)(z:a_ Addr)(l c:Nat),P.underlying t=some (.slice e)->b=z.isNone->
  (equal t (.slice z l c) (.slice none 0 0)).run P w=.ok b w/\(∀op p q,(eqGuard op t p q (.slice z l c) (.slice none 0 0)).run P w=.ok () w)/\binOp .eql t (.slice z l c) (.slice none 0 0)=(do pure (.bool (<-equal t (.slice z l c) (.slice none 0 0))))/\binOp .neq t (.slice z l c) (.slice none 0 0)=(do pure (.bool (!(<-equal t (.slice z l c) (.slice none 0 0))))):=by
  intro e z l c i L;refine⟨?_,λop p q=>by unfold eqGuard;cases op<;>simp,rfl,rfl⟩
  rw[L];exact EJ 9999 z l c i
 have G:∀(e:Zm)(z:a_ Addr),P.underlying t=some (.pointer e)->b=z.isNone->
  (equal t (.pointer z) (.pointer none)).run P w=.ok b w/\(∀op p q,(eqGuard op t p q (.pointer z) (.pointer none)).run P w=.ok () w)/\binOp .eql t (.pointer z) (.pointer none)=(do pure (.bool (<-equal t (.pointer z) (.pointer none))))/\binOp .neq t (.pointer z) (.pointer none)=(do pure (.bool (!(<-equal t (.pointer z) (.pointer none))))):=by
  intro e z i L;refine⟨?_,λop p q=>by unfold eqGuard;cases op<;>simp,rfl,rfl⟩
  rw[L];exact H_ 9999 z i
 have J:∀(e S:Zm)(z:a_ Nat),P.underlying t=some (.map e S)->b=z.isNone->
  (equal t (.map z) (.map none)).run P w=.ok b w/\(∀op p q,(eqGuard op t p q (.map z) (.map none)).run P w=.ok () w)/\binOp .eql t (.map z) (.map none)=(do pure (.bool (<-equal t (.map z) (.map none))))/\binOp .neq t (.map z) (.map none)=(do pure (.bool (!(<-equal t (.map z) (.map none))))):=by
  intro e S z i L;refine⟨?_,λop p q=>by unfold eqGuard;cases op<;>simp,rfl,rfl⟩
  rw[L];exact H9 9999 z i
 unfold tE at h;split at h<;>(try (simp only[ζa]at h;subst h))
 .have:=i_ C;subst this;rw[B.lp,D.lp];exact g _ none 0 0 f rfl
 .have:=i_ C;subst this;rw[D.lp];have W:=B.lu
  cases W with
  |fsl0 _ z j=>exact g _ _ _ _ f rfl|fsl=>exact g _ _ _ _ f rfl
 .have:=i_ C;subst this;rw[D.lp];rcases B.lB with⟨p,j,_,_,_,_,Q⟩|⟨_,z,Q⟩
  .rw[Q];exact g _ _ _ _ f rfl
  rw[Q];exact g _ _ _ _ f rfl
 .obtain⟨e,rfl⟩:∃e,a=.pointer e:=by cases a<;>simp_all [lP]
  cases B with|c _ _ B=>cases B;cases D with|c _ _ D=>cases D;exact G _ none f rfl
 .obtain⟨e,rfl⟩:∃e,a=.pointer e:=by cases a<;>simp_all [lP]
  cases D with|c _ _ D=>cases D;cases B with|c _ _ B=>cases B;exact G _ _ f rfl
 .obtain⟨e,rfl⟩:∃e,a=.pointer e:=by cases a<;>simp_all [lP]
  cases D with
  |c _ _ D=>
   cases D
   cases B with
   |c _ _ B=>cases B|hptr=>exact G _ _ f rfl
 .have:=yu C;subst this;cases B with|c _ _ B=>cases B;cases D with|c _ _ D=>cases D;exact J _ _ none f rfl
 .have:=yu C;subst this;cases D with|c _ _ D=>cases D;cases B with|c _ _ B=>cases B;exact J _ _ _ f rfl
 .have:=yu C;subst this
  cases D with
  |c _ _ D=>
   cases D
   cases B with
   |c _ _ B=>cases B|hmap=>exact J _ _ _ f rfl
 cases h
def PS(J:eD P E){op:BinOp}{t:Zm}{x y z:V}{u v:Zp}(p q:Zr)(h:Gm E op t x y=some z)(O:bH I μ x u)(U:bH I μ y v):
 ∃r,(do eqGuard op t p q u v;binOp op t u v).run P w=.ok r w/\bH I μ z r:=by
 unfold Gm at h;split at h
 .
  rename_i k m i m';rw[O.fe,U.fe];simp only[run_bind,K8,andThen_ok];split at h
  .
   split at h
   .simp at h
   rename_i B;simp only[ζa]at h;subst h;exact⟨_,by simp[binOp,Op.shift,B],.c _ _ (.int _ _)⟩
  .split at h
   .simp at h
   rename_i B;simp only[ζa]at h;subst h;exact⟨_,by simp[binOp,Op.shift,B],.c _ _ (.int _ _)⟩
  split at h
  .rename_i T W c;subst c
   cases op with
   |shl=>exact absurd rfl T|shr=>exact absurd rfl W|add=>simp only[ζa]at h;subst h;exact⟨_,by simp[binOp,intArith],.c _ _ (.int _ _)⟩|sub=>simp only[ζa]at h;subst h;exact⟨_,by simp[binOp,intArith],.c _ _ (.int _ _)⟩|mul=>simp only[ζa]at h;subst h;exact⟨_,by simp[binOp,intArith],.c _ _ (.int _ _)⟩|quo=>
    simp only at h;split at h
    .simp at h
    rename_i B;simp only[ζa]at h;subst h;exact⟨_,by simp[binOp,Op.intDiv,B],.c _ _ (.int _ _)⟩
   |rem=>
    simp only at h;split at h
    .simp at h
    rename_i B;simp only[ζa]at h;subst h;exact⟨_,by simp[binOp,Op.intDiv,B],.c _ _ (.int _ _)⟩
   |and=>simp only[ζa]at h;subst h;exact⟨_,by simp[binOp,intBits],.c _ _ (.int _ _)⟩|or=>simp only[ζa]at h;subst h;exact⟨_,by simp[binOp,intBits],.c _ _ (.int _ _)⟩|xor=>simp only[ζa]at h;subst h;exact⟨_,by simp[binOp,intBits],.c _ _ (.int _ _)⟩|andNot=>simp only[ζa]at h;subst h;exact⟨_,by simp[binOp,intBits],.c _ _ (.int _ _)⟩|eql=>simp only[mT,map_some,ζa]at h;subst h;exact⟨_,by simp[binOp,intCmp],.c _ _ (.bool _)⟩|neq=>simp only[mT,map_some,ζa]at h;subst h;exact⟨_,by simp[binOp,intCmp],.c _ _ (.bool _)⟩|lss=>simp only[mT,map_some,ζa]at h;subst h;exact⟨_,by simp[binOp,intCmp],.c _ _ (.bool _)⟩|leq=>simp only[mT,map_some,ζa]at h;subst h;exact⟨_,by simp[binOp,intCmp],.c _ _ (.bool _)⟩|gtr=>simp only[mT,map_some,ζa]at h;subst h;exact⟨_,by simp[binOp,intCmp],.c _ _ (.bool _)⟩|geq=>simp only[mT,map_some,ζa]at h;subst h;exact⟨_,by simp[binOp,intCmp],.c _ _ (.bool _)⟩
  simp at h
 .
  rename_i s j;rw[O.sH,U.sH];simp only[run_bind,Mc,andThen_ok];split at h
  .split at h
   .simp at h
   rename_i B;simp only[ζa]at h;subst h;exact⟨_,by simp only[binOp,Op.stringOp];rw[if_neg B];rfl,.c _ _ (.str _)⟩
  all_goals first
   |(simp only[ζa]at h;subst h;exact⟨_,by simp[binOp,Op.stringOp],.c _ _ (.bool _)⟩)|simp at h
 .
  rename_i b l;rw[O.qz,U.qz];simp only[run_bind,Jo,andThen_ok];split at h
  next c=>have⟨d,X,D⟩:=fh c;have⟨e,a,C,_⟩:=(J.ty X).dH;rw[D]at C;have:=Ia C;subst this;simp only[ζa]at h;subst h;exact⟨_,by simp only[binOp,run_bind,BX _ _ a,andThen_ok,run_pure],.c _ _ (.bool _)⟩
  next c=>have⟨d,X,D⟩:=fh c;have⟨e,a,C,_⟩:=(J.ty X).dH;rw[D]at C;have:=Ia C;subst this;simp only[ζa]at h;subst h;exact⟨_,by simp only[binOp,run_bind,BX _ _ a,andThen_ok,run_pure],.c _ _ (.bool _)⟩
  simp at h
 .
  rename_i az n;obtain⟨o,rfl,L⟩:=O.iu;obtain⟨A,rfl,Q⟩:=U.iu;split at h
  .rename_i m G;split at h
   next g=>simp only[ζf]at h;obtain⟨r,f,rfl⟩:=h;obtain⟨Y,Z,a,C,S,rfl⟩:=vX f;obtain⟨rfl,e1⟩:=pM a L;obtain⟨rfl,e2⟩:=pM C Q;exact⟨_,(J.eqN _ _ G).eq w p q Y Z Za Za,.c _ _ (.bool _)⟩
   simp at h
  .rename_i m G;split at h
   next g=>simp only[ζf]at h;obtain⟨r,f,rfl⟩:=h;obtain⟨Y,Z,a,C,S,rfl⟩:=vX f;obtain⟨rfl,e1⟩:=pM a L;obtain⟨rfl,e2⟩:=pM C Q;exact⟨_,(J.eqN _ _ G).ne w p q Y Z Za Za,.c _ _ (.bool _)⟩
   simp at h
  simp at h

 split at h
 next k c=>simp only[ζf]at h;obtain⟨b,B,rfl⟩:=h;have⟨a,C,S,_⟩:=En (w:=w) J c B O U;exact⟨.bool b,by rw[run_bind,C,S];simp[andThen,a],.c _ _ (.bool _)⟩
 next k c=>simp only[ζf]at h;obtain⟨b,B,rfl⟩:=h;have⟨a,C,_,S⟩:=En (w:=w) J c B O U;exact⟨.bool !b,by rw[run_bind,C,S];simp[andThen,a],.c _ _ (.bool _)⟩
 simp at h
def HM(off:Nat):∀(l:aZ Zp)(k:Nat)(cells:Array Zp),off+k+l.length<=cells.size->
 ((l.zipIdx k).foldl (λcs(p:Zp×Nat)=>cs.setIfInBounds (off+p.2) p.1) cells).toList=cells.toList.take (off+k)++l++cells.toList.drop (off+k+l.length):=by
 intro l
 induction l with
 |nil=>simp_all|cons v l t=>
  intro k cells h;simp at h;simp;rw[t (k+1) _ (by simp;omega)]
  simp;rw[show off+(k+1)=off+k+1 from Za,List.take_succ_eq_append_getElem Zd]
  rw[List.take_set_of_le Za,List.getElem_set_self]
  rw[List.drop_set_of_lt Za]
  grind
def J2{cs xs:Zu}{cells:Array Zp}{v:Zp}{off:Nat}(h:cK I μ cs cells.toList)(B:cK I μ xs v.cells.toList)(D:off+xs.length<=cs.length):
 cK I μ (cs.take off++xs++cs.drop (off+xs.length)) (v.cells.zipIdx.foldl (λcs(p:Zp×Nat)=>cs.setIfInBounds (off+p.2) p.1) cells).toList:=by
 have e:v.cells.zipIdx.foldl (λcs p=>cs.setIfInBounds (off+p.2) p.1) cells=(v.cells.toList.zipIdx 0).foldl (λcs p=>cs.setIfInBounds (off+p.2) p.1) cells:=by rw[<-Array.foldl_toList];simp
 have a:=h.1;have t:=B.1;rw[e,HM off _ 0 _ Zd]
 rw[<-t];exact((h.take off).append B).append (h.drop _)
def Bn{place place':Nat->a_ (Nat×Nat)}(e:∀i p,place i=some p->place' i=some p):∀(vs:aZ (Nat×V))(B:aZ (Nat×Zp))(cs r:Zu)(cells:Array Zp),
 vs.length=B.length->(∀(j:Nat)x y,vs[j]?=some x->B[j]?=some y->x.1=y.1/\bH I μ x.2 y.2)->cK I μ cs cells.toList->tf place cs vs=some r->
 ∃D,fill place' cells B=some D/\cK I μ r D.toList:=by
 intro vs
 induction vs with
 |nil=>
  intro B cs r cells J _ c u
  cases B with
  |nil=>simp[tf]at u;subst u;exact⟨cells,rfl,c⟩|cons _ _=>simp_all
 |cons x vs O=>
  intro B cs r cells J d c u
  cases B with
  |nil=>simp_all|cons y B=>
   have⟨i,x⟩:=x;have⟨Q,y⟩:=y;have⟨z,w⟩:=d 0 (i,x) (Q,y) rfl rfl;subst z;simp only at w;simp only[tf]at u;split at u
   .simp at u
   rename_i off size C;split at u
   .simp at u
   rename_i S;have t:=w.cells;have L:x.cells.length=y.cells.size:=by simpa using t.1
   have T:cs.length=cells.size:=by simpa using c.1
   have G:¬(decide (y.cells.size≠size)||decide (off+y.cells.size>cells.size))=true:=by grind
   simp at S;have⟨D,f,U⟩:=O B _ r _ (by simpa using J) (λj a b p q=>d (j+1) a b (by simpa using p) (by simpa using q)) (J2 c t Za) u
   refine⟨D,?_,U⟩;simp only[fill,e _ _ C];rw[if_neg G];omega
def La(ps:Array (Nat×Zr))(f:Zr->Zp):(ps.map λ(i,x)=>(i,f x)).toList=ps.toList.map λp=>(p.1,f p.2):=Zc
def DT{ps:Array (Nat×Zr)}{vs:aZ (Nat×V)}(r:eC I μ n F a.tmps)(h:lE F ps.toList=some vs):
 vs.length=(ps.map λ(i,x)=>(i,a.eval x)).toList.length/\∀(j:Nat)x y,vs[j]?=some x->(ps.map λ(i,x)=>(i,a.eval x)).toList[j]?=some y->x.1=y.1/\bH I μ x.2 y.2:=by
 have⟨t,b⟩:=Ky r h;rw[La]
 grind
def LA(D:eD P E):∀(B:aZ Field)(pl:aZ (Nat×Nat)),mm E (B.map λf=>(f.offset,f.type))=some pl->
 ((B.mapM λf=>do pure (f.offset,<-sizeOf f.type)):Sem (aZ (Nat×Nat))).run P w=.ok pl w:=by
 intro B
 induction B with
 |nil=>intro pl h;simp[mm]at h;simp_all|cons f B u=>
  intro pl h;simp[mm]at h;split at h
  next d C z t=>simp at h;subst h;have:=u _ t;simp only[List.mapM_cons,run_bind,(D.ty z).jT,andThen_ok,run_pure,this]
  grind
def Ji(D:eD P E)(B:Array Field)(pl:aZ (Nat×Nat))(h:mm E (B.toList.map λf=>(f.offset,f.type))=some pl):
 ((B.mapM λf=>do pure (f.offset,<-sizeOf f.type)):Sem (Array (Nat×Nat))).run P w=.ok pl.toArray w:=by
 rw[Array.mapM_eq_mapM_toList];simp only[Sem.run_map,LA D _ _ h,andThen_ok]
def M6(B:eD P E)(r:eC I μ n F a.tmps){t:Zm}{ps:Array (Nat×Zr)}{x:V}(h:bP E F (.build t ps)=some x):
 ∃v,(Instr.build t (ps.map λ(i,x)=>(i,a.eval x))).run P w=.ok v w/\bH I μ x v:=by
 simp[bP]at h;split at h
 .rename_i d S T D;have⟨U,b⟩:=DT r D;have⟨z,X,u,_⟩:=(B.ty T).BR;have⟨c,f,C,Y⟩:=(B.ty T).dH;unfold Instr.build;simp[run_bind,X,Y,andThen_ok];split at h
  .rename_i fs hk;rw[hk]at C;obtain⟨Z,rfl,rfl⟩:=zM C;split at h
   .rename_i pl G;simp at h;obtain⟨J,L,rfl⟩:=h;have⟨O,g1,g2⟩:=Bn (place':=λi=>pl.toArray[i]?) Zd S _ d.zero J z.cells U b (u I μ) L
    refine⟨.agg O,?_,.ES g2⟩;have:=Ji (w:=w) B Z pl G;simp_all
   grind
  .rename_i e hk;rw[hk]at C;have:=A4 C;subst this;split at h
   .rename_i W Q;simp at h;obtain⟨J,L,rfl⟩:=h;have⟨O,g1,g2⟩:=Bn (place':=λi=>some (i*W.size,W.size)) Zd S _ d.zero J z.cells U b (u I μ) L
    refine⟨.agg O,?_,.ES g2⟩;simp[run_bind,(B.ty Q).jT,andThen_ok];simp_all
   grind
  grind
 grind
def oF(b o k:Nat):(⟨b,o,none⟩:Addr).add k=⟨b,o+k,none⟩:=by unfold Addr.add;grind
def DO{cs:Zu}{b o:Nat}{c:Array Zp}(k:Nat)(B:I b=some (.cells c))(D:o+cs.length<=c.size)
 (a:∀(j:Nat)y u,cs[j]?=some y->c[o+j]?=some u->eE I y u)(d:k<=cs.length):bH I μ (.fptr (cs.drop k)) (.pointer (some ⟨b,o+k,none⟩)):=
 .c _ _ (.fptr _ b (o+k) c B (by simp;omega) λj y u e t=>a (k+j) y u Zd Zd)
def JH(O:eD P E)(r:eC I μ n F a.tmps){s:Zm}{o:Zr}{f:Nat}{x:V}(h:bP E F (.fieldAddr s o f)=some x):
 ∃v,(fieldAt s (a.eval o) f).run P w=.ok v w/\bH I μ x v:=by
 simp[bP]at h;split at h
 .rename_i fs p hk hp;have⟨d,S,C⟩:=fh hk;have⟨i,l,L,T⟩:=(O.ty S).dH;rw[C]at L;obtain⟨U,rfl,rfl⟩:=zM L;have j:=dx r hp;split at h
  .rename_i off t Q;simp at Q;obtain⟨g,W,rfl,rfl⟩:=Q;have z:U[f]?=some g:=by grind
   split at h
   .rename_i dt D;split at h
    .simp_all
    rename_i G;have B:∀(b u:Nat),(fieldAt s (.pointer (some ⟨b,u,none⟩)) f).run P w=.ok (.pointer (some ⟨b,u+g.offset,none⟩)) w:=by intro b u;unfold fieldAt;simp[run_bind,T,andThen_ok,z,sureAddr,run_pure,fieldPlace,(O.ty D).jT,if_neg G,oF]
    split at h
    .split at h
     next J=>simp at h;subst h;have⟨b,u,c,e,X,Y,k⟩:=j.lH;rw[e];exact⟨_,B b u,DO _ X Y k J⟩
     grind
    .rename_i id el u;simp at h;have⟨p,Z,e⟩:=j.sj;rw[e];have:=bH.hptr (I:=I) id el (u+g.offset) p Z
     grind
    grind
   grind
  grind
 grind
def NK(G:eD P E)(r:eC I μ n F a.tmps){s:Zm}{o:Zr}{f:Nat}{x:V}(h:bP E F (.field s o f)=some x):
 ∃v,(Instr.field s (a.eval o) f).run P w=.ok v w/\bH I μ x v:=by
 simp[bP]at h;split at h
 .rename_i fs X hk hp;have⟨d,O,B⟩:=fh hk;have⟨b,j,J,Q⟩:=(G.ty O).dH;rw[B]at J;obtain⟨S,rfl,rfl⟩:=zM J;have⟨Y,e,C⟩:=(dx r hp).iu;rw[e];split at h
  .rename_i off t L;simp at L;obtain⟨c,T,rfl,rfl⟩:=L;have z:S[f]?=some c:=by grind
   split at h
   next Z D=>simp[ζg]at h;have⟨q,g,U⟩:=h;have⟨u,i,W⟩:=G6 (w:=w) (G.ty D) C g U;refine⟨u,?_,W⟩;unfold Instr.field;simp[run_bind,Q,andThen_ok,z,asAgg,run_pure,i]
   grind
  grind
 grind
def kY(k:Zs)(m:Int):(asIntOf (.int k m)).run P w=.ok (k,m) w:=rfl
def Kk(U:eD P E)(r:eC I μ n F a.tmps){t:Zm}{o i:Zr}{x:V}(h:bP E F (.indexAddr t o i)=some x):
 ∃v,(indexAt t (a.eval o) (a.eval i)).run P w=.ok v w/\bH I μ x v:=by
 simp[bP]at h;split at h
 .
  rename_i e s k m K X Y;have⟨d,Z,G⟩:=fh K;have⟨l,h1,Q,M⟩:=(U.ty Z).dH;rw[G]at Q;have:=i_ Q;subst this;have A:=dx r X;have J:=(dx r Y).fe;rw[J];split at h
  .rename_i T L;split at h
   .simp_all
   have B:∀(b z len f:Nat),m.toNat<len->(indexAt t (.slice (some ⟨b,z,none⟩) len f) (.int k m)).run P w=.ok (.pointer (some ⟨b,z+m.toNat*T.size,none⟩)) w:=by intro b z len f C;unfold indexAt;have H:0<=m/\m<(len):=Za;simp[run_bind,kY,M,andThen_ok,run_pure,(U.ty L).jT,run_ite,if_pos H,oF]
   split at h
   .rename_i es xs;split at h
    .rename_i D;simp only[ζf]at h;obtain⟨W,O,rfl⟩:=h;have C:m.toNat<xs.length:=(ζe.1 O).1;have hf:=A.lu;generalize hg:a.eval o=g at hf
     cases hf with
     |fsl0=>simp_all|fsl _ _ b z f c hI H hu ho R hr=>refine⟨_,B b z _ _ C,?_⟩;have S:W∈xs:=mem_of_getElem? O;have ad:=hu W S;have aa:(m.toNat+1)*es<=xs.length*es:=mul_le_mul_right _ C;rw[add_mul]at aa;rw[<-D];exact .c _ _ (.fptr W b _ c hI Za λj y u p q=>hr m.toNat j W y u O p q)
    grind
   .rename_i id es off len;split at h
    .rename_i D;simp only[ζa]at h;have⟨D,C⟩:=D;rcases A.lB with⟨p,f,N,he,H,R,e⟩|⟨h0,_⟩
     .rw[e];have:=bH.hptr (I:=I) (μ:=μ) id (off+m.toNat) 0 p N
      grind
     omega
    grind
   grind
  grind
 .
  rename_i len e p k m K X Y;have⟨d,Z,G⟩:=fh K;have⟨l,h1,Q,M⟩:=(U.ty Z).dH;rw[G]at Q;have:=A4 Q;subst this;have A:=dx r X;have J:=(dx r Y).fe;rw[J];split at h
  .rename_i T L;split at h
   .rename_i H;have B:∀(b z:Nat),(indexAt t (.pointer (some ⟨b,z,none⟩)) (.int k m)).run P w=.ok (.pointer (some ⟨b,z+m.toNat*T.size,none⟩)) w:=by
     intro b z;unfold indexAt;simp only[run_bind,kY,M,andThen_ok,run_pure,sureAddr,(U.ty L).jT,run_ite,if_pos H,oF]
    split at h
    .split at h
     next ab=>simp only[ζa]at h;subst h;have⟨b,z,c,e,hI,R,hr⟩:=A.lH;rw[e];exact⟨_,B b z,DO _ hI R hr ab⟩
     grind
    .rename_i id el z;simp only[ζa]at h;have⟨p,N,e⟩:=A.sj;rw[e];have:=bH.hptr (I:=I) (μ:=μ) id el (z+m.toNat*T.size) p N
     grind
    grind
   grind
  grind
 grind
def Of(D:eD P E)(r:eC I μ n F a.tmps){t:Zm}{o i:Zr}{x:V}(h:bP E F (.index t o i)=some x):
 ∃v,(Instr.index t (a.eval o) (a.eval i)).run P w=.ok v w/\bH I μ x v:=by
 simp[bP]at h;split at h
 .rename_i s k m hk G J;have⟨d,L,z⟩:=fh hk;have⟨c,g,B,O⟩:=(D.ty L).dH;rw[z]at B;have:=yW B;subst this;rw[(dx r J).fe,(dx r G).sH];split at h
  next f=>simp at h;obtain⟨b,S,rfl⟩:=h;refine⟨.int .u8 b.toNat,?_,.c _ _ (.int _ _)⟩;unfold Instr.index;simp[run_bind,kY,O,andThen_ok,if_pos f,S,run_pure]
  grind
 .rename_i len e W k m hk G J;have⟨d,L,z⟩:=fh hk;have⟨c,g,B,O⟩:=(D.ty L).dH;rw[z]at B;have:=A4 B;subst this;have⟨X,ev,Q⟩:=(dx r G).iu;rw[(dx r J).fe,ev];split at h
  .rename_i Y C;split at h
   next f=>simp[ζg]at h;have⟨q,j,T⟩:=h;have⟨u,l,U⟩:=G6 (w:=w) (D.ty C) Q j T;refine⟨u,?_,U⟩;unfold Instr.index;simp[run_bind,kY,O,andThen_ok,run_ite,if_pos f,(D.ty C).jT,l]
   grind
  grind
 grind
def JA(B:eD P E)(r:eC I μ n F a.tmps){s d:Zm}{o:Zr}{x:V}(h:bP E F (.convert s d o)=some x):
 ∃v,(convert s d (a.eval o)).run P w=.ok v w/\bH I μ x v:=by
 simp[bP]at h;split at h
 .rename_i G J k m u z C;split at h
  next L b=>simp at h;subst h;have⟨c,g1,_,g3⟩:=(B.ty u).dH;have⟨e,f,t,D⟩:=(B.ty z).dH;rw[b]at t;have:=Ct t;subst this;rw[(dx r C).fe];refine⟨_,?_,.c _ _ (.int _ _)⟩;unfold convert;simp[run_bind,g3,D,andThen_ok,Conv.intToInt,run_pure]
  grind
 grind
def oH(r:eC I μ n F a.tmps){o:a_ Zr}{m:Z6}(h:jt F o=some m):
 (m=none/\o.map a.eval=none)\/∃k z,m=some z/\o.map a.eval=some (.int k z):=by
 cases o with
 |none=>simp[jt]at h;grind|some x=>
  simp[jt]at h;split at h
  next k z t=>simp at h;subst h;exact .inr ⟨k,z,rfl,by simp[(dx r t).fe]⟩
  grind
def lQ(k:Zs)(z:Int)(y:Nat)(code:BoundsCode)(a:0<=z)(b:z<=y):(sliceBound (.int k z) y code).run P w=.ok z.toNat w:=by unfold sliceBound;simp[run_bind,kY,andThen_ok,if_pos (And.intro a b),run_pure]
def lq(r:eC I μ n F a.tmps){J O:a_ Zr}{l h:Z6}(e1:jt F J=some l)(e2:jt F O=some h)(D:Zl)(len b L H:Nat)(c:len<=b)
 (B:dO len l h=some (L,H)):(sliceBounds D len b (J.map a.eval) (O.map a.eval) none).run P w=.ok (L,H,b) w/\L<=H/\H<=len:=by
 unfold dO at B;simp only at B;split at B
 .rename_i t;obtain⟨rfl,rfl⟩:=B;have⟨C,W,G,X⟩:=t;refine⟨?_,Za,Za⟩
  unfold sliceBounds;rcases oH r e1 with⟨rfl,Q⟩|⟨S,z,rfl,Q⟩<;>rcases oH r e2 with⟨rfl,T⟩|⟨U,u,rfl,T⟩<;>
   simp only[Q,T,getD_some]at C W G X⊢
  .simp_all
  .simp only[run_pure,andThen_ok,run_bind,lQ U u _ _ C (show u<=b by omega)]
   simp
  .simp only[run_pure,andThen_ok,run_bind,lQ S z _ _ G (show z<=len by omega)]
   simp
  simp[run_pure,andThen_ok,run_bind,lQ U u _ _ C (show u<=b by omega),lQ S z _ _ G (show z<=u.toNat by omega)]
 grind
def C5{es:Nat}{xs:Zt}{v:Zp}{L H:Nat}(h:eE I (.fsl es xs) v)(d:L<=H)(D:H<=xs.length):
 ∃B len a,v=.slice B len a/\len=xs.length/\len<=a/\eE I (.fsl es ((xs.take H).drop L)) (.slice (if a=L then B else B.map (·.add (L*es))) (H-L) (a-L)):=by
 cases h with
 |fsl0 _ B a=>
  simp at D;have w:L=0:=Za
  subst D;subst w;refine⟨some B,0,a,rfl,rfl,zero_le _,?_⟩;have:=eE.fsl0 (I:=I) es B a;split
  .grind
  simpa[Addr.add]using eE.fsl0 es (B.add (0*es)) a
 |fsl _ _ b o a c z hc hu C J hr=>
  refine⟨_,_,a,rfl,rfl,hc,?_⟩;have t:((xs.take H).drop L).length=H-L:=Ze
  by_cases G:H-L=0
  .have:(xs.take H).drop L=[]:=List.eq_nil_of_length_eq_zero Zd
   rw[this,G];split
   .exact .fsl0 es _ _
   exact .fsl0 es _ _
  simp[oF];have e:eE I (.fsl es ((xs.take H).drop L)) (.slice (some ⟨b,o+L*es,none⟩) ((xs.take H).drop L).length (a-L)):=by refine .fsl es _ b (o+L*es) (a-L) c z Zd (λx u=>hu x (mem_of_mem_take (mem_of_mem_drop u))) (λx u=>C x (mem_of_mem_take (mem_of_mem_drop u))) ?_ ?_;rw[t];have:L*es+(H-L)*es<=xs.length*es:=(by rw[<-add_mul];exact mul_le_mul_right _ Za);omega;grind
  grind
def N_(j:eD P E)(r:eC I μ n F a.tmps){t:Zm}{o:Zr}{m y i:a_ Zr}{x:V}(h:bP E F (.slice t o m y i)=some x):
 ∃v,(sliceAt t (a.eval o) (m.map a.eval) (y.map a.eval) (i.map a.eval)).run P w=.ok v w/\bH I μ x v:=by
 simp[bP]at h;split at h
 .
  rename_i s l hh A K U C S;obtain⟨d,M,T⟩:=fh A;obtain⟨f,h1,Y,h3⟩:=(j.ty M).dH;rw[T]at Y;have:=yW Y;rw[(dx r K).sH];simp only[ζf]at h;obtain⟨⟨L,H⟩,G,rfl⟩:=h;obtain⟨g,_,_⟩:=lq (P:=P) (w:=w) r U C false s.size s.size L H (le_refl _) G;have hm:i.map a.eval=none:=by rcases oH r S with⟨_,q⟩|⟨k,z,e,_⟩;exact q;cases e
  refine⟨.string (s.extract L H),?_,.c _ _ (.str _)⟩;unfold sliceAt Instr.slice;simp_all
 .rename_i e v l hh A K U C S;obtain⟨d,M,T⟩:=fh A;obtain⟨f,h1,Y,h3⟩:=(j.ty M).dH;rw[T]at Y;have:=i_ Y;subst this;have c:=dx r K;have hm:i.map a.eval=none:=by rcases oH r S with⟨_,q⟩|⟨k,z,e,_⟩;exact q;cases e
  have B:∀(D:a_ Addr)(len b L H:Nat)(J:TD),E.tt e=some J->len<=b->dO len l hh=some (L,H)->
   (sliceAt t (.slice D len b) (m.map a.eval) (y.map a.eval) (i.map a.eval)).run P w=.ok (.slice (if b=L then D else D.map (·.add (L*J.size))) (H-L) (b-L)) w:=by
   intro D len b L H J u hc G;obtain⟨g,_,_⟩:=lq (P:=P) (w:=w) r U C true len b L H hc G;unfold sliceAt Instr.slice;simp[run_bind,h3,andThen_ok,hm,g,(j.ty u).jT,run_pure]
  split at h
  .rename_i J u;split at h
   .rename_i es xs;split at h
    next Z=>simp only[ζf]at h;obtain⟨⟨L,H⟩,G,rfl⟩:=h;obtain⟨_,W,X⟩:=lq (P:=P) (w:=w) r U C true xs.length xs.length L H (le_refl _) G;obtain⟨D,len,b,e1,e2,e3,e4⟩:=C5 c.lu W X;rw[e1];subst e2;refine⟨_,B D _ b L H J u e3 G,?_⟩;rw[<-Z];exact .c _ _ e4
    grind
   .rename_i id es off len;split at h
    .rename_i Z;simp only[ζf]at h;obtain⟨⟨L,H⟩,G,rfl⟩:=h;obtain⟨_,W,X⟩:=lq (P:=P) (w:=w) r U C true len len L H (le_refl _) G;rcases c.lB with⟨p,b,aa,he,hc,ab,O⟩|⟨h0,D,O⟩
     .rw[O];refine⟨_,B _ _ b L H J u hc G,?_⟩
      by_cases hz:b=L
      .have:H-L=0:=by omega
       rw[if_pos hz,this,show b-L=0 by omega]
       exact .hsl0 id es (off+L) _
      rw[if_neg hz];simp only[map_some,oF];rw[<-Z];subst he;have:=bH.hsl (I:=I) (μ:=μ) id (off+L) (H-L) (b-L) p aa Za (by
       have:off+L+(b-L)=off+b:=Za
       rw[this];exact ab)
      rwa [add_mul,<-add_assoc]at this
     rw[O];subst h0;refine⟨_,B _ _ 0 L H J u (le_refl _) G,?_⟩;have N:L=0:=Za
     have R:H=0:=Za
     subst N;subst R;simpa using bH.hsl0 id es (off+0) D
    grind
   .simp only[ζf]at h;obtain⟨⟨L,H⟩,G,rfl⟩:=h;obtain⟨_,W,X⟩:=lq (P:=P) (w:=w) r U C true 0 0 L H (le_refl _) G;obtain⟨D,O⟩:=c.qJ;rw[O];refine⟨_,B D 0 0 L H J u (le_refl _) G,?_⟩;have N:L=0:=by omega
    have R:H=0:=Za
    subst N;subst R;exact .c _ _ (.dG _)
   .simp only[ζf]at h;obtain⟨⟨L,H⟩,G,rfl⟩:=h;obtain⟨_,W,X⟩:=lq (P:=P) (w:=w) r U C true 0 0 L H (le_refl _) G;have O:=c.lp;rw[O];refine⟨_,B none 0 0 L H J u (le_refl _) G,?_⟩;have N:L=0:=by omega
    have R:H=0:=Za
    subst N;subst R;exact .c _ _ .bJ
   grind
  grind
 .rename_i e v A K U C S;obtain⟨d,M,T⟩:=fh A;obtain⟨f,h1,Y,h3⟩:=(j.ty M).dH;rw[T]at Y;have:=i_ Y;subst this;have c:=dx r K;have q1:m.map a.eval=none:=by rcases oH r U with⟨_,q⟩|⟨k,z,e,_⟩;exact q;cases e
  obtain⟨k2,q2⟩:∃k,y.map a.eval=some (.int k 0):=by rcases oH r C with⟨q,_⟩|⟨k,z,e,q⟩;cases q;cases e;exact⟨k,q⟩
  obtain⟨k3,q3⟩:∃k,i.map a.eval=some (.int k 0):=by rcases oH r S with⟨q,_⟩|⟨k,z,e,q⟩;cases q;cases e;exact⟨k,q⟩
  have B:∀(D:a_ Addr)(len b:Nat)(J:TD),E.tt e=some J->∃Q,(sliceAt t (.slice D len b) (m.map a.eval) (y.map a.eval) (i.map a.eval)).run P w=.ok (.slice Q 0 0) w:=by intro D len b J u;refine⟨D,?_⟩;unfold sliceAt Instr.slice sliceBounds;simp only[run_bind,h3,andThen_ok,q1,q2,q3,lQ k3 0 b _ (Int.le_refl _) Za,lQ k2 0 _ _ (Int.le_refl _) Zc,(j.ty u).jT];simp
  split at h
  next J es xs u=>simp at h;subst h;obtain⟨D,len,b,e1,_⟩:=C5 c.lu (le_refl _) (zero_le _);rw[e1];obtain⟨Q,g⟩:=B D len b _ u;exact⟨_,g,.c _ _ (.dG _)⟩
  .rename_i J id es off len u;simp at h;subst h;rcases c.lB with⟨p,b,_,_,_,_,O⟩|⟨_,D,O⟩
   .rw[O];obtain⟨Q,g⟩:=B _ _ _ _ u;exact⟨_,g,.c _ _ (.dG _)⟩
   rw[O];obtain⟨Q,g⟩:=B _ _ _ _ u;exact⟨_,g,.c _ _ (.dG _)⟩
  next J u=>simp at h;subst h;obtain⟨D,O⟩:=c.qJ;rw[O];obtain⟨Q,g⟩:=B _ _ _ _ u;exact⟨_,g,.c _ _ (.dG _)⟩
  next J u=>simp only[ζa]at h;subst h;have O:=c.lp;rw[O];obtain⟨Q,g⟩:=B _ _ _ _ u;exact⟨_,g,.c _ _ (.dG _)⟩
  simp at h
 grind
def cK.one{x:V}{vs:aZ Zp}(h:cK I μ [x] vs):∃v,vs=[v]/\bH I μ x v:=by obtain⟨v,r,rfl,a,b⟩:=h.cons_inv;exact⟨v,by rw[b.uN],a⟩
def cK.two{x y:V}{vs:aZ Zp}(h:cK I μ [x,y] vs):∃u v,vs=[u,v]/\bH I μ x u/\bH I μ y v:=by obtain⟨u,r,rfl,a,b⟩:=h.cons_inv;obtain⟨v,rfl,c⟩:=b.one;exact⟨u,v,rfl,a,c⟩
def cK.four{x y z t:V}{vs:aZ Zp}(h:cK I μ [x,y,z,t] vs):∃u v p q,vs=[u,v,p,q]/\bH I μ x u/\bH I μ y v/\bH I μ z p/\bH I μ t q:=by obtain⟨u,r,rfl,b,a⟩:=h.cons_inv;obtain⟨v,r2,rfl,c,a⟩:=a.cons_inv;obtain⟨p,q,rfl,d,e⟩:=a.two;exact⟨u,v,p,q,rfl,b,c,d,e⟩
def q_{args:Array Zr}{l:aZ Zp}(h:args.toList.map a.eval=l):args.map a.eval=l.toArray:=by subst h;apply ext';simp
def wh:a_ TK->V->a_ V
 |some .str,.str s=>some (.int .i64 s.size)|some (.slice _),.fsl _ xs=>some (.int .i64 xs.length)|some (.slice _),.hsl _ _ _ len=>some (.int .i64 len)|some (.slice _),.dG=>some (.int .i64 0)|some (.slice _),.bJ=>some (.int .i64 0)|_,_=>none
def SD(U:eD P E){t:Zm}{x z:V}{v:Zp}{ty:Zm}{D:Array Zm}(G:D[0]?=some t)(J:bH I μ x v)
 (h:wh (E.cN t) x=some z):∃u,(len_ D ty #[v]).run P w=.ok u w/\bH I μ z u:=by
 cases b:E.cN t with
 |none=>rw[b]at h;simp[wh]at h|some k=>
  rw[b]at h;have⟨d,W,Q⟩:=fh b;have⟨c,g,S,T⟩:=(U.ty W).dH;rw[Q]at S
  cases k with
  |str=>
   have:=yW S;subst this
   cases x with
   |str s=>simp only[wh,ζa]at h;subst h;rw[J.sH];refine⟨_,?_,.c _ _ (.int _ _)⟩;unfold len_;simp[G,T,goInt]|_=>simp[wh]at h
  |slice e=>
   have:=i_ S;subst this;have B:∀C(len a:Nat),(len_ D ty #[.slice C len a]).run P w=.ok (.int .i64 len) w:=by intro C len a;unfold len_;simp[G,T,goInt]
   cases x with
   |fsl es X=>simp only[wh,ζa]at h;subst h;have⟨C,len,a,e1,e2,_⟩:=C5 (L:=0) (H:=0) J.lu (le_refl _) (zero_le _);rw[e1,<-e2];exact⟨_,B _ _ _,.c _ _ (.int _ _)⟩|hsl id es off len=>
    simp only[wh,ζa]at h;subst h;rcases J.lB with⟨p,a,_,_,_,_,O⟩|⟨f,C,O⟩
    .rw[O];exact⟨_,B _ _ _,.c _ _ (.int _ _)⟩
    rw[O,f];exact⟨_,B _ _ _,.c _ _ (.int _ _)⟩
   |dG=>simp only[wh,ζa]at h;subst h;have⟨C,O⟩:=J.qJ;rw[O];exact⟨_,B _ _ _,.c _ _ (.int _ _)⟩|bJ=>simp only[wh,ζa]at h;subst h;rw[J.lp];exact⟨_,B _ _ _,.c _ _ (.int _ _)⟩|_=>simp[wh]at h
  |_=>simp[wh]at h
def SM:a_ TK->V->a_ V
 |some (.slice _),.bJ=>some (.int .i64 0)|some (.slice _),.dG=>some (.int .i64 0)|_,_=>none
def RK(O:eD P E){t:Zm}{x z:V}{v:Zp}{ty:Zm}{B:Array Zm}(D:B[0]?=some t)(J:bH I μ x v)
 (h:SM (E.cN t) x=some z):∃u,(cap_ B ty #[v]).run P w=.ok u w/\bH I μ z u:=by
 have key:∀e C,E.cN t=some (.slice e)->v=.slice C 0 0->(cap_ B ty #[v]).run P w=.ok (.int .i64 0) w:=λe C a c=>by have⟨d,Q,G⟩:=fh a;have⟨b,f,L,S⟩:=(O.ty Q).dH;rw[G]at L;have:=i_ L;subst this;unfold cap_;simp[D,S,goInt,c]
 unfold SM at h;split at h
 next _ _ e a=>cases h;exact⟨_,key _ _ a J.lp,.c _ _ (.int _ _)⟩
 next _ _ e a=>cases h;have⟨C,q⟩:=J.qJ;exact⟨_,key _ _ a q,.c _ _ (.int _ _)⟩
 cases h
def ey{s:Sem Zp}{v:Zp}{w':World}(h:s.run P w=.ok v w'):(do pure (Next.value (<-s)):Sem Next).run P w=.ok (.value v) w':=by rw[run_bind,h];rfl
def PA(G:eD P E)(r:eC I μ n F a.tmps)(o:Oper){x:V}(h:bP E F o.op=some x):
 ∃v,(execOp a.eval o).run P w=.ok (.value v) w/\bH I μ x v:=by
 obtain⟨dst,op,ty,pos,after,M⟩:=o;simp only at h
 cases op with
 |move y=>exact⟨_,rfl,dx r (by simpa[bP]using h)⟩|assign y=>exact⟨_,rfl,dx r (by simpa[bP]using h)⟩|pick c y z=>
  simp only[bP]at h;simp only[execOp];split at h
  .rename_i t hc;have e:=(dx r hc).qz;simp only[e,asBool,run_bind,run_pure,andThen_ok]
   cases t with
   |true=>simp only[if_true]at h⊢;exact⟨_,rfl,dx r h⟩|false=>simp only[false_eq_true,if_false]at h⊢;exact⟨_,rfl,dx r h⟩
  simp at h
 |nilCheck y=>
  simp only[bP]at h;simp only[execOp];split at h
  next id el off D=>simp only[ζa]at h;subst h;have g:=dx r D;obtain⟨p,_,e⟩:=g.sj;rw[e]at g⊢;exact⟨_,rfl,g⟩
  next X D=>simp only[ζa]at h;subst h;have g:=dx r D;obtain⟨b,o,c,e,_⟩:=g.lH;rw[e]at g⊢;exact⟨_,rfl,g⟩
  next f u v D=>simp only[ζa]at h;subst h;have g:=dx r D;obtain⟨b,c,e,_⟩:=g.jI;rw[e]at g⊢;exact⟨_,rfl,g⟩
  simp at h
 |binOp op t y z Y=>
  simp only[bP]at h;split at h
  next u v A g=>obtain⟨q,N,H⟩:=PS (w:=w) G y z h (dx r A) (dx r g);exact⟨q,ey N,H⟩
  simp at h
 |unOp op t y=>
  simp only[bP]at h;simp only[execOp];split at h
  next b D=>simp only[ζa]at h;subst h;rw[(dx r D).qz];exact⟨_,ey (by simp only[Op.unary];rfl),.c _ _ (.bool _)⟩
  next k m D=>simp only[ζa]at h;subst h;rw[(dx r D).fe];exact⟨_,ey (by simp only[Op.unary,intArith];rfl),by simpa using bH.c _ _ (.int k _)⟩
  simp at h
 |convert s d y=>obtain⟨v,l,C⟩:=JA (w:=w) G r h;exact⟨v,ey l,C⟩|fieldAddr s y f=>obtain⟨v,l,C⟩:=JH (w:=w) G r h;exact⟨v,ey l,C⟩|field s y f=>obtain⟨v,l,C⟩:=NK (w:=w) G r h;exact⟨v,ey l,C⟩|indexAddr t y i=>obtain⟨v,l,C⟩:=Kk (w:=w) G r h;exact⟨v,ey l,C⟩|index t y i=>obtain⟨v,l,C⟩:=Of (w:=w) G r h;exact⟨v,ey l,C⟩|slice t y Z hi mx=>obtain⟨v,l,C⟩:=N_ (w:=w) G r h;exact⟨v,ey l,C⟩|build t ps=>obtain⟨v,l,C⟩:=M6 (w:=w) G r h;exact⟨v,ey l,C⟩|makeFunc f u v=>
  cases f with
  |func f=>
   simp only[bP]at h;split at h
   next O x2 l C=>simp only[ζa]at h;subst h;have r1:=mP r l;have r2:=mP r C;refine⟨.func (.func f) (u.map a.eval) (v.map a.eval),rfl,?_⟩;refine .clo f _ _ _ _ (by simpa using r1.1) (by simpa using r2.1) (λj p q s t=>r1.2 j p q s (by simpa using t)) (λj p q s t=>r2.2 j p q s (by simpa using t))
   simp at h
  |_=>simp[bP]at h
 |extract y i=>
  simp only[bP]at h;simp only[execOp];split at h
  .rename_i vs D;obtain⟨Q,e,S⟩:=(dx r D).pR;rw[e];have T:=(ζe.1 h).1;have J:i<Q.size:=by have:=S.1;simp at this;omega
   refine⟨Q[i],ey (by simp[Instr.extract,J]),S.2 i x _ h (by simp[J])⟩
  simp at h
 |call c=>
  obtain⟨callee,args,U⟩:=c
  cases callee with
  |builtin b=>
   simp only[bP]at h;simp only[execOp,resolve,run_bind,run_pure,andThen_ok,invoke];split at h
   .rename_i v t B L;obtain⟨u,A,H⟩:=(mP r B).one;rw[q_ A];obtain⟨q,l,C⟩:=SD (w:=w) (ty:=ty) G L H (by rw[<-h];rfl)
    exact⟨q,by simp only[builtin];exact ey l,C⟩
   .rename_i v t B L;obtain⟨u,A,H⟩:=(mP r B).one;rw[q_ A];obtain⟨q,l,C⟩:=RK (w:=w) (ty:=ty) G L H (by rw[<-h];rfl)
    exact⟨q,by simp only[builtin];exact ey l,C⟩
   .rename_i k O W x2 B;split at h
    next K=>simp only[ζa]at h;subst h;subst K;obtain⟨u,v,e,A,g⟩:=(mP r B).two;rw[q_ e,A.fe,g.fe];exact⟨_,by simp only[builtin];exact ey (by simp[max_,max2]),.c _ _ (.int _ _)⟩
    simp at h
   .rename_i k O k1 x2 k2 x3 k3 x4 B;split at h
    next K=>simp only[ζa]at h;subst h;obtain⟨rfl,rfl,rfl⟩:=K;obtain⟨u,v,p,q,e,A,g,R,N⟩:=(mP r B).four;rw[q_ e,A.fe,g.fe,R.fe,N.fe];exact⟨_,by simp only[builtin];exact ey (by simp[max_,max2,Bp]),.c _ _ (.int _ _)⟩
    simp at h
   .rename_i k O W x2 B;split at h
    next K=>simp only[ζa]at h;subst h;subst K;obtain⟨u,v,e,A,g⟩:=(mP r B).two;rw[q_ e,A.fe,g.fe];exact⟨_,by simp only[builtin];exact ey (by simp[min_,min2]),.c _ _ (.int _ _)⟩
    simp at h
   simp at h
  |_=>simp[bP]at h
 |_=>simp[bP]at h
end
structure fL(I:ct)(μ:Mu)(p:Pl)(c:Array Value)(es:Nat)(xs:List (List V)):Prop where
 es_eq:p.es=es
 sz:c.size=p.sz
 oB:∀x∈xs,x.length=es
 one:∀x∈xs,∀y∈x,V.one y=true
 room:p.o+xs.length*es<=c.size
 rel:cK I μ xs.flatten ((c.toList.drop p.o).take (xs.length*es))
def uy(I:ct)(μ:Mu)(B:aZ (V×V))(es:Array MapEntry):Prop:=B.length=es.size/\∀(j:Nat)q e,B[j]?=some q->es[j]?=some e->bH I μ q.1 e.key/\bH I μ q.2 e.val
def AI.is:AI->LoopState->Prop
 |.ready,.ready|.busy,.busy|.done,.done=>True|_,_=>False
structure uJ(I:ct)(μ:Mu)(r:uH)(l:Loop):Prop where
 st:r.st.is l.state
 pend:l.pending=r.pend.bind ku
 pendOk:r.pend≠some .norm
 frame:eC I μ r.nt r.frame l.tmps
 params:l.params.toList=r.params
 assign:l.assign=r.assign
 body:l.body=r.body
def Ob.live:Ob->Zl
 |.row ..|.map _|.loop _=>true|_=>false
def rW(I:ct)(μ:Mu)(w:World)(id:Nat):Ob->Prop
 |.free=>μ id=none|.dead=>True|.row es xs=>∃p c el,μ id=some p/\I p.b=none/\w.heap[p.b]?=some (.cells c el)/\fL I μ p c es xs|.frz es xs=>∃p c,μ id=some p/\I p.b=some (.cells c)/\fL I μ p c es xs|.map B=>∃p es a,μ id=some p/\I p.b=none/\w.heap[p.b]?=some (.map es a)/\uy I μ B es|.loop r=>∃p l,μ id=some p/\I p.b=none/\w.heap[p.b]?=some (.loop l)/\uJ I μ r l
structure cV(I:ct)(μ:Mu)(H:bp)(w:World):Prop where
 dom:∀id,H.length<=id->μ id=none
 imm:∀b x,I b=some x->x.at w b
 obs:∀id ob,H[id]?=some ob->rW I μ w id ob
 inj:∀id id' ob ob' p p',H[id]?=some ob->H[id']?=some ob'->ob.live=true->ob'.live=true->μ id=some p->μ id'=some p'->p.b=p'.b->id=id'
 gl:uo I
def gV(μ:Mu)(H:bp)(b:Nat):Prop:=∃id p ob,H[id]?=some ob/\ob.live=true/\μ id=some p/\p.b=b
def Obj.nf(o:Obj):Prop:=∀c t fr,o=.cells c t fr->fr=(0,0)
def sG(c:Array Zp)(t:Zm):Obj.nf (.cells c t):=λ_ _ _ h=>Zd
def qx{o:Obj}(h:(match o with|.cells ..=>false|_=>true)=true):Obj.nf o:=λc t fr e=>Zd
def BP{w w':World}{o:Obj}{b:Nat}(B:Obj.nf o)(d:w'.heap[b]?=some o)(D:∀k,k≠b->w'.heap[k]?=w.heap[k]?)(a:Addr)(h:w.frozen? a=false):w'.frozen? a=false:=by by_cases e:a.block=b;unfold frozen?;rw[e,d];split;rename_i c t z C u;cases u;have:=B _ _ _ rfl;grind;rfl;unfold frozen? at h⊢;grind
structure uB(w w':World):Prop where
 out:w'.output=w.output
 tape:w'.tape=w.tape
 dr:w.drawn<=w'.drawn
def uB.refl(w:World):uB w w:=⟨rfl,rfl,le_refl _⟩
def uB.trans{w w' w'':World}(h:uB w w')(B:uB w' w''):uB w w'':=⟨B.out.trans h.out,B.tape.trans h.tape,le_trans h.dr B.dr⟩
structure Step(I:ct)(μ:Mu)(H:bp)(w:World)(I':ct)(μ':Mu)(H':bp)(w':World):Prop where
 le:ct.le I I'
 mu:Mu.le μ μ'
 len:H.length<=H'.length
 size:w.heap.size<=w'.heap.size
 frame:∀b,b<w.heap.size->¬gV μ H b->w'.heap[b]?=w.heap[b]?
 terr:∀b,((I' b).isSome=true\/gV μ' H' b)->(I b).isSome=true\/gV μ H b\/w.heap.size<=b
 os:w'.os=w.os
 out:uB w w'
 fz:∀a:Addr,a.block<w.heap.size->w.frozen? a=false->w'.frozen? a=false
section
variable{I I' I'':ct}{μ μ' μ'':Mu}{H H' H'':bp}{w w' w'':World}{P:Program}{E:Env}{n:Nat}{F:Zo}{a:Act}
def IC.s6{x:IC}{b:Nat}(h:x.at w b):b<w.heap.size:=by cases x with|cells c=>have⟨_,_,h⟩:=h;grind|map es=>have⟨_,h⟩:=h;grind
def IC.qT{x:IC}{b:Nat}(h:x.at w b)(e:w'.heap[b]?=w.heap[b]?):x.at w' b:=by cases x with|cells c=>have⟨el,fr,h⟩:=h;exact⟨el,fr,Zd⟩|map es=>have⟨a,h⟩:=h;exact⟨a,Zd⟩
def Step.refl(I:ct)(μ:Mu)(H:bp)(w:World):Step I μ H w I μ H w:=⟨ct.le_refl _,Mu.le_refl _,le_refl _,le_refl _,λ_ _ _=>rfl,λ_ h=>h.elim .inl λh=>.inr (.inl h),rfl,.refl _,λ_ _ h=>h⟩
def fI(s:cV I μ H w){b:Nat}(h:gV μ H b):I b=none:=by obtain⟨id,p,ob,h1,u,B,rfl⟩:=h;have:=s.obs id ob h1;cases ob with|row es C=>have⟨q,c,el,a,t,_⟩:=this;grind|map z=>have⟨q,c,el,a,t,_⟩:=this;grind|loop r=>have⟨q,c,a,t,_⟩:=this;grind|_=>simp[Ob.live]at u
def mo(s:cV I μ H w){b:Nat}(h:gV μ H b):b<w.heap.size:=by obtain⟨id,p,ob,h1,z,C,rfl⟩:=h;have:=s.obs id ob h1;cases ob with|row es D=>have⟨q,c,el,a,t,u,_⟩:=this;grind|map B=>have⟨q,c,el,a,t,u,_⟩:=this;grind|loop r=>have⟨q,c,a,t,u,_⟩:=this;grind|_=>simp[Ob.live]at z
def Step.trans(D:cV I' μ' H' w')(c:Step I μ H w I' μ' H' w')(B:Step I' μ' H' w' I'' μ'' H'' w''):Step I μ H w I'' μ'' H'' w'' where
 fz:=λa t h=>B.fz a (Nat.lt_of_lt_of_le t c.size) (c.fz a t h)
 le:=ct.le_trans c.le B.le
 mu:=λid p h=>B.mu id p (c.mu id p h)
 len:=le_trans c.len B.len
 size:=le_trans c.size B.size
 frame:=by intro b t z;rw[B.frame b (Nat.lt_of_lt_of_le t c.size) ?_,c.frame b t z];intro u;rcases c.terr b (.inr u)with h|h|h;have:=fI D u;have⟨x,C⟩:=isSome_iff_exists.1 h;rw[c.le _ _ C]at this;simp_all;simp_all;omega
 terr:=by intro b h;rcases B.terr b h with h|h|h;exact c.terr b (.inl h);exact c.terr b (.inr h);exact .inr (.inr (le_trans c.size h))
 os:=B.os.trans c.os
 out:=c.out.trans B.out
def fL.mono(h:ct.le I I')(B:Mu.le μ μ'){p:Pl}{c:Array Zp}{es:Nat}{xs:Zt}(r:fL I μ p c es xs):fL I' μ' p c es xs:=⟨r.es_eq,r.sz,r.oB,r.one,r.room,r.rel.mono h B⟩
def uy.mono(h:ct.le I I')(D:Mu.le μ μ'){B:aZ (V×V)}{es:Array MapEntry}(r:uy I μ B es):uy I' μ' B es:=⟨r.1,λj q e a b=>⟨(r.2 j q e a b).1.mono h D,(r.2 j q e a b).2.mono h D⟩⟩
def uJ.mono(h:ct.le I I')(B:Mu.le μ μ'){r:uH}{l:Loop}(x:uJ I μ r l):uJ I' μ' r l:=⟨x.st,x.pend,x.pendOk,x.frame.mono h B,x.params,x.assign,x.body⟩
def rW.mono(h:ct.le I I')(B:Mu.le μ μ'){id:Nat}{ob:Ob}(r:rW I μ w id ob)
 (D:∀p,μ id=some p->ob.live=true->w'.heap[p.b]?=w.heap[p.b]?/\I' p.b=none)(G:ob=.free->μ' id=none):rW I' μ' w' id ob:=by
 cases ob with
 |free=>exact G rfl|dead=>trivial|row es C=>have⟨p,c,el,a,u,z,t⟩:=r;have⟨g1,g2⟩:=D p a rfl;exact⟨p,c,el,B _ _ a,g2,Zd,t.mono h B⟩|frz es C=>have⟨p,c,a,u,t⟩:=r;exact⟨p,c,B _ _ a,h _ _ u,t.mono h B⟩|map J=>have⟨p,es,b,a,u,z,t⟩:=r;have⟨g1,g2⟩:=D p a rfl;exact⟨p,es,b,B _ _ a,g2,Zd,t.mono h B⟩|loop x=>have⟨p,l,a,u,z,t⟩:=r;have⟨g1,g2⟩:=D p a rfl;exact⟨p,l,B _ _ a,g2,Zd,t.mono h B⟩
def cV.n_(s:cV I μ H w)(e:w'.heap=w.heap):cV I μ H w' where
 dom:=s.dom
 imm:=λb x h=>IC.qT (s.imm b x h) (by rw[e])
 obs:=λid ob h=>(s.obs id ob h).mono (ct.le_refl _) (Mu.le_refl _) (λp a t=>⟨by rw[e],fI s ⟨id,p,ob,h,t,a,rfl⟩⟩) (λu=>by subst u;exact s.obs id _ h)
 inj:=s.inj
 gl:=s.gl
def Step.n_(e:w'.heap=w.heap)(c:w'.os=w.os)(B:uB w w'):Step I μ H w I μ H w':=⟨ct.le_refl _,Mu.le_refl _,le_refl _,Zd,λ_ _ _=>by rw[e],λb h=>h.elim .inl λh=>.inr (.inl h),c,B,λa _ h=>by unfold frozen? at h⊢;grind⟩
def Mu.gx(μ:Mu)(k:Nat)(p:Pl):Mu:=λid=>if id=k then some p else μ id
def Mu.fN(μ:Mu)(k:Nat)(p:Pl):μ.gx k p k=some p:=by simp[Mu.gx]
def Mu.iC(μ:Mu){k id:Nat}(p:Pl)(h:id≠k):μ.gx k p id=μ id:=by simp[Mu.gx,h]
def Mu.pX{k:Nat}{p:Pl}(h:μ k=none):Mu.le μ (μ.gx k p):=by intro id q hq;by_cases e:id=k;grind;rw[Mu.iC _ _ e];omega
def k8(o:Obj)(b:Nat)(h:b<w.heap.size):(w.alloc o).heap[b]?=w.heap[b]?:=by show(w.heap.push o)[b]?=_;grind
def lV(o:Obj):(w.alloc o).heap[w.heap.size]?=some o:=by show(w.heap.push o)[w.heap.size]?=_;simp
def Lq{o:Obj}(B:Obj.nf o)(a:Addr)(h:w.frozen? a=false):(w.alloc o).frozen? a=false:=
 BP B (lV o) (λk b=>by
  by_cases t:k<w.heap.size
  .exact k8 o k t
  show(w.heap.push o)[k]?=_
  grind) a h
def cV.place(s:cV I μ H w){k:Nat}{ob:Ob}{o:Obj}{p:Pl}(c:μ k=none)(G:H.length<=H'.length)(j:k<H'.length)
 (l:∀id,id≠k->H'[id]?=some .free\/H'[id]?=H[id]?)(U:∀id,id≠k->H'[id]?=some .free->μ id=none)(m:H'[k]?=some ob)(n:p.b=w.heap.size)
 (r:rW I (μ.gx k p) (w.alloc o) k ob)(d:Obj.nf o):cV I (μ.gx k p) H' (w.alloc o)/\Step I μ H w I (μ.gx k p) H' (w.alloc o):=by
 have f:∀b x,I b=some x->b<w.heap.size:=λb x h=>IC.s6 (s.imm b x h)
 have u:∀id t,id≠k->H'[id]?=some t->t≠.free->H[id]?=some t:=by grind
 have B:∀b,gV (μ.gx k p) H' b->gV μ H b\/b=w.heap.size:=by rintro b ⟨id,q,t,h1,L,S,rfl⟩;by_cases e:id=k;subst e;rw[Mu.fN]at S;grind;rw[Mu.iC _ _ e]at S;exact .inl ⟨id,q,t,u id t e h1 Zd,L,S,rfl⟩
 refine⟨⟨?_,?_,?_,?_,s.gl⟩,⟨ct.le_refl _,Mu.pX c,G,Zc,?_,?_,rfl,⟨rfl,rfl,le_refl _⟩,λa _=>BP (b:=w.heap.size) d (lV o) (λk c=>?_) a⟩⟩
 .intro id h;rw[Mu.iC _ _ Za]
  exact s.dom id Za
 .intro b x h;exact IC.qT (s.imm b x h) (k8 o b (f b x h))
 .intro id t h
  by_cases e:id=k
  .grind
  by_cases T:t=.free
  .subst T;show(μ.gx k p) id=none;rw[Mu.iC _ _ e];grind
  have Y:=u id t e h T;refine(s.obs id t Y).mono (ct.le_refl _) (Mu.pX c) (λq g W=>?_) (λi=>absurd i T)
  have Z:gV μ H q.b:=⟨id,q,t,Y,W,g,rfl⟩;exact⟨k8 o _ (mo s Z),fI s Z⟩
 .intro id z o1 o2 q q' h1 L O Q C D X
  by_cases e:id=k<;>by_cases J:z=k
  .simp_all
  .subst e;rw[Mu.fN]at C;cases C;rw[Mu.iC _ _ J]at D;have:=mo s ⟨z,q',o2,u z o2 J L (by rintro rfl;simp[Ob.live]at Q),Q,D,rfl⟩
   omega
  .subst J;rw[Mu.fN]at D;cases D;rw[Mu.iC _ _ e]at C;have:=mo s ⟨id,q,o1,u id o1 e h1 (by rintro rfl;simp[Ob.live]at O),O,C,rfl⟩
   omega
  rw[Mu.iC _ _ e]at C;rw[Mu.iC _ _ J]at D;exact s.inj id z o1 o2 q q' (u id o1 e h1 (by rintro rfl;simp[Ob.live]at O)) (u z o2 J L (by rintro rfl;simp[Ob.live]at Q)) O Q C D X
 .intro b X _;exact k8 o b X
 .intro b h;rcases h with h|h
  .exact .inl h
  rcases B b h with h|h
  .exact .inr (.inl h)
  omega
 by_cases W:k<w.heap.size
 .exact k8 o k W
 show(w.heap.push o)[k]?=_;rw[getElem?_eq_none (by simp;omega),getElem?_eq_none Za]
def cV.push(s:cV I μ H w){ob:Ob}{o:Obj}{p:Pl}(a:p.b=w.heap.size)(B:rW I (μ.gx H.length p) (w.alloc o) H.length ob)(D:Obj.nf o:=by first|exact sG _ _|exact qx rfl):
 cV I (μ.gx H.length p) (H++[ob]) (w.alloc o)/\Step I μ H w I (μ.gx H.length p) (H++[ob]) (w.alloc o):=by
 refine s.place (s.dom _ (le_refl _)) Zc Zc (λid h=>.inr ?_) (λid h u=>?_) Zc a B D
 .grind
 by_cases t:id<H.length
 .rw[getElem?_append_left t]at u;exact s.obs id _ u
 grind
def cV.fill(s:cV I μ H w){k:Nat}{ob:Ob}{o:Obj}{p:Pl}(a:H[k]?=some .free)(b:p.b=w.heap.size)(B:rW I (μ.gx k p) (w.alloc o) k ob)(D:Obj.nf o:=by first|exact sG _ _|exact qx rfl):
 cV I (μ.gx k p) (H.set k ob) (w.alloc o)/\Step I μ H w I (μ.gx k p) (H.set k ob) (w.alloc o):=by
 have u:=(ζe.1 a).1;refine s.place (s.obs k _ a) Zc Zd (λid h=>.inr ?_) (λid h t=>?_) Ze b B D
 .grind
 rw[getElem?_set_ne (symm h)]at t;exact s.obs id _ t
def fG(w:World)(b:Nat)(o:Obj):World:={w with heap:=w.heap.setIfInBounds b o}
def fV(o:Obj){b B:Nat}(h:B≠b):(fG w b o).heap[B]?=w.heap[B]?:=by simp[fG,Array.getElem?_setIfInBounds_ne (symm h)]
def ir(o:Obj){b:Nat}(h:b<w.heap.size):(fG w b o).heap[b]?=some o:=by simp[fG,h]
def vS(b:Nat)(o:Obj):(fG w b o).heap.size=w.heap.size:=by simp[fG]
def LW(b:Nat)(o B:Obj):fG (fG w b o) b B=fG w b B:=by simp[fG]
def RZ{o:Obj}{b:Nat}(B:Obj.nf o)(a:Addr)(h:w.frozen? a=false):(fG w b o).frozen? a=false:=by
 by_cases t:b<w.heap.size;exact BP B (ir o t) (λk c=>fV o c) a h;have:(fG w b o).heap=w.heap:=by simp[fG,Array.setIfInBounds,t]
 unfold frozen? at h⊢;grind
def cV.write(s:cV I μ H w){id:Nat}{ob ob':Ob}{o:Obj}{p:Pl}(B:H[id]?=some ob)(U:ob.live=true)(d:μ id=some p)
 (W:rW I μ (fG w p.b o) id ob')(Y:Obj.nf o:=by first|exact sG _ _|exact qx rfl):cV I μ (H.set id ob') (fG w p.b o)/\Step I μ H w I μ (H.set id ob') (fG w p.b o):=by
 have u:gV μ H p.b:=⟨id,p,ob,B,U,d,rfl⟩;have t:∀k x,(H.set id ob')[k]?=some x->∃y,H[k]?=some y/\(x.live=true->y.live=true)/\(k≠id->y=x):=by grind
 have J:∀b,gV μ (H.set id ob') b->gV μ H b:=by rintro b ⟨k,q,x,c,L,T,rfl⟩;have⟨y,O,z,_⟩:=t k x c;exact⟨k,q,y,O,z L,T,rfl⟩
 refine⟨⟨?_,?_,?_,?_,s.gl⟩,⟨ct.le_refl _,Mu.le_refl _,Zc,by rw[vS];grind,?_,?_,rfl,⟨rfl,rfl,le_refl _⟩,λa _=>BP Y (ir o (mo s u)) (λk g=>fV o g) a⟩⟩
 .intro k h;exact s.dom k Zd
 .intro b x h;refine IC.qT (s.imm b x h) (fV o ?_);intro C;rw[C,fI s u]at h;cases h
 .intro k x h
  by_cases e:k=id
  .grind
  rw[getElem?_set_ne (symm e)]at h;refine(s.obs k x h).mono (ct.le_refl _) (Mu.le_refl _) (λq f D=>⟨fV o ?_,fI s ⟨k,q,x,h,D,f,rfl⟩⟩) (λX=>by subst X;exact s.obs k _ h)
  intro C;exact e (s.inj k id x ob q p h B D U f d C)
 .intro k S x Z q q' c L l1 l2 m1 m2 C;have⟨y,O,z,_⟩:=t k x c;have⟨i,Q,G,_⟩:=t S Z L;exact s.inj k S y i q q' O Q (z l1) (G l2) m1 m2 C
 .intro b _ hn;refine fV o ?_
  grind
 grind
def cV.kill(s:cV I μ H w){id:Nat}{ob:Ob}(B:H[id]?=some ob):cV I μ (H.set id .dead) w/\Step I μ H w I μ (H.set id .dead) w:=by
 have u:=(ζe.1 B).1;have t:∀k x,(H.set id .dead)[k]?=some x->x.live=true->H[k]?=some x/\k≠id:=by intro k x h L;by_cases e:k=id;subst e;rw[getElem?_set_self u]at h;cases h;simp[Ob.live]at L;grind
 refine⟨⟨?_,s.imm,?_,?_,s.gl⟩,⟨ct.le_refl _,Mu.le_refl _,Zc,le_refl _,λ_ _ _=>rfl,?_,rfl,.refl _,λ_ _ h=>h⟩⟩;intro k h;exact s.dom k Zd;intro k x h;by_cases e:k=id;subst e;rw[getElem?_set_self u]at h;cases h;trivial;rw[getElem?_set_ne (symm e)]at h;exact s.obs k x h;intro k C x D q O a z G J Q S T;exact s.inj k C x D q O (t k x a G).1 (t C D z J).1 G J Q S T;rintro b (h|⟨k,q,x,a,z,U,rfl⟩);grind;exact .inr (.inl ⟨k,q,x,(t k x a z).1,z,U,rfl⟩)
end
section
variable{P:Program}{E:Env}{I:ct}{μ:Mu}{H:bp}{n:Nat}{F:Zo}{a:Act}{w:World}
def uM{b:Nat}{c:Array Zp}{el:Zm}{fr:Nat×Nat}(h:w.heap[b]?=some (.cells c el fr))(k:Nat):w.cell? ⟨b,k,none⟩=c[k]?:=by simp[cell?,h]
def HD{b o:Nat}{c:Array Zp}(d:∀k,w.cell? ⟨b,k,none⟩=c[k]?):∀(m i:Nat)(a:Array Zp),o+i+m<=c.size->
 (loadCellsFrom ⟨b,o,none⟩ i m a).run P w=.ok (a++((c.toList.drop (o+i)).take m).toArray) w:=by
 intro m
 induction m with
 |zero=>intro i a _;simp[loadCellsFrom]|succ m u=>
  intro i a h;have t:o+i<c.size:=Za
  have e:w.cell? ⟨b,o+i,none⟩=some c[o+i]:=by rw[d];simp[t]
  simp only[loadCellsFrom,run_bind,oF,run_load,e,andThen_ok];rw[u (i+1) _ Za]
  congr 1
  rw[List.drop_eq_getElem_cons (show o+i<c.toList.length by simpa using t),List.take_succ_cons]
  apply ext';simp[add_assoc]
def C6{b o m:Nat}{c:Array Zp}(a:∀k,w.cell? ⟨b,k,none⟩=c[k]?)(h:o+m<=c.size\/m=0):
 (loadCells ⟨b,o,none⟩ m).run P w=.ok ((c.toList.drop o).take m).toArray w:=by
 rcases h with h|h
 .have:=HD (P:=P) a m 0 #[] (o:=o) Za
  simpa[loadCells]using this
 subst h;simp[loadCells,loadCellsFrom]
def fC{es:Nat}{xs:Zt}(a:∀x∈xs,x.length=es):xs.flatten.length=xs.length*es:=by induction xs with|nil=>simp|cons x xs t=>simp only[flatten_cons,ζi,length_cons];rw[t (λy u=>a y (mem_cons_of_mem _ u)),a x Zc,add_mul];omega
def DA{es:Nat}:∀{xs:Zt}(_:∀x∈xs,x.length=es){el:Nat}{cs:Zu},xs[el]?=some cs->(xs.flatten.drop (el*es)).take es=cs:=by intro xs;induction xs with|nil=>intro _ el cs h;simp at h|cons x xs u=>intro a el cs h;have t:x.length=es:=a x Zc;cases el with|zero=>simp at h;subst h;simp[t]|succ el=>have:=u (λy w=>a y (mem_cons_of_mem _ w)) (el:=el) (cs:=cs) (by simpa using h);rw[flatten_cons,show(el+1)*es=x.length+el*es by rw[t,add_mul];omega,<-drop_drop];simpa using this
def G_{es:Nat}:∀{xs:Zt}(_:∀x∈xs,x.length=es){el:Nat}(cs:Zu),el<xs.length->cs.length=es->
 (xs.set el cs).flatten=xs.flatten.take (el*es)++cs++xs.flatten.drop (el*es+es):=by
 intro xs
 induction xs with
 |nil=>intro _ el cs h;simp at h|cons x xs u=>
  intro a el cs h b;have t:x.length=es:=a x Zc
  cases el with
  |zero=>simp[t]|succ el=>
   have:=u (λy w=>a y (mem_cons_of_mem _ w)) (el:=el) cs (by simpa using h) b
   simp only[List.set_cons_succ,flatten_cons,this];rw[show(el+1)*es=x.length+el*es by rw[t,add_mul];omega]
   rw[show x.length+el*es+es=x.length+(el*es+es)by omega]
   rw[List.take_append,List.drop_append];simp[List.take_of_length_le,List.drop_eq_nil_of_le,Nat.add_sub_cancel_left]
def vg{es:Nat}{xs:Zt}(a:∀x∈xs,x.length=es){i j:Nat}{x:Zu}{y:V}(b:xs[i]?=some x)(B:x[j]?=some y):xs.flatten[i*es+j]?=some y:=by
 have:=DA a b;have t:j<es:=by rw[<-a x (mem_of_getElem? b)];exact(ζe.1 B).1
 have e:=congrArg (·[j]?) this;simp only[getElem?_take,t,if_true,getElem?_drop]at e;rw[e];exact B
def fL.elem{p:Pl}{c:Array Zp}{es:Nat}{xs:Zt}(r:fL I μ p c es xs){el:Nat}{cs:Zu}(h:xs[el]?=some cs):
 cK I μ cs ((c.toList.drop (p.o+el*es)).take es)/\cs.length=es/\p.o+el*es+es<=c.size:=by
 have t:=(ζe.1 h).1;have w:=r.oB cs (mem_of_getElem? h);have a:=(r.rel.drop (el*es)).take es;rw[DA r.oB h]at a;have z:el*es+es<=xs.length*es:=by have:=mul_le_mul_right es (show el+1<=xs.length from t);rwa [add_mul,one_mul]at this
 have u:=r.room;refine⟨?_,w,Za⟩
 have e:(((c.toList.drop p.o).take (xs.length*es)).drop (el*es)).take es=(c.toList.drop (p.o+el*es)).take es:=by rw[drop_take,take_take,drop_drop,min_eq_left Za]
 rw[e]at a;exact a
def fL.span{p:Pl}{c:Array Zp}{es:Nat}{xs:Zt}(r:fL I μ p c es xs){off len:Nat}(h:off+len<=xs.length):
 cK I μ ((xs.drop off).take len).flatten ((c.toList.drop (p.o+off*es)).take (len*es))/\p.o+off*es+len*es<=c.size:=by
 have u:=r.room;have z:off*es+len*es<=xs.length*es:=by rw[<-add_mul];exact mul_le_mul_right _ h
 have e1:((xs.drop off).take len).flatten=(xs.flatten.drop (off*es)).take (len*es):=by have t:xs=xs.take off++((xs.drop off).take len++(xs.drop off).drop len):=(by rw[take_append_drop,take_append_drop]);have g1:(xs.take off).flatten.length=off*es:=(by rw[fC (λx t=>r.oB x (mem_of_mem_take t))];rw[length_take,min_eq_left Za]);have g2:((xs.drop off).take len).flatten.length=len*es:=(by rw[fC (λx t=>r.oB x (mem_of_mem_drop (mem_of_mem_take t))),length_take,List.length_drop,min_eq_left Za]);have w:=congrArg List.flatten t;simp only[flatten_append]at w;rw[w,<-g1,List.drop_left,<-g2,List.take_left]
 have a:=(r.rel.drop (off*es)).take (len*es);rw[e1];refine⟨?_,Za⟩
 have e:(((c.toList.drop p.o).take (xs.length*es)).drop (off*es)).take (len*es)=(c.toList.drop (p.o+off*es)).take (len*es):=by rw[drop_take,take_take,drop_drop,min_eq_left Za]
 rw[e]at a;exact a
def GX{ob:Ob}{es:Nat}{xs:Zt}(h:ob.rows=some (es,xs)):ob=.row es xs\/ob=.frz es xs:=by cases ob<;>simp_all [Ob.rows]
def cV.rows(s:cV I μ H w){id es:Nat}{xs:Zt}(h:(H[id]?).bind Ob.rows=some (es,xs)):
 ∃p c,μ id=some p/\(∀k,w.cell? ⟨p.b,k,none⟩=c[k]?)/\fL I μ p c es xs:=by
 have⟨ob,a,t⟩:=ζg.1 h;have:=s.obs id ob a;rcases GX t with rfl|rfl
 .have⟨p,c,el,g1,_,g3,g4⟩:=this;exact⟨p,c,g1,uM g3,g4⟩
 have⟨p,c,g1,g2,g4⟩:=this;have⟨el,fr,g3⟩:=s.imm _ _ g2;exact⟨p,c,g1,uM g3,g4⟩
def M5(s:cV I μ H w){p:V}{v:Zp}(d:bH I μ p v){m:Nat}{cs:Zu}(h:eo H p m=some cs):
 ∃(b o:Nat)(c:Array Zp),v=.pointer (some ⟨b,o,none⟩)/\(∀k,w.cell? ⟨b,k,none⟩=c[k]?)/\(o+m<=c.size\/m=0)/\cK I μ cs ((c.toList.drop o).take m):=by
 unfold eo at h;split at h
 .rename_i u;have⟨b,o,c,e,C,O,n⟩:=d.lH;have⟨el,fr,g⟩:=s.imm _ _ C;refine⟨b,o,c,e,uM g,?_⟩;have D:cK I μ u ((c.toList.drop o).take u.length):=by
   refine⟨by simp;omega,λj x y f B=>?_⟩
   have G:=(ζe.1 f).1;rw[getElem?_take,if_pos G,getElem?_drop]at B;exact .c _ _ (n j x y f (by simpa using B))
  rcases Ap D h with⟨g1,g2,g3⟩|⟨g1,g2⟩
  .refine⟨.inl Za,?_⟩
   rw[List.drop_zero,take_take,min_eq_left Za]at g1
   exact g1
  refine⟨.inr g1,?_⟩;rw[g2,g1];exact .nil
 .rename_i id el off;split at h
  .rename_i es u t;split at h
   .rename_i J z;have⟨p,c,g1,g2,g3⟩:=s.rows t;have⟨q,i,e⟩:=d.sj;rw[g1]at i;cases i;refine⟨_,_,c,e,g2,?_⟩;have⟨L,Q,S⟩:=g3.elem z;rw[g3.es_eq];rcases Ap L h with⟨a,l,r⟩|⟨a,l⟩
    .refine⟨.inl Za,?_⟩
     rw[drop_take,take_take,min_eq_left Za,drop_drop]at a
     exact a
    refine⟨.inr a,?_⟩;rw[l,a];exact .nil
   simp at h
  simp at h
 simp at h
def BB(D:eD P E)(s:cV I μ H w){t:Zm}{d:TD}(G:E.tt t=some d){p x:V}{v:Zp}(g:bH I μ p v)(h:(eo H p d.size).bind (mk d.agg)=some x):
 ∃u,(loadAt t v).run P w=.ok u w/\bH I μ x u/\∃J,v=.pointer (some J)/\(loadVar t J).run P w=.ok u w:=by
 have⟨S,i,C⟩:=ζg.1 h;have⟨b,o,c,e,g1,g2,g3⟩:=M5 s g i;have key:∃u,(loadVar t ⟨b,o,none⟩).run P w=.ok u w/\bH I μ x u:=by unfold loadVar;simp only[run_bind,(D.ty G).KE,andThen_ok];cases z:d.agg with|true=>rw[z]at C;refine⟨.agg ((c.toList.drop o).take d.size).toArray,?_,LF C (by simpa using g3)⟩;simp only[if_true,run_bind,(D.ty G).jT,andThen_ok,C6 g1 g2,run_pure]|false=>rw[z]at C;have⟨u,a,L⟩:=mk_one C g3;refine⟨u,?_,L⟩;have O:d.size≠0:=(by intro j;rw[j]at a;simp at a);have B:c[o]?=some u:=(by have:=congrArg (·[0]?) a;simp only[getElem?_take,getElem?_drop,getElem?_cons_zero]at this;rw[if_pos Za]at this;simpa using this);simp only[false_eq_true,if_false,run_load,g1,B]
 have⟨u,f,Q⟩:=key;refine⟨u,?_,Q,_,e,f⟩;rw[e];unfold loadAt;simp only[run_bind,sureAddr,run_pure,andThen_ok,f]
def cV.Gf(s:cV I μ H w){b:Nat}{x:IC}(h:I b=some x):b<w.heap.size:=IC.s6 (s.imm b x h)
def Q1{b es:Nat}{c:Array Zp}{xs:Zt}(h:cK I μ xs.flatten c.toList)(a:∀x∈xs,x.length=es)(B:∀x∈xs,∀y∈x,V.one y=true):
 fL I μ ⟨b,0,es,c.size⟩ c es xs:=by
 have t:xs.length*es=c.size:=by rw[<-fC a,h.1];simp
 exact⟨rfl,rfl,a,B,by simp[t],by simpa[t,List.take_of_length_le]using h⟩
structure OM(I:ct)(μ:Mu)(w:World)(ob:Ob)(m:Mk)(o:Obj)(p:Pl)(u:Value):Prop where
 b:p.b=w.heap.size
 live:ob.live=true
 nf:Obj.nf o
 len:∀es xs,ob=.row es xs->p.sz=xs.length*es
 rel:∀k,μ k=none->rW I (μ.gx k p) (w.alloc o) k ob/\bH I (μ.gx k p) (m.val k) u
def cV.xy(s:cV I μ H w):I w.heap.size=none:=by cases h:I w.heap.size with|none=>rfl|some x=>have:=s.Gf h;omega
def vB(s:cV I μ H w){es:Nat}{xs:Zt}{c:Array Zp}{el:Zm}{m:Mk}{u:Zp}(h:cK I μ xs.flatten c.toList)(a:∀x∈xs,x.length=es)
 (B:∀x∈xs,∀y∈x,V.one y=true)(d:∀k,bH I (μ.gx k ⟨w.heap.size,0,es,c.size⟩) (m.val k) u):OM I μ w (.row es xs) m (.cells c el) ⟨w.heap.size,0,es,c.size⟩ u where
 nf:=sG _ _
 b:=rfl
 live:=rfl
 len:=λt z e=>by cases e;rw[<-fC a,h.1];simp
 rel:=λk f=>⟨⟨_,c,el,Mu.fN _ _ _,s.xy,lV _,(Q1 h a B).mono (ct.le_refl _) (Mu.pX f)⟩,d k⟩
def II(t:Zm)(v:Zp):(newVar t v).run P w=.ok ⟨w.heap.size,0,none⟩ (w.alloc (.cells v.cells t)):=by simp[newVar,newRow]
def vP{z:Zu}{B:Array Zp}(h:cK I μ z B.toList)(m:Nat):
 cK I μ (replicate m z).flatten (((Array.range (m*B.size)).map (λi=>B[i % B.size]!)).toList):=by
 have D:z.length=B.size:=by simpa using h.1
 have d:∀x∈replicate m z,x.length=z.length:=λx J=>by rw[eq_of_mem_replicate J]
 have u:=fC d;simp only[List.length_replicate]at u;refine⟨by rw[u,D];simp,λj x y a G=>?_⟩
 have w:=(ζe.1 a).1;rw[u]at w;have t:0<z.length:=by rcases eq_zero_or_pos z.length with b|b;rw[b]at w;simp at w;exact b
 have L:j / z.length<m:=(Nat.div_lt_iff_lt_mul t).2 w;have c:j % z.length<z.length:=mod_lt _ t;have e1:=vg d (i:=j / z.length) (j:=j % z.length) (x:=z) (y:=z[j % z.length]) (by simp[L]) (by simp[c])
 rw[Nat.mul_comm,Nat.div_add_mod]at e1;rw[e1]at a;cases a;have C:j % B.size<B.size:=by rw[<-D];exact c
 have e2:y=B[j % B.size]:=by have O:j<(Array.range (m*B.size)).size:=(by simp;rw[<-D];exact w);simp only[Array.toList_map,List.getElem?_map,ζf]at G;obtain⟨q,e,rfl⟩:=G;have:q=j:=(by have:=(ζe.1 e).2;simpa using this.symm);subst this;simp[C]
 rw[e2];exact h.2 (j % z.length) _ _ (by simp[c]) (by rw[D];simp[C])
def EI{es:Nat}:∀(vs:aZ (Nat×V))(xs ys:Zt),(∀x∈xs,x.length=es)->(∀x∈xs,∀y∈x,V.one y=true)->eY es xs vs=some ys->
 tf (λi=>some (i*es,es)) xs.flatten vs=some ys.flatten/\(∀x∈ys,x.length=es)/\(∀x∈ys,∀y∈x,V.one y=true)/\ys.length=xs.length:=by
 intro vs
 induction vs with
 |nil=>intro xs ys a t h;simp only[eY,ζa]at h;subst h;exact⟨rfl,a,t,rfl⟩|cons v vs D=>
  intro xs ys a t h;have⟨i,v⟩:=v;simp only[eY]at h;split at h
  .rename_i hc;have⟨b,C,G⟩:=hc;have u:∀x∈xs.set i v.cells,x.length=es:=λx w=>by
    rcases List.mem_or_eq_of_mem_set w with h|h
    .exact a x h
    rw[h];exact b
   have z:∀x∈xs.set i v.cells,∀y∈x,V.one y=true:=λx w=>by rcases List.mem_or_eq_of_mem_set w with h|h;exact t x h;rw[h];simpa using G
   have⟨g1,g2,g3,g4⟩:=D _ ys u z h;refine⟨?_,g2,g3,by simpa using g4⟩
   rw[G_ a _ C b]at g1;have I:i*es+es<=xs.length*es:=by have:=mul_le_mul_right es (show i+1<=xs.length from C);rwa [add_mul,one_mul]at this
   have B:=fC a;simp only[tf];rw[if_neg (by simp[b,B];omega),b]
   exact g1
  simp at h
def Br(J:eD P E)(r:eC I μ n F a.tmps)(s:cV I μ H w)(o:Oper){ob:Ob}{m:Mk}(h:eM E F o.op=some (ob,m)):
 ∃x p u,(execOp a.eval o).run P w=.ok (.value u) (w.alloc x)/\OM I μ w ob m x p u:=by
 have⟨dst,op,ty,pos,after,A⟩:=o;simp only at h
 cases op with
 |alloc t=>
  simp only[eM,ζf,ζc]at h;obtain⟨d,U,rfl,rfl⟩:=h;have⟨z,W,b,X,L⟩:=(J.ty U).BR;refine⟨.cells z.cells t,_,.pointer (some ⟨w.heap.size,0,none⟩),?_,vB s (by simpa using b I μ) (by simp[X]) (by simpa using L) (λk=>?_)⟩
  .simp only[execOp];refine ey ?_;unfold Instr.alloc;simp only[run_bind,W,andThen_ok,II,run_pure]
  have:=bH.hptr (I:=I) k 0 0 _ (Mu.fN μ k ⟨w.heap.size,0,d.size,z.cells.size⟩);simp only[zero_mul,add_zero]at this;exact this
 |box t x=>
  simp only[eM]at h;split at h
  .rename_i v hv;split at h
   .rename_i L;simp only[ζa,ζc]at h;obtain⟨rfl,rfl⟩:=h;have b:=dx r hv;refine⟨.cells (a.eval x).cells t,_,.pointer (some ⟨w.heap.size,0,none⟩),?_,vB s (by simpa using b.cells) Zc (by simpa using L) (λk=>?_)⟩
    .simp only[execOp];refine ey ?_;unfold Instr.box;simp only[run_bind,II,andThen_ok,run_pure]
    have:=bH.hptr (I:=I) k 0 0 _ (Mu.fN μ k ⟨w.heap.size,0,v.cells.length,(a.eval x).cells.size⟩);simp only[zero_mul,add_zero]at this;exact this
   simp at h
  simp at h
 |makeSlice t l c=>
  simp only[eM]at h;split at h
  .rename_i e k1 ln k2 B q X hc;have⟨d,U,O⟩:=fh q;have⟨g,V,Y,K⟩:=(J.ty U).dH;rw[O]at Y;have:=i_ Y;subst this;split at h
   .rename_i G D;split at h
    .rename_i Q;obtain⟨rfl,rfl,an,ao,hm,ap⟩:=Q;simp only[ζa,ζc]at h;obtain⟨rfl,rfl⟩:=h;have⟨z,W,b,S,L⟩:=(J.ty D).BR;have⟨i,_,hi,am,aq,_⟩:=(J.ty D).info;have C:z.cells.size=G.size:=by have:=(b I μ).1;simp at this;omega
     have Z:(0:Int)<=B:=Za
     have w1:i64.wrap ln=ln:=by simp[wrap,signed,IntKind.bits];omega
     have w2:i64.wrap B=B:=by simp[wrap,signed,IntKind.bits];omega
     have aa:∀y:Int,0<=y->y<=2147483648->((i.bytes:Int)*y>2 ^ 48)=False:=by
      intro y ae hy;simp only[eq_iff_iff,iff_false,Int.not_lt,gt_iff_lt];have af:(i.bytes:Int)<=4096:=Za
      calc (i.bytes:Int)*y<=4096*2147483648:=Int.mul_le_mul af hy ae Za
       _<=2 ^ 48:=by decide
     have ab:(Instr.makeSlice t (.int .i64 ln) (.int .i64 B)).run P w=
      .ok (.slice (some ⟨w.heap.size,0,none⟩) ln.toNat B.toNat) (w.alloc (.cells ((Array.range (B.toNat*z.cells.size)).map (λi=>z.cells[i % z.cells.size]!)) e)):=by
      unfold Instr.makeSlice;have t1:(decide (B<0)||decide ((i.bytes:Int)*B>2 ^ 48))=false:=by
       rw[Bool.or_eq_false_iff];exact⟨by simp;omega,by simp only[aa B Z hm,decide_false]⟩
      have q1:(((decide (B<0)||decide ((i.bytes:Int)*B>2 ^ 48))||decide (ln<0))||decide (ln>B))=false:=by rw[t1];simp;omega
      simp only[run_bind,K,andThen_ok,asInt,kY,run_pure,nS hi,w1,w2,q1,false_eq_true,if_false,run_askRoom,(J.ty D).jT];rw[C]
      by_cases f:B.toNat*G.size=0
      .have N:Array.range 0=(#[]:Array Nat):=rfl;simp[f,newRow,N]
      simp[f,W,C,newRow]
     refine⟨.cells ((Array.range (B.toNat*z.cells.size)).map (λi=>z.cells[i % z.cells.size]!)) e,_,.slice (some ⟨w.heap.size,0,none⟩) ln.toNat B.toNat,?_,vB s (vP (b I μ) B.toNat) (λx T=>by rw[eq_of_mem_replicate T,S]) (λx T=>by rw[eq_of_mem_replicate T];simpa using L) (λk=>?_)⟩
     .simp only[execOp];refine ey ?_;rw[(dx r X).fe,(dx r hc).fe];exact ab
     have:=bH.hsl (I:=I) (μ:=μ.gx k ⟨w.heap.size,0,G.size,((Array.range (B.toNat*z.cells.size)).map (λi=>z.cells[i % z.cells.size]!)).size⟩) k 0 ln.toNat B.toNat _ (Mu.fN _ _ _) Za (by simp[C])
     simpa[Mk.val]using this
    simp at h
   simp at h
  simp at h
 |buildSlice t len ps=>
  simp only[eM]at h;split at h
  .rename_i e vs q ah;have⟨d,U,O⟩:=fh q;have⟨g,V,Y,K⟩:=(J.ty U).dH;rw[O]at Y;have:=i_ Y;subst this;split at h
   .rename_i G D;split at h
    .rename_i ai;simp only[ζf,ζc]at h;obtain⟨ys,aj,rfl,rfl⟩:=h;have⟨z,W,b,S,L⟩:=(J.ty D).BR;have C:z.cells.size=G.size:=by have:=(b I μ).1;simp at this;omega
     have⟨X,ak⟩:=DT r ah;have⟨g1,g2,g3,g4⟩:=EI vs _ ys (λx T=>by rw[eq_of_mem_replicate T,S]) (λx T=>by rw[eq_of_mem_replicate T];simpa using L) aj
     have⟨M,j,R⟩:=Bn (place':=λi=>some (i*G.size,G.size)) (λi p hp=>hp) vs _ _ _ ((Array.range (len*z.cells.size)).map (λi=>z.cells[i % z.cells.size]!)) X ak (vP (b I μ) len) g1
     have ad:M.size=len*G.size:=by
      have e1:=R.1;rw[fC g2,g4]at e1;simpa using e1.symm
     refine⟨.cells M e,_,.slice (some ⟨w.heap.size,0,none⟩) len len,?_,vB s R g2 g3 (λk=>?_)⟩
     .simp only[execOp];refine ey ?_;unfold Instr.buildSlice;have al:¬(len*G.size>2 ^ 24):=by omega
      simp only[run_bind,K,andThen_ok,(J.ty D).jT,if_neg al]
      by_cases f:len*G.size=0
      .have e0:(Array.range (len*z.cells.size)).map (λi=>z.cells[i % z.cells.size]!)=#[]:=by rw[C,f];simp
       rw[e0]at j;have N:Array.range 0=(#[]:Array Nat):=rfl;simp only[f,if_true,run_pure,andThen_ok,N,Array.map_empty];rw[j];simp[newRow]
      simp only[if_neg f,run_bind,W,andThen_ok,run_pure];rw[C]at j;rw[C,j];simp[newRow]
     have:=bH.hsl (I:=I) (μ:=μ.gx k ⟨w.heap.size,0,G.size,M.size⟩) k 0 len len _ (Mu.fN _ _ _) (le_refl _) (by simp[ad])
     simpa[Mk.val]using this
    simp at h
   simp at h
  simp at h
 |makeMap t r=>
  cases r with
  |none=>
   simp only[eM,ζa,ζc]at h;obtain⟨rfl,rfl⟩:=h;refine⟨.map #[] 0,⟨w.heap.size,0,0,0⟩,.map (some w.heap.size),?_,⟨rfl,rfl,qx rfl,λ_ _ e=>(nomatch e),λk q=>⟨⟨_,#[],0,Mu.fN _ _ _,s.xy,lV _,rfl,Zc⟩,?_⟩⟩⟩
   .simp only[execOp];refine ey ?_;unfold Instr.makeMap;simp[run_newObj]
   exact bH.hmap (I:=I) k ⟨w.heap.size,0,0,0⟩ (Mu.fN _ _ _)
  |some x=>simp[eM]at h
 |_=>simp[eM]at h
end
section
variable{P:Program}{E:Env}{I:ct}{μ:Mu}{H H':bp}{n:Nat}{F:Zo}{a:Act}{w:World}
def bH.one{x:V}{v:Zp}(h:bH I μ x v)(B:x.one=true):v.oneCell'=true:=by
 cases h with
 |c _ _ h=>cases h<;>first|rfl|simp[V.one]at B
 |agg=>simp[V.one]at B|tup=>simp[V.one]at B|_=>rfl
def cK.Oh{xs:Zu}{vs:aZ Zp}(h:cK I μ xs vs)(B:∀x∈xs,V.one x=true):∀v∈vs,v.oneCell'=true:=by
 intro v a;obtain⟨j,u,rfl⟩:=List.mem_iff_getElem.1 a;have t:j<xs.length:=by rw[h.1];exact u
 exact(h.2 j xs[j] vs[j] (by simp[t]) (by simp[u])).one (B _ (List.getElem_mem t))
def KV{b:Nat}{o:Obj}(h:w.heap[b]?=some o):fG w b o=w:=by
 unfold fG;have:w.heap.setIfInBounds b o=w.heap:=by apply Array.ext;simp;intro i a t;have⟨u,e⟩:=Array.getElem?_eq_some_iff.1 h;rw[Array.getElem_setIfInBounds];split;subst_vars;rfl;rfl
 rw[this]
def Hi{b o:Nat}{c:Array Zp}{el:Zm}{v:Zp}(h:w.heap[b]?=some (.cells c el)):
 w.setCell ⟨b,o,none⟩ v=fG w b (.cells (c.setIfInBounds o v) el):=by
 unfold World.setCell fG
 congr 1
 have⟨B,e⟩:=Array.getElem?_eq_some_iff.1 h;apply Array.ext
 .simp
 intro i a z
 by_cases u:i=b
 .subst u;simp[Array.getElem_modify,e]
 have t:i<w.heap.size:=by simpa using z
 rw[Array.getElem_modify_of_ne (symm u) _ (by simpa using t),Array.getElem_setIfInBounds]
 .simp[symm u]
 exact t
def uc{b o:Nat}{el:Zm}:∀(vs:aZ Zp)(i:Nat)(w:World)(c:Array Zp),w.heap[b]?=some (.cells c el)->(∀v∈vs,v.oneCell'=true)->o+i+vs.length<=c.size->
 ∃c',(storeCells ⟨b,o,none⟩ vs i).run P w=.ok () (fG w b (.cells c' el))/\c'.toList=c.toList.take (o+i)++vs++c.toList.drop (o+i+vs.length):=by
 intro vs
 induction vs with
 |nil=>intro i w c h _ _;exact⟨c,by simp[storeCells,KV h],Zc⟩|cons v vs D=>
  intro i w c h C G;simp only[length_cons]at G;have u:o+i<c.size:=Za
  have t:w.cell? ⟨b,o+i,none⟩=some c[o+i]:=by rw[uM h];simp[u]
  have B:w.frozen? ⟨b,o+i,none⟩=false:=by simp[frozen?,h]
  have I:=(Array.getElem?_eq_some_iff.1 h).1;have⟨c',g1,g2⟩:=D (i+1) (fG w b (.cells (c.setIfInBounds (o+i) v) el)) (c.setIfInBounds (o+i) v) (ir _ I) (λx J=>C x (mem_cons_of_mem _ J)) (by simp;omega)
  refine⟨c',?_,?_⟩
  .simp only[storeCells,run_bind,oF,run_store P w _ v _ (C v Zc),t,B,false_eq_true,if_false,andThen_ok,Hi h]
   rw[g1,LW]
  rw[g2];have z:o+i<c.toList.length:=by simpa using u
  simp only[Array.toList_setIfInBounds,length_cons];rw[show o+(i+1)=o+i+1 from Za,List.take_succ_eq_append_getElem (by simpa using z),List.take_set_of_le Za,List.getElem_set_self,List.drop_set_of_lt Za]
  simp[append_assoc];omega
structure Bi(P:Program)(I:ct)(μ:Mu)(H:bp)(w:World)(s:Sem Next)(x:V)(H':bp):Prop where
 run:∃nx u w' μ',s.run P w=.ok nx w'/\(nx=.value u\/(nx=.skip/\u=undef))/\bH I μ' x u/\cV I μ' H' w'/\Step I μ H w I μ' H' w'
def AB{α:Type}(L vs:aZ α)(o m k:Nat)(D:o+m<=L.length)(a:k+vs.length<=m):
 ((L.take (o+k)++vs++L.drop (o+k+vs.length)).drop o).take m=((L.drop o).take m).take k++vs++((L.drop o).take m).drop (k+vs.length):=by
 obtain⟨A,B,C,rfl,t,u⟩:∃A B C:aZ α,L=A++(B++C)/\A.length=o/\B.length=m:=⟨L.take o,(L.drop o).take m,(L.drop o).drop m,by rw[take_append_drop,take_append_drop],by simp;omega,by simp;omega⟩
 subst t;subst u;have e1:(A++(B++C)).take (A.length+k)=A++B.take k:=by rw[List.take_append,List.take_of_length_le Za,Nat.add_sub_cancel_left,List.take_append_of_le_length Za]
 have e2:(A++(B++C)).drop (A.length+k+vs.length)=B.drop (k+vs.length)++C:=by rw[List.drop_append,List.drop_eq_nil_of_le Za,List.nil_append,List.drop_append_of_le_length Za];congr 2;omega
 have e3:((A++(B++C)).drop A.length).take B.length=B:=Zc
 rw[e1,e2,e3];simp only[append_assoc,List.drop_left];have w:(B.take k++(vs++B.drop (k+vs.length))).length=B.length:=by simp;omega
 have:B.take k++(vs++(B.drop (k+vs.length)++C))=(B.take k++(vs++B.drop (k+vs.length)))++C:=by simp[append_assoc]
 rw[this,<-w,List.take_left]
def fL.splice{p:Pl}{c c':Array Zp}{es el off:Nat}{xs:Zt}{cs ys:Zu}{vs:aZ Zp}(r:fL I μ p c es xs)(B:xs[el]?=some cs)(U:cK I μ ys vs)
 (W:∀y∈ys,V.one y=true)(Y:off+ys.length<=cs.length)(a:c'.toList=c.toList.take (p.o+el*es+off)++vs++c.toList.drop (p.o+el*es+off+vs.length)):
 fL I μ p c' es (xs.set el (cs.take off++ys++cs.drop (off+ys.length))):=by
 have⟨T,X,Z⟩:=r.elem B;have C:=(ζe.1 B).1;have Q:=U.1;have t:=r.room;have f:el*es+es<=xs.length*es:=by have:=mul_le_mul_right es (show el+1<=xs.length from C);rwa [add_mul,one_mul]at this
 have D:c'.size=c.size:=by have:=congrArg length a;simp at this;omega
 have G:(cs.take off++ys++cs.drop (off+ys.length)).length=es:=by simp;omega
 have w:∀x∈xs.set el (cs.take off++ys++cs.drop (off+ys.length)),x∈xs\/x=cs.take off++ys++cs.drop (off+ys.length):=λx J=>List.mem_or_eq_of_mem_set J
 refine⟨r.es_eq,by rw[D];exact r.sz,?_,?_,by rw[D];simpa using t,?_⟩
 .intro x J;rcases w x J with h|h
  .exact r.oB x h
  rw[h];exact G
 .intro x J y u;rcases w x J with h|h
  .exact r.one x h y u
  rw[h]at u;have L:=r.one cs (mem_of_getElem? B);simp only[mem_append]at u;rcases u with(h|h)|h
  .exact L y (mem_of_mem_take h)
  .exact W y h
  exact L y (mem_of_mem_drop h)
 rw[G_ r.oB _ C G,a,length_set];have z:=r.rel;have O:=DA r.oB B;have e:take (xs.length*es) (List.drop p.o (take (p.o+el*es+off) c.toList++vs++List.drop (p.o+el*es+off+vs.length) c.toList))=
  (((c.toList.drop p.o).take (xs.length*es)).take (el*es+off))++vs++(((c.toList.drop p.o).take (xs.length*es)).drop (el*es+off+vs.length)):=by
  have:=AB c.toList vs p.o (xs.length*es) (el*es+off) (by simpa using t) Za
  simpa only[add_assoc]using this
 rw[e];have e2:xs.flatten.take (el*es)++(cs.take off++ys++cs.drop (off+ys.length))++xs.flatten.drop (el*es+es)=
  xs.flatten.take (el*es+off)++ys++xs.flatten.drop (el*es+off+ys.length):=by
  have S:=fC r.oB;have b:xs.flatten.take (el*es+off)=xs.flatten.take (el*es)++cs.take off:=by rw[<-O,List.take_add,take_take,min_eq_left Za]
  have d:xs.flatten.drop (el*es+off+ys.length)=cs.drop (off+ys.length)++xs.flatten.drop (el*es+es):=by rw[<-O,drop_take];have:xs.flatten.drop (el*es+es)=(xs.flatten.drop (el*es+(off+ys.length))).drop (es-(off+ys.length)):=(by rw[drop_drop];congr 1;omega);rw[this,drop_drop,take_append_drop,add_assoc]
  rw[b,d];simp[append_assoc]
 rw[e2,<-Q];exact((z.take _).append U).append (z.drop _)
def Oj(U:eD P E)(r:eC I μ n F a.tmps)(s:cV I μ H w){t:Zm}{p q:Zr}{x:V}(h:c8 E F H (.store t p q)=some (x,H')):
 Bi P I μ H w (do storeAt t (a.eval p) (a.eval q);pure .skip) x H':=by
 simp only[c8]at h;split at h
 .rename_i d id el off v W hp hq;split at h
  .rename_i es Q z;split at h
   .rename_i D B;split at h
    .rename_i hc;have⟨X,Y,G⟩:=hc;simp only[ζa,ζc]at h;obtain⟨rfl,rfl⟩:=h;have⟨pl,c,ty,g1,g2,g3,g4⟩:=s.obs id _ z;have⟨Z,S,e⟩:=(dx r hp).sj;rw[g1]at S;cases S;have u:=(dx r hq).cells;have T:∀y∈v.cells,V.one y=true:=by simpa using G
     have⟨k,l,m⟩:=g4.elem B;have J:=u.1;have b:pl.o+el*es+off+0+(a.eval q).cells.toList.length<=c.size:=Za
     have⟨c',f,g⟩:=uc (P:=P) (o:=pl.o+el*es+off) (a.eval q).cells.toList 0 w c g3 (u.Oh T) b;have C:fL I μ pl c' es (Q.set el (D.take off++v.cells++D.drop (off+v.cells.length))):=g4.splice B u T Za (by simpa using g)
     have L:=(Array.getElem?_eq_some_iff.1 g3).1;have⟨i,j⟩:=s.write (ob':=.row es (Q.set el (D.take off++v.cells++D.drop (off+v.cells.length)))) (o:=.cells c' ty) z rfl g1
      ⟨pl,c',ty,g1,g2,ir _ L,C⟩
     refine⟨.skip,undef,_,μ,?_,.inr ⟨rfl,rfl⟩,.undef I μ,i,j⟩;rw[e];have O:¬((a.eval q).cells.size≠d.size):=by simp at J;omega
     rw[g4.es_eq];unfold storeAt storeVar;simp only[run_bind,sureAddr,run_pure,andThen_ok,(U.ty W).jT,if_neg O,f]
    simp at h
   simp at h
  simp at h
 simp at h
def zQ(s:cV I μ H w){x:V}{v:Zp}(Y:bH I μ x v){es:Nat}{ys:Zt}(h:dD H es x=some ys):
 ∃B a arr,v=.slice B ys.length a/\ys.length<=a/\(∀D:World,D.heap=w.heap->(firstCells es ys.length v).run P D=.ok arr D)/\cK I μ ys.flatten arr.toList/\(∀y∈ys,y.length=es)/\
  (∀y∈ys,∀z∈y,V.one z=true):=by
 have u:∀(B:a_ Addr)(a:Nat)(D:World),D.heap=w.heap->(firstCells es 0 (.slice B 0 a)).run P D=.ok #[] D:=by intro B a D _;cases B with|none=>rfl|some B=>simp[firstCells,loadCells,loadCellsFrom]
 cases x with
 |dG=>simp only[dD,ζa]at h;subst h;obtain⟨B,rfl⟩:=Y.qJ;exact⟨B,0,#[],rfl,le_refl _,u B 0,.nil,Zc,Zc⟩|bJ=>simp only[dD,ζa]at h;subst h;rw[Y.lp];exact⟨none,0,#[],rfl,le_refl _,u none 0,.nil,Zc,Zc⟩|fsl t J=>
  simp only[dD]at h;split at h
  .rename_i X;simp only[ζa]at h;subst h;subst X;have E:=Y.lu
   cases E with
   |fsl0 _ B a=>exact⟨some B,a,#[],rfl,zero_le _,u (some B) a,.nil,Zc,Zc⟩|fsl _ _ b o a c hI r hu ho A hr=>
    have⟨el,fr,Z⟩:=s.imm _ _ hI;refine⟨_,a,((c.toList.drop o).take (J.length*t)).toArray,rfl,r,?_,?_,hu,ho⟩
    .intro D L;simp only[firstCells];exact C6 (uM (w:=D) (by rw[L];exact Z)) (.inl A)
    have Q:=fC hu;refine⟨by simp[Q];omega,λj p q l m=>?_⟩
    have S:=(ζe.1 l).1;rw[Q]at S;have G:0<t:=by rcases eq_zero_or_pos t with d|d;rw[d]at S;simp at S;exact d
    have f:j / t<J.length:=(Nat.div_lt_iff_lt_mul G).2 S;have T:j % t<t:=mod_lt _ G;have U:=hu _ (List.getElem_mem f);have e1:=vg hu (i:=j / t) (j:=j % t) (x:=J[j / t]) (y:=(J[j / t])[j % t]) (by simp[f]) (by simp[U,T])
    have n:j / t*t+j % t=j:=by rw[Nat.mul_comm,Nat.div_add_mod]
    rw[n,l]at e1;cases e1;simp only[getElem?_take,if_pos S,getElem?_drop]at m;refine .c _ _ (hr (j / t) (j % t) J[j / t] _ q (by simp[f]) (by simp[U,T]) ?_)
    rw[add_assoc,n];simpa using m
  simp at h
 |hsl id t off len=>
  simp only[dD]at h;split at h
  .rename_i X;subst X;split at h
   .rename_i O J W;split at h
    .rename_i aa;simp only[ζa]at h;subst h;have⟨p,c,g1,g2,g3⟩:=s.rows W;have C:((J.drop off).take len).length=len:=by simp;omega
     rcases Y.lB with⟨q,a,T,F,r,A,e⟩|⟨d,B,e⟩
     .rw[g1]at T;cases T;have G:O=t:=by rw[<-g3.es_eq,F]
      subst G;have⟨K,M⟩:=g3.span aa;refine⟨_,a,((c.toList.drop (p.o+off*O)).take (len*O)).toArray,by rw[e,C],Za,?_,by simpa using K,?_,?_⟩
      .intro D L;rw[e,C];simp only[firstCells];exact C6 (λk=>by rw[<-g2 k];simp[cell?,L]) (.inl M)
      .exact λy g=>g3.oB y (mem_of_mem_drop (mem_of_mem_take g))
      exactλy g=>g3.one y (mem_of_mem_drop (mem_of_mem_take g))
     subst d;simp only[List.take_zero]at C⊢;exact⟨_,0,#[],by rw[e];rfl,le_refl _,by rw[e];exact u _ 0,.nil,Zc,Zc⟩
    simp at h
   simp at h
  simp at h
 |_=>simp[dD]at h
def pK(z:Array Zp)(k:Nat):(zeroCells z k).size=k*z.size:=by simp[zeroCells]
def cV.drew(s:cV I μ H w):cV I μ H w.drew:=s.n_ rfl
def Al(s:cV I μ H w){es B:Nat}{xs ys:Zt}{old new rest:Array Zp}{el:Zm}(Y:cK I μ xs.flatten old.toList)(a:cK I μ ys.flatten new.toList)
 (G:∀x∈xs,x.length=es)(J:∀x∈ys,x.length=es)(U:∀x∈xs,∀y∈x,V.one y=true)(W:∀x∈ys,∀y∈x,V.one y=true)
 (D:xs.length+ys.length<=B)(b:rest.size=(B-(xs.length+ys.length))*es):
 ∃μ',bH I μ' (.hsl H.length es 0 (xs.length+ys.length)) (.slice (some ⟨w.heap.size,0,none⟩) (xs.length+ys.length) B)/\cV I μ' (H++[.row es (xs++ys)]) (w.alloc (.cells (old++new++rest) el))/\
  Step I μ H w I μ' (H++[.row es (xs++ys)]) (w.alloc (.cells (old++new++rest) el)):=by
 have C:=fC G;have L:=fC J;have u:=Y.1;have z:=a.1;simp only[length_toList]at u z;have O:(old++new++rest).size=B*es:=by simp only[Array.size_append];rw[<-u,<-z,C,L,b,<-add_mul,<-add_mul];congr 1;omega
 have t:(xs.length+ys.length)*es<=B*es:=mul_le_mul_right _ D;rw[add_mul]at t;have Q:fL I μ ⟨w.heap.size,0,es,(old++new++rest).size⟩ (old++new++rest) es (xs++ys):=by refine⟨rfl,rfl,?_,?_,?_,?_⟩;intro x S;rcases mem_append.1 S with h|h;exact G x h;exact J x h;intro x S;rcases mem_append.1 S with h|h;exact U x h;exact W x h;rw[O];simp only[ζi,zero_add,add_mul];exact t;have e:((old++new++rest).toList.drop 0).take ((xs++ys).length*es)=old.toList++new.toList:=(by simp only[List.drop_zero,Array.toList_append];rw[List.take_left' (by simp[<-u,<-z,C,L,add_mul])]);rw[e,flatten_append];exact Y.append a
 have⟨T,X⟩:=s.push (ob:=.row es (xs++ys)) (o:=.cells (old++new++rest) el) (p:=⟨w.heap.size,0,es,(old++new++rest).size⟩) rfl
  ⟨_,_,el,Mu.fN _ _ _,s.xy,lV _,Q.mono (ct.le_refl _) (Mu.pX (s.dom _ (le_refl _)))⟩
 refine⟨_,?_,T,X⟩;have:=bH.hsl (I:=I) H.length 0 (xs.length+ys.length) B _ (Mu.fN μ H.length ⟨w.heap.size,0,es,(old++new++rest).size⟩) D (by simp only[zero_add];rw[O];exact le_refl _)
 simpa using this
def JO(s:cV I μ H w){id:Nat}{ob ob':Ob}{p p':Pl}{o:Obj}(B:H[id]?=some ob)(U:ob.live=true)(c:μ id=some p)(Y:p'.b=p.b)
 (m:rW I (μ.gx H.length p') (fG w p.b o) H.length ob')(n:Obj.nf o:=by first|exact sG _ _|exact qx rfl):cV I (μ.gx H.length p') (H.set id .dead++[ob']) (fG w p.b o)/\Step I μ H w I (μ.gx H.length p') (H.set id .dead++[ob']) (fG w p.b o):=by
 have Z:=(ζe.1 B).1;have u:gV μ H p.b:=⟨id,p,ob,B,U,c,rfl⟩;have d:=s.dom H.length (le_refl _);have t:∀k x,(H.set id .dead++[ob'])[k]?=some x->(k=H.length/\x=ob')\/(k≠H.length/\k=id/\x=.dead)\/(k≠H.length/\k≠id/\H[k]?=some x):=by intro k x h;by_cases e:k<H.length;rw[getElem?_append_left (by simpa using e)]at h;by_cases C:k=id;subst C;rw[getElem?_set_self Z]at h;cases h;exact .inr (.inl ⟨Za,rfl,rfl⟩);rw[getElem?_set_ne (symm C)]at h;exact .inr (.inr ⟨Za,C,h⟩);have:=(ζe.1 h).1;simp at this;have e2:k=H.length:=Za;subst e2;simp at h;exact .inl ⟨rfl,h.symm⟩
 have z:∀b,gV (μ.gx H.length p') (H.set id .dead++[ob']) b->gV μ H b:=by rintro b ⟨k,q,x,i,O,S,rfl⟩;rcases t k x i with⟨rfl,rfl⟩|⟨_,_,rfl⟩|⟨e,C,h⟩;rw[Mu.fN]at S;cases S;rw[Y];exact u;simp[Ob.live]at O;rw[Mu.iC _ _ e]at S;exact⟨k,q,x,h,O,S,rfl⟩
 refine⟨⟨?_,?_,?_,?_,s.gl⟩,⟨ct.le_refl _,Mu.pX d,Zc,by rw[vS];exact le_refl _,?_,?_,rfl,⟨rfl,rfl,le_refl _⟩,λa _=>BP (b:=p.b) n (ir o (mo s u)) (λk d=>fV o d) a⟩⟩
 .intro k h;simp at h;rw[Mu.iC _ _ Za]
  exact s.dom k Za
 .intro b x h;refine IC.qT (s.imm b x h) (fV o ?_);intro D;rw[D,fI s u]at h;cases h
 .intro k x h;rcases t k x h with⟨rfl,rfl⟩|⟨_,_,rfl⟩|⟨e,C,h⟩
  .exact m
  .trivial
  refine(s.obs k x h).mono (ct.le_refl _) (Mu.pX d) (λq j Q=>⟨fV o ?_,fI s ⟨k,q,x,h,Q,j,rfl⟩⟩) (λr=>?_)
  .intro D;exact C (s.inj k id x ob q p h B Q U j c D)
  subst r;rw[Mu.iC _ _ e];exact s.obs k _ h
 .intro k T x W q q' i O l1 X J L G;rcases t k x i with⟨rfl,rfl⟩|⟨_,_,rfl⟩|⟨e,C,h⟩
  .rcases t T W O with⟨rfl,rfl⟩|⟨_,_,rfl⟩|⟨f,l,g⟩
   .rfl
   .simp[Ob.live]at X
   rw[Mu.fN]at J;cases J;rw[Mu.iC _ _ f]at L;exact absurd (s.inj T id W ob q' p g B X U L c (by rw[<-G,Y])) l
  .simp[Ob.live]at l1
  rcases t T W O with⟨rfl,rfl⟩|⟨_,_,rfl⟩|⟨f,l,g⟩
  .rw[Mu.fN]at L;cases L;rw[Mu.iC _ _ e]at J;exact absurd (s.inj k id x ob q p h B l1 U J c (by rw[G,Y])) C
  .simp[Ob.live]at X
  rw[Mu.iC _ _ e]at J;rw[Mu.iC _ _ f]at L;exact s.inj k T x W q q' h g l1 X J L G
 .intro b _ hn;refine fV o ?_;rintro rfl;exact hn u
 intro b h;rcases h with h|h
 .exact .inl h
 exact .inr (.inl (z b h))
def CO(f:eD P E){t g e:Zm}{d:TD}{D:TypeDesc}(j:P.underlying t=some (.slice e))(W:P.underlying g=some D)(Y:∃k,D=.slice k)(h:E.tt e=some d)
 (U J:a_ Addr)(sl sc B c:Nat)(new:Array Zp)(l:(firstCells d.size B (.slice J B c)).run P w=.ok new w)(ty:Zm):
 (sl+B<=sc->∀w',(match U with|some b=>(storeCells (b.add (sl*d.size)) new.toList).run P w=.ok () w'|none=>w'=w)->
  (append_ #[t,g] ty #[.slice U sl sc,.slice J B c]).run P w=.ok (.slice U (sl+B) sc) w')/\
 (sc<sl+B->sl+B<=2147483648->d.bytes<=4096->0<d.bytes->∀old,(∀O,O.heap=w.heap->(firstCells d.size sl (.slice U sl sc)).run P O=.ok old O)->
  (∀O,O.heap=w.heap->(firstCells d.size B (.slice J B c)).run P O=.ok new O)->
  ∃G rest,sl+B<=G/\rest.size=(G-(sl+B))*d.size/\
   (append_ #[t,g] ty #[.slice U sl sc,.slice J B c]).run P w=.ok (.slice (some ⟨w.heap.size,0,none⟩) (sl+B) G) (w.drew.alloc (.cells (old++new++rest) e))):=by
 have⟨i,z,L,o,p,m,Q,q,_⟩:=(f.ty h).info;have u:∀w,(zeroValue e).run P w=.ok z w:=λw=>by simp[zeroValue,nS L,m]
 have S:z.cells.size=d.size:=by have:=(Q (λ_=>none) (λ_=>none)).1;grind
 obtain⟨k,rfl⟩:=Y;constructor
 .intro T w' aj;unfold append_;simp only[run_bind,List.getElem?_toArray,getElem?_cons_zero,List.getElem?_cons_succ,dH j,dH W,andThen_ok,(f.ty h).jT,run_pure,lenOf,false_eq_true,if_false,Bool.not_false,if_true,if_pos T,l]
  cases U with
  |none=>simp_all|some b=>simp_all
 intro X r s v old a C;have Z:=nextslicecap_le X;have n:¬(nextslicecap (sl+B) sc*i.bytes>2 ^ 48):=by have:nextslicecap (sl+B) sc*i.bytes<=(2*2147483648)*4096:=mul_le_mul Za Za;omega
 have I:¬(sl+B<=sc):=Za
 refine⟨(appendCap (sl+B) sc e).cut (w.tape w.drawn (appendCap (sl+B) sc e)),zeroCells z.cells (((appendCap (sl+B) sc e).cut (w.tape w.drawn (appendCap (sl+B) sc e)))-(sl+B)),?_,?_,?_⟩
 .simp[Question.cut]
 .rw[pK,S]
 unfold append_;simp only[run_bind,List.getElem?_toArray,getElem?_cons_zero,List.getElem?_cons_succ,dH j,dH W,andThen_ok,(f.ty h).jT,run_pure,lenOf,false_eq_true,if_false,Bool.not_false,if_true,if_neg I,nS L];rw[if_neg Zd]
 simp only[run_bind,nS L,if_neg n,run_choose,forced,false_eq_true,if_false,andThen_ok,run_askRoom,u,newRow,run_newObj,run_pure];rw[a {w with drawn:=w.drawn+1} rfl];simp only[andThen_ok];rw[C {w with drawn:=w.drawn+1} rfl];rfl
def wrap_small{m:Nat}(h:m<=2147483648):i64.wrap (m:Int)=m:=by simp[wrap,IntKind.bits];omega
def Em(U:eD P E){t W e:Zm}{d:TD}{kk k:Zs}(a:P.underlying t=some (.slice e))(G:P.underlying W=some (.int kk))(Y:E.tt e=some d)(ty:Zm)(m:Nat)(D:m<=2147483648):
 (m=0->(append_ #[t,W] ty #[.slice none 0 0,.int k m]).run P w=.ok (.slice none 0 0) w)/\
 (0<m->d.bytes<=4096->0<d.bytes->∃B z rest,m<=B/\rest.size=(B-m)*d.size/\cK I μ d.zero z.toList/\
  (append_ #[t,W] ty #[.slice none 0 0,.int k m]).run P w=.ok (.slice (some ⟨w.heap.size,0,none⟩) m B) (w.drew.alloc (.cells (#[]++zeroCells z m++rest) e))):=by
 have⟨i,z,Q,Z,n,b,C,o,_⟩:=(U.ty Y).info;have u:∀w,(zeroValue e).run P w=.ok z w:=λw=>by simp[zeroValue,nS Q,b]
 have J:z.cells.size=d.size:=by have:=(C (λ_=>none) (λ_=>none)).1;grind
 have c:=wrap_small D;constructor
 .rintro rfl;unfold append_;have S:i64.wrap 0=0:=by omega
  simp[dH a,dH G,(U.ty Y).jT,asInt,nS Q,kY,S]
 intro p q r;have T:nextslicecap (0+m) 0<=2*(0+m):=nextslicecap_le Za
 have f:¬(nextslicecap (0+m) 0*i.bytes>2 ^ 48):=by have:nextslicecap (0+m) 0*i.bytes<=(2*2147483648)*4096:=mul_le_mul Za Za;omega
 have g:¬(m*(i.bytes:Int)>2 ^ 48):=by have s:m*i.bytes<=2147483648*4096:=mul_le_mul D Za;grind
 have j:¬((0+m:Nat)>i64.max):=by have:i64.max=9223372036854775807:=(by rfl);omega
 have L:¬(0+m<=0):=Za
 have O:¬((m:Int)<0):=Za
 refine⟨(appendCap (0+m) 0 e).cut (w.tape w.drawn (appendCap (0+m) 0 e)),z.cells,zeroCells z.cells (((appendCap (0+m) 0 e).cut (w.tape w.drawn (appendCap (0+m) 0 e)))-(0+m)),?_,?_,C _ _,?_⟩
 .simp[Question.cut]
 .rw[pK,J,zero_add]
 unfold append_;have X:(if m*d.size=0 then pure #[]else do pure (zeroCells (<-zeroValue e).cells m))=(do pure (zeroCells (<-zeroValue e).cells m))\/(m*d.size=0/\zeroCells z.cells m=#[]):=by by_cases h:m*d.size=0;right;exact⟨h,Array.eq_empty_of_size_eq_zero (by rw[pK,J,h])⟩;left;rw[if_neg h]
 simp only[run_bind,List.getElem?_toArray,getElem?_cons_zero,List.getElem?_cons_succ,dH a,dH G,andThen_ok,(U.ty Y).jT,run_pure,if_true,asInt,kY,c,if_neg O,nS Q,if_neg g,Int.toNat_natCast,if_neg L,if_false];rw[if_neg (λh=>j h.1)]
 simp only[run_bind,nS Q,if_neg f,run_choose,forced,andThen_ok,u,newRow,firstCells];rcases X with h|⟨h,l⟩
 .rw[h];simp[u,run_newObj]
 rw[if_pos h,l];simp[run_newObj]
def LL(g:eD P E)(r:eC I μ n F a.tmps)(s:cV I μ H w){args:Array Zr}{U:Array Zm}{x:V}{ty:Zm}
 (h:c8 E F H (.call {callee:=.builtin .append,args,argTypes:=U})=some (x,H')):
 Bi P I μ H w (do let d<-resolve a.eval {callee:=.builtin .append,args,argTypes:=U} ty;invoke d.target d.args) x H':=by
 simp[c8]at h;split at h
 .rename_i t t' vs vx ay aj;obtain⟨us,ux,W,i,T⟩:=(mP r aj).two;split at h
  .rename_i e e' hk ak;obtain⟨d0,al,am⟩:=fh hk;obtain⟨desc,h1,h2,h3⟩:=(g.ty al).dH;rw[am]at h2;have:=i_ h2;subst this;obtain⟨d1,iZ,X⟩:=fh ak;obtain⟨an,g1,g2,g3⟩:=(g.ty iZ).dH;rw[X]at g2;have:=i_ g2;subst this;have C:∀v w',(append_ #[t,t'] ty #[us,ux]).run P w=.ok v w'->
    (do let d<-resolve a.eval {callee:=.builtin .append,args,argTypes:=U} ty;invoke d.target d.args).run P w=.ok (.value v) w':=by
    simp[resolve,run_bind,run_pure,andThen_ok,invoke,builtin];rw[q_ W];have ea:U=#[t,t']:=Zd
    simp_all
   split at h
   .rename_i d hd;split at h
    .
     rename_i xs B ao;obtain⟨ad,f,arr,e1,e2,e3,e4,_⟩:=zQ (P:=P) s i B;obtain⟨ap,Y,D,f1,f2,j,o,_⟩:=zQ s T ao;simp at f1 j;have aA:D=#[]:=by have:=o.1;grind
     have j:=j w rfl;rw[f1]at j;have key:=(CO g h1 g1 ⟨_,rfl⟩ hd ad ap xs.length f 0 Y D j ty).1 Za w
      (by
       cases ad with
       |none=>rfl|some b=>simp[aA,storeCells])
     rw[<-f1,<-e1,add_zero,<-e1]at key;have aq:x=vs/\H'=H:=by grind
     obtain⟨rfl,rfl⟩:=aq;exact⟨_,us,w,μ,C _ _ key,.inl rfl,i,s,.refl _ _ _ _⟩
    .rename_i xs ys aH B ao;obtain⟨ad,f,arr,e1,e2,e3,e4,e5,e6⟩:=zQ s i B;obtain⟨ap,Y,D,f1,f2,j,o,f5,f6⟩:=zQ s T ao;split at h
     .rename_i hc;obtain⟨aB,ar,au⟩:=hc;have aI:0<ys.length:=by
       rcases eq_zero_or_pos ys.length with h0|h0
       .exact absurd (List.eq_nil_of_length_eq_zero h0) aH
       exact h0
      have key:=CO g h1 g1 ⟨_,rfl⟩ hd ad ap xs.length f ys.length Y D (by rw[<-f1];exact j w rfl) ty
      rw[<-f1,<-e1]at key;have Q:f<xs.length+ys.length->∃G rest,xs.length+ys.length<=G/\rest.size=(G-(xs.length+ys.length))*d.size/\
       (append_ #[t,t'] ty #[us,ux]).run P w=.ok (.slice (some ⟨w.heap.size,0,none⟩) (xs.length+ys.length) G) (w.drew.alloc (.cells (arr++D++rest) e)):=by
       intro av;refine key.2 av aB ar au arr ?_ ?_
       .intro w2 aw;exact e3 w2 aw
       intro w2 aw;exact j w2 aw
      simp at h;obtain⟨H1,L,rfl,rfl⟩:=h
      cases vs with
      |dG=>
       simp[gB]at L;subst L;simp[dD]at B;subst B;obtain⟨aJ,q⟩:=i.qJ;have ah:f=0:=by rw[q]at e1;cases e1;rfl
       obtain⟨G,rest,M,N,R⟩:=Q (by simp;omega)
       obtain⟨μ',m1,A,K⟩:=Al s.drew e4 o e5 f5 e6 f6 M N;refine⟨_,_,_,μ',C _ _ R,.inl rfl,m1,A,?_⟩;exact Step.trans s.drew (Step.n_ rfl rfl ⟨rfl,rfl,le_succ _⟩) K
      |bJ=>
       simp[gB]at L;subst L;simp[dD]at B;subst B;have q:=i.lp;have ah:f=0:=by rw[q]at e1;cases e1;rfl
       obtain⟨G,rest,M,N,R⟩:=Q (by simp;omega)
       obtain⟨μ',m1,A,K⟩:=Al s.drew e4 o e5 f5 e6 f6 M N;refine⟨_,_,_,μ',C _ _ R,.inl rfl,m1,A,?_⟩;exact Step.trans s.drew (Step.n_ rfl rfl ⟨rfl,rfl,le_succ _⟩) K
      |hsl id es off len=>
       simp[gB]at L;split at L
       .rename_i u aK ae;simp at L;subst L;have aC:(H[id]?).bind Ob.rows=some (u,aK):=by rw[ae];rfl
        have aX:=B;simp only[dD]at B;split at B
        .rename_i aL;rw[aC]at B;simp only at B;split at B
         .rename_i aM;simp at B;obtain⟨p,c,aD,q1,q2,q3,q4⟩:=s.obs id _ ae;have Z:xs.length=len:=by rw[<-B];simp;omega
          have J:f<xs.length+ys.length->Bi P I μ H w (do let d<-resolve a.eval {callee:=.builtin .append,args,argTypes:=U} ty;invoke d.target d.args)
           (.hsl H.length d.size 0 (xs.length+ys.length)) (H.set id .dead++[.row d.size (xs++ys)]):=by
           intro av;obtain⟨G,rest,M,N,R⟩:=Q av;obtain⟨s1,s2⟩:=s.drew.kill ae;obtain⟨μ',m1,A,K⟩:=Al s1 e4 o e5 f5 e6 f6 M N;rw[length_set]at m1;exact⟨_,_,_,μ',C _ _ R,.inl rfl,m1,A,Step.trans s.drew (Step.n_ rfl rfl ⟨rfl,rfl,le_succ _⟩) (Step.trans s1 s2 K)⟩
          rcases i.lB with⟨p',S,hm,aN,aY,aO,ee⟩|⟨h0,aJ,ee⟩
          .rw[q1]at hm;cases hm;have ax:S=f/\ad=some ⟨p.b,p.o+off*es,none⟩:=by rw[ee]at e1;cases e1;exact⟨rfl,rfl⟩
           obtain⟨rfl,rfl⟩:=ax
           by_cases ai:xs.length+ys.length<=S
           .have aE:u=es:=by rw[<-q4.es_eq,aN]
            subst aE;have O:=aL;obtain⟨r1,r2⟩:=q4.span aM;rw[B]at r1;have af:=o.1;simp only[length_toList]at af;rw[fC f5]at af;have aP:(len+ys.length)*u<=S*u:=mul_le_mul_right _ Za
            rw[add_mul]at aP;rw[add_mul]at aO;have aQ:=q4.sz;rw[<-O]at af;have aa:p.o+off*u+len*u+0+D.toList.length<=c.size:=by simp;omega
            obtain⟨c',u1,u2⟩:=uc D.toList 0 w c q3 (o.Oh (λx T=>by
             obtain⟨l,hl,aR⟩:=mem_flatten.1 T;exact f6 l hl x aR)) aa
            have aF:c'.size=c.size:=by have:=congrArg length u2;simp at this aa;omega
            have aG:=key.1 ai (fG w p.b (.cells c' aD)) (by
             simp[oF,Z];rw[<-O];exact u1)
            have ab:fL I μ ⟨p.b,p.o+off*u,u,p.sz⟩ c' u (xs++ys):=by refine⟨rfl,by rw[aF];exact aQ,?_,?_,?_,?_⟩;intro x T;rcases mem_append.1 T with h|h;exact(e5 x h).trans O.symm;exact(f5 x h).trans O.symm;intro x T;rcases mem_append.1 T with h|h;exact e6 x h;exact f6 x h;rw[aF,ζi,Z,add_mul];simp only;omega;have e:(c'.toList.drop (p.o+off*u)).take ((xs++ys).length*u)=(c.toList.drop (p.o+off*u)).take (len*u)++D.toList:=(by rw[u2,ζi,Z,add_mul,af];simp only[add_zero];have aS:(take (p.o+off*u+len*u) c.toList).length=p.o+off*u+len*u:=(by simp;omega);rw[append_assoc,List.drop_append_of_le_length (by rw[aS];omega),drop_take,show p.o+off*u+len*u-(p.o+off*u)=len*u by omega];have aT:(take (len*u) (List.drop (p.o+off*u) c.toList)).length=len*u:=(by simp;omega);rw[<-append_assoc,List.take_left' (by rw[ζi,aT];simp)]);rw[e,flatten_append];exact r1.append o
            obtain⟨s1,s2⟩:=JO (ob':=.row u (xs++ys)) (p':=⟨p.b,p.o+off*u,u,p.sz⟩) s ae rfl q1 rfl
             ⟨_,c',aD,Mu.fN _ _ _,q2,ir _ (Array.getElem?_eq_some_iff.1 q3).1,ab.mono (ct.le_refl _) (Mu.pX (s.dom _ (le_refl _)))⟩
            rw[<-O];refine⟨_,_,_,_,C _ _ aG,.inl rfl,?_,s1,s2⟩;have:=bH.hsl (I:=I) H.length 0 (xs.length+ys.length) S _ (Mu.fN μ H.length ⟨p.b,p.o+off*u,u,p.sz⟩) ai (by simp;omega)
            simpa using this
           exact J Za
          have ah:=by rw[ee]at e1;simp[Value.slice.injEq]at e1;exact e1.2.2.symm
          exact J Za
         simp at B
        simp at B
       simp at L
      |_=>simp[gB]at L
     grind
    grind
   grind
  .
   rename_i e kk hk ak;obtain⟨d0,al,am⟩:=fh hk;obtain⟨desc,h1,h2,h3⟩:=(g.ty al).dH;rw[am]at h2;have:=i_ h2;subst this;obtain⟨d1,iZ,X⟩:=fh ak;obtain⟨an,g1,g2,g3⟩:=(g.ty iZ).dH;rw[X]at g2;have:=Ct g2;subst this;have C:∀v w',(append_ #[t,t'] ty #[us,ux]).run P w=.ok v w'->
    (do let d<-resolve a.eval {callee:=.builtin .append,args,argTypes:=U} ty;invoke d.target d.args).run P w=.ok (.value v) w':=by
    intro v w' hv;simp[resolve,run_bind,run_pure,andThen_ok,invoke,builtin];rw[q_ W];have ea:U=#[t,t']:=by apply ext';simpa using ay
    rw[ea,hv];rfl
   split at h
   .rename_i d hd;unfold mkApp at h;split at h
    .rename_i k m;have q:=i.lp;subst q;have q:=T.fe;subst q;split at h
     .rename_i h0;subst h0;cases h;have key:=(Em (μ:=μ) (I:=I) (w:=w) (k:=k) g h1 g1 hd ty 0 Za).1 rfl
      exact⟨_,_,w,μ,C _ _ key,.inl rfl,i,s,.refl _ _ _ _⟩
     split at h
     .rename_i hc;obtain⟨aU,aB,ar,au⟩:=hc;cases h;obtain⟨m,rfl⟩:=Int.eq_ofNat_of_zero_le (Int.le_of_lt aU);obtain⟨G,z,rest,M,N,R,k4⟩:=(Em g h1 g1 hd ty m Za).2 Za ar au
      have aV:=(g.ty hd).info.choose_spec.choose_spec.2.2.2.2.2.1;have aW:=(g.ty hd).info.choose_spec.choose_spec.2.2.2.2.2.2.1;have hu:∀x∈replicate m d.zero,x.length=d.size:=λx T=>by rw[eq_of_mem_replicate T];exact aV
      have ho:∀x∈replicate m d.zero,∀y∈x,V.one y=true:=λx T y hy=>by rw[eq_of_mem_replicate T]at hy;exact all_eq_true.1 aW y hy
      obtain⟨μ',m1,A,K⟩:=Al (xs:=[]) (ys:=replicate m d.zero) (old:=#[]) (new:=zeroCells z m) (rest:=rest) s.drew .nil (vP R m) Zc hu Zc ho (by simpa using M) (by simpa using N)
      simp at m1 A K;refine⟨_,_,_,μ',C _ _ k4,.inl rfl,by simpa using m1,by simpa using A,?_⟩
      exact Step.trans s.drew (Step.n_ rfl rfl ⟨rfl,rfl,le_succ _⟩) (by simpa using K)
     cases h
    cases h
   cases h
  grind
 grind
def yL{es:Nat}{xs:Zt}(a:∀x∈xs,x.length=es)(k:Nat)(b:k<=xs.length):(xs.take k).flatten=xs.flatten.take (k*es)/\(xs.drop k).flatten=xs.flatten.drop (k*es):=by
 have t:xs.flatten=(xs.take k).flatten++(xs.drop k).flatten:=by rw[<-flatten_append,take_append_drop]
 have g1:(xs.take k).flatten.length=k*es:=by rw[fC (λx t=>a x (mem_of_mem_take t)),length_take,min_eq_left b]
 grind
def MR(m:eD P E)(r:eC I μ n F a.tmps)(s:cV I μ H w){args:Array Zr}{D:Array Zm}{x:V}{ty:Zm}
 (h:c8 E F H (.call {callee:=.builtin .clear,args,argTypes:=D})=some (x,H')):
 Bi P I μ H w (do let d<-resolve a.eval {callee:=.builtin .clear,args,argTypes:=D} ty;invoke d.target d.args) x H':=by
 simp[c8]at h;split at h
 .rename_i t v af O;have⟨u,hu,g⟩:=(mP r O).one;split at h
  .rename_i e hk;have⟨d0,ah,ai⟩:=fh hk;have⟨A,h1,K,h3⟩:=(m.ty ah).dH;rw[ai]at K;have:=i_ K;split at h
   .rename_i d hd;have⟨i,z,hi,au,aw,hz,T,aj,ak,_⟩:=(m.ty hd).info;have al:∀w,(zeroValue e).run P w=.ok z w:=λw=>by simp[zeroValue,nS hi,hz]
    have am:z.cells.size=d.size:=by have:=(T (λ_=>none) (λ_=>none)).1;grind
    have L:∀v w',(clear_ D ty #[u]).run P w=.ok v w'->
     (do let d<-resolve a.eval {callee:=.builtin .clear,args,argTypes:=D} ty;invoke d.target d.args).run P w=.ok (.value v) w':=by
     intro v w' hv;simp[resolve,run_bind,run_pure,andThen_ok,invoke,builtin];rw[q_ hu,hv];rfl
    have U:∀W f,u=.slice W 0 f->Bi P I μ H w (do let d<-resolve a.eval {callee:=.builtin .clear,args,argTypes:=D} ty;invoke d.target d.args) .undef H:=λW f q=>by subst q;refine⟨_,.tuple #[],w,μ,L (.tuple #[]) w ?_,.inl rfl,bH.undef _ _,s,.refl _ _ _ _⟩;unfold clear_;cases W<;>simp[af,h3]
    unfold BQ at h;split at h
    .cases h;exact U _ _ g.lp
    .have⟨W,q⟩:=g.qJ;grind
    .rename_i id es off len;split at h
     .rename_i Q;subst Q;split at h
      .rcases g.lB with⟨p,f,_,_,_,_,q⟩|⟨_,W,q⟩
       .grind
       grind
      rename_i len;split at h
      .rename_i an S X;split at h
       .rename_i Y;cases h;have⟨p,c,el,j,hI,C,B⟩:=s.obs id _ X;rcases g.lB with⟨q,f,M,ao,av,ap,rfl⟩|⟨h0,_⟩
        .rw[j]at M;cases M;have Q:an=d.size:=by rw[<-B.es_eq,ao]
         subst Q;have J:(zeroCells z.cells (len+1)).size=(len+1)*d.size:=by rw[pK,am]
         have ax:=B.room;have Z:(off+(len+1))*d.size<=S.length*d.size:=mul_le_mul_right _ Y;rw[add_mul]at Z;have G:=vP (T I μ) (len+1);have aq:∀x∈replicate (len+1) d.zero,x.length=d.size:=λx b=>by rw[eq_of_mem_replicate b];exact aj
         have N:∀x∈replicate (len+1) d.zero,∀y∈x,V.one y=true:=λx b y R=>by rw[eq_of_mem_replicate b]at R;exact all_eq_true.1 ak y R
         have⟨c',u1,k⟩:=uc (P:=P) (o:=p.o+off*d.size) (zeroCells z.cells (len+1)).toList 0 w c C (cK.Oh G (λx b=>by
          have⟨l,hl,ar⟩:=mem_flatten.1 b;exact N l hl x ar)) (by simp[J];omega)
         rw[add_zero]at k;have ab:c'.size=c.size:=by have:=congrArg length k;simp[J]at this;omega
         have⟨s2,st2⟩:=s.write (ob':=.row d.size (S.take off++replicate (len+1) d.zero++S.drop (off+(len+1)))) X rfl j
          ⟨p,c',el,j,hI,ir _ (Array.getElem?_eq_some_iff.1 C).1,by
           have ae:(S.take off++replicate (len+1) d.zero++S.drop (off+(len+1))).length=S.length:=by simp;omega
           refine⟨B.es_eq,by rw[ab];exact B.sz,?_,?_,by rw[ae,ab];exact B.room,?_⟩
           .intro x b;rcases mem_append.1 b with b|b
            .rcases mem_append.1 b with b|b
             .exact B.oB x (mem_of_mem_take b)
             exact aq x b
            exact B.oB x (mem_of_mem_drop b)
           .intro x b;rcases mem_append.1 b with b|b
            .rcases mem_append.1 b with b|b
             .exact B.one x (mem_of_mem_take b)
             exact N x b
            exact B.one x (mem_of_mem_drop b)
           rw[ae,k];have hL:=AB c.toList (zeroCells z.cells (len+1)).toList p.o (S.length*d.size) (off*d.size) (by simp;omega) (by simp[J];omega)
           rw[hL,flatten_append,flatten_append,(yL B.oB off Za).1,(yL B.oB _ Y).2]
           have e:off*d.size+(zeroCells z.cells (len+1)).toList.length=(off+(len+1))*d.size:=by simp[J,add_mul]
           rw[e];exact((B.rel.take _).append G).append (B.rel.drop _)⟩
         refine⟨_,.tuple #[],_,μ,L (.tuple #[]) (fG w p.b (.cells c' el)) ?_,.inl rfl,bH.undef _ _,s2,st2⟩;unfold clear_;simp_all
        simp_all
       simp_all
      simp_all
     simp_all
    simp_all
   simp_all
  simp_all
 simp_all
def TZ(s t:Zq)(h:(s==t)=true):s=t:=by
 cases s with|mk a=>cases t with|mk b=>
 have u:(a==b)=true:=h;grind
inductive yd(P:Program)(E:Env)(t:TypeId):V->Value->Prop
 |int(k:IntKind)(m:Int)(h:P.underlying t=some (.int k)):yd P E t (.int k m) (.int k m)|str(s:ByteArray)(h:P.underlying t=some .string):yd P E t (.str s) (.string s)|agg(m:Nat)(cs:List V)(l:List Int)(h:uY P t m)(hl:l.length=m)(hi:g_ cs=some l):yd P E t (.agg cs) (.agg (ic l))
def LV(B:eD P E){t:Zm}{k:V}{v:Zp}(h:zT E t k=true)(b:bH I μ k v):yd P E t k v:=by
 unfold zT at h;split at h;rename_i J L m c;have⟨d,z,u⟩:=fh c;have⟨a,f,w,O⟩:=(B.ty z).dH;rw[u]at w;have:=Ct w;subst this;have e:J=L:=by grind
 subst e;rw[b.fe];exact .int _ _ f;next s c=>have⟨d,z,u⟩:=fh c;have⟨a,f,w,O⟩:=(B.ty z).dH;rw[u]at w;have:=yW w;subst this;rw[b.sH];exact .str _ f
 rename_i Q _;split at h;next m C=>simp[isSome_iff_exists]at h;have⟨S,l,G⟩:=h;obtain⟨T,rfl,D⟩:=b.iu;obtain⟨rfl,e⟩:=pM G D;exact .agg m Q l (B.eqN _ _ C) Za G
 grind;grind
def Mz(d:Nat)(e:Zl){t:Zm}{k:Zs}{m:Int}(h:P.underlying t=some (.int k)):(checkKey e (d+1) t (.int k m)).run P w=.ok () w:=by simp[checkKey,run_bind,dH h,andThen_ok,run_pure]
def L6(d:Nat)(e:Zl){t:Zm}{m:Zq}(h:P.underlying t=some .string):(checkKey e (d+1) t (.string m)).run P w=.ok () w:=by simp[checkKey,run_bind,dH h,andThen_ok,run_pure]
def yb{t:Zm}{k:V}{v:Zp}(h:yd P E t k v)(e:Zl):(checkKey e 10000 t v).run P w=.ok () w:=by cases h with|int k m h=>exact Mz 9999 e h|str s h=>exact L6 9999 e h|agg m z l h u B=>exact h.check w e l u
def k9(I:ct)(μ:Mu)(es:aZ MapEntry)(i:Nat):a_ (Nat×V)->a_ (Nat×Zp)->Prop
 |none,none=>True|some (j,x),some (B,v)=>j=B/\bH I μ x v/\i<=j/\∃e,es[j-i]?=some e/\e.val=v|_,_=>False
def CH{d:TypeDesc}{k:V}{v:Zp}(O:(∃kk m,d=.int kk/\k=.int kk m/\v=.int kk m)\/(∃s,d=.string/\k=.str s/\v=.string s)):
 ∀(B:aZ (V×V))(es:aZ MapEntry)(i:Nat)(r:a_ (Nat×V)),B.length=es.length->(∀(j:Nat)q e,B[j]?=some q->es[j]?=some e->bH I μ q.1 e.key/\bH I μ q.2 e.val)->
 iy k B i=some r->∃D,findNow d v es i=some D/\k9 I μ es i r D/\∀j x,r=some (j,x)->∃e,es[j-i]?=some e/\e.key=v:=by
 intro B
 induction B with
 |nil=>
  intro es i r L _ h
  cases es with
  |nil=>simp only[iy,ζa]at h;subst h;exact⟨none,rfl,trivial,Zc⟩|cons _ _=>simp_all
 |cons q B Q=>
  intro es i r L f h
  cases es with
  |nil=>simp_all|cons e es=>
   have⟨C,S⟩:=q;have⟨g1,g2⟩:=f 0 (C,S) e rfl rfl;simp only[iy]at h;have t:∀b,vv k C=some b->sameNow d v e.key=some b/\(b=true->e.key=v):=by
    intro b u;rcases O with⟨kk,m,rfl,rfl,rfl⟩|⟨s,rfl,rfl,rfl⟩
    .cases C<;>simp only[vv]at u<;>(try grind);rename_i o p;split at u;(next G=>simp only[ζa]at u;subst u;subst G;rw[g1.fe];exact⟨by simp[sameNow],by simp;grind⟩);grind
    cases C<;>simp only[vv]at u<;>(try (simp at u;done));simp only[ζa]at u;subst u;rw[g1.sH];exact⟨by simp[sameNow],λT=>by rw[TZ _ _ T]⟩
   split at h
   .rename_i hk;have⟨c,g⟩:=t true hk;simp only[ζa]at h;subst h;refine⟨some (i,e.val),by simp[findNow,c],⟨rfl,g2,le_refl _,e,Zc,rfl⟩,?_⟩
    intro j x w;simp only[ζa,ζc]at w;obtain⟨rfl,_⟩:=w;exact⟨e,Zc,g rfl⟩
   .rename_i hk;have⟨c,_⟩:=t false hk;have⟨D,p1,p2,p3⟩:=Q es (i+1) r (by simpa using L) (λj a b x y=>f (j+1) a b (by simpa using x) (by simpa using y)) h
    refine⟨D,by simp[findNow,c,p1],?_,?_⟩
    .cases r with
     |none=>cases D<;>simp_all [k9]|some z=>
      cases D with
      |none=>simp[k9]at p2|some U=>have⟨W,X,A,J,Y,Z⟩:=p2;exact⟨W,X,Za,J,by rw[show z.1-i=(z.1-(i+1))+1 by omega];simpa using Y,Z⟩
    intro j x w;have⟨J,l,n⟩:=p3 j x w;subst w;have:i+1<=j:=by cases D with|none=>simp[k9]at p2|some U=>exact p2.2.2.1
    exact⟨J,by rw[show j-i=(j-(i+1))+1 by omega];simpa using l,n⟩
   grind
def JE{t:Zm}{m:Nat}(f:uY P t m){cs:Zu}{l:Zy}(U:l.length=m)(W:g_ cs=some l):
 ∀(B:aZ (V×V))(es:aZ MapEntry)(i:Nat)(r:a_ (Nat×V)),B.length=es.length->(∀(j:Nat)q e,B[j]?=some q->es[j]?=some e->bH I μ q.1 e.key/\bH I μ q.2 e.val)->
 iy (.agg cs) B i=some r->∃D,(findAsking t (.agg (ic l)) es i).run P w=.ok D w/\k9 I μ es i r D/\∀j x,r=some (j,x)->∃e,es[j-i]?=some e/\e.key=.agg (ic l):=by
 intro B
 induction B with
 |nil=>
  intro es i r C _ h
  cases es with
  |nil=>simp[iy]at h;subst h;exact⟨none,rfl,trivial,Zc⟩|cons _ _=>simp_all
 |cons q B T=>
  intro es i r C d h
  cases es with
  |nil=>simp_all|cons e es=>
   have⟨G,X⟩:=q;have⟨g1,g2⟩:=d 0 (G,X) e rfl rfl;simp[iy]at h;have u:∀b,vv (.agg cs) G=some b->(equal t (.agg (ic l)) e.key).run P w=.ok b w/\(b=true->e.key=.agg (ic l)):=by intro b J;cases G<;>simp[vv]at J<;>(try (simp at J));obtain⟨v,Y,Q,x2,A,rfl⟩:=vX J;rw[W]at Q;cases Q;have⟨E,ev,L⟩:=g1.iu;obtain⟨rfl,e2⟩:=pM x2 L;rw[ev];refine⟨f.key w l Y U Za,?_⟩;grind
   split at h
   .rename_i hk;have⟨c,F⟩:=u true hk;simp at h;subst h;refine⟨some (i,e.val),by simp[findAsking,c],⟨rfl,g2,le_refl _,e,Zc,rfl⟩,?_⟩
    grind
   .rename_i hk;have⟨c,_⟩:=u false hk;have⟨D,p1,p2,p3⟩:=T es (i+1) r Zd (λj a b x y=>d (j+1) a b Zd (by simpa using y)) h
    refine⟨D,by simp[findAsking,c,p1],?_,?_⟩
    .cases r with
     |none=>cases D<;>simp_all [k9]|some z=>
      cases D with
      |none=>simp[k9]at p2|some Z=>have⟨g,k,H,O,n,o⟩:=p2;exact⟨g,k,Za,O,by rw[show z.1-i=(z.1-(i+1))+1 by omega];simpa using n,o⟩
    intro j x S;have⟨O,p,s⟩:=p3 j x S;subst S;have:=by cases D with|none=>simp[k9]at p2|some Z=>exact p2.2.2.1
    exact⟨O,by rw[show j-i=(j-(i+1))+1 by omega];simpa using p,s⟩
   grind
def um{t:Zm}{k:V}{v:Zp}(h:yd P E t k v){B:aZ (V×V)}{es:Array MapEntry}(a:uy I μ B es){r:a_ (Nat×V)}(G:iy k B 0=some r):
 ∃D,(findKey t v es.toList).run P w=.ok D w/\k9 I μ es.toList 0 r D/\∀j x,r=some (j,x)->∃e,es[j]?=some e/\e.key=v:=by
 have u:=by simpa using a.1
 have z:∀(j:Nat)q e,B[j]?=some q->es.toList[j]?=some e->bH I μ q.1 e.key/\bH I μ q.2 e.val:=λj q e x y=>a.2 j q e x Zd
 have fin:∀(D:a_ (Nat×Zp)),(∀j x,r=some (j,x)->∃e,es.toList[j-0]?=some e/\e.key=v)->∀j x,r=some (j,x)->∃e,es[j]?=some e/\e.key=v:=by grind
 cases h with
 |int kk m h=>have⟨D,g1,g2,g3⟩:=CH (.inl ⟨kk,m,rfl,rfl,rfl⟩) B es.toList 0 r u z G;exact⟨D,by simp[findKey,run_bind,dH h,andThen_ok,g1,run_pure],g2,fin D g3⟩|str s h=>have⟨D,g1,g2,g3⟩:=CH (.inr ⟨s,rfl,rfl,rfl⟩) B es.toList 0 r u z G;exact⟨D,by simp[findKey,run_bind,dH h,andThen_ok,g1,run_pure],g2,fin D g3⟩|agg m S l h L O=>
  have⟨D,g1,g2,g3⟩:=JE (w:=w) h L O B es.toList 0 r u z G;have⟨d,Q,C⟩:=h.kind;refine⟨D,?_,g2,fin D g3⟩;simp[findKey,run_bind,dH Q,andThen_ok]
  cases J:es.toList with
  |nil=>rw[J]at g1;simp[findNow,run_pure];simpa[findAsking]using g1|cons e rest=>
   have:findNow d (.agg (ic l)) (e::rest) 0=none:=by rcases C with⟨_,_,rfl⟩|⟨_,rfl⟩<;>simp[findNow,sameNow]
   grind
def zf{b:Nat}{o:Obj}(h:w.heap[b]?=some o)(B:∀c e f,o≠.cells c e f):(getObj b).run P w=.ok o w:=by simp[getObj,Sem.run,h]
def Nx(s:cV I μ H w){m:V}{v:Zp}(d:bH I μ m v){B:aZ (V×V)}(h:l_ H m=some B):
 (v=.map none/\B=[])\/∃b es a,v=.map (some b)/\w.heap[b]?=some (.map es a)/\uy I μ B es:=by
 cases m with
 |gb=>simp only[l_,ζa]at h;exact .inl ⟨d.Nn,h.symm⟩|fmap k=>
  simp[l_]at h;subst h
  cases d with
  |c _ _ d=>cases d with
   |fmap _ b es z C hk t=>have⟨f,g⟩:=s.imm _ _ z;exact .inr ⟨b,es,f,rfl,g,C,λj q e x y=>⟨.c _ _ (hk j q e x y),.c _ _ (t j q e x y)⟩⟩
 |hmap id=>
  simp[l_]at h;split at h
  .rename_i D u;simp at h;have⟨p,es,f,g1,g2,g3,g4⟩:=s.obs id _ u;have⟨q,i,e⟩:=d.AZ
   grind
  grind
 |_=>simp[l_]at h
def LU(U:eD P E)(r:eC I μ n F a.tmps)(s:cV I μ H w){t:Zm}{m k:Zr}{ok:Zl}{x:V}(h:dW E F H (.lookup t m k ok)=some x):
 ∃v,(Instr.lookup t (a.eval m) (a.eval k) ok).run P w=.ok v w/\bH I μ x v:=by
 simp[dW]at h;split at h
 .rename_i kt et mv kv hk hm Q;obtain⟨d,l,S⟩:=fh hk;obtain⟨c,o,e,f⟩:=(U.ty l).dH;rw[S]at e;have:=yu e;subst this;split at h
  .rename_i de T W J;split at h
   .rename_i X;have D:=LV U X (dx r Q);obtain⟨z,g,Y⟩:=(U.ty W).P5;obtain⟨es,L,G⟩:∃es:Array MapEntry,uy I μ T es/\∀u,(findKey kt (a.eval k) es.toList).run P w=.ok u w->(Instr.lookup t (a.eval m) (a.eval k) ok).run P w=
     .ok (if ok then .tuple #[(u.map (·.2)).getD z,.bool u.isSome]else(u.map (·.2)).getD z) w:=by
     rcases Nx s (dx r hm) J with⟨e1,rfl⟩|⟨b,es,p,e1,e2,e3⟩
     .refine⟨#[],⟨rfl,Zc⟩,λu C=>?_⟩
      unfold Instr.lookup;rw[e1];simp[run_bind,f,andThen_ok,run_pure,yb D,C];cases u<;>cases ok<;>simp[g]
     refine⟨es,e3,λu C=>?_⟩
     unfold Instr.lookup;rw[e1];simp[run_bind,f,andThen_ok,run_pure,zf e2 Zc,yb D,C]
     cases u<;>cases ok<;>simp[g]
    split at h
    .rename_i j y _ B;simp at h;obtain⟨u,Z,O,_⟩:=um D L B
     cases u with
     |none=>simp[k9]at O|some q=>
      obtain⟨_,i,_⟩:=O;refine⟨_,G _ Z,?_⟩;subst h
      cases ok with
      |true=>exact .OV (.cons i (.cons (.c _ _ (.bool _)) .nil))|false=>exact i
    .rename_i y B hy;simp at h;obtain⟨u,Z,O,_⟩:=um D L B
     cases u with
     |some q=>simp[k9]at O|none=>
      refine⟨_,G _ Z,?_⟩;subst h
      cases ok with
      |true=>exact .OV (.cons (Y _ _ _ hy) (.cons (.c _ _ (.bool _)) .nil))|false=>grind
    grind
   grind
  grind
 grind
def HR(l:Zy)(d:Nat):sameBits (d+2) (.agg (ic l)) (.agg (ic l))=true:=by simp only[sameBits,beq_self_eq_true,Bool.true_and,all_eq_true];intro p a;obtain⟨j,t,rfl⟩:=List.mem_iff_getElem.1 a;simp[ic,sameBits]
def Oz{t:Zm}{k:V}{v:Zp}(h:yd P E t k v):(Instr.keyThatStays v v).run P w=.ok v w:=by
 have:sameBits 10000 v v=true:=by cases h with|int k m h=>simp[sameBits]|str s h=>simp[sameBits];exact(by cases s;exact beq_self_eq_true (α:=Array UInt8) _)|agg m u l h z B=>exact HR l 9998
 unfold Instr.keyThatStays;rw[this];rfl
def DK{b:Nat}{es:Array MapEntry}{a:Nat}(o:Obj)(h:w.heap[b]?=some (.map es a)):(setObj b o).run P w=.ok () (fG w b o):=by simp only[setObj,Sem.run,h];rfl
def yO(K:eD P E)(r:eC I μ n F a.tmps)(s:cV I μ H w){t:Zm}{m k y:Zr}{x:V}(h:c8 E F H (.mapUpdate t m k y)=some (x,H')):
 Bi P I μ H w (do Instr.mapUpdate t (a.eval m) (a.eval k) (a.eval y);pure .skip) x H':=by
 simp only[c8]at h;split at h
 .rename_i kt et id Z yv hk hm W hy;have⟨d,hd,aa⟩:=fh hk;have⟨M,b,B,N⟩:=(K.ty hd).dH;rw[aa]at B;have:=yu B;subst this;split at h
  .rename_i D U;split at h
   .rename_i ab;simp only[ζf,ζc]at h;obtain⟨af,u,rfl,rfl⟩:=h;have G:=LV K ab (dx r W);have⟨p,es,c,g1,g2,g3,g4⟩:=s.obs id _ U;have⟨q,R,em⟩:=(dx r hm).AZ;rw[g1]at R;cases R;have T:=(Array.getElem?_eq_some_iff.1 g3).1;have ah:∀(f:Unit->Sem Next),True:=λ_=>trivial
    unfold oG at u;have J:=dx r W;have L:=dx r hy;split at u
    .rename_i j z C;simp only[ζa]at u;subst u;have⟨O,l,g,q3⟩:=um (w:=w) G g4 C
     cases O with
     |none=>simp[k9]at g|some O=>
      have⟨j',zv⟩:=O;obtain⟨rfl,_,_,e',ai,_⟩:=g;have⟨e2,X,ad⟩:=q3 j z rfl;have hj:=(Array.getElem?_eq_some_iff.1 X).1;have Q:uy I μ (D.set j (Z,yv)) (es.modify j λe=>{e with key:=a.eval k,val:=a.eval y}):=by refine⟨by simpa using g4.1,λi q e b B=>?_⟩;by_cases S:i=j;subst S;rw[getElem?_set_self (by rw[g4.1];exact hj)]at b;cases b;rw[Array.getElem?_modify]at B;simp only[if_true,ζf]at B;obtain⟨_,_,rfl⟩:=B;exact⟨J,L⟩;rw[getElem?_set_ne (symm S)]at b;rw[Array.getElem?_modify]at B;rw[if_neg (symm S)]at B;exact g4.2 i q e b B
      have⟨v,A⟩:=s.write (ob':=.map (D.set j (Z,yv))) (o:=.map (es.modify j λe=>{e with key:=a.eval k,val:=a.eval y}) c) U rfl g1
       ⟨p,_,c,g1,g2,ir _ T,Q⟩
      refine⟨.skip,undef,_,μ,?_,.inr ⟨rfl,rfl⟩,.undef I μ,v,A⟩;unfold Instr.mapUpdate;rw[em];have Y:((es[j]?).map (·.key)).getD (a.eval k)=a.eval k:=by rw[X];simpa using ad
      simp only[run_bind,N,andThen_ok,zf g3 Zc,yb G,l,Y,Oz G,DK _ g3,run_pure]
    .rename_i C;simp only[ζa]at u;subst u;have⟨O,l,g,q3⟩:=um (w:=w) G g4 C
     cases O with
     |some q=>simp[k9]at g|none=>
      have Q:uy I μ (D++[(Z,yv)]) (es.push {key:=a.eval k,val:=a.eval y,born:=c}):=by refine⟨by simp[g4.1],λi q e b B=>?_⟩;by_cases S:i<D.length;rw[getElem?_append_left S]at b;rw[Array.getElem?_push]at B;rw[if_neg (by rw[<-g4.1];omega)]at B;exact g4.2 i q e b B;have ae:=(ζe.1 b).1;simp at ae;have:i=D.length:=Za;subst this;simp at b;subst b;rw[Array.getElem?_push,if_pos g4.1]at B;cases B;exact⟨J,L⟩
      have⟨v,A⟩:=s.write (ob':=.map (D++[(Z,yv)])) (o:=.map (es.push {key:=a.eval k,val:=a.eval y,born:=c}) (c+1)) U rfl g1
       ⟨p,_,_,g1,g2,ir _ T,Q⟩
      refine⟨.skip,undef,_,μ,?_,.inr ⟨rfl,rfl⟩,.undef I μ,v,A⟩;unfold Instr.mapUpdate;rw[em];simp only[run_bind,N,andThen_ok,zf g3 Zc,yb G,l,DK _ g3,run_pure]
    simp at u
   simp at h
  simp at h
 simp at h
def PE(B:eD P E)(r:eC I μ n F a.tmps)(s:cV I μ H w)(o:Oper){x:V}(h:dW E F H o.op=some x):
 ∃v,(execOp a.eval o).run P w=.ok (.value v) w/\bH I μ x v:=by
 have⟨dst,op,ty,pos,after,b⟩:=o;simp only at h
 cases op with
 |load t p=>
  simp only[dW]at h;split at h
  next d D C e=>have⟨u,c,z,_⟩:=BB B s C (dx r e) h;exact⟨u,ey c,z⟩
  simp at h
 |lookup t m k ok=>have⟨u,c,z⟩:=LU B r s h;exact⟨u,ey c,z⟩|_=>simp[dW]at h
def QF(B:eD P E)(r:eC I μ n F a.tmps)(s:cV I μ H w)(o:Oper){x:V}(h:c8 E F H o.op=some (x,H')):Bi P I μ H w (execOp a.eval o) x H':=by
 have⟨dst,op,ty,pos,after,d⟩:=o;simp only at h
 cases op with
 |store t p q=>exact Oj B r s h|mapUpdate t m k y=>exact yO B r s h|insert t m k y=>exact yO (t:=t) (m:=m) (k:=k) (y:=y) B r s h|call c=>
  have⟨callee,args,u⟩:=c
  cases callee with
  |builtin b=>cases b with|append=>exact LL B r s h|clear=>exact MR B r s h|_=>simp[c8]at h
  |_=>simp[c8]at h
 |_=>simp[c8]at h
end
def ta{xs:Zu}(h:V.kr xs=true):∀x∈xs,V.closed x=true:=by induction xs with|nil=>simp|cons x r t=>simp[V.kr]at h;grind
def sW{xs:Zu}(h:V.cO xs=true):∀x∈xs,V.scalar x=true:=by induction xs with|nil=>simp|cons x r t=>simp[V.cO]at h;grind
section
variable{I I':ct}{μ:Mu}{H H':bp}{w:World}
def bH.closed{x:V}{v:Zp}(h:bH I μ x v)(d:x.closed=true):eE I x v:=by induction h with|c x v h=>omega|hsl id off len cap p t h1 O=>simp[V.closed]at d|hsl0 id es off a=>simp[V.closed]at d|hptr id el off p t=>simp[V.closed]at d|yld id p t=>simp[V.closed]at d|hmap id p t=>simp[V.closed]at d|clo f x y u v J L _ _ w z=>simp[V.closed]at d;exact .clo f x y u v J L (λj a b p q=>w j a b p q (ta d.1 a (mem_of_getElem? p))) (λj a b p q=>z j a b p q (ta d.2 a (mem_of_getElem? p)))|agg B C D _ G=>exact .agg B C D λj a b p q=>G j a b p q (ta d a (mem_of_getElem? p))|tup B C D _ G=>exact .tup B C D λj a b p q=>G j a b p q (ta d a (mem_of_getElem? p))
def eE.scalar{x:V}{v:Zp}(h:eE I x v)(B:x.scalar=true):eE I' x v:=by induction h with|bool b=>exact .bool b|int k n=>exact .int k n|str s=>exact .str s|dG a=>exact .dG a|bJ=>exact .bJ|gP=>exact .gP|gb=>exact .gb|ri=>exact .ri|agg t u w _ z=>exact .agg t u w λj a b p q=>z j a b p q (sW B a (mem_of_getElem? p))|tup t u w _ z=>exact .tup t u w λj a b p q=>z j a b p q (sW B a (mem_of_getElem? p))|_=>simp[V.scalar]at B
def iK{f:V->a_ V}:∀{xs ys:Zu},gX f xs=some ys->ys.length=xs.length/\∀(j:Nat)y,ys[j]?=some y->∃x,xs[j]?=some x/\f x=some y:=by intro xs;induction xs with|nil=>intro ys h;simp[gX]at h;grind|cons x xs t=>intro ys h;simp[gX]at h;split at h;grind;grind
def J6{f:V->a_ V}:∀{xs ys:Zt},kR f xs=some ys->ys.length=xs.length/\∀(j:Nat)y,ys[j]?=some y->∃x,xs[j]?=some x/\gX f x=some y:=by intro xs;induction xs with|nil=>intro ys h;simp[kR]at h;grind|cons x xs t=>intro ys h;simp[kR]at h;grind
def Kj{f:V->a_ V}:∀{xs ys:aZ (V×V)},kL f xs=some ys->ys.length=xs.length/\∀(j:Nat)y,ys[j]?=some y->∃x,xs[j]?=some x/\f x.1=some y.1/\f x.2=some y.2:=by intro xs;induction xs with|nil=>intro ys h;simp only[kL]at h;grind|cons x xs t=>intro ys h;simp only[kL]at h;grind
def Obj.ic:Obj->a_ IC
 |.cells c _ _=>some (.cells c)|.map es _=>some (.map es)|_=>none
def zX(μ:Mu)(H:bp)(T:Zv)(b:Nat):Prop:=∃id p ob,id∈T/\H[id]?=some ob/\ob.live=true/\μ id=some p/\p.b=b
open Classical in
noncomputable def plus(I:ct)(μ:Mu)(H:bp)(w:World)(T:Zv):ct:=λb=>
 match I b with
 |some x=>some x|none=>if zX μ H T b then(w.heap[b]?).bind Obj.ic else none
def nU(I:ct)(μ:Mu)(H:bp)(w:World)(T:Zv):ct.le I (plus I μ H w T):=by intro b x h;simp[plus,h]
def sD(s:cV I μ H w)(T:Zv):∀b x,plus I μ H w T b=some x->x.at w b:=by
 intro b x h;unfold plus at h;split at h;next y z=>cases h;exact s.imm b _ z
 split at h;have⟨o,u,t⟩:=ζg.1 h;cases o<;>simp[Obj.ic]at t;subst t;exact⟨_,_,u⟩;subst t;exact⟨_,u⟩;grind
def xM{T:Zv}{b:Nat}(h:(plus I μ H w T b).isSome=true):(I b).isSome=true\/zX μ H T b:=by unfold plus at h;grind
def AN{T:Zv}{b:Nat}(h:zX μ H T b):gV μ H b:=by have⟨id,p,ob,_,h1,t,u,w⟩:=h;exact⟨id,p,ob,h1,t,u,w⟩
def Be(s:cV I μ H w){T:Zv}{id es:Nat}{xs:Zt}(B:id∈T)(h:(H[id]?).bind Ob.rows=some (es,xs)):
 ∃p c,μ id=some p/\plus I μ H w T p.b=some (.cells c)/\fL I μ p c es xs:=by
 have⟨ob,a,u⟩:=ζg.1 h;have t:=s.obs id ob a;rcases GX u with rfl|rfl
 .have⟨p,c,el,g1,g2,g3,g4⟩:=t;refine⟨p,c,g1,?_,g4⟩;have z:zX μ H T p.b:=⟨id,p,_,B,a,rfl,g1,rfl⟩;unfold plus;rw[g2];simp[z,g3,Obj.ic]
 have⟨p,c,g1,g2,g4⟩:=t;exact⟨p,c,g1,nU _ _ _ _ _ _ _ g2,g4⟩
def fL.idx{p:Pl}{c:Array Zp}{es:Nat}{xs:Zt}(r:fL I μ p c es xs){i j:Nat}{x:Zu}{y:V}{v:Zp}(a:xs[i]?=some x)(B:x[j]?=some y)
 (D:c[p.o+i*es+j]?=some v):bH I μ y v:=by
 have u:=vg r.oB a B;refine r.rel.2 (i*es+j) y v u ?_;have t:=(ζe.1 u).1;rw[fC r.oB]at t
 grind
def jL{f:V->Zv}{xs:Zu}{x:V}{k:Nat}(B:x∈xs)(a:k∈f x):k∈cM f xs:=by induction xs with|nil=>simp_all|cons y r t=>simp[cM];grind
def jM(n:Nat)(H:bp){x:V}(h:x.closed=true):borrow n H x=some x:=by cases n<;>simp[borrow,h]
def tG(s:cV I μ H w)(T:Zv):∀(n:Nat)(x y:V)(v:Zp),borrow n H x=some y->(∀k∈cg n H x,k∈T)->bH I μ x v->
 eE (plus I μ H w T) y v/\(x.one=true->y.one=true):=by
 intro n
 induction n with
 |zero=>
  intro x y v h _ g;simp only[borrow]at h;split at h
  next K=>simp at h;subst h;exact⟨(g.closed K).mono (nU _ _ _ _ _),id⟩
  grind
 |succ n ih=>
  intro x y v h L g;simp[borrow]at h;split at h
  next K=>simp at h;subst h;exact⟨(g.closed K).mono (nU _ _ _ _ _),id⟩
  rename_i ak;simp[cg,if_neg ak]at L;split at h
  .
   rename_i id es off len;split at h
   .rename_i t xs G;split at h
    .rename_i K;obtain⟨rfl,al⟩:=K;simp only[G]at L;simp at h;obtain⟨S,l,rfl⟩:=h;have⟨aa,U⟩:=J6 l;refine⟨?_,λ_=>rfl⟩
     have ai:S.length=len:=Zd
     rcases g.lB with⟨p,M,E,hp,aq,r,rfl⟩|⟨h0,a,rfl⟩
     .have⟨p',c,g1,g2,g3⟩:=Be s (L id Zc) G
      rw[E]at g1;cases g1;have W:∀i z,S[i]?=some z->∃O,xs[off+i]?=some O/\gX (borrow n H) O=some z:=by grind
      have aj:∀i O,i<len->xs[off+i]?=some O->∀q∈O,∀k∈cg n H q,k∈T:=by intro i O m am q N k d;refine L k ?_;refine mem_cons_of_mem _ (jL (mem_flatten.2 ⟨O,mem_of_getElem? (i:=i) ?_,N⟩) d);rw[getElem?_take,if_pos m,getElem?_drop];exact am
      have ar:eE (plus I μ H w T) (.fsl t S) (.slice (some ⟨p.b,p.o+off*t,none⟩) S.length M):=by refine .fsl t S p.b (p.o+off*t) M c g2 Za ?_ ?_ ?_ ?_;intro z ae;have⟨i,m⟩:=List.mem_iff_getElem?.1 ae;have⟨O,D,X⟩:=W i z m;rw[(iK X).1];exact g3.oB O (mem_of_getElem? D);intro z ae q N;have⟨i,m⟩:=List.mem_iff_getElem?.1 ae;have⟨O,D,X⟩:=W i z m;have⟨j,o⟩:=List.mem_iff_getElem?.1 N;have⟨J,C,Y⟩:=(iK X).2 j q o;have ab:=mem_of_getElem? D;have ad:=mem_of_getElem? C;have an:=g3.room;have av:=g3.oB O ab;have aw:=(ζe.1 C).1;have ao:=(ζe.1 D).1;have au:(off+i)*t+t<=xs.length*t:=(by have:=mul_le_mul_right t (ao);grind);have ap:=Za;have Z:=g3.idx D C (v:=c[p.o+(off+i)*t+j]) (by simp[ap]);exact(ih J q _ Y (aj i O (by have:=(ζe.1 m).1;omega) D J ad) Z).2 (g3.one O ab J ad);have F:=(g3.span al).2;grind;intro i j z q u m o hu;have⟨O,D,X⟩:=W i z m;have⟨J,C,Y⟩:=(iK X).2 j q o;have Z:=g3.idx D C (v:=u) Zd;exact(ih J q u Y (aj i O (by have:=(ζe.1 m).1;omega) D J (mem_of_getElem? C)) Z).1
      grind
     subst h0;have:=List.eq_nil_of_length_eq_zero ai;subst this;exact .fsl0 t _ _
    grind
   grind
  .
   rename_i id el off;split at h
   .rename_i t xs G;split at h
    .rename_i cs af;split at h
     .simp only[G]at L;simp at h;obtain⟨S,l,rfl⟩:=h;have⟨aa,U⟩:=iK l;refine⟨?_,λ_=>rfl⟩
      obtain⟨p,E,rfl⟩:=g.sj;have⟨p',c,g1,g2,g3⟩:=Be s (L id Zc) G
      rw[E]at g1;cases g1;have⟨k1,k2,k3⟩:=g3.elem af;rw[g3.es_eq];refine .fptr S p.b _ c g2 ?_ ?_
      .rw[aa,List.length_drop];omega
      intro j q u o hu;have⟨J,C,Y⟩:=U j q o;rw[getElem?_drop]at C;have Z:=g3.idx af C (by rw[<-add_assoc];exact hu)
      refine(ih J q u Y (λk d=>L k ?_) Z).1
      exact mem_cons_of_mem _ (jL (mem_of_getElem? (i:=j) (by rw[af,getD_some,getElem?_drop];exact C)) d)
     simp at h
    simp at h
   simp at h
  .
   rename_i id;split at h
   .rename_i ax ah;simp at h;obtain⟨S,l,rfl⟩:=h;simp only[ah]at L;have⟨aa,U⟩:=Kj l;refine⟨?_,λ_=>rfl⟩
    obtain⟨p,E,rfl⟩:=g.AZ;have⟨p',es,cl,g1,g2,g3,g4⟩:=s.obs id _ ah;rw[E]at g1;cases g1;have ht:zX μ H T p.b:=⟨id,p,_,L id Zc,ah,rfl,E,rfl⟩
    have hI:plus I μ H w T p.b=some (.map es):=by unfold plus;rw[g2];simp[ht,g3,Obj.ic]
    refine .fmap S p.b es hI (by rw[aa];exact g4.1) ?_ ?_
    .intro j q e o he;have⟨J,F,h2,h3⟩:=U j q o;refine(ih J.1 q.1 e.key h2 (λk d=>L k ?_) (g4.2 j J e F he).1).1
     exact mem_cons_of_mem _ (mem_append.2 (.inl (jL (mem_map.2 ⟨J,mem_of_getElem? F,rfl⟩) d)))
    intro j q e o he;have⟨J,F,h2,h3⟩:=U j q o;refine(ih J.2 q.2 e.val h3 (λk d=>L k ?_) (g4.2 j J e F he).2).1
    exact mem_cons_of_mem _ (mem_append.2 (.inr (jL (mem_map.2 ⟨J,mem_of_getElem? F,rfl⟩) d)))
   simp at h
  .rename_i f p q;split at h
   .rename_i p' q' hp N;simp at h;subst h;obtain⟨P,u2,rfl,r1,r2⟩:=g.jI;have⟨R,m1⟩:=iK hp;have⟨l2,m2⟩:=iK N;refine⟨.clo f p' q' P u2 (by rw[R];simpa using r1.1) (by rw[l2];simpa using r2.1) ?_ ?_,λ_=>rfl⟩
    .intro j a b A r;have⟨a0,B,Q⟩:=m1 j a A;exact(ih a0 a b Q (λk d=>L k (mem_append.2 (.inl (jL (mem_of_getElem? B) d)))) (r1.2 j a0 b B (by simpa using r))).1
    intro j a b A r;have⟨a0,B,Q⟩:=m2 j a A;exact(ih a0 a b Q (λk d=>L k (mem_append.2 (.inr (jL (mem_of_getElem? B) d)))) (r2.2 j a0 b B (by simpa using r))).1
   simp at h
  .rename_i cs;simp at h;obtain⟨S,l,rfl⟩:=h;have⟨R,m1⟩:=iK l;obtain⟨P,rfl,r1⟩:=g.iu;refine⟨.agg S P (by rw[R];simpa using r1.1) ?_,λh=>by simp[V.one]at h⟩
   intro j a b A r;have⟨a0,B,Q⟩:=m1 j a A;exact(ih a0 a b Q (λk d=>L k (jL (mem_of_getElem? B) d)) (r1.2 j a0 b B (by simpa using r))).1
  .rename_i cs;simp at h;obtain⟨S,l,rfl⟩:=h;have⟨R,m1⟩:=iK l;obtain⟨P,rfl,r1⟩:=g.pR;refine⟨.tup S P (by rw[R];simpa using r1.1) ?_,λh=>by simp[V.one]at h⟩
   intro j a b A r;have⟨a0,B,Q⟩:=m1 j a A;exact(ih a0 a b Q (λk d=>L k (jL (mem_of_getElem? B) d)) (r1.2 j a0 b B (by simpa using r))).1
  grind
end
def fr(ro:a_ Nat):Fence:={fn:=λ_=>True,depth:=none,alive:=false,round:=ro}
def wH(I:ct)(μ:Mu)(H:bp)(w:World)(r:V)(H':bp):Ending->World->Prop:=λe w'=>∃u I' μ',e=.returned u/\bH I' μ' r u/\cV I' μ' H' w'/\Step I μ H w I' μ' H' w'
def xZ(P:Program)(f:Zk):Prop:=∃fn,P.funcs[f]?=some fn/\fn.body.isSome=true/\(fn.name== "runtime.NumGoroutine")=false
structure ki(P:Program)(call:dw):Prop where
 fn:∀f args H r H',call (.fn f) args H=some (r,H')->xZ P f/\∀I μ w vs,cV I μ H w->cK I μ args vs->CallsIn (fr none) 0 P f vs.toArray w (wH I μ H w r H')
 yld:∀id args H r H',call (.yld id) args H=some (r,H')->∀I μ w vs p,cV I μ H w->cK I μ args vs->μ id=some p->
  ∃l f tmps assign body,(Instr.yield p.b vs.toArray).run P w=.ok (.round l f tmps assign body) w/\RoundIn (fr none) 0 P l f tmps assign body w (wH I μ H w r H')
def rG:Ob->Ob
 |.row es xs=>.frz es xs|.map _=>.dead|o=>o
def EO(H:bp)(k id:Nat):(tj H k)[id]?=(H[id]?).map λob=>if id=k then rG ob else ob:=by
 unfold tj;by_cases e:id=k;subst e;cases h:H[id]?with|none=>simp[h]|some ob=>have t:=(ζe.1 h).1;cases ob<;>simp[rG,t]<;>exact(ζe.1 h).2
 grind
def AM(o:Ob):rG (rG o)=rG o:=by cases o<;>rfl
def iz:∀(T:Zv)(H:bp)(id:Nat),(cH H T)[id]?=(H[id]?).map λob=>if id∈T then rG ob else ob:=by intro T;induction T with|nil=>simp[cH]|cons k T t=>intro H id;have:=t (tj H k) id;simp[cH]at this⊢;rw[this,EO];cases h:H[id]?with|none=>simp|some ob=>by_cases e:id=k<;>by_cases u:id∈T<;>simp[AM]<;>(simp_all)<;>simp_all [AM]
def jF(T:Zv)(H:bp):(cH H T).length=H.length:=by induction T generalizing H with|nil=>rfl|cons k T t=>simp[cH]at t⊢;rw[t];unfold tj;grind
section
variable{P:Program}{I I':ct}{μ μ':Mu}{H H':bp}{w w':World}
def cV.kept(s:cV I μ H w)(a:∀b,b<w.heap.size->w'.heap[b]?=w.heap[b]?):cV I μ H w' where
 dom:=s.dom
 imm:=λb x h=>IC.qT (s.imm b x h) (a b (s.Gf h))
 obs:=λid ob h=>(s.obs id ob h).mono (ct.le_refl _) (Mu.le_refl _) (λp c u=>by
  have t:gV μ H p.b:=⟨id,p,ob,h,u,c,rfl⟩;exact⟨a _ (mo s t),fI s t⟩) (λz=>by subst z;exact s.obs id _ h)
 inj:=s.inj
 gl:=s.gl
def qq(μ:Mu)(b:Nat):¬gV μ [] b:=by rintro⟨id,p,ob,h,_⟩;simp_all
def B8{call:dw}(N:ki P call){f:Zk}{args:Zu}{y:V}(h:b8 call f args H=some y)(s:cV I μ H w){vs:aZ Zp}(n:cK I μ args vs):
 xZ P f/\CallsIn (fr none) 0 P f vs.toArray w (wH I μ H w y (if y.scalar then H else cH H (cM (cg call.lv H) args))):=by
 unfold b8 at h;split at h
 .rename_i az has;split at h
  .rename_i r H1 W;split at h
   .rename_i y' hy;split at h
    .rename_i aa;simp at h;subst h;generalize R:cM (cg call.lv H) args=T;obtain⟨ab,C⟩:=iK has;have s0:cV (plus I μ H w T) (λ_=>none) [] w:=⟨λ_ _=>rfl,sD s T,Zc,Zc,s.gl.mono (nU I μ H w T)⟩
     have X:cK (plus I μ H w T) (λ_=>none) az vs:=by refine⟨ab.trans n.1,λj a b d t=>?_⟩;obtain⟨x,L,af⟩:=C j a d;refine .c _ _ (tG s T call.lv x a b af (λk o=>?_) (n.2 j x b L t)).1;rw[<-R];exact jL (mem_of_getElem? L) o
     obtain⟨hf,O⟩:=N.fn f az [] r H1 W;refine⟨hf,(O _ _ w vs s0 X).mono ?_⟩;rintro e w' ⟨u,I1,v,rfl,hr,g,st⟩;have z:=λb C=>st.frame b C (qq _ _)
     generalize ak:cg call.lv H1 r=T1;have A:=(tG g T1 call.lv r y' u hy (λk o=>Zd) hr).1
     cases ah:y'.scalar with
     |true=>exact⟨u,I,μ,rfl,.c _ _ (A.scalar ah),s.kept z,⟨ct.le_refl _,Mu.le_refl _,le_refl _,st.size,λb C _=>z b C,λ_ h=>h.elim .inl λh=>.inr (.inl h),st.os,st.out,st.fz⟩⟩|false=>
      simp only[false_eq_true,if_false]
      let I2:=plus I1 v H1 w' T1
      have D:ct.le I I2:=ct.le_trans (nU I μ H w T) (ct.le_trans st.le (nU _ _ _ _ _));have G:∀b,(I2 b).isSome=true->(I b).isSome=true\/zX μ H T b\/w.heap.size<=b:=by intro b C;have d:(I1 b).isSome=true\/gV v H1 b:=(by rcases xM C with h|h;grind;exact .inr (AN h));rcases st.terr b d with h|h|h;rcases xM h with h|h;grind;grind;exact absurd h (qq _ _);grind
      have Y:∀id ob p,H[id]?=some ob->ob.live=true->id∉T->μ id=some p->I2 p.b=none:=by intro id ob p d t h3 h4;cases E:I2 p.b with|none=>rfl|some x=>have F:gV μ H p.b:=⟨id,p,ob,d,t,h4,rfl⟩;rcases G p.b Zd with h|⟨Q,p',ai,g0,g1,g2,g3,g4⟩|h;rw[fI s F]at h;cases h;have:=s.inj Q id ai ob p' p g1 d g2 t g3 h4 g4;simp_all;have:=mo s F;omega
      have S:∀id x,(cH H T)[id]?=some x->∃ob,H[id]?=some ob/\x=(if id∈T then rG ob else ob):=by intro id x L;rw[iz]at L;obtain⟨ob,d,t⟩:=ζf.1 L;exact⟨ob,d,t.symm⟩
      have B:∀id x,(cH H T)[id]?=some x->x.live=true->H[id]?=some x/\(id∉T\/∃r,x=.loop r):=by intro id x L Z;obtain⟨ob,d,t⟩:=S id x L;by_cases U:id∈T;rw[if_pos U]at t;cases ob<;>simp[rG]at t<;>subst t<;>simp[Ob.live]at Z;exact⟨d,.inr ⟨_,rfl⟩⟩;rw[if_neg U]at t;subst t;exact⟨d,.inl U⟩
      refine⟨u,I2,μ,rfl,.c _ _ A,⟨?_,?_,?_,?_,s.gl.mono D⟩,⟨D,Mu.le_refl _,by rw[jF];exact le_refl _,st.size,λb C _=>z b C,?_,st.os,st.out,st.fz⟩⟩
      .intro id h;rw[jF]at h;exact s.dom id h
      .exact sD g T1
      .intro id x L;obtain⟨ob,d,t⟩:=S id x L;have J:=s.obs id ob d
       by_cases U:id∈T
       .rw[if_pos U]at t
        cases ob with
        |row es xs=>
         subst t;obtain⟨p,c,g1,g2,g3⟩:=Be s U (by rw[d];rfl)
         exact⟨p,c,g1,nU _ _ _ _ _ _ _ (st.le _ _ g2),g3.mono D (Mu.le_refl _)⟩
        |frz es xs=>subst t;exact J.mono D (Mu.le_refl _) (λp _ Z=>by simp[Ob.live]at Z) (λi=>by cases i)|map al=>subst t;trivial|free=>simp[rG]at t;subst t;exact J|dead=>subst t;trivial|loop r=>
         simp[rG]at t;subst t;obtain⟨p,l,g1,g2,g3,g4⟩:=J;refine⟨p,l,g1,?_,?_,g4.mono D (Mu.le_refl _)⟩
         .
          cases E:I2 p.b with
          |none=>rfl|some x=>
           have K:=sD g T1 p.b x E;have aj:=(Array.getElem?_eq_some_iff.1 g3).1;have m:=z p.b aj;rw[g3]at m
           cases x with
           |cells c=>obtain⟨_,_,q⟩:=K;rw[m]at q;cases q|map es=>obtain⟨_,q⟩:=K;rw[m]at q;cases q
         rw[z p.b (Array.getElem?_eq_some_iff.1 g3).1];omega
       rw[if_neg U]at t;subst t;refine J.mono D (Mu.le_refl _) (λp M Z=>⟨z _ (mo s ⟨id,p,x,d,Z,M,rfl⟩),Y id x p d Z U M⟩) (λi=>by subst i;exact J)
      .intro id Q o1 o2 p p' d t l1 l2 m1 m2 C;exact s.inj id Q o1 o2 p p' (B id o1 d l1).1 (B Q o2 t l2).1 l1 l2 m1 m2 C
      intro b C;rcases C with h|⟨id,p,x,d,t,h3,rfl⟩
      .rcases G b h with h|h|h
       .exact .inl h
       .exact .inr (.inl (AN h))
       exact .inr (.inr h)
      exact .inr (.inl ⟨id,p,x,(B id x d t).1,t,h3,rfl⟩)
    grind
   grind
  grind
 grind
def bH.scalar{x:V}{v:Zp}(h:bH I μ x v)(B:x.scalar=true):bH I' μ' x v:=by
 have key:∀(l:Zu)(t:aZ Zp),(∀x∈l,∀v,bH I μ x v->x.scalar=true->bH I' μ' x v)->V.cO l=true->(∀(j:Nat)a b,l[j]?=some a->t[j]?=some b->bH I μ a b)->
  ∀(j:Nat)a b,l[j]?=some a->t[j]?=some b->bH I' μ' a b:=by
  intro l
  induction l with
  |nil=>grind|cons x l C=>
   intro t g J L j a b D u;simp only[V.cO,ζh]at J
   cases j with
   |zero=>grind|succ j=>
    cases t with
    |nil=>simp at u|cons v t=>exact C t (λy w=>g y (mem_cons_of_mem _ w)) J.2 (λj a b p q=>L (j+1) a b Zd Zd) j a b Zd (by simpa using u)
 have d:∀(k:Nat)(x:V)(v:Zp),SizeOf.sizeOf x<k->bH I μ x v->x.scalar=true->bH I' μ' x v:=by intro k;induction k with|zero=>grind|succ k C=>intro x v f h B;cases h with|c _ _ h=>exact .c _ _ (h.scalar B)|agg z t G h=>refine .agg z t G (λj a b D u=>key z t.toList (λy w v e B=>C y v ?_ e B) B (λj a b p q=>h j a b p (by simpa using q)) j a b D (by simpa using u));have:=List.sizeOf_lt_of_mem w;simp at f;omega|tup z t G h=>refine .tup z t G (λj a b D u=>key z t.toList (λy w v e B=>C y v ?_ e B) B (λj a b p q=>h j a b p (by simpa using q)) j a b D (by simpa using u));have:=List.sizeOf_lt_of_mem w;simp at f;omega|_=>simp[V.scalar]at B
 exact d (SizeOf.sizeOf x+1) x v Za h B
def cV.JO(s:cV I μ H w){ob:Ob}{p:Pl}(U:ob≠.free)(c:I p.b=none)(D:¬gV μ H p.b)(W:rW I (μ.gx H.length p) w H.length ob):
 cV I (μ.gx H.length p) (H++[ob]) w:=by
 have a:=s.dom _ (le_refl _);have t:∀id x,(H++[ob])[id]?=some x->(id≠H.length/\H[id]?=some x)\/(id=H.length/\x=ob):=by grind
 refine⟨?_,s.imm,?_,?_,s.gl⟩
 .intro id h;simp at h;rw[Mu.iC _ _ Za];exact s.dom id Za
 .intro id x h;rcases t id x h with⟨e,h⟩|⟨rfl,rfl⟩
  .refine(s.obs id x h).mono (ct.le_refl _) (Mu.pX a) (λq b S=>?_) (λT=>by subst T;rw[Mu.iC _ _ e];exact s.obs id _ h)
   exact⟨rfl,fI s ⟨id,q,x,h,S,b,rfl⟩⟩
  grind
 intro id u o1 o2 q G h1 X J L z B C;rcases t id o1 h1 with⟨e1,O⟩|⟨Y,d⟩<;>rcases t u o2 X with⟨e2,Q⟩|⟨Z,f⟩
 .rw[Mu.iC _ _ e1]at z;rw[Mu.iC _ _ e2]at B;exact s.inj id u o1 o2 q G O Q J L z B C
 .subst Z;rw[Mu.iC _ _ e1]at z;rw[Mu.fN]at B;cases B;exact absurd ⟨id,q,o1,O,J,z,C⟩ D
 .subst Y;rw[Mu.iC _ _ e2]at B;rw[Mu.fN]at z;cases z;exact absurd ⟨u,G,o2,Q,L,B,C.symm⟩ D
 grind
def SN{call:dw}(hc:ki P call){f:Zk}{args:Zu}{y:V}(h:jW call f args H=some (y,H'))(s:cV I μ H w){vs:aZ Zp}(hv:cK I μ args vs):
 xZ P f/\CallsIn (fr none) 0 P f vs.toArray w (wH I μ H w y H'):=by
 unfold jW at h;split at h
 .rename_i az has;split at h
  .rename_i r H1 L;generalize hT:cM (cg call.lv H) args=T;have⟨W,z⟩:=iK has;have s0:cV (plus I μ H w T) (λ_=>none) [] w:=⟨λ_ _=>rfl,sD s T,Zc,Zc,s.gl.mono (nU I μ H w T)⟩
   have O:cK (plus I μ H w T) (λ_=>none) az vs:=by refine⟨W.trans hv.1,λj a b g X=>?_⟩;have⟨x,d,ab⟩:=z j a g;refine .c _ _ (tG s T call.lv x a b ab (λk hk=>?_) (hv.2 j x b d X)).1;rw[<-hT];exact jL (mem_of_getElem? d) hk
   have⟨hf,D⟩:=hc.fn f az [] r H1 L;refine⟨hf,(D _ _ w vs s0 O).mono ?_⟩;rintro e w' ⟨u,I1,μ1,rfl,K,s1,st⟩;have t:∀b,b<w.heap.size->w'.heap[b]?=w.heap[b]?:=λb z=>st.frame b z (qq _ _)
   have sk:cV I μ H w':=s.kept t;have ae:Step I μ H w I μ H w':=⟨ct.le_refl _,Mu.le_refl _,le_refl _,st.size,λb z _=>t b z,λ_ h=>h.elim .inl λh=>.inr (.inl h),st.os,st.out,st.fz⟩
   split at h
   next af=>simp only[ζa,ζc]at h;obtain⟨rfl,rfl⟩:=h;exact⟨u,I,μ,rfl,K.scalar af,sk,ae⟩

   have key:∀(id es off len:Nat)(v:V)(ob:Ob)(u:Zp),qd H.length H1 id es off len=some (v,ob)->bH I1 μ1 (.hsl id es off len) u->
    ∃p,bH I (μ.gx H.length p) v u/\cV I (μ.gx H.length p) (H++[ob]) w'/\Step I μ H w I (μ.gx H.length p) (H++[ob]) w':=by
    intro id es off len v ob u B hu;unfold qd at B;split at B
    .rename_i Y xs J;split at B
     .rename_i Q;obtain⟨rfl,am⟩:=Q;obtain⟨rfl,rfl⟩:=B;have⟨p,c,el,g1,g2,g3,g4⟩:=s1.obs id _ J;have Z:w.heap.size<=p.b:=by
       rcases st.terr p.b (.inr ⟨id,p,_,J,rfl,g1,rfl⟩)with h|h|h
       .have⟨x,d⟩:=isSome_iff_exists.1 h;have:=st.le _ _ d
        grind
       .exact absurd h (qq _ _)
       simp_all
      have hI:I p.b=none:=by cases d:I p.b with|none=>rfl|some x=>have:=s.Gf d;omega
      have hn:¬gV μ H p.b:=λho=>by have:=mo s ho;omega
      have ah:fL I (μ.gx H.length p) p c Y xs:=by refine⟨g4.es_eq,g4.sz,g4.oB,g4.one,g4.room,g4.rel.1,λj a b B z=>(g4.rel.2 j a b B z).scalar ?_⟩;have n:=mem_of_getElem? B;rw[mem_flatten]at n;grind
      have sa:=sk.JO (ob:=.row Y xs) Zc hI hn ⟨p,c,el,Mu.fN _ _ _,hI,g3,ah⟩
      refine⟨p,?_,sa,⟨ct.le_refl _,Mu.pX (s.dom _ (le_refl _)),Zc,st.size,λb z _=>t b z,?_,st.os,st.out,st.fz⟩⟩
      .rcases hu.lB with⟨p',M,n,ai,aj,ak,N⟩|⟨h0,ad,N⟩
       .rw[g1]at n;cases n;rw[N];subst ai;exact .hsl _ off len M p (Mu.fN _ _ _) aj ak
       rw[N,h0];exact .hsl0 _ _ _ _
      rintro b (h|⟨k,q,x,g,X,o,rfl⟩)
      .exact .inl h
      by_cases e:k=H.length
      .subst e;rw[Mu.fN]at o;cases o;exact .inr (.inr Z)
      rw[Mu.iC _ _ e]at o;have al:k<H.length:=by have:=(ζe.1 g).1;simp at this;omega
      rw[getElem?_append_left al]at g;exact .inr (.inl ⟨k,q,x,g,X,o,rfl⟩)
     grind
    grind
   split at h
   next id es off len _=>simp only[ζf]at h;obtain⟨⟨v,ob⟩,B,rfl,rfl⟩:=h;have⟨p,R,k2,k3⟩:=key id es off len v ob u B K;exact⟨u,I,_,rfl,R,k2,k3⟩
   .rename_i id es off len rest _;split at h
    .rename_i S;simp only[ζf,ζc]at h;obtain⟨⟨v,ob⟩,B,rfl,rfl⟩:=h;obtain⟨A,rfl,C⟩:=K.pR;have aa:0<A.toList.length:=by have:=C.1;simp at this⊢;omega
     obtain⟨E,F,U⟩:∃E F,A.toList=E::F:=by cases i:A.toList with|nil=>rw[i]at aa;simp at aa|cons a b=>exact⟨a,b,rfl⟩
     rw[U]at C;have⟨p,R,k2,k3⟩:=key id es off len v ob E B (C.2 0 _ _ rfl rfl);refine⟨_,I,_,rfl,.tup _ _ ?_ ?_,k2,k3⟩
     .have:=C.1;simp at this;have X:A.toList.length=F.length+1:=by rw[U];rfl
      simp at X⊢;omega
     intro j a b m z;have G:(E::F)[j]?=some b:=by rw[<-U];simpa using z
     cases j with
     |zero=>simp at m G;subst m;subst G;exact R|succ j=>
      simp at m G;refine(C.2 (j+1) a b (by simpa using m) (by simpa using G)).scalar ?_
      have:∀(l:Zu),V.cO l=true->∀x∈l,x.scalar=true:=by intro l;induction l with|nil=>intro _ x d;simp at d|cons y l ih=>intro i x d;simp[V.cO]at i;rcases mem_cons.1 d with rfl|d;exact i.1;exact ih i.2 x d
      exact this rest S a (mem_of_getElem? m)
    simp at h
   grind
  grind
 grind
def SJ{E:Env}{call:dw}(a:ki P call){f:Zk}{args:Zu}{y:V}(h:eO E call f args H=some (y,H'))(s:cV I μ H w){vs:aZ Zp}(b:cK I μ args vs):
 xZ P f/\CallsIn (fr none) 0 P f vs.toArray w (wH I μ H w y H'):=by
 unfold eO at h;split at h
 .exact SN a h s b
 have⟨t,u⟩:=a.fn f args H y H' h
 grind
end
def Ob.mp:Ob->a_ (aZ (V×V))
 |.map B=>some B|_=>none
def mj(H H2:bp):Prop:=∀id:Nat,(H[id]?).bind Ob.rows=(H2[id]?).bind Ob.rows/\(H[id]?).bind Ob.mp=(H2[id]?).bind Ob.mp
def mj.refl(H:bp):mj H H:=λ_=>⟨rfl,rfl⟩
def mj.symm{H H2:bp}(h:mj H H2):mj H2 H:=λid=>⟨(h id).1.symm,(h id).2.symm⟩
def mj.trans{H H2 B:bp}(h:mj H H2)(k:mj H2 B):mj H B:=λid=>⟨(h id).1.trans (k id).1,(h id).2.trans (k id).2⟩
def mj.of_eq{H H2:bp}(h:H=H2):mj H H2:=by subst h;exact .refl _
def HK{H H2:bp}(h:mj H H2):∀n,borrow n H=borrow n H2:=by
 intro n
 induction n with
 |zero=>funext x;rfl|succ n t=>
  funext x
  cases x with
  |hsl id es off len=>simp only[borrow,(h id).1,t]|hptr id el off=>simp only[borrow,(h id).1,t]|hmap id=>
   have:=(h id).2;simp only[borrow,t];split;rfl
   cases a:H[id]?with
   |none=>cases u:H2[id]?with|none=>rfl|some o2=>rw[a,u]at this;cases o2<;>simp[Ob.mp]at this<;>rfl
   |some o=>cases u:H2[id]?with|none=>rw[a,u]at this;cases o<;>simp[Ob.mp]at this<;>rfl|some o2=>rw[a,u]at this;cases o<;>cases o2<;>simp[Ob.mp]at this<;>first|rfl|(subst this;rfl)
  |_=>simp only[borrow,t]
def JY{H H2:bp}(h:mj H H2):∀n,cg n H=cg n H2:=by
 intro n
 induction n with
 |zero=>funext x;rfl|succ n t=>
  funext x
  cases x with
  |hsl id es off len=>simp only[cg,(h id).1,t]|hptr id el off=>simp only[cg,(h id).1,t]|hmap id=>
   have:=(h id).2;simp only[cg,t];split;rfl
   cases a:H[id]?with
   |none=>cases u:H2[id]?with|none=>rfl|some o2=>rw[a,u]at this;cases o2<;>simp[Ob.mp]at this<;>rfl
   |some o=>cases u:H2[id]?with|none=>rw[a,u]at this;cases o<;>simp[Ob.mp]at this<;>rfl|some o2=>rw[a,u]at this;cases o<;>cases o2<;>simp[Ob.mp]at this<;>first|rfl|(subst this;rfl)
  |_=>simp only[cg,t]
def zP{H H2:bp}(h:mj H H2)(call:dw)(f:Zk)(args:Zu):b8 call f args H=b8 call f args H2:=by unfold b8 borrows;rw[HK h]
def GK{H H2:bp}(h:mj H H2)(p:V)(n:Nat):eo H p n=eo H2 p n:=by cases p with|hptr id el off=>simp only[eo,(h id).1]|_=>rfl
def Jc{H H2:bp}(h:mj H H2)(p:V):l_ H p=l_ H2 p:=by
 cases p with
 |hmap id=>
  have:=(h id).2;simp only[l_]
  cases a:H[id]?with
  |none=>cases t:H2[id]?with|none=>rfl|some o2=>rw[a,t]at this;cases o2<;>simp[Ob.mp]at this<;>rfl
  |some o=>cases t:H2[id]?with|none=>rw[a,t]at this;cases o<;>simp[Ob.mp]at this<;>rfl|some o2=>rw[a,t]at this;cases o<;>cases o2<;>simp[Ob.mp]at this<;>first|rfl|(subst this;rfl)
 |_=>rfl
def ye{E:Env}{F:Zo}{H H2:bp}(h:mj H H2)(op:Op):dW E F H op=dW E F H2 op:=by cases op<;>simp only[dW,GK h,Jc h]
def tQ{H H2:bp}(h:mj H H2)(T:Zv):iI H T=iI H2 T:=by unfold iI;congr 1;funext id;rw[(h id).1]
def zn{H:bp}{T:Zv}(h:iI H T=true){id:Nat}(B:id∈T):∃es xs,H[id]?=some (.row es xs)\/H[id]?=some (.frz es xs):=by unfold iI at h;rw[all_eq_true]at h;have:=h id B;cases a:H[id]?with|none=>rw[a]at this;simp at this|some o=>rw[a]at this;cases o<;>simp[Ob.rows]at this<;>exact⟨_,_,by first|exact .inl rfl|exact .inr rfl⟩
def pe{H:bp}{b id:Nat}:(H.take b)[id]?=if id<b then H[id]?else none:=by rw[getElem?_take]
def pY{H:bp}{T:Zv}{b:Nat}(h:iI (H.take b) T=true):mj (cH H T) H:=by intro id;rw[iz];by_cases t:id∈T;have⟨es,w,a⟩:=zn h t;rw[pe]at a;by_cases u:id<b;rw[if_pos u]at a;rcases a with a|a<;>simp[a,t,rG,Ob.rows,Ob.mp];rw[if_neg u]at a;rcases a with a|a<;>cases a;cases H[id]?<;>simp[t]
def mj.take{H H2:bp}(h:mj H H2)(b:Nat):mj (H.take b) (H2.take b):=by intro id;rw[pe,pe];by_cases t:id<b;rw[if_pos t,if_pos t];exact h id;rw[if_neg t,if_neg t];exact⟨rfl,rfl⟩
def zj{H:bp}{T:Zv}{b:Nat}(h:iI (H.take b) T=true){id:Nat}(B:id∈T):id<b:=by have⟨es,u,a⟩:=zn h B;rw[pe]at a;by_cases t:id<b;exact t;rw[if_neg t]at a;rcases a with a|a<;>cases a
def Ca{H:bp}{T:Zv}{k:Nat}{ob:Ob}(h:k∉T):cH (H.set k ob) T=(cH H T).set k ob:=by apply List.ext_getElem?;intro i;rw[iz];by_cases e:i=k;subst e;by_cases t:i<H.length;rw[getElem?_set_self t,getElem?_set_self (by rw[jF];exact t)];simp[h];rw[List.getElem?_eq_none (by simp;omega),List.getElem?_eq_none (by rw[length_set,jF];omega)];rfl;rw[getElem?_set_ne (symm e),getElem?_set_ne (symm e),iz]
def HJ(H:bp)(T B:Zv):cH (cH H T) B=cH (cH H B) T:=by apply List.ext_getElem?;intro i;simp only[iz];cases H[i]?with|none=>rfl|some o=>by_cases a:i∈T<;>by_cases t:i∈B<;>simp[a,t]
def Jy{H:bp}{b:Nat}:∀(n:Nat)(x:V),(∀id∈cg n (H.take b) x,id<b)->cg n H x=cg n (H.take b) x:=by
 intro n
 induction n with
 |zero=>intro x _;rfl|succ n B=>
  have t:∀l:Zu,(∀id∈cM (cg n (H.take b)) l,id<b)->cM (cg n H) l=cM (cg n (H.take b)) l:=by intro l;induction l with|nil=>intro _;rfl|cons x r z=>intro h;simp only[cM,mem_append]at h⊢;rw[B x λid u=>h id (.inl u),z λid u=>h id (.inr u)]
  intro x h;simp only[cg]at h⊢;split;rfl;rename_i e;rw[if_neg e]at h
  cases x with
  |hsl id es off len=>simp only at h⊢;have w:id<b:=h id (mem_cons_self ..);rw[pe,if_pos w]at h⊢;cases d:(H[id]?).bind Ob.rows with|none=>rfl|some q=>rw[d]at h;simp only at h⊢;rw[t _ λi u=>h i (mem_cons_of_mem _ u)]
  |hptr id el off=>simp only at h⊢;have w:id<b:=h id (mem_cons_self ..);rw[pe,if_pos w]at h⊢;cases d:(H[id]?).bind Ob.rows with|none=>rfl|some q=>rw[d]at h;simp only at h⊢;rw[t _ λi u=>h i (mem_cons_of_mem _ u)]
  |hmap id=>simp only at h⊢;have w:id<b:=h id (mem_cons_self ..);rw[pe,if_pos w]at h⊢;split;(next C g=>rw[g]at h;simp only[mem_cons,mem_append]at h;rw[t _ λi u=>h i (.inr (.inl u)),t _ λi u=>h i (.inr (.inr u))]);rfl|clo f a c=>simp only[mem_append]at h⊢;rw[t _ λi u=>h i (.inl u),t _ λi u=>h i (.inr u)]|agg D=>simp only at h⊢;exact t _ h|tup D=>simp only at h⊢;exact t _ h|_=>rfl
def sV{H:bp}{b n:Nat}:∀(l:Zu),(∀id∈cM (cg n (H.take b)) l,id<b)->cM (cg n H) l=cM (cg n (H.take b)) l
 |[],_=>rfl|x::r,h=>by simp only[cM,mem_append]at h⊢;rw[Jy n x λid B=>h id (.inl B),sV r λid B=>h id (.inr B)]
def Ow{H:bp}{b id:Nat}{ob:Ob}(h:(H.take b)[id]?=some ob):H[id]?=some ob:=by grind
def D8{H:bp}{b id es:Nat}{xs:Zt}(h:((H.take b)[id]?).bind Ob.rows=some (es,xs)):(H[id]?).bind Ob.rows=some (es,xs):=by grind
def Ft{H:bp}{b:Nat}{p:V}{n:Nat}{cs:Zu}(h:eo (H.take b) p n=some cs):eo H p n=some cs:=by unfold eo at h⊢;split at h;omega;grind;grind
def J8{H:bp}{b:Nat}{m:V}{B:aZ (V×V)}(h:l_ (H.take b) m=some B):l_ H m=some B:=by unfold l_ at h⊢;grind
def ym{E:Env}{F:Zo}{H:bp}{b:Nat}{op:Op}{x:V}(h:dW E F (H.take b) op=some x):dW E F H op=some x:=by cases op with|load t a=>simp[dW]at h⊢;split at h;have⟨B,c,w⟩:=ζg.1 h;rw[Ft c];exact w;grind|lookup t m k ok=>simp[dW]at h⊢;split at h;split at h;(next z u=>rw[z,J8 u];omega);grind;grind|_=>simp[dW]at h
def me{f g:V->a_ V}(B:∀x y,f x=some y->g x=some y):∀{xs ys:Zu},gX f xs=some ys->gX g xs=some ys:=by intro xs;induction xs with|nil=>intro ys h;exact h|cons x xs t=>intro ys h;simp[gX]at h⊢;grind
def HS{f g:V->a_ V}(B:∀x y,f x=some y->g x=some y):∀{xs ys:Zt},kR f xs=some ys->kR g xs=some ys:=by intro xs;induction xs with|nil=>intro ys h;exact h|cons x xs t=>intro ys h;simp[kR]at h⊢;split at h;(next y s u w=>rw[me B u,t w];omega);grind
def Hy{f g:V->a_ V}(B:∀x y,f x=some y->g x=some y):∀{xs ys:aZ (V×V)},kL f xs=some ys->kL g xs=some ys:=by intro xs;induction xs with|nil=>intro ys h;exact h|cons x xs t=>intro ys h;simp[kL]at h⊢;grind
def AE{H:bp}{b:Nat}:∀(n:Nat)(x y:V),borrow n (H.take b) x=some y->borrow n H x=some y:=by intro n;induction n with|zero=>intro x y h;exact h|succ n w=>intro x y h;simp[borrow]at h⊢;split at h;grind;rename_i c;rw[if_neg c];split at h;split at h;rename_i a;simp only[D8 a];split at h;(next z=>rw[if_pos z];have⟨B,u,t⟩:=ζf.1 h;rw[HS w u,<-t];rfl);grind;grind;split at h;rename_i a;simp[D8 a];split at h;split at h;(next C=>rw[if_pos C];have⟨B,u,t⟩:=ζf.1 h;rw[me w u,<-t];rfl);grind;grind;grind;split at h;(next a=>simp only[Ow a];have⟨B,u,t⟩:=ζf.1 h;rw[Hy w u,<-t];rfl);grind;split at h;(next d D=>rw[me w d,me w D];omega);grind;have⟨B,u,t⟩:=ζf.1 h;rw[me w u,<-t];rfl;have⟨B,u,t⟩:=ζf.1 h;rw[me w u,<-t];rfl;grind
def o6{call:dw}{f:Zk}{args:Zu}{H:bp}{b:Nat}{y:V}(h:b8 call f args (H.take b)=some y):b8 call f args H=some y:=by
 unfold b8 borrows at h⊢;split at h;next az has=>rw[me (AE call.lv) has];omega
 grind
def GJ(n:Nat)(H:bp){x:V}(h:x.closed=true):cg n H x=[]:=by cases n with|zero=>rfl|succ n=>simp[cg,h]
section
variable{P:Program}{E:Env}{I I':ct}{μ μ':Mu}{H H':bp}{n:Nat}{F:Zo}{a:Act}{w w':World}
def wk{f:Zk}(h:xZ P f)(args:Array Zp):(callFunc f args).run P w=.ok (.enter f args) w:=by have⟨fn,a,z,t⟩:=h;unfold callFunc;have u:fn.body.isNone=false:=Ze;simp only[run_bind,run_program,andThen_ok,a,t,u,false_eq_true,if_false,run_pure]
def CE{o:Oper}{ro:a_ Nat}{K:Act->World->Prop}{Q:Exit->Act->World->Prop}{f:Zk}{args:Array Zp}{r:V}
 (B:CallsIn (fr none) 0 P f args w (wH I μ H w r H'))(D:∀u I' μ' w',bH I' μ' r u->cV I' μ' H' w'->Step I μ H w I' μ' H' w'->K (a.put o.dst u) w'):
 o.uponIn (fr ro) 0 P a K Q (.ok (.enter f args) w):=by
 refine⟨λh=>by simp[fr]at h,?_⟩
 have t:=B;refine t.mono ?_;rintro e w' ⟨u,I',μ',rfl,b,t,z⟩
 grind
def EK{x:V}(h:x.scalar=true){I:ct}{μ:Mu}{v:Zp}(r:bH I μ x v):eE I x v:=by induction r with|c x v B=>omega|agg t u w _ z=>exact .agg t u w λj a b p q=>z j a b p q (sW h a (mem_of_getElem? p))|tup t u w _ z=>exact .tup t u w λj a b p q=>z j a b p q (sW h a (mem_of_getElem? p))|_=>simp[V.scalar]at h
def QW(R:eD P E)(r:eC I μ n F a.tmps)(s:cV I μ H w)(o:Oper){x:V}(h:oD E F o.op=some x):
 ∃u I' w',(execOp a.eval o).run P w=.ok (.value u) w'/\bH I' μ x u/\cV I' μ H w'/\Step I μ H w I' μ H w':=by
 unfold oD at h;split at h
 rotate_left
 .cases h
 rename_i es B t n Y;split at h
 rotate_left
 .cases h
 rename_i hc;obtain⟨rfl,rfl,Z⟩:=hc;have⟨obj,p,u,h1,X⟩:=Br R r s o Y;have aa:=X.len _ _ rfl;have⟨⟨q,c,el,g1,g2,g3,g4⟩,g⟩:=X.rel _ (s.dom _ (le_refl _));rw[Mu.fN]at g1;cases g1;have J:=X.b;have Q:obj=.cells c el:=by rw[J,lV]at g3;cases g3;rfl
 subst Q
 let I':ct:=λb=>if b=w.heap.size then some (.cells c)else I b
 have C:ct.le I I':=λb y D=>by show(if b=w.heap.size then some (IC.cells c)else I b)=some y;rw[if_neg (λe=>by have:=IC.s6 (s.imm b y D);omega)];exact D
 have G:I' p.b=some (.cells c):=by show(if p.b=w.heap.size then some (IC.cells c)else I p.b)=_;rw[if_pos J]
 have ab:∀y∈B,∀z∈y,z.scalar=true:=λy D z hz=>all_eq_true.1 (all_eq_true.1 Z y D) z hz
 have l:∀b,b<w.heap.size->(w.alloc (.cells c el)).heap[b]?=w.heap[b]?:=λb f=>k8 _ b f
 have ad:∀b,b<w.heap.size->I' b=I b:=λb f=>by show(if b=w.heap.size then some (IC.cells c)else I b)=_;rw[if_neg Za]
 refine⟨u,I',_,h1,?_,⟨s.dom,?_,?_,s.inj,s.gl.mono C⟩,⟨C,Mu.le_refl _,le_refl _,Zc,λb f _=>l b f,?_,rfl,⟨rfl,rfl,le_refl _⟩,λa f=>Lq X.nf a⟩⟩
 .refine .c _ _ ?_;have ae:∀d,B.length<=d->p.o+(0+d)*t<=p.sz->u=.slice (some ⟨p.b,p.o+0*t,none⟩) B.length d->eE I' x u:=by
   rintro d m A rfl;rw[zero_mul,add_zero];have K:eE I' (.fsl t B) (.slice (some ⟨p.b,p.o,none⟩) B.length d):=.fsl t B p.b p.o d c G m g4.oB g4.one g4.room λi j y z v m1 M m3=>eE.mono C (EK (ab y (mem_of_getElem? m1) z (mem_of_getElem? M)) (g4.idx m1 M m3))
   split at h
   .split at h
    .rename_i O;split at h
     rotate_left
     .cases h
     rename_i S;simp only[ζa]at h;subst h;simp only[List.isEmpty_iff,bne_iff_ne,ne_eq]at O S;subst O;have:d=0:=by simp only[List.length_nil,zero_mul]at aa;rcases eq_zero_or_pos d with k|k;exact k;have:=Nat.mul_pos k (Nat.pos_of_ne_zero S);rw[zero_add]at A;omega
     subst this;exact .dG _
    simp only[ζa]at h;subst h;exact K
   simp only[ζa]at h;subst h;exact K
  have hp:p.es=t:=g4.es_eq;change bH I _ (.hsl H.length t 0 B.length) u at g;generalize T:B.length=ln at g
  cases g with
  |c _ _ af=>cases af|hsl id off len d p' hm m A=>rw[Mu.fN]at hm;cases hm;rw[hp]at *;subst T;exact ae d m A rfl|hsl0 id es off a=>
   have O:B=[]:=List.length_eq_zero_iff.1 T;subst O;split at h
   .split at h
    .split at h
     .simp only[ζa]at h;subst h;exact .dG _
     cases h
    rename_i O;exact absurd rfl O
   simp only[ζa]at h;subst h;exact .fsl0 _ _ _
 .intro b y D
  by_cases e:b=w.heap.size
  .subst e;have:y=.cells c:=by have:=G;rw[J]at this;rw[this]at D;cases D;rfl
   subst this;exact⟨el,_,lV _⟩
  have U:I b=some y:=by have:(if b=w.heap.size then some (IC.cells c)else I b)=some y:=D;rw[if_neg e]at this;exact this
  exact IC.qT (s.imm b y U) (l b (IC.s6 (s.imm b y U)))
 .intro id ob L;refine(s.obs id ob L).mono C (Mu.le_refl _) (λq hq hl=>?_) (λe=>by subst e;exact s.obs id _ L)
  have N:gV μ H q.b:=⟨id,q,ob,L,hl,hq,rfl⟩;have W:=mo s N;exact⟨l _ W,by rw[ad _ W];exact fI s N⟩
 intro b f;rcases f with f|f
 .by_cases e:b=w.heap.size
  .exact .inr (.inr Za)
  have:(if b=w.heap.size then some (IC.cells c)else I b).isSome=true:=f;rw[if_neg e]at this;exact .inl this
 exact .inr (.inl f)
def DS:∀{ys:Zt}{l:Zy},o9 ys=some l->ys.flatten=l.map (V.int .u8)/\l.length=ys.length
 |[],l,h=>by cases h;exact⟨rfl,rfl⟩|x::r,l,h=>by unfold o9 at h;split at h;(next e=>cases e);(next n B e=>cases e;obtain⟨k,a,rfl⟩:=ζf.1 h;have⟨t,u⟩:=DS a;exact⟨by simp[t],by simp[u]⟩);cases h
def P8(O:eD P E)(r:eC I μ n F a.tmps)(s:cV I μ H w)(o:Oper){x:V}(h:evalConv E F H o.op=some x):∃u,(execOp a.eval o).run P w=.ok (.value u) w/\bH I μ x u:=by
 unfold evalConv at h;split at h;rename_i st Q y B;split at h;rename_i e v S T f;split at h;rename_i U;obtain⟨J,g,W⟩:=ζg.1 h;obtain⟨l,X,rfl⟩:=ζf.1 W;obtain⟨Y,m⟩:=DS X;have C:∀{t:Zm}{k:TK},E.cN t=some k->∃d b,E.tt t=some d/\P.underlying t=some b/\lP b=k:=λ{t k}hk=>by unfold Env.cN at hk;obtain⟨d,g1,g2⟩:=ζf.1 hk;obtain⟨b,D,G,_⟩:=(O.ty g1).dH;exact⟨d,b,g1,D,by rw[G,g2]⟩
 obtain⟨_,p,_,p1,D⟩:=C S;obtain⟨_,A,_,p2,G⟩:=C T;obtain⟨_,K,_,p3,Z⟩:=C U;rw[i_ D]at p1;rw[yW G]at p2;rw[Ct Z]at p3;obtain⟨L,c,arr,e1,_,e2,e3,_⟩:=zQ s (dx r f) g;have z:arr=(l.map (Value.int .u8)).toArray:=by apply ext';rw[Y]at e3;refine List.ext_getElem (by simpa using e3.1.symm) λj g1 g2=>?_;have g3:j<l.length:=(by simpa using g2);have:=e3.2 j (V.int .u8 l[j]) arr.toList[j] (by simp[g3]) (ζd g1);rw[this.fe];simp
 refine⟨.string (Jb l),?_,.c _ _ (.str _)⟩;rw[show execOp a.eval o=_ from by unfold execOp;rw[B]];refine ey ?_;rw[e1];rw[run_convert_bytes_string w st Q e L J.length c p1 p3 p2];cases L with|none=>have:=e2 w rfl;rw[e1]at this;simp only[firstCells,run_pure]at this;cases this;have i:l=[]:=(by have:=congrArg Array.size z;simp at this;exact List.eq_nil_of_length_eq_zero this.symm);subst i;rfl|some q=>have:=e2 w rfl;rw[e1]at this;simp only[firstCells,Nat.mul_one]at this;rw[z]at this;exact run_bytesToString w q J.length c l this
 cases h;cases h;cases h
def MW(U:eD P E){call:dw}(hc:ki P call){ops:Zz}{place:a_ (Nat×Nat)}{o:Oper}{x:V}(h:dm E call ops place F H o.op=some (x,H'))
 (r:eC I μ n F a.tmps)(s:cV I μ H w)(ro:a_ Nat){K:Act->World->Prop}{Q:Exit->Act->World->Prop}
 (k:∀u I' μ' w',bH I' μ' x u->cV I' μ' H' w'->Step I μ H w I' μ' H' w'->K (a.put o.dst u) w'):o.wpIn (fr ro) 0 P a w K Q:=by
 refine⟨λ_ _=>trivial,?_⟩
 have ad:∀c,o.op≠.defer c:=by intro c ae;rw[ae]at h;simp[dm,c_,rP,bP]at h;cases place<;>simp[evalConv]at h
 show o.uponIn (fr ro) 0 P a K Q ((o.semAt ro a.eval).run P w);rw[Oper.semAt_eq ro a.eval o ad];have aa:∀v,(execOp a.eval o).run P w=.ok (.value v) w->bH I μ x v->H'=H->o.uponIn (fr ro) 0 P a K Q ((execOp a.eval o).run P w):=by intro v e j hH;rw[e,Oper.uponIn_value];subst hH;exact k v I μ w j s (.refl _ _ _ _)
 unfold dm at h;split at h
 .
  simp at h;obtain⟨v,j,rfl,rfl⟩:=h;unfold rP at j;split at j
  .rename_i hp;cases j;have⟨u,d,z⟩:=PA (w:=w) U r o hp
   grind
  split at j
  .have⟨u,d,z⟩:=P8 U r s o j;exact aa u d z rfl
  cases j
 .
  have hr:dW E F H o.op=some x/\H'=H:=by split at h;simp at h;grind;split at h;split at h;(next v j=>obtain⟨rfl,rfl⟩:=h;exact⟨ym j,rfl⟩);split at h;simp at h;grind;grind;grind
  have⟨u,d,z⟩:=PE U r s o hr.1
  grind
 .
  by_cases G:qv E ops place=true
  .rw[if_pos G]at h;have⟨v,j,e⟩:=ζf.1 h;have⟨u,I',w',W,A,k3,k4⟩:=QW U r s o j;rw[W,Oper.uponIn_value]
   grind
  rw[if_neg G]at h;split at h
  .rename_i ob m X;have⟨obj,p,u,d,z⟩:=Br U r s o X;rw[d,Oper.uponIn_value];have⟨g1,g2⟩:=z.rel _ (s.dom _ (le_refl _));have⟨s1,s2⟩:=s.push z.b g1 z.nf
   grind
  .rename_i ob m b i X;split at h
   .rename_i J;have⟨obj,p,u,d,z⟩:=Br U r s o X;rw[d,Oper.uponIn_value];have⟨g1,g2⟩:=z.rel _ (s.obs _ _ J);have⟨s1,s2⟩:=s.fill J z.b g1 z.nf
    grind
   grind
  grind
 .
  have hl:c8 E F H o.op=some (x,H'):=by split at h;exact h;split at h;exact h;simp at h
  have⟨nx,u,w',μ',d,z,M,R,h5⟩:=(QF U r s o hl).run;rw[d];rcases z with rfl|⟨rfl,rfl⟩
  .exact k u I μ' w' M R h5
  exact k _ I μ' w' M R h5

 have B:∀c args,jx F o.op=some (c,args)->∃O:aZ Zp,cK I μ args O/\
  (∀f,c=.fn f->xZ P f->(execOp a.eval o).run P w=.ok (.enter f O.toArray) w)/\
  (∀id,c=.yld id->∃p,μ id=some p/\(execOp a.eval o).run P w=(Instr.yield p.b O.toArray).run P w):=by
  intro c args t;have⟨dst,op,ty,pos,after,guard⟩:=o
  cases op with
  |call cl=>
   have⟨callee,L,aj⟩:=cl
   cases callee with
   |value f=>
    simp only[jx]at t;split at t
    .rename_i g p q O hf Y;obtain⟨rfl,rfl⟩:=t;have⟨u,v,ef,hu,j⟩:=(dx r hf).jI;have C:=mP r Y;refine⟨u.toList++L.toList.map a.eval++v.toList,(hu.append C).append j,?_,Zc⟩
     intro f' af ah;cases af;simp[execOp,resolve,run_bind];rw[ef];simp only[Deferred.ofValue,run_pure,andThen_ok,invoke,wk ah]
     congr 2
     apply ext';simp
    .rename_i id O hf Y;simp at t;obtain⟨rfl,rfl⟩:=t;have⟨p,hm,ef⟩:=(dx r hf).QJ;have C:=mP r Y;refine⟨L.toList.map a.eval,C,Zc,?_⟩
     intro ak ab;cases ab;refine⟨p,hm,?_⟩;simp[execOp,resolve,run_bind];rw[ef];simp[Deferred.ofValue,run_pure,andThen_ok,invoke]
     congr 1
     congr 1
     apply ext';simp
    simp at t
   |_=>simp[jx]at t
  |_=>simp[jx]at t
 have D:∀f args y,jx F o.op=some (.fn f,args)->b8 call f args H=some y->x=y->H'=(if y.scalar then H else cH H (cM (cg call.lv H) args))->
  o.uponIn (fr ro) 0 P a K Q ((execOp a.eval o).run P w):=by
  intro f args y d z M R;have⟨O,g1,g2,_⟩:=B _ _ d;have⟨W,A⟩:=B8 hc z s g1;rw[g2 f rfl W];subst M;subst R;exact CE A k
 have S:∀f args,jx F o.op=some (.fn f,args)->eO E call f args H=some (x,H')->o.uponIn (fr ro) 0 P a K Q ((execOp a.eval o).run P w):=by intro f args d z;have⟨O,g1,g2,_⟩:=B _ _ d;have⟨W,A⟩:=SJ hc z s g1;rw[g2 f rfl W];exact CE A k
 have T:∀id args,jx F o.op=some (.yld id,args)->call (.yld id) args H=some (x,H')->o.uponIn (fr ro) 0 P a K Q ((execOp a.eval o).run P w):=by intro id args d z;have⟨O,g1,_,g3⟩:=B _ _ d;have⟨p,hm,e⟩:=g3 id rfl;have⟨l,f,tmps,assign,body,W,A⟩:=hc.yld id args H x H' z I μ w O p s g1 hm;rw[e,W,Oper.uponIn_round];refine⟨λh=>by simp[fr]at h,?_⟩;have z:=A;refine z.mono ?_;rintro e w' ⟨u,I',μ',rfl,d,z,M⟩;exact k u I' μ' w' d z M
 split at h
 .rename_i f args t;split at h
  .split at h
   .exact S f args t h
   split at h
   .exact S f args t h
   simp at h
  split at h
  .split at h
   next y N=>simp at h;exact D f args y t N h.1.symm h.2.symm
   simp at h
  split at h
  .rename_i y N;split at h
   next Z=>simp at h;refine D f args y t (o6 N) h.1.symm ?_;rw[<-h.2,if_pos Z]
   rename_i Z;split at h
   next ai=>simp at h;refine D f args y t (o6 N) h.1.symm ?_;rw[<-h.2,if_neg Z,sV _ λid hi=>zj ai hi]
   simp at h
  split at h
  .split at h
   next y N=>simp at h;exact D f args y t N h.1.symm h.2.symm
   simp at h
  simp at h
 .rename_i id args t;split at h
  .exact T id args t h
  split at h
  .exact T id args t h
  simp at h
 simp at h
end
structure jH(B:Nat)(ds:List Deferred)(w:World):Prop where
 all:∀d∈ds,∃r,d.target=.collected r/\B<=r/\w.heap[r]?=some (.deferred (some []))
 apart:ds.Pairwise λd d'=>∀r,d.target=.collected r->d'.target≠.collected r
section
variable{P:Program}{E:Env}{I I' I'':ct}{μ μ' μ'':Mu}{H H' H'':bp}{n B:Nat}{F F':Zo}{a:Act}{w w' w'':World}
def tw(s:cV I μ H w){r:Nat}{c:a_ (aZ Deferred)}(h:w.heap[r]?=some (.deferred c)):¬gV μ H r:=by rintro⟨id,p,ob,h1,z,u,rfl⟩;have:=s.obs id ob h1;cases ob with|row es C=>have⟨q,c,el,a,_,t,_⟩:=this;rw[u]at a;cases a;rw[h]at t;cases t|map B=>have⟨q,c,el,a,_,t,_⟩:=this;rw[u]at a;cases a;rw[h]at t;cases t|loop x=>have⟨q,c,a,_,t,_⟩:=this;rw[u]at a;cases a;rw[h]at t;cases t|_=>simp[Ob.live]at z
def jH.step{ds:aZ Deferred}(h:jH B ds w)(s:cV I μ H w)(st:Step I μ H w I' μ' H' w'):jH B ds w' where
 all:=by intro d u;have⟨r,a,z,t⟩:=h.all d u;refine⟨r,a,z,?_⟩;rw[st.frame r (Array.getElem?_eq_some_iff.1 t).1 (tw s t)];exact t
 apart:=h.apart
def Lt(r:eC I μ n F a.tmps)(ops:Array Oper)(o:Oper):fE ops.toList F o=Region.wanted o (yielded ops a.tmps):=by unfold fE Region.wanted;cases i:o.guard with|none=>rfl|some g=>have⟨j,b⟩:=g;simp only;unfold yielded;have e:ops.toList[j]?=ops[j]?:=Zc;rw[e];cases B:(ops[j]?).bind (·.dst)with|none=>simp|some d=>simp only[ζb];have f:=r.2 d;by_cases u:d<a.tmps.size;have t:a.tmps[d]?=some a.tmps[d]:=(by simp[u]);have w:a.tmps.getD d undef=a.tmps[d]:=(by simp[u]);rw[w]at f;rw[t];(cases z:get F d with|bool c=>rw[z]at f;rw[f.qz];cases c<;>cases b<;>rfl|_=>cases h:a.tmps[d]with|bool c=>rw[h]at f;have:=f.of_bool;rw[z]at this;cases this|_=>rfl);have t:a.tmps[d]?=none:=getElem?_eq_none (Nat.le_of_not_lt u);have w:a.tmps.getD d undef=undef:=(by simp[u]);rw[w]at f;rw[t];cases z:get F d with|bool c=>rw[z]at f;have:=f.qz;simp[undef]at this|_=>rfl
def CN(G:eD P E){call:dw}(c:ki P call){ops:Array Oper}{place:a_ (Nat×Nat)}{o:Oper}(h:fW E call n ops.toList place o F H=some (F',H'))
 (r:eC I μ n F a.tmps)(s:cV I μ H w)(ro:a_ Nat){K:Act->World->Prop}{Q:Exit->Act->World->Prop}
 (D:∀a' I' μ' w',eC I' μ' n F' a'.tmps->a'.defers=a.defers->cV I' μ' H' w'->Step I μ H w I' μ' H' w'->K a' w'):
 if Region.wanted o (yielded ops a.tmps)then o.wpIn (fr ro) 0 P a w K Q else(∀f,o.about P w a.eval=some f->(fr ro).fn f)/\K (a.put o.dst undef) w:=by
 unfold fW at h;rw[<-Lt r];have t:∀v,(a.put o.dst v).defers=a.defers:=λv=>by cases o.dst<;>rfl
 split at h
 .rename_i B;rw[if_pos B];split at h
  .rename_i x H2 C;simp only[ζf,ζc]at h;obtain⟨J,b,rfl,rfl⟩:=h;refine MW G c C r s ro (λu I' μ' w' L O z=>?_)
   exact D _ I' μ' w' ((r.mono z.le z.mu).put L b) (t u) O z
  simp at h
 rename_i B;rw[if_neg B];simp only[ζf,ζc]at h;obtain⟨J,b,rfl,rfl⟩:=h;exact⟨λ_ _=>trivial,D _ I μ w (r.put (.undef I μ) b) (t _) s (.refl _ _ _ _)⟩
def Ma(O:eD P E){call:dw}(b:ki P call){ops:Array Oper}(ro:a_ Nat){Q:Exit->Act->World->Prop}:∀(rest:Zz)(k:Nat)(I:ct)(μ:Mu)(F:Zo)(H:bp)(a:Act)(w:World),
 (∀j,rest[j]?=ops[k+j]?)->lC E call n ops.toList rest F H=some (F',H')->eC I μ n F a.tmps->cV I μ H w->
 (∀a' I' μ' w',eC I' μ' n F' a'.tmps->a'.defers=a.defers->cV I' μ' H' w'->Step I μ H w I' μ' H' w'->Q .normal a' w')->
 wpOpsIn (fr ro) 0 P ops Q (List.range' k rest.length) a w:=by
 intro rest
 induction rest with
 |nil=>intro k I μ F H a w _ h r s B;simp only[lC,ζa,ζc]at h;obtain⟨rfl,rfl⟩:=h;exact B a I μ w r rfl s (.refl _ _ _ _)|cons o rest S=>
  intro k I μ F H a w t h r s B;simp only[lC]at h;split at h
  .rename_i F1 H1 u;have c:ops[k]?=some o:=by simpa using(t 0).symm
   simp only[length_cons,List.range'_succ,wpOpsIn,c];refine CN O b u r s ro (λa' I' μ' w' d T L C=>?_)
   refine S (k+1) I' μ' F1 H1 a' w' (λj=>by have:=t (j+1);simpa[add_assoc,Nat.add_comm 1 j]using this) h d L ?_
   intro U I2 W X D G J z;exact B U I2 W X D (G.trans T) J (Step.trans L C z)
  simp at h
end
def mX(F F':Zo)(op:Op):Prop:=∀x∈op.operands,ev F x=ev F' x
def qM{F F':Zo}:∀{l:aZ Zr},(∀x∈l,ev F x=ev F' x)->fA F l=fA F' l:=by intro l;induction l with|nil=>intro _;rfl|cons x l t=>simp[fA];grind
def zK{F F':Zo}:∀{l:aZ (Nat×Zr)},(∀x∈l,ev F x.2=ev F' x.2)->lE F l=lE F' l:=by intro l;induction l with|nil=>intro _;rfl|cons x l t=>intro h;simp[lE];simp_all
def wj{F F':Zo}{o:a_ Zr}(h:∀x∈o.toArray,ev F x=ev F' x):jt F o=jt F' o:=by cases o with|none=>rfl|some x=>simp[jt];grind
def C8{E:Env}{F F':Zo}{op:Op}(h:mX F F' op):bP E F op=bP E F' op:=by
 cases op with
 |move x=>exact h x (by simp[operands])|assign x=>exact h x (by simp[operands])|pick c a b=>simp[bP];rw[h c (by simp[operands]),h a (by simp[operands]),h b (by simp[operands])]|nilCheck x=>simp[bP];rw[h x (by simp[operands])]|binOp op t x y B=>simp[bP];rw[h x (by simp[operands]),h y (by simp[operands])]|unOp op t x=>simp[bP];rw[h x (by simp[operands])]|convert s d x=>simp[bP];rw[h x (by simp[operands])]|fieldAddr s x f=>simp[bP];rw[h x (by simp[operands])]|field s x f=>simp[bP];rw[h x (by simp[operands])]|indexAddr t x i=>simp[bP];rw[h x (by simp[operands]),h i (by simp[operands])]|index t x i=>simp[bP];rw[h x (by simp[operands]),h i (by simp[operands])]|slice t x C D G=>
  simp[bP];rw[h x (by simp[operands]),wj (λy u=>h y (by simp[operands]at u⊢;simp_all)),wj (λy u=>h y (by simp[operands]at u⊢;simp_all)),
   wj (λy u=>h y (by simp[operands]at u⊢;simp_all))]
 |build t I=>simp[bP];rw[zK (λx w=>h x.2 (by simp[operands];grind))]|makeFunc f a b=>cases f with|func f=>simp[bP];rw[qM (λx w=>h x (by simp[operands];grind)),qM (λx w=>h x (by simp[operands];grind))]|_=>rfl
 |extract x i=>simp[bP];rw[h x (by simp[operands])]|call c=>have⟨callee,args,z⟩:=c;cases callee with|builtin b=>simp[bP];rw[qM (λx w=>h x (by simp[operands,Call.operands];grind))]|_=>rfl
 |_=>rfl
def wF{E:Env}{F F':Zo}{H:bp}{op:Op}(h:mX F F' op):dW E F H op=dW E F' H op:=by cases op with|load t x=>simp[dW];rw[h x (by simp[operands])]|lookup t m k ok=>simp[dW];rw[h m (by simp[operands]),h k (by simp[operands])]|_=>rfl
def vD{E:Env}{F F':Zo}{op:Op}(h:mX F F' op):eM E F op=eM E F' op:=by cases op with|alloc t=>rfl|box t x=>simp[eM];rw[h x (by simp[operands])]|makeSlice t l c=>simp[eM];rw[h l (by simp[operands]),h c (by simp[operands])]|buildSlice t len u=>simp[eM];rw[zK (λx w=>h x.2 (by simp[operands];grind))]|makeMap t r=>cases r<;>rfl|_=>rfl
def Dx{E:Env}{F F':Zo}{H:bp}{op:Op}(h:mX F F' op):c8 E F H op=c8 E F' H op:=by
 cases op with
 |store t p x=>simp[c8];rw[h p (by simp[operands]),h x (by simp[operands])]|mapUpdate t m k x=>simp[c8];rw[h m (by simp[operands]),h k (by simp[operands]),h x (by simp[operands])]|insert t m k x=>simp[c8];rw[h m (by simp[operands]),h k (by simp[operands]),h x (by simp[operands])]|call c=>
  have⟨callee,args,u⟩:=c
  cases callee with
  |builtin b=>cases b with|append=>simp[c8];rw[qM (λx w=>h x (by simp[operands,Call.operands];grind))]|clear=>simp[c8];rw[qM (λx w=>h x (by simp[operands,Call.operands];grind))]|_=>rfl
  |_=>rfl
 |_=>rfl
def Dk{F F':Zo}{op:Op}(h:mX F F' op):jx F op=jx F' op:=by
 cases op with
 |call c=>have⟨callee,args,t⟩:=c;cases callee with|value f=>simp[jx];rw[h f (by simp[operands,Call.operands]),qM (λx u=>h x (by simp[operands,Call.operands];grind))]|_=>rfl
 |_=>rfl
def HP{E:Env}{F F':Zo}{op:Op}(h:mX F F' op):oD E F op=oD E F' op:=by unfold oD;rw[vD h]
def Jv{F F':Zo}{ops:Zz}{i b:Nat}{H:bp}{op:Op}(h:mX F F' op):xE ops i b F H op=xE ops i b F' H op:=by
 have:oK F op=oK F' op:=by
  unfold oK;split;rename_i args _;split;rename_i x r t;rw[h x (by
   have:x∈args.toList:=by rw[t];simp
   simp only[operands,Call.operands,Array.mem_append];right;simpa using this)]
  rfl;rfl
 unfold xE;rw[this]
def HZ{E:Env}{place:a_ (Nat×Nat)}{F F':Zo}{H:bp}{op:Op}(h:mX F F' op):rP E F H place op=rP E F' H place op:=by
 unfold rP;rw[C8 h];have:evalConv E F H op=evalConv E F' H op:=by unfold evalConv;split;rw[h _ (by simp[operands])];rfl
 rw[this]
def uA{E:Env}{b:Nat×Nat}{F:Zo}{H:bp}{op:Op}:rP E F H (some b) op=bP E F op:=by unfold rP;split<;>simp_all
def CC{E:Env}{call:dw}{ops:Zz}{place:a_ (Nat×Nat)}{F F':Zo}{H:bp}{op:Op}(h:mX F F' op)(B:∀b i,place=some (b,i)->qy ops i F=qy ops i F'/\mL ops i F op=mL ops i F' op):dm E call ops place F H op=dm E call ops place F' H op:=by
 unfold dm;rw[HZ h,vD h,Dx h,Dk h,wF (H:=H) h,HP h];split<;>(try rfl)
 .split<;>(try rfl);rename_i i;rw[wF h,(B _ i rfl).2]
 split<;>(try rfl);rename_i b i;rw[(B _ i rfl).1,Jv h]
section
variable{E:Env}{call:dw}{n:Nat}{ops:Zz}{base:Nat}
def Ju{o:Oper}{t:Nat}(h:.tmp t∈o.op.operands):t∈tmpsOf o ops:=by refine mem_append.2 (.inl (List.mem_filterMap.2 ⟨.tmp t,Zd,rfl⟩))
def DI{F F':Zo}{o:Oper}{dst:a_ Nat}{v:V}(a:jD n F dst v=some F')(h:∀d,dst=some d->d∉tmpsOf o ops):mX F' F o.op:=by
 intro x w
 cases x with
 |tmp t=>cases dst with|none=>simp[jD]at a;grind|some d=>simp only[jD]at a;split at a;simp at a;subst a;have u:d≠t:=λe=>h d rfl (by rw[e];exact Ju w);simp[ev];rw[iW _ _ u];grind
 |const v=>rfl|func f=>rfl|global g=>rfl
def AL{F F':Zo}{o:Oper}{dst:a_ Nat}{v:V}(a:jD n F dst v=some F')(h:∀d,dst=some d->d∉tmpsOf o ops):fE ops F' o=fE ops F o:=by unfold fE;cases c:o.guard with|none=>rfl|some g=>have⟨j,b⟩:=g;simp only;cases w:(ops[j]?).bind (·.dst)with|none=>rfl|some t=>simp only;cases dst with|none=>simp[jD]at a;grind|some d=>simp only[jD]at a;split at a;simp at a;subst a;have u:d≠t:=λe=>h d rfl (by unfold tmpsOf;grind);rw[iW _ _ u];grind
def K2{F F1 J:Zo}{d G:a_ Nat}{u v:V}(a:jD n F d u=some F1)(B:jD n F1 G v=some J)(O:∀x,d=some x->G≠some x):
 ∃D,jD n F G v=some D/\jD n D d u=some J:=by
 cases d with
 |none=>simp[jD]at a;subst a;exact⟨J,B,rfl⟩|some x=>
  cases G with
  |none=>simp[jD]at B;subst B;exact⟨F,rfl,a⟩|some y=>
   simp only[jD]at a B⊢;split at a
   .rename_i t;split at B
    .simp at a B;subst a;subst B;have:x≠y:=λe=>O x rfl (by rw[e])
     exact⟨set F y v,Zd,by rw[if_pos t,Fh _ _ _ (symm this)]⟩
    grind
   grind
def wu{i k:Nat}{B ok:Oper}(h:dA ops i=true)(G:ops[i]?=some B)(a:ops[k]?=some ok)(D:k≠i):c_ ok.op=.pure\/(if k<i then before ops i k else before ops k i)=true\/(isApp B.op=true/\c_ ok.op=.alloc/\i<k):=by unfold dA at h;grind
def vJ{H:bp}{j es:Nat}{ob:Ob}{x:V}{xs:Zt}(B:H[j]?=some .free)(h:dD H es x=some xs):dD (H.set j ob) es x=some xs:=by
 unfold dD at h⊢;split at h<;>first|omega|skip
 rename_i id t off len;by_cases e:j=id;subst e;rw[B]at h;simp only[ζb,Ob.rows]at h;grind;grind
def Nt{H H1:bp}{j:Nat}{ob:Ob}{x:V}(h:gB H x=some H1):H1.length=H.length/\(H1[j]?=some .free->H[j]?=some .free)/\(H[j]?=some .free->gB (H.set j ob) x=some (H1.set j ob)):=by unfold gB at h⊢;split at h;grind;grind;rename_i id a b c;split at h;rename_i d;cases h;refine⟨Zc,λh=>?_,λh=>?_⟩;grind;have e:id≠j:=λe=>Zd;rw[getElem?_set_ne (symm e),d];rw[set_comm _ _ e];simp_all;simp_all
def FB{H:bp}{o:Ob}{j:Nat}(B:o≠.free)(h:(H++[o])[j]?=some .free):j<H.length/\H[j]?=some .free:=by grind
def P9{F:Zo}{H H1:bp}{op:Op}{v:V}{j:Nat}{ob:Ob}(J:isApp op=true)(h:c8 E F H op=some (v,H1))(B:H1[j]?=some .free):H[j]?=some .free/\c8 E F (H.set j ob) op=some (v,H1.set j ob):=by
 unfold isApp at J;split at J;simp only[c8]at h⊢;split at h;split at h;rename_i e _ u t;split at h;rename_i d C;split at h;next D G=>obtain⟨rfl,rfl⟩:=h;refine⟨B,?_⟩;simp[u,t,C,vJ B D,vJ B G]
 rename_i Q S L D G;split at h;obtain⟨H0,a,O⟩:=ζf.1 h;obtain⟨rfl,rfl⟩:=O;obtain⟨I,w⟩:=FB Zc B;obtain⟨g1,g2,g3⟩:=Nt (ob:=ob) a;have z:=g2 w;simp[u,t,C,vJ z D,vJ z G];grind;simp_all;simp_all;simp_all;rename_i e _ u t;split at h;rename_i d C;unfold mkApp at h;split at h;split at h;obtain⟨rfl,rfl⟩:=h;simp only[u,t,C,mkApp];grind;split at h;obtain⟨rfl,rfl⟩:=h;obtain⟨I,w⟩:=FB Zc B;simp only[t,mkApp];grind;simp_all;simp_all;simp_all;simp_all;simp_all;simp_all
def s9{i:Nat}{F:Zo}{H H':bp}{op:Op}{v:V}(h:dm E call ops (some (base,i)) F H op=some (v,H'))(U:dA ops i=false)(B:c_ op≠.loud):
 (H'=H/\∀H2:bp,mj (H2.take base) (H.take base)->dm E call ops (some (base,i)) F H2 op=some (v,H2))\/
 (∃ob,H[base+i]?=some .free/\H'=H.set (base+i) ob/\∀H2:bp,H2[base+i]?=some .free->dm E call ops (some (base,i)) F H2 op=some (v,H2.set (base+i) ob))\/
 (∃T,iI (H.take base) T=true/\H'=cH H T/\∀H2:bp,mj (H2.take base) (H.take base)->dm E call ops (some (base,i)) F H2 op=some (v,cH H2 T)):=by
 unfold dm at h;split at h
 .rename_i I;simp at h;obtain⟨x,C,rfl,rfl⟩:=h;refine .inl ⟨rfl,λH2 _=>?_⟩
  rw[uA]at C;unfold dm;rw[I];simp only[uA,C,map_some]
 .rename_i B;simp only at h;split at h
  .rename_i J;split at h
   .rename_i x C;obtain⟨rfl,rfl⟩:=h;refine .inl ⟨rfl,λH2 t=>?_⟩
    unfold dm;rw[B];simp[ye t,C,J]
   grind
  grind
 .split at h
  .have⟨x,C,e⟩:=ζf.1 h;obtain⟨rfl,rfl⟩:=e;refine .inl ⟨rfl,λH2 _=>?_⟩
   unfold dm;grind
  split at h
  .grind
  .rename_i ob m S W Q L;obtain⟨rfl,rfl⟩:=L;split at h
   .rename_i u;obtain⟨rfl,rfl⟩:=h;refine .inr (.inl ⟨ob,u,rfl,λH2 t=>?_⟩)
    unfold dm;grind
   grind
  grind
 .grind
 rename_i B;split at h
 .rename_i f args D;split at h
  .grind
  rename_i w;simp only at h;split at h
  .rename_i y O;split at h
   .rename_i z;obtain⟨rfl,rfl⟩:=h;refine .inl ⟨rfl,λH2 t=>?_⟩
    unfold dm;rw[B];simp[D];rw[if_neg w];simp[zP t,O,z]
   split at h
   .rename_i G;obtain⟨rfl,rfl⟩:=h;refine .inr (.inr ⟨_,G,rfl,λH2 t=>?_⟩)
    unfold dm;simp[D];simp[zP t,O,JY t,tQ t,G]
    grind
   grind
  grind
 .grind
 grind
def D4{i:Nat}:∀{r l:Zv},Bd ops i r=some l->∀k∈r,∃a,ET ops i k=some a/\∀s∈a,s∈l
 |[],l,h,k,c=>Ze|q::r,l,h,k,c=>by simp[Bd]at h;split at h;rename_i a b d B;simp at h;rcases mem_cons.1 c with rfl|c;grind;have⟨a',g1,g2⟩:=D4 B k c;grind;grind
def FL{i:Nat}:∀{r l:Zv},Bd ops i r=some l->∀s∈l,s∉dstsOf ops
 |[],l,h,s,c=>by simp[Bd]at h;grind|q::r,l,h,s,c=>by simp[Bd]at h;split at h;rename_i a b d B;simp at h;subst h;rcases mem_append.1 c with c|c;unfold ET at d;grind;exact FL B s c;grind
def ED{i a:Nat}{l:Zv}{B:Oper}(D:ops[i]?=some B)(h:yA ops i=some (a,l)):(∃t x,B.op=.store t (.tmp a) x)/\a∉dstsOf ops/\(∀s∈l,s∉dstsOf ops)/\
 ∀k ok,ops[k]?=some ok->k≠i->c_ ok.op=.pure\/(if k<i then before ops i k else before ops k i)=true\/∃G a',ok.op=.load G (.tmp a')/\(a'∈l\/a'∈dstsOf ops):=by
 unfold yA at h;rw[D]at h;simp at h;split at h
 .rename_i t I x w;simp at w;split at h
  .simp_all
  have⟨J,z,e⟩:=ζf.1 h;obtain⟨rfl,rfl⟩:=e;refine⟨⟨t,x,w⟩,Zd,FL z,λk ok d C=>?_⟩
  have⟨b,c,L⟩:=D4 z k (List.mem_range.2 (ζe.1 d).1);unfold ET at c;rw[d]at c;simp only at c;split at c
  .rename_i u;simp at u;rcases u with(u|u)|u
   .grind
   .grind
   exact .inr (.inl u)
  split at c
  .grind
  grind
 grind
def Fz{F F':Zo}{dst:a_ Nat}{v:V}{s:Nat}(a:jD n F dst v=some F')(h:∀d,dst=some d->s≠d):get F' s=get F s:=by unfold jD at a;split at a;grind;rename_i d;split at a;simp at a;subst a;exact iW _ _ (symm (h d rfl));grind
def He{k d:Nat}{ok:Oper}(a:ops[k]?=some ok)(B:ok.dst=some d):d∈dstsOf ops:=List.mem_filterMap.2 ⟨ok,mem_of_getElem? a,B⟩
def Ed{F F':Zo}{k i:Nat}{ok B:Oper}{v:V}(b:ops[k]?=some ok)(D:ops[i]?=some B)(c:jD n F ok.dst v=some F'):qy ops i F'=qy ops i F:=by unfold qy;cases t:yA ops i with|none=>rfl|some u=>have⟨a,l⟩:=u;have⟨_,C,G,_⟩:=ED D t;have f:∀s,s∉dstsOf ops->get F' s=get F s:=λs w=>Fz c λd z e=>w (e▸He b z);grind
def LX{i k a a':Nat}{t:Zm}{x:Zr}{B:Oper}(D:ops[i]?=some B)(e1:B.op=.store t (.tmp a) x)(b:a'∈dstsOf ops)(G:a∉dstsOf ops)(J:u5 ops i k=false):a∈ot ops k a':=by unfold ot;grind
def xH{k a' s:Nat}(h:s∈ot ops k a'):s∉dstsOf ops/\∃i B t x,ops[i]?=some B/\B.op=.store t (.tmp s) x/\u5 ops i k=false:=by unfold ot at h;grind
def EC{F F':Zo}{k i:Nat}{ok:Oper}{op:Op}{v:V}(b:ops[k]?=some ok)(c:jD n F ok.dst v=some F')(B:mX F' F op):mL ops i F' op=mL ops i F op:=by
 have a:∀s,s∉dstsOf ops->get F' s=get F s:=λs h=>Fz c λd u e=>h (e▸He b u);unfold mL;split;rename_i t w;have z:=by have:=B (.tmp w) (by simp[operands]);simpa[ev]using this
 rw[z,Bool.eq_iff_iff];simp;exact⟨λh s B=>by rw[<-a s (xH B).1];grind,λh s B=>by rw[a s (xH B).1];grind⟩;rfl
def CI{k a':Nat}{ok:Oper}{t:Zm}(a:ops[k]?=some ok)(e:ok.op=.load t (.tmp a'))(h:dA ops k=true):ot ops k a'=[]:=by refine List.eq_nil_iff_forall_not_mem.2 λs w=>?_;have⟨_,i,C,D,x,b,z,B⟩:=xH w;have u:i≠k:=λe2=>Zd;rcases wu h a b u with g|g|g;rw[z]at g;cases g;unfold u5 at B;grind;rw[e]at g;exact absurd g.1 (by simp[isApp])
def HG{F:Zo}{H H':bp}{t:Zm}{a:Nat}{x:Zr}{id el off:Nat}{u:V}(B:get F a=.hptr id el off)(h:c8 E F H (.store t (.tmp a) x)=some (u,H')):∃r,H'=H.set id r:=by simp only[c8,ev]at h;split at h;grind;grind
def Ja{F:Zo}{H:bp}{t:Zm}{a id b:Nat}{r:Ob}(B:qf id (get F a)=true):dW E F ((H.set id r).take b) (.load t (.tmp a))=dW E F (H.take b) (.load t (.tmp a)):=by
 have:∀m,eo ((H.set id r).take b) (get F a) m=eo (H.take b) (get F a) m:=λm=>by unfold qf at B;split at B;rename_i u el off c;rw[c];simp[eo];grind;(next w c=>rw[c];rfl);grind
 unfold dW;simp[ev];grind
def Gx{k i:Nat}{ok G:Oper}(f:ops[k]?=some ok)(Y:ops[i]?=some G)(U:k≠i)(J:(if k<i then before ops i k else before ops k i)=false)(lk:dA ops k=false)(g:c_ ok.op≠.pure)(j:c_ G.op=.loud)(m:dA ops i=false)(W:isApp G.op=false)
 {F:Zo}{H0 H1 H2 d O:bp}{u v:V}(D:dm E call ops (some (base,i)) F d G.op=some (u,O))(B:dm E call ops (some (base,k)) F H0 ok.op=some (v,H1)):
 H1=H0/\∃id,(∀(H:bp)(r:Ob),dW E F ((H.set id r).take base) ok.op=dW E F (H.take base) ok.op)/\(∃r,O=d.set id r)/\c_ ok.op=.read/\dW E F (H0.take base) ok.op=some v/\mL ops k F ok.op=true:=by
 unfold dm at D;rw[j]at D;simp only[m,Bool.false_or,show∀F b H,xE ops i b F H G.op=false fromλF b H=>by unfold xE;rw[W];simp,Bool.or_false]at D
 split at D
 .rename_i C;unfold qy at C;split at C
  .rename_i a l L;split at C
   .rename_i id el off hg;have⟨⟨t,x,I⟩,X,q,Z⟩:=ED Y L;rcases Z k ok f U with h|h|⟨s,T,w,c⟩
    .exact absurd h g
    .rw[J]at h;cases h
    unfold dm at B;rw[w]at B;simp only[c_]at B;split at B
    rotate_left
    .simp at B
    rename_i z;have Q:qf id (get F T)=true:=by rcases c with c|c;exact all_eq_true.1 C T c;have S:u5 ops i k=false:=(by unfold u5;by_cases e:k<i;rw[if_pos e]at J⊢;exact J;rw[if_neg e]at J⊢;exact J);have n:=LX Y I c X S;unfold mL at z;simp only[all_eq_true]at z;have:=z a n;rw[hg]at this;exact this
    rw[I]at D;have⟨r,o⟩:=HG hg D;split at B
    next y p=>simp only[ζa,ζc]at B;obtain⟨rfl,rfl⟩:=B;refine⟨rfl,id,λH r=>by rw[w];exact Ja Q,⟨r,o⟩,by rw[w];rfl,by rw[w];exact p,by rw[w];exact z⟩
    rw[lk]at B;simp at B
   simp at C
  simp at C
 simp at D
def Cz{place:Nat×Nat}{F:Zo}{H H':bp}{op:Op}{v:V}(B:c_ op=.pure\/c_ op=.alloc/\qv E ops (some place)=true)(h:dm E call ops (some place) F H op=some (v,H')):
 H'=H/\∀H2:bp,dm E call ops (some place) F H2 op=some (v,H2):=by
 rcases B with B|⟨B,t⟩
 rotate_left
 .unfold dm at h;rw[B]at h;simp only[t]at h;have⟨x,u,e⟩:=ζf.1 h;obtain⟨rfl,rfl⟩:=e;refine⟨rfl,λH2=>?_⟩
  unfold dm;grind
 unfold dm at h;rw[B]at h;simp at h;obtain⟨x,u,rfl,rfl⟩:=h;refine⟨rfl,λH2=>?_⟩
 rw[uA]at u;unfold dm;rw[B];simp only[uA,u,map_some]
def take_set_of_le{H:bp}{b k:Nat}{x:Ob}(h:b<=k):(H.set k x).take b=H.take b:=List.take_set_of_le h
def apart_spec{a b:Oper}(h:wY ops a b=true):(∀d,a.dst=some d->d∉tmpsOf b ops/\b.dst≠some d)/\(∀d,b.dst=some d->d∉tmpsOf a ops):=by unfold wY at h;grind
def B2{i k:Nat}{ok:Oper}(h:vR ops i=true)(a:ops[k]?=some ok)(B:k≠i)(D:u5 ops i k=false):c_ ok.op=.pure\/c_ ok.op=.read\/c_ ok.op=.alloc/\(z8 ops k=true\/i<k):=by unfold vR at h;split at h;simp only[ζh,all_eq_true,List.mem_range]at h;have:=h.2 k (ζe.1 a).1;rw[a]at this;simp only[Bool.or_eq_true,beq_iff_eq,ζh,decide_eq_true_eq,D,false_eq_true,or_false]at this;rcases this with((h|h)|h)|h;exact absurd h B;exact .inl h;exact .inr (.inl h);exact .inr (.inr h);cases h
def zp{op:Op}(h:isApp op=true):c_ op=.loud:=by unfold isApp at h;split at h;rfl;cases h
def GM{F:Zo}{H H1:bp}{op:Op}{v:V}{b:Nat}(D:isApp op=true)(B:oK F op=true)(G:b<=H.length)(h:c8 E F H op=some (v,H1)):H1.take b=H.take b:=by
 unfold isApp at D;split at D;rotate_left;cases D;rename_i args z;simp only[c8]at h;split at h;rotate_left;cases h;rename_i t L s x C u;have I:s=.dG\/s=.bJ:=by simp only[oK]at B;split at B;rename_i y r J;rw[J]at u;have c:ev F y=some s:=(by simp only[fA]at u;split at u;(next a b c w=>simp only[ζa,List.cons.injEq]at u;rw[c,u.1]);cases u);rw[c]at B;cases s<;>simp at B<;>simp;cases B
 have d:∀H2,gB H s=some H2->H2=H:=λH2 h=>by rcases I with rfl|rfl<;>(simp only[gB,ζa]at h;exact h.symm)
 split at h;split at h;split at h;simp only[ζa,ζc]at h;rw[h.2];split at h;have⟨H0,c,w⟩:=ζf.1 h;simp only[ζc]at w;rw[<-w.2,d H0 c,List.take_append_of_le_length G];cases h;cases h;cases h;split at h;unfold mkApp at h;split at h;split at h;simp only[ζa,ζc]at h;rw[h.2];split at h;simp only[ζa,ζc]at h;rw[<-h.2,List.take_append_of_le_length G];cases h;cases h;cases h;cases h
def Df{i:Nat}{F:Zo}{H H':bp}{op:Op}{u:V}(B:isApp op=true)(D:dA ops i=false)(G:(ops[i]?).map Oper.op=some op)(h:dm E call ops (some (base,i)) F H op=some (u,H')):
 vR ops i=true/\oK F op=true/\base<=H.length/\c8 E F H op=some (u,H'):=by
 unfold dm at h;rw[zp B]at h;have t:qy ops i F=false:=by unfold qy yA;rw[G];unfold isApp at B;split at B;rfl;cases B
 simp only[D,t,Bool.false_or]at h;split at h
 next a=>unfold xE at a;simp only[ζh,decide_eq_true_eq]at a;exact⟨a.1,a.2.1.2,a.2.2,h⟩
 cases h
def My{i:Nat}{F:Zo}{H H':bp}{op:Op}{u:V}(B:isApp op=true)(h:c8 E F H op=some (u,H'))(a:dA ops i=true\/vR ops i=true/\oK F op=true/\base<=H.length):dm E call ops (some (base,i)) F H op=some (u,H'):=by
 unfold dm;rw[zp B];rcases a with a|⟨b,t,w⟩;simp only[a,Bool.true_or,if_true,h];have:xE ops i base F H op=true:=by unfold xE;simp[b,B,t,w]
 simp only[this,Bool.or_true,if_true,h]
def CD{i:Nat}{F:Zo}{H H':bp}{op:Op}{v:V}(B:c_ op=.read)(D:dA ops i=false)(h:dm E call ops (some (base,i)) F H op=some (v,H')):
 H'=H/\∀H2:bp,mj (H2.take base) (H.take base)->dm E call ops (some (base,i)) F H2 op=some (v,H2):=by
 unfold dm at h;rw[B]at h;simp only at h;split at h
 .rename_i t;split at h
  .rename_i x u;simp only[ζa,ζc]at h;obtain⟨rfl,rfl⟩:=h;refine⟨rfl,λH2 w=>?_⟩
   unfold dm;rw[B];simp only[ye w,u,t,if_true]
  rw[D]at h;simp at h
 simp at h
def swap{k i:Nat}{ok D:Oper}(p:ops[k]?=some ok)(Y:ops[i]?=some D)(ad:k<i)(O:before ops i k=false)(J:wY ops ok D=true){F F1 F2:Zo}{H H1 H2:bp}
 (s:fW E call n ops (some (base,k)) ok F H=some (F1,H1))(l:fW E call n ops (some (base,i)) D F1 H1=some (F2,H2)):
 ∃G B,fW E call n ops (some (base,i)) D F H=some (G,B)/\fW E call n ops (some (base,k)) ok G B=some (F2,H2):=by
 have⟨a1,a2⟩:=apart_spec J;have ae:∃v,jD n F ok.dst v=some F1/\((fE ops F ok=true/\dm E call ops (some (base,k)) F H ok.op=some (v,H1))\/(fE ops F ok=false/\v=.undef/\H1=H)):=by unfold fW at s;split at s;rename_i A;split at s;(next v H' Q=>simp only[ζf,ζc]at s;obtain⟨Fx,K,rfl,rfl⟩:=s;exact⟨v,K,.inl ⟨A,Q⟩⟩);simp at s;rename_i A;simp only[ζf,ζc]at s;obtain⟨Fx,K,rfl,rfl⟩:=s;exact⟨_,K,.inr ⟨by simpa using A,rfl,rfl⟩⟩
 have af:∃v,jD n F1 D.dst v=some F2/\((fE ops F1 D=true/\dm E call ops (some (base,i)) F1 H1 D.op=some (v,H2))\/(fE ops F1 D=false/\v=.undef/\H2=H1)):=by unfold fW at l;split at l;rename_i A;split at l;(next v H' Q=>simp only[ζf,ζc]at l;obtain⟨Fx,K,rfl,rfl⟩:=l;exact⟨v,K,.inl ⟨A,Q⟩⟩);simp at l;rename_i A;simp only[ζf,ζc]at l;obtain⟨Fx,K,rfl,rfl⟩:=l;exact⟨_,K,.inr ⟨by simpa using A,rfl,rfl⟩⟩
 have⟨v,S,iZ⟩:=ae;have⟨u,aw,ah⟩:=af;have ax:fE ops F1 D=fE ops F D:=AL S λd Q=>(a1 d Q).1
 have ao:mX F1 F D.op:=DI S λd Q=>(a1 d Q).1
 have ay:∀(b j:Nat),(some (base,i):a_ (Nat×Nat))=some (b,j)->qy ops j F1=qy ops j F/\mL ops j F1 D.op=mL ops j F D.op:=λb j e=>by cases e;exact⟨Ed p Y S,EC p S ao⟩
 rw[ax,CC ao ay]at ah;have⟨G,L,ap⟩:=K2 S aw λx hx=>(a1 x hx).2
 have aA:fE ops G ok=fE ops F ok:=AL L λd Q=>a2 d Q
 have aq:mX G F ok.op:=DI L λd Q=>a2 d Q
 have aB:∀(b j:Nat),(some (base,k):a_ (Nat×Nat))=some (b,j)->qy ops j G=qy ops j F/\mL ops j G ok.op=mL ops j F ok.op:=λb j e=>by cases e;exact⟨Ed Y p L,EC Y L aq⟩
 have fin:∀B,((fE ops F D=true/\dm E call ops (some (base,i)) F H D.op=some (u,B))\/(fE ops F D=false/\u=.undef/\B=H))->
  ((fE ops F ok=true/\dm E call ops (some (base,k)) F B ok.op=some (v,H2))\/(fE ops F ok=false/\v=.undef/\H2=B))->
  ∃G B,fW E call n ops (some (base,i)) D F H=some (G,B)/\fW E call n ops (some (base,k)) ok G B=some (F2,H2):=by
  intro B e1 e2;refine⟨G,B,?_,?_⟩
  .unfold fW;rcases e1 with⟨M,x2⟩|⟨M,x2,x3⟩
   .rw[if_pos M,x2];simp[L]
   rw[if_neg (by simp[M])];subst x2;subst x3;simp[L]
  unfold fW;rw[aA];rcases e2 with⟨M,x2⟩|⟨M,x2,x3⟩
  .rw[if_pos M,CC aq aB,x2];simp[ap]
  rw[if_neg (by simp[M])];subst x2;subst x3;simp[ap]
 rcases iZ with⟨w,g⟩|⟨w,rfl,rfl⟩
 .rcases ah with⟨t,f⟩|⟨t,rfl,rfl⟩
  .by_cases pk:c_ ok.op=.pure\/c_ ok.op=.alloc/\qv E ops (some (base,k))=true
   .obtain⟨rfl,q⟩:=Cz pk g;exact fin H2 (.inl ⟨t,f⟩) (.inl ⟨w,q H2⟩)
   by_cases V:c_ D.op=.pure\/c_ D.op=.alloc/\qv E ops (some (base,i))=true
   .obtain⟨rfl,q⟩:=Cz V f;exact fin H (.inl ⟨t,q H⟩) (.inl ⟨w,g⟩)
   by_cases J:isApp ok.op=true/\c_ D.op=.alloc
   .
    have⟨J,ai⟩:=J;have aC:=zp J;have aj:(dA ops k=true\/vR ops k=true/\oK F ok.op=true/\base<=H.length)/\c8 E F H ok.op=some (v,H1):=by cases R:dA ops k with|true=>refine⟨.inl rfl,?_⟩;unfold dm at g;rw[aC]at g;simpa only[R,Bool.true_or,if_true]using g|false=>have⟨a,b,c,d⟩:=Df J R (by rw[p];rfl) g;exact⟨.inr ⟨a,b,c⟩,d⟩
    have⟨aj,e1⟩:=aj;have ar:qv E ops (some (base,i))=false:=by cases hc:qv E ops (some (base,i))with|false=>rfl|true=>exact absurd (.inr ⟨ai,hc⟩) V
    have e2:∃ob m,eM E F D.op=some (ob,m)/\H1[base+i]?=some .free/\u=m.val (base+i)/\H2=H1.set (base+i) ob:=by unfold dm at f;rw[ai]at f;simp only[ar,false_eq_true,if_false]at f;split at f;(next ak=>cases ak);rename_i ob m b' i' al ak;cases ak;split at f;(next z=>simp only[ζa,ζc]at f;exact⟨ob,m,al,z,f.1.symm,f.2.symm⟩);cases f;cases f
    obtain⟨ob,m,al,z,rfl,rfl⟩:=e2;have⟨f0,f1⟩:=P9 (ob:=ob) J e1 z;refine fin (H.set (base+i) ob) (.inl ⟨t,?_⟩) (.inl ⟨w,?_⟩)
    .unfold dm;rw[ai];simp only[ar,false_eq_true,if_false,al,f0]
    exact My J f1 (aj.imp id λ⟨a,b,c⟩=>⟨a,b,by rw[length_set];exact c⟩)
   have lk:dA ops k=false:=by cases R:dA ops k with|false=>rfl|true=>rcases wu R p Y Za with h|h|h;exact absurd (.inl h) V;rw[if_neg Za]at h;rw[O]at h;cases h;exact absurd ⟨h.1,h.2.1⟩ J
   have N:dA ops i=false:=by cases R:dA ops i with|false=>rfl|true=>rcases wu R Y p Za with h|h|h;exact absurd (.inl h) pk;rw[if_pos ad]at h;rw[O]at h;cases h;exact absurd h.2.2 Za
   by_cases am:isApp D.op=true
   .have⟨g1,g2,g3,g4⟩:=Df am N (by rw[Y];rfl) f
    rcases B2 g1 p Za (by unfold u5;rw[if_pos ad];exact O)with h|h|⟨h,l⟩
    .exact absurd (.inl h) pk
    .obtain⟨rfl,q⟩:=CD h lk g;exact fin H2 (.inl ⟨t,f⟩) (.inl ⟨w,q H2 (mj.of_eq (GM am g2 g3 g4))⟩)
    rcases l with l|l
    .exact absurd (.inr ⟨h,show(z8 ops k||Pm E ops k)=true by rw[l];rfl⟩) pk
    omega
   by_cases Z:isApp ok.op=true
   .have⟨g1,g2,g3,g4⟩:=Df Z lk (by rw[p];rfl) g
    rcases B2 g1 Y Za (by unfold u5;rw[if_neg Za];exact O)with h|h|⟨h,l⟩
    .exact absurd (.inl h) V
    .obtain⟨rfl,q⟩:=CD h N f;exact fin H (.inl ⟨t,q H (mj.of_eq (GM Z g2 g3 g4).symm)⟩) (.inl ⟨w,g⟩)
    exact absurd ⟨Z,h⟩ J
   by_cases C:c_ D.op=.loud
   .obtain⟨rfl,id,q1,⟨r,hr⟩,q3,q4,q5⟩:=Gx (H2:=H2) p Y Za (by rw[if_pos ad];exact O) lk (λh=>pk (.inl h)) C N (by simpa using am) f g
    refine fin H2 (.inl ⟨t,f⟩) (.inl ⟨w,?_⟩);unfold dm;rw[q3];subst hr;simp only[q1,q4,q5,if_true]
   by_cases ab:c_ ok.op=.loud
   .obtain⟨rfl,id,q1,⟨r,hr⟩,q3,q4,q5⟩:=Gx (H2:=H2) Y p Za (by rw[if_neg Za];exact O) N (λh=>V (.inl h)) ab lk (by simpa using Z) g f
    refine fin H (.inl ⟨t,?_⟩) (.inl ⟨w,g⟩);unfold dm;rw[q3];subst hr;rw[q1]at q4;simp only[q4,q5,if_true]
   have tk:∀(X:bp)(k:Nat)(o:Ob),mj ((X.set (base+k) o).take base) (X.take base):=λX k o=>mj.of_eq (take_set_of_le Za)
   rcases s9 g lk ab with⟨rfl,y⟩|⟨ob,fk,rfl,y⟩|⟨T,tr,rfl,y⟩
   .rcases s9 f N C with⟨rfl,I⟩|⟨aa,fi,rfl,I⟩|⟨P,U,rfl,I⟩
    .exact fin H2 (.inl ⟨t,f⟩) (.inl ⟨w,g⟩)
    .exact fin _ (.inl ⟨t,f⟩) (.inl ⟨w,y _ (tk _ _ _)⟩)
    exact fin _ (.inl ⟨t,f⟩) (.inl ⟨w,y _ ((pY U).take base)⟩)
   .rcases s9 f N C with⟨rfl,I⟩|⟨aa,fi,rfl,I⟩|⟨P,U,rfl,I⟩
    .refine fin H (.inl ⟨t,I H (tk _ _ _).symm⟩) (.inl ⟨w,g⟩)
    .have an:H[base+i]?=some .free:=by rw[getElem?_set_ne Za]at fi;exact fi
     refine fin (H.set (base+i) aa) (.inl ⟨t,I H an⟩) (.inl ⟨w,?_⟩);rw[y _ (by rw[getElem?_set_ne Za];exact fk)]
     rw[set_comm _ _ Za]
    have W:iI (H.take base) P=true:=by rw[<-tQ (tk H k ob)];exact U
    have au:base+k∉P:=λhm=>absurd (zj W hm) Za
    refine fin (cH H P) (.inl ⟨t,I H (tk _ _ _).symm⟩) (.inl ⟨w,?_⟩);rw[y _ (by rw[iz,fk];simp[au]),Ca au]
   rcases s9 f N C with⟨rfl,I⟩|⟨aa,fi,rfl,I⟩|⟨P,U,rfl,I⟩
   .refine fin H (.inl ⟨t,I H ((pY tr).take base).symm⟩) (.inl ⟨w,g⟩)
   .have av:base+i∉T:=λhm=>absurd (zj tr hm) Za
    have an:H[base+i]?=some .free:=by rw[iz]at fi;have⟨o,ho,hf⟩:=ζf.1 fi;rw[if_neg av]at hf;rw[ho,hf]
    refine fin (H.set (base+i) aa) (.inl ⟨t,I H an⟩) (.inl ⟨w,?_⟩);rw[y _ (tk _ _ _),Ca av]
   have W:iI (H.take base) P=true:=by rw[<-tQ ((pY tr).take base)];exact U
   refine fin (cH H P) (.inl ⟨t,I H ((pY tr).take base).symm⟩) (.inl ⟨w,?_⟩);rw[y _ ((pY W).take base),HJ]
  exact fin H (.inr ⟨t,rfl,rfl⟩) (.inl ⟨w,g⟩)
 rcases ah with⟨t,f⟩|⟨t,rfl,rfl⟩
 .exact fin H2 (.inl ⟨t,f⟩) (.inr ⟨w,rfl,rfl⟩)
 exact fin _ (.inr ⟨t,rfl,rfl⟩) (.inr ⟨w,rfl,rfl⟩)
def HA(h:uR ops=true){k i:Nat}{ok B:Oper}(a:ops[k]?=some ok)(G:ops[i]?=some B)(D:k<i):C7 B k=true\/wY ops ok B=true:=by unfold uR at h;simp at h;grind
def Nz(G:uR ops=true){i:Nat}{D:Oper}(B:ops[i]?=some D):∀(l r:Zv),(∀k∈l,k<i/\C7 D k=false/\before ops i k=false)->∀{F F':Zo}{H H':bp},
 jy E call n ops base (l++i::r) F H=some (F',H')->jy E call n ops base (i::(l++r)) F H=some (F',H'):=by
 intro l
 induction l with
 |nil=>grind|cons k l C=>
  intro r z F F' H H' h;have⟨t,I,u⟩:=z k Zc
  simp[jy]at h;split at h
  .rename_i ok hk;split at h
   .rename_i F1 H1 h1;have:=C r (λx J=>z x (mem_cons_of_mem _ J)) h
    simp[jy,B]at this;split at this
    .rename_i S H2 L;have w:wY ops ok D=true:=by
      rcases HA G hk B t with h|h
      .grind
      omega
     have⟨O,Q,g1,g2⟩:=swap hk B t u w h1 L;simp[jy,B,g1,hk,g2];simp_all
    grind
   grind
  grind
inductive Reach(ops:List Oper):Nat->Nat->Prop
 |one(i k:Nat)(o:Oper)(e:Edge)(hi:ops[i]?=some o)(he:e∈o.after)(hb:kB e=true)(hk:e.on=k):Reach ops i k|more(i j k:Nat)(o:Oper)(e:Edge)(hi:ops[i]?=some o)(he:e∈o.after)(hb:kB e=true)(hk:e.on=j)(h:Reach ops j k):Reach ops i k
def CP:∀(B l:Zv)(k:Nat),k∈B.foldl (λl k=>if l.contains k then l else k::l) l->k∈B\/k∈l
 |[],_,_,h=>.inr h|x::B,l,k,h=>by rcases CP B _ k h with h|h;grind;grind
def Ku{a:aZ Zv}{o:Oper}{k:Nat}(h:k∈Fj a o):∃e∈o.after,kB e=true/\(k=e.on\/∃S,a[e.on]?=some S/\k∈S):=by
 have key:∀(es:aZ Edge)(l:Zv),k∈es.foldl (λl e=>(e.on::(a[e.on]?).getD []).foldl (λl k=>if l.contains k then l else k::l) l) l->k∈l\/∃e∈es,k=e.on\/∃S,a[e.on]?=some S/\k∈S:=by intro es;induction es with|nil=>grind|cons e es u=>intro l h;rcases u _ h with h|⟨w,b,t⟩;rcases CP _ _ _ h with h|h;refine .inr ⟨e,Zc,?_⟩;rcases mem_cons.1 h with h|h;grind;(cases z:a[e.on]?with|none=>rw[z]at h;simp at h|some S=>grind);grind;exact .inr ⟨w,mem_cons_of_mem _ b,t⟩
 rcases key _ _ h with h|⟨e,b,t⟩;simp at h;grind
def wT(ops:Zz):∀(l:Zz)(a:aZ Zv)(pre:Zz),ops=pre++l->a.length=pre.length->(∀(i:Nat)S,a[i]?=some S->∀k∈S,Reach ops i k)->
 ∀(i:Nat)S,(l.foldl (λa o=>a++[Fj a o]) a)[i]?=some S->∀k∈S,Reach ops i k
 |[],_,_,_,_,h=>h|o::l,a,pre,G,J,h=>by refine wT ops l _ (pre++[o]) Ze Ze ?_;intro i S B k b;by_cases O:i<a.length;grind;rw[List.getElem?_append_right Za]at B;have D:i=a.length:=(by grind);subst D;simp at B;subst B;have t:ops[a.length]?=some o:=Zd;have⟨e,u,w,b⟩:=Ku b;rcases b with b|⟨S,B,b⟩;exact .one _ _ o e t u w b.symm;exact .more _ e.on _ o e t u w rfl (h _ S B k b)
def GC{i k:Nat}(h:before ops i k=true):Reach ops i k:=by unfold before at h;cases t:(Gg ops)[i]?with|none=>grind|some S=>exact wT ops ops [] [] rfl rfl Zc i S t k Zd
end
section
variable{P:Program}{E:Env}{I I':ct}{μ μ':Mu}{H H':bp}{n B:Nat}{F F':Zo}{a:Act}{w w':World}
def EE(e:Edge):Region.binds .any e=kB e:=by unfold Region.binds kB;grind
def todo(ops:Array Oper)(B:Array Zl):Zv:=(range ops.size).filter λi=> !B.getD i true
def v7(ops:Array Oper)(B:Array Zl):(todo ops B).Pairwise (·<·):=List.pairwise_lt_range.filter _
def Ou{ops:Array Oper}{B:Array Zl}{i:Nat}(J:B.size=ops.size)(O:i<ops.size){D G:Zv}(h:todo ops B=D++i::G):
 todo ops (B.setIfInBounds i true)=D++G:=by
 have a:∀j∈range ops.size,(!(B.setIfInBounds i true).getD j true)=((!B.getD j true)&&(j != i)):=by intro j _;by_cases e:j=i;simp_all;have:(B.setIfInBounds i true).getD j true=B.getD j true:=(by simp[Array.getElem?_setIfInBounds_ne (symm e)]);grind
 have:todo ops (B.setIfInBounds i true)=(todo ops B).filter (· != i):=by unfold todo;rw[List.filter_filter];grind
 rw[this,h];have t:=v7 ops B;rw[h]at t;rw[List.pairwise_append]at t;have⟨_,w,z⟩:=t;rw[List.pairwise_cons]at w;rw[List.filter_append,List.filter_cons];simp;rw[List.filter_eq_self.2 (λx u=>by have:=z x u i Zc;simp;omega),List.filter_eq_self.2 (λx u=>Zd)]
def Down(ops:Array Oper)(B:Array Zl):Prop:=∀j o,B.getD j false=true->ops[j]?=some o->∀e∈o.after,kB e=true->B.getD e.on false=true
def Kl{ops:Array Oper}{B:Array Zl}(D:Down ops B){i k:Nat}(h:Reach ops.toList i k)(G:∀o,ops[i]?=some o->∀e∈o.after,kB e=true->B.getD e.on false=true):B.getD k false=true:=by induction h with|one i k o e z u w hk=>grind|more i j k o e z u w hk _ C=>subst hk;exact C λI t=>D _ _ (G o Zd e u w) t
def Ej(hE:eD P E){call:dw}(hc:ki P call){ops:Array Oper}(hd:uR ops.toList=true)(q:zo ops.toList=true)(ro:a_ Nat){Q:Exit->Act->World->Prop}(base:Nat):
 ∀(D:Nat)(b:Array Zl)(I:ct)(μ:Mu)(F:Zo)(H:bp)(a:Act)(w:World),b.size=ops.size->Down ops b->(todo ops b).length=D->
 jy E call n ops.toList base (todo ops b) F H=some (F',H')->eC I μ n F a.tmps->cV I μ H w->
 (∀a' I' μ' w',eC I' μ' n F' a'.tmps->a'.defers=a.defers->cV I' μ' H' w'->Step I μ H w I' μ' H' w'->Q .normal a' w')->
 wpAnyIn (fr ro) 0 P .any ops Q D b a w:=by
 intro D
 induction D with
 |zero=>
  intro b I μ F H a w L J c h r s v;have O:todo ops b=[]:=List.eq_nil_of_length_eq_zero c;rw[O]at h;obtain⟨rfl,rfl⟩:=h;refine⟨?_,v a I μ w r rfl s (.refl _ _ _ _)⟩;unfold Region.ready;rw[List.filter_eq_nil_iff];intro i d;have:i∉todo ops b:=Zd
  unfold todo at this
  grind
 |succ D ih=>
  intro b I μ F H a w L J c h r s v;have U:∀i,i∈Region.ready .any ops b->i<ops.size/\i∈todo ops b/\∃o,ops[i]?=some o/\∀e∈o.after,kB e=true->b.getD e.on false=true:=by intro i d;unfold Region.ready at d;rw[mem_filter]at d;have⟨x,h2⟩:=d;simp only[ζh]at h2;have C:i<ops.size:=Zd;refine⟨C,by unfold todo;grind,ops[i],Ze,?_⟩;have N:(ops[i].after.all λe=> !Region.binds .any e||b.getD e.on false)=true:=(by grind);rw[Array.all_eq_true_iff_forall_mem]at N;intro e T W;have:=N e T;rw[EE,W]at this;grind
  refine⟨?_,?_⟩
  .
   intro O
   cases X:todo ops b with
   |nil=>rw[X]at c;simp at c|cons Y rest=>
    have u:Y∈todo ops b:=by rw[X];simp
    have g:=v7 ops b;rw[X,List.pairwise_cons]at g;unfold todo at u;rw[mem_filter]at u;have C:Y<ops.size:=by simpa using u.1
    have:Y∈Region.ready .any ops b:=by unfold Region.ready;rw[mem_filter];refine⟨u.1,?_⟩;simp only[ζh];refine⟨u.2,?_⟩;have e0:ops[Y]?=some ops[Y]:=(by simp[C]);rw[e0];simp only[map_some,getD_some];rw[Array.all_eq_true_iff_forall_mem];intro e T;rw[EE];cases al:kB e with|false=>simp|true=>simp only[Bool.not_true];have am:e.on<Y:=(by unfold zo at q;simp only[all_eq_true]at q;have:=q Y (by simpa using C);have e1:ops.toList[Y]?=some ops[Y]:=(by simp[C]);rw[e1]at this;simp only[Array.all_eq_true_iff_forall_mem]at this;have:=this e T;rw[al]at this;simpa using this);cases an:b.getD e.on false with|true=>rfl|false=>exfalso;have R:e.on∈todo ops b:=(by unfold todo;rw[mem_filter];refine⟨by simp;omega,?_⟩;have ai:e.on<b.size:=Za;have:b.getD e.on true=b.getD e.on false:=(by simp[ai]);rw[this,an];rfl);rw[X]at R;rcases mem_cons.1 R with h|h;omega;have:=g.1 _ h;omega
    rw[O]at this;simp at this
  intro i d;have⟨C,u,o,l,B⟩:=U i d;have⟨V,l2,t⟩:=List.append_of_mem u;have G:=v7 ops b;rw[t,List.pairwise_append]at G;have Z:∀k∈V,k<i/\C7 o k=false/\before ops.toList i k=false:=by intro k y;have ao:b.getD k false=false:=(by have z:k∈todo ops b:=(by rw[t];simp[y]);unfold todo at z;rw[mem_filter]at z;have A:k<b.size:=(by rw[L];simpa using z.1);have:b.getD k true=b.getD k false:=(by simp[A]);rw[this]at z;simpa using z.2);refine⟨G.2.2 k y i Zc,?_,?_⟩;rotate_left;(cases ap:before ops.toList i k with|false=>rfl|true=>have:=Kl J (GC ap) (λo' m=>by rw[l]at m;cases m;exact B);rw[ao]at this;cases this);cases T:C7 o k with|false=>rfl|true=>exfalso;unfold C7 at T;rw[Array.any_eq_true]at T;have⟨ix,aq,p⟩:=T;have aj:o.after[ix]∈o.after:=Array.getElem_mem aq;generalize o.after[ix]=e at aj p;simp only[ζh,beq_iff_eq]at p;have x:=B e aj p.2;rw[p.1]at x;have z:k∈todo ops b:=(by rw[t];simp[y]);unfold todo at z;rw[mem_filter]at z;have A:k<b.size:=(by rw[L];simpa using z.1);have:b.getD k true=b.getD k false:=(by simp[A]);rw[this,x]at z;simp at z
  rw[t]at h;have f:=Nz hd (by simpa using l) V l2 Z h
  simp only[jy]at f;have m:ops.toList[i]?=some o:=by simpa using l
  rw[m]at f;simp only at f;split at f
  .rename_i F1 H1 ae;unfold wpOpIn;rw[l];simp only;refine CN hE hc ae r s ro (λa' I' μ' w' hr ar g au=>?_)
   have ht:=Ou L C t;refine ih (b.setIfInBounds i true) I' μ' F1 H1 a' w' (by simpa using L) ?_ ?_ (by rw[ht];exact f) hr g ?_
   .have S:∀j,b.getD j false=true->(b.setIfInBounds i true).getD j false=true:=by
     intro j K
     by_cases e:i=j
     .subst e;simp[L,C]
     simpa[getD_eq_getD_getElem?,Array.getElem?_setIfInBounds_ne e]using K
    intro j oj K M e T W
    by_cases e':i=j
    .subst e';rw[l]at M;cases M;exact S _ (B e T W)
    refine S _ (J j oj ?_ M e T W);simpa[getD_eq_getD_getElem?,Array.getElem?_setIfInBounds_ne e']using K
   .rw[ht];rw[t]at c;simp at c⊢;omega
   intro a2 I2 μ2 w2 av aw ax ak;exact v a2 I2 μ2 w2 av (aw.trans ar) ax (Step.trans g au ak)
  simp at f
def cV.Fb(s:cV I μ H w)(k:Nat):cV I μ (H++replicate k .free) w:=by
 have t:∀id ob,(H++replicate k Ob.free)[id]?=some ob->H[id]?=some ob\/(ob=.free/\H.length<=id):=by grind
 refine⟨λid h=>s.dom id Zd,s.imm,?_,?_,s.gl⟩;intro id ob h;rcases t id ob h with h|⟨rfl,u⟩;exact s.obs id ob h;exact s.dom id u;intro id z ob B p G a u C D;rcases t id ob a with a|⟨rfl,_⟩;rcases t z B u with u|⟨rfl,_⟩;exact s.inj id z ob B p G a u C D;simp[Ob.live]at D;simp[Ob.live]at C
def HE(k:Nat)(b:Nat):gV μ (H++replicate k .free) b↔gV μ H b:=by constructor;rintro⟨id,p,ob,h1,t,u,w⟩;by_cases z:id<H.length;rw[getElem?_append_left z]at h1;exact⟨id,p,ob,h1,t,u,w⟩;rw[List.getElem?_append_right Za,List.getElem?_replicate]at h1;split at h1;simp at h1;subst h1;simp[Ob.live]at t;grind;rintro⟨id,p,ob,h1,t,u,w⟩;exact⟨id,p,ob,Zd,t,u,w⟩
def Step.Fb(k:Nat):Step I μ H w I μ (H++replicate k .free) w:=⟨ct.le_refl _,Mu.le_refl _,Zc,le_refl _,λ_ _ _=>rfl,λb h=>h.elim .inl λh=>.inr (.inl ((HE k b).1 h)),rfl,.refl _,λ_ _ h=>h⟩
def G8(G:eD P E)(U:P.follows .mixedOrders=true){call:dw}(b:ki P call){id:Nat}{ops:Array Oper}{B:Zl}(ro:a_ Nat){Q:Exit->Act->World->Prop}
 (h:ji E call n ops.toList B F H=some (F',H'))(r:eC I μ n F a.tmps)(s:cV I μ H w)
 (J:∀a' I' μ' w',eC I' μ' n F' a'.tmps->a'.defers=a.defers->cV I' μ' H' w'->Step I μ H w I' μ' H' w'->Q .normal a' w'):
 (Code.region id ops B).wpIn (fr ro) 0 P Q a w:=by
 unfold ji at h
 cases B with
 |false=>refine wpIn_region ?_;rw[List.range_eq_range',<-length_toList];exact Ma G b ro ops.toList 0 I μ F H a w Zc h r s J|true=>
  simp only[if_true]at h;split at h
  .rename_i u;simp at u;refine wpIn_region_draw λt=>?_
   simp[Region.schedule,U];have D:cV I μ H {w with drawn:=w.drawn+1}:=s.n_ rfl;have st0:Step I μ H w I μ H {w with drawn:=w.drawn+1}:=Step.n_ rfl rfl ⟨rfl,rfl,le_succ _⟩;have z:todo ops (Array.replicate ops.size false)=range ops.toList.length:=by unfold todo;simp_all
   have C:Down ops (Array.replicate ops.size false):=by intro j o T;simp[Array.getElem?_replicate]at T;grind
   refine wpAnyIn_sound ops.size t _ a _ ?_;split at h
   .refine Ej G b u.1 u.2 ro H.length ops.size _ I μ F (H++replicate ops.toList.length .free) a _ Zc C Zd (by rw[z];omega) r (D.Fb _) ?_
    intro a' I' μ' w' c L O S;exact J a' I' μ' w' c L O (Step.trans D st0 (Step.trans (D.Fb _) (Step.Fb _) S))
   refine Ej G b u.1 u.2 ro H.length ops.size _ I μ F H a _ Zc C Zd (by rw[z];omega) r D ?_
   intro a' I' μ' w' c L O S;exact J a' I' μ' w' c L O (Step.trans D st0 S)
  grind
end
end Go.VE
