/-
 The engine: operations of the loaded code on values without a heap; a run of it is a run of the program.
-/
import Derived.RangeFuncLeaves
import Derived.Sort.Defs
import Derived.Lib.BitFns
import Derived.Laws.Sem
import Derived.Laws.World
import Derived.Laws.Append
import Derived.Laws.BytesString
import Derived.OrdersIn
import Derived.RangeFuncRecord
set_option linter.all false
open BitVec(ofInt)
open Go.IntKind(i64 signed wrap)
open Go.Op(bytesLess equal equalIn intArith intBits intCmp operands)
open List(all_eq_true append_assoc drop_drop drop_take eq_of_mem_replicate finRange flatten_append flatten_cons getElem?_append_left getElem?_cons_zero getElem?_drop getElem?_set_ne getElem?_set_self getElem?_take length length_cons length_set mem_append mem_cons mem_cons_of_mem mem_cons_self mem_filter mem_flatten mem_map mem_of_getElem? mem_of_mem_drop mem_of_mem_take range replicate set_comm take take_append_drop take_take)
open Go.Instr(checkKey fieldAt fill findAsking findKey findNow indexAt loadAt sameBits sameNow sliceAt sliceBound sliceBounds storeAt sureAddr)
open Go.Sem(run_bind run_ite run_pure)
open Go.Result(andThen andThen_ok)
open Bool(false_eq_true)
open Option(getD_some isSome_iff_exists map_some)
open Nat(add_assoc add_mul add_zero le_refl le_succ le_trans min_eq_left mod_lt mul_le_mul mul_le_mul_right one_mul zero_add zero_le zero_mul)
open Array(ext' getElem?_eq_none length_toList)
open Go.Builtin(append_ cap_ clear_ firstCells lenOf len_ max2 max_ min2 min_ nextslicecap zeroCells)
open Go.World(cell? frozen?)
open Go.Question(appendCap forced)
namespace Go.VE
abbrev Zs:=IntKind
abbrev Zr:=Operand
abbrev Zq:=ByteArray
abbrev Zp:=Value
abbrev Zm:=TypeId
abbrev Zl:=Bool
abbrev Zk:=FuncId
def Za{p:Prop}(h:p:=by omega):p:=h
def Zc{p:Prop}(h:p:=by simp):p:=h
def Zd{p:Prop}(h:p:=by grind):p:=h
def Ze{p:Prop}(h:p:=by simp_all):p:=h
def ζa{α:Type _}(a b:α):(some a=some b)=(a=b):=Option.some.injEq a b
def ζb{α β:Type _}(a:α)(f:α->Option β):(some a).bind f=f a:=rfl
def ζc{α β:Type _}(a:α)(b:β)(c:α)(d:β):((a,b)=(c,d))=(a=c/\b=d):=Prod.mk.injEq a b c d
def ζd{α:Type _}{l:List α}{i:Nat}(h:i<l.length):l[i]?=some l[i]:=List.getElem?_eq_getElem h
def ζe{α:Type _}{l:List α}{i:Nat}{a:α}:l[i]?=some a↔∃h:i<l.length,l[i]=a:=List.getElem?_eq_some_iff
theorem ζf{α β:Type _}{b:β}{x:Option α}{f:α->β}:x.map f=some b↔∃a,x=some a/\f a=b:=Option.map_eq_some_iff
theorem ζg{α β:Type _}{b:β}{x:Option α}{f:α->Option β}:x.bind f=some b↔∃a,x=some a/\f a=some b:=Option.bind_eq_some_iff
def ζh(a b:Zl):((a&&b)=true)=(a=true/\b=true):=Bool.and_eq_true a b
def ζi{α:Type _}{a b:List α}:(a++b).length=a.length+b.length:=List.length_append
abbrev aY:=@List
abbrev Zz:=aY Oper
abbrev Zx:=aY Int
abbrev Zv:=aY Nat
abbrev aZ:=@Option
abbrev Z6:=aZ Int
inductive V where
 |bool(b:Bool)|int(k:IntKind)(n:Int)|str(s:ByteArray)|dw|bG|fsl(es:Nat)(xs:List (List V))|hsl(id es off len:Nat)|gW|fptr(cs:List V)|hptr(id el off:Nat)|clo(f:FuncId)(first cap:List V)|yld(id:Nat)|fV|rB|fmap(kvs:List (V×V))|hmap(id:Nat)|agg(cs:List V)|tup(vs:List V)
 deriving Inhabited
abbrev Zu:=aY V
abbrev Zt:=aY (aY V)
def V.undef:V:=.tup []
def V.one:V->Zl
 |.agg _|.tup _=>false|_=>true
def V.cells:V->Zu
 |.agg cs=>cs|v=>[v]
mutual
def V.scalar:V->Zl
 |.bool _|.int ..|.str _|.gW|.fV|.rB|.dw|.bG=>true|.agg cs=>V.cG cs|.tup cs=>V.cG cs|_=>false
def V.cG:Zu->Zl
 |[]=>true|v::r=>V.scalar v&&V.cG r
end
mutual
def V.closed:V->Zl
 |.hsl ..|.hptr ..|.yld ..|.hmap ..=>false|.clo _ a b=>V.gX a&&V.gX b|.agg cs=>V.gX cs|.tup cs=>V.gX cs|_=>true
def V.gX:Zu->Zl
 |[]=>true|v::r=>V.closed v&&V.gX r
end
inductive TK where
 |bool|int (k:IntKind)|str|ptr (e:TypeId)|slice (e:TypeId)|struct(fs:List (Nat×TypeId))|array (n:Nat) (e:TypeId)|map (k e:TypeId)|other
 deriving Inhabited
structure TD where
 size:Nat
 bytes:Nat
 zero:List V
 kind:TK
 deriving Inhabited
def TD.agg(d:TD):Zl:=match d.kind with|.struct _|.array _ _=>true|_=>false
abbrev Frame:=aY V
abbrev Zo:=Frame
def get:Zo->Nat->V
 |[],_=>.undef|x::_,0=>x|_::r,i+1=>get r i
def set:Zo->Nat->V->Zo
 |[],0,v=>[v]|[],i+1,v=>.undef::set [] i v|_::r,0,v=>v::r|x::r,i+1,v=>x::set r i v
inductive Bg where
 |ready|busy|done
inductive Out where
 |norm|exit(id:Nat)|ret
 deriving DecidableEq,Inhabited
structure ve where
 st:Bg
 pend:Option Out
 frame:Frame
 nt:Nat
 params:List Nat
 assign:Code
 body:Code
inductive Ob where
 |free|dead|row(es:Nat)(xs:List (List V))|frz(es:Nat)(xs:List (List V))|map(kvs:List (V×V))|loop(r:ve)
def Ob.rows:Ob->aZ (Nat×Zt)
 |.row es xs|.frz es xs=>some (es,xs)|_=>none
abbrev bl:=aY Ob
structure FI where
 ntmps:Nat
 results:List ResultVar
 body:Code
structure Env where
 tt:TypeId->Option TD
 ft:FuncId->Option FI
 keep:FuncId->Bool
 own:FuncId->Bool
 eqN:TypeId->Option Nat
 sort:FuncId->Bool
 known:FuncId->List V->Option V:=λ_ _=>none
def Env.kindOf(E:Env)(t:Zm):aZ TK:=(E.tt t).map TD.kind
def ofValue:Nat->Zp->aZ V
 |0,_=>none|n+1,v=>
  match v with
  |.bool b=>some (.bool b)|.int k n=>some (.int k n)|.string s=>some (.str s)|.pointer none=>some .gW|.slice none 0 0=>some .bG|.map none=>some .fV|.nilFunc=>some .rB|.agg cs=>(cs.toList.mapM (ofValue n)).map .agg|_=>none
class bT where
 gl:Nat->Option (List V)
 sc:∀g cs,gl g=some cs->∃(k:IntKind)(l:List Int),cs=l.map (V.int k)
variable[bT]
def ev(F:Zo):Zr->aZ V
 |.tmp t=>some (get F t)|.const v=>ofValue 4 v|.func f=>some (.clo f [] [])|.global g=>(bT.gl g).map .fptr
def fH(F:Zo):aY Zr->aZ Zu
 |[]=>some []|x::r=>match ev F x,fH F r with
  |some v,some vs=>some (v::vs)|_,_=>none
def mk(agg:Zl)(cs:Zu):aZ V:=if agg then some (.agg cs)else match cs with|[v]=>some v|_=>none
def cut(cs:Zu)(off n:Nat):aZ Zu:=
 let r:=(cs.drop off).take n
 if r.length=n then some r else none
def hG:Zu->aZ Zx
 |[]=>some []|.int .i64 a::r=>(hG r).map (a::·)|_=>none
def kH(az B:Zu):aZ Zl:=
 match hG az,hG B with
 |some a,some b=>if a.length=b.length then some (a==b)else none|_,_=>none
def oP(op:BinOp)(x y:Int):aZ Zl:=
 match op with
 |.eql=>some (x==y)|.neq=>some (x != y)|.lss=>some (decide (x<y))|.leq=>some (decide (x<=y))|.gtr=>some (decide (x>y))|.geq=>some (decide (x>=y))|_=>none
def uo(k:TK)(x y:V):aZ Zl:=
 match k,x,y with
 |.slice _,.bG,.bG=>some true|.slice _,.fsl ..,.bG=>some false|.slice _,.hsl ..,.bG=>some false|.ptr _,.gW,.gW=>some true|.ptr _,.fptr _,.gW=>some false|.ptr _,.hptr ..,.gW=>some false|.map ..,.fV,.fV=>some true|.map ..,.fmap _,.fV=>some false|.map ..,.hmap _,.fV=>some false|_,_,_=>none
def HH(E:Env)(op:BinOp)(t:Zm)(x y:V):aZ V:=
 match x,y with
 |.int k a,.int u b=>
  match op with
  |.shl=>if b<0 then none else some (.int k (k.wrap (a*2 ^ (min b.toNat k.bits))))|.shr=>if b<0 then none else some (.int k (a.fdiv (2 ^ (min b.toNat k.bits))))|_=>if k=u then
   match op with
   |.add=>some (.int k (k.wrap (a+b)))|.sub=>some (.int k (k.wrap (a-b)))|.mul=>some (.int k (k.wrap (a*b)))|.quo=>if b=0 then none else some (.int k (k.wrap (a.tdiv b)))|.rem=>if b=0 then none else some (.int k (a.tmod b))|.and=>some (.int k (k.wrap (ofInt k.bits a &&& ofInt k.bits b).toNat))|.or=>some (.int k (k.wrap (ofInt k.bits a ||| ofInt k.bits b).toNat))|.xor=>some (.int k (k.wrap (ofInt k.bits a ^^^ ofInt k.bits b).toNat))|.andNot=>some (.int k (k.wrap (ofInt k.bits a &&& ~~~ ofInt k.bits b).toNat))|op=>(oP op a b).map .bool
   else none
 |.str a,.str b=>
  match op with
  |.add=>if((a.size+b.size:Nat):Int)>i64.max then none else some (.str (a++b))|.eql=>some (.bool (a.toList==b.toList))|.neq=>some (.bool !(a.toList==b.toList))|.lss=>some (.bool (bytesLess a.toList b.toList))|.leq=>some (.bool (bytesLess a.toList b.toList||a.toList==b.toList))|.gtr=>some (.bool !(bytesLess a.toList b.toList||a.toList==b.toList))|.geq=>some (.bool !(bytesLess a.toList b.toList))|_=>none
 |.bool a,.bool b=>
  match E.kindOf t,op with
  |some .bool,.eql=>some (.bool (a==b))|some .bool,.neq=>some (.bool !(a==b))|_,_=>none
 |.agg a,.agg b=>
  match E.eqN t,op with
  |some n,.eql=>if a.length=n then(kH a b).map .bool else none|some n,.neq=>if a.length=n then(kH a b).map (λt=>.bool !t)else none|_,_=>none
 |x,y=>
  match E.kindOf t,op with
  |some k,.eql=>(uo k x y).map .bool|some k,.neq=>(uo k x y).map λt=>.bool !t|_,_=>none
def tO(place:Nat->aZ (Nat×Nat))(cells:Zu):aY (Nat×V)->aZ Zu
 |[]=>some cells|(i,v)::rest=>
  match place i with
  |none=>none|some (off,size)=>
   if v.cells.length≠size||off+v.cells.length>cells.length then none
   else tO place (cells.take off++v.cells++cells.drop (off+v.cells.length)) rest
def l_(F:Zo):aY (Nat×Zr)->aZ (aY (Nat×V))
 |[]=>some []|(i,x)::r=>match ev F x,l_ F r with
  |some v,some vs=>some ((i,v)::vs)|_,_=>none
def mZ(E:Env):aY (Nat×Zm)->aZ (aY (Nat×Nat))
 |[]=>some []|(off,t)::r=>match E.tt t,mZ E r with
  |some d,some ps=>some ((off,d.size)::ps)|_,_=>none
def jP(F:Zo):aZ Zr->aZ Z6
 |none=>some none|some x=>match ev F x with
  |some (.int _ n)=>some (some n)|_=>none
def dR(len:Nat)(B G:Z6):aZ (Nat×Nat):=
 let h:=G.getD len
 let l:=B.getD 0
 if 0<=h/\h<=len/\0<=l/\l<=h then some (l.toNat,h.toNat)else none
def Bo(a b:Int):Int:=if b>a then b else a
def bK(E:Env)(F:Zo)(op:Op):aZ V:=
 match op with
 |.move x|.assign x=>ev F x|.pick c a b=>match ev F c with
  |some (.bool t)=>if t then ev F a else ev F b|_=>none
 |.nilCheck x=>match ev F x with
  |some (.hptr id el off)=>some (.hptr id el off)|some (.fptr u)=>some (.fptr u)|some (.clo f a b)=>some (.clo f a b)|_=>none
 |.binOp op t x y _=>match ev F x,ev F y with
  |some a,some b=>HH E op t a b|_,_=>none
 |.unOp op _ x=>match op,ev F x with
  |.not,some (.bool b)=>some (.bool !b)|.neg,some (.int k n)=>some (.int k (k.wrap (0-n)))|_,_=>none
 |.convert s d x=>match E.tt s,E.tt d,ev F x with
  |some _,some D,some (.int _ n)=>match D.kind with
   |.int k=>some (.int k (k.wrap n))|_=>none
  |_,_,_=>none
 |.fieldAddr s x f=>match E.kindOf s,ev F x with
  |some (.struct fs),some p=>match fs[f]?with
   |some (off,t)=>match E.tt t with
    |some d=>if d.size=0 then none else match p with
     |.fptr u=>if off<=u.length then some (.fptr (u.drop off))else none|.hptr id el o=>some (.hptr id el (o+off))|_=>none
    |none=>none
   |none=>none
  |_,_=>none
 |.field s x f=>match E.kindOf s,ev F x with
  |some (.struct fs),some (.agg u)=>match fs[f]?with
   |some (off,t)=>match E.tt t with
    |some d=>(cut u off d.size).bind (mk d.agg)|none=>none
   |none=>none
  |_,_=>none
 |.indexAddr t x i=>match E.kindOf t,ev F x,ev F i with
  |some (.slice e),some s,some (.int _ n)=>match E.tt e with
   |some d=>if n<0 then none else match s with
    |.fsl es w=>if es=d.size then(w[n.toNat]?).map .fptr else none|.hsl id es off len=>if es=d.size/\n.toNat<len then some (.hptr id (off+n.toNat) 0)else none|_=>none
   |none=>none
  |some (.array len e),some p,some (.int _ n)=>match E.tt e with
   |some d=>if 0<=n/\n<len then match p with
    |.fptr u=>if n.toNat*d.size<=u.length then some (.fptr (u.drop (n.toNat*d.size)))else none|.hptr id el o=>some (.hptr id el (o+n.toNat*d.size))|_=>none
    else none
   |none=>none
  |_,_,_=>none
 |.index t x i=>match E.kindOf t,ev F x,ev F i with
  |some .str,some (.str s),some (.int _ n)=>if 0<=n then(s[n.toNat]?).map (λb=>.int .u8 b.toNat)else none|some (.array len e),some (.agg u),some (.int _ n)=>match E.tt e with
   |some d=>if 0<=n/\n<len then(cut u (n.toNat*d.size) d.size).bind (mk d.agg)else none|none=>none
  |_,_,_=>none
 |.slice t x G I J=>match E.kindOf t,ev F x,jP F G,jP F I,jP F J with
  |some .str,some (.str s),some l,some h,some none=>(dR s.size l h).map λ(l,h)=>.str (s.extract l h)|some (.slice e),some v,some l,some h,some none=>match E.tt e with
   |some d=>match v with
    |.fsl es w=>if es=d.size then(dR w.length l h).map λ(l,h)=>.fsl es ((w.take h).drop l)else none|.hsl id es off len=>if es=d.size then(dR len l h).map λ(l,h)=>.hsl id es (off+l) (h-l)else none|.dw=>(dR 0 l h).map λ_=>.dw|.bG=>(dR 0 l h).map λ_=>.bG|_=>none
   |none=>none
  |some (.slice e),some v,some none,some (some 0),some (some 0)=>match E.tt e,v with
   |some _,.fsl ..|some _,.hsl ..|some _,.dw|some _,.bG=>some .dw|_,_=>none
  |_,_,_,_,_=>none
 |.build t ps=>match E.tt t,l_ F ps.toList with
  |some d,some z=>match d.kind with
   |.struct fs=>match mZ E fs with
    |some pl=>(tO (λi=>pl[i]?) d.zero z).map .agg|none=>none
   |.array _ e=>match E.tt e with
    |some C=>(tO (λi=>some (i*C.size,C.size)) d.zero z).map .agg|none=>none
   |_=>none
  |_,_=>none
 |.makeFunc (.func f) a b=>match fH F a.toList,fH F b.toList with
  |some a,some b=>some (.clo f a b)|_,_=>none
 |.extract x i=>match ev F x with
  |some (.tup z)=>z[i]?|_=>none
 |.call {callee:=.builtin b,args,argTypes}=>match b,fH F args.toList,argTypes[0]?with
  |.len,some [v],some t=>match E.kindOf t,v with
   |some .str,.str s=>some (.int .i64 s.size)|some (.slice _),.fsl _ w=>some (.int .i64 w.length)|some (.slice _),.hsl _ _ _ len=>some (.int .i64 len)|some (.slice _),.dw=>some (.int .i64 0)|some (.slice _),.bG=>some (.int .i64 0)|_,_=>none
  |.cap,some [v],some t=>match E.kindOf t,v with
   |some (.slice _),.bG=>some (.int .i64 0)|some (.slice _),.dw=>some (.int .i64 0)|_,_=>none
  |.max,some [.int k a,.int B b],_=>if k=B then some (.int k (if b>a then b else a))else none|.max,some [.int k a,.int k1 b,.int k2 c,.int k3 d],_=>if k=k1/\k=k2/\k=k3 then some (.int k (Bo (Bo (Bo a b) c) d))else none|.min,some [.int k a,.int B b],_=>if k=B then some (.int k (if b<a then b else a))else none|_,_,_=>none
 |_=>none
def ec(H:bl)(p:V)(n:Nat):aZ Zu:=
 match p with
 |.fptr u=>cut u 0 n|.hptr id el off=>match(H[id]?).bind Ob.rows with
  |some (_,w)=>match w[el]?with
   |some u=>cut u off n|none=>none
  |none=>none
 |_=>none
def vL:V->V->aZ Zl
 |.int k a,.int B b=>if k=B then some (a==b)else none|.str a,.str b=>some (a==b)|.agg a,.agg b=>kH a b|_,_=>none
def gT(k:V):aY (V×V)->Nat->aZ (aZ (Nat×V))
 |[],_=>some none|(B,v)::r,i=>match vL k B with
  |some true=>some (some (i,v))|some false=>gT k r (i+1)|none=>none
def wh(E:Env)(t:Zm)(k:V):Zl:=
 match E.kindOf t,k with
 |some (.int k),.int w _=>k==w|some .str,.str _=>true|some _,.agg u=>match E.eqN t with|some n=>u.length==n&&(hG u).isSome|none=>false
 |_,_=>false
def mA(H:bl):V->aZ (aY (V×V))
 |.fV=>some []|.fmap B=>some B|.hmap id=>match H[id]?with
  |some (.map B)=>some B|_=>none
 |_=>none
def dQ(E:Env)(F:Zo)(H:bl)(op:Op):aZ V:=
 match op with
 |.load t a=>match E.tt t,ev F a with
  |some d,some p=>(ec H p d.size).bind (mk d.agg)|_,_=>none
 |.lookup t m k ok=>match E.kindOf t,ev F m,ev F k with
  |some (.map w B),some m,some k=>match E.tt B,mA H m with
   |some d,some u=>if wh E w k then match gT k u 0,mk d.agg d.zero with
    |some (some (_,v)),_=>some (if ok then .tup [v,.bool true]else v)|some none,some z=>some (if ok then .tup [z,.bool false]else z)|_,_=>none
    else none
   |_,_=>none
  |_,_,_=>none
 |_=>none
inductive Mk where
 |ptr|sl (es len:Nat)|map
def Mk.val(id:Nat):Mk->V
 |.ptr=>.hptr id 0 0|.sl es len=>.hsl id es 0 len|.map=>.hmap id
def eS(es:Nat)(xs:Zt):aY (Nat×V)->aZ Zt
 |[]=>some xs|(i,v)::r=>if v.cells.length=es/\i<xs.length/\v.cells.all V.one=true then eS es (xs.set i v.cells) r else none
def eP(E:Env)(F:Zo)(op:Op):aZ (Ob×Mk):=
 match op with
 |.alloc t=>(E.tt t).map λd=>(.row d.size [d.zero],.ptr)|.box _ x=>match ev F x with
  |some v=>if v.cells.all V.one then some (.row v.cells.length [v.cells],.ptr)else none|none=>none
 |.makeSlice t l c=>match E.kindOf t,ev F l,ev F c with
  |some (.slice e),some (.int k n),some (.int u m)=>match E.tt e with
   |some d=>if k=.i64/\u=.i64/\0<=n/\n<=m/\m<=2147483648/\d.bytes<=4096 then some (.row d.size (replicate m.toNat d.zero),.sl d.size n.toNat)else none|none=>none
  |_,_,_=>none
 |.buildSlice t len ps=>match E.kindOf t,l_ F ps.toList with
  |some (.slice e),some w=>match E.tt e with
   |some d=>if len*d.size<=16777216 then(eS d.size (replicate len d.zero) w).map λz=>(.row d.size z,.sl d.size len)else none|none=>none
  |_,_=>none
 |.makeMap _ none=>some (.map [],.map)|_=>none
def o4(E:Env)(F:Zo)(op:Op):aZ V:=
 match eP E F op with
 |some (.row es u,.sl w n)=>if w=es/\n=u.length/\(u.all λx=>x.all V.scalar)=true then match op with
  |.buildSlice ..=>if u.isEmpty then(if es != 0 then some .dw else none)else some (.fsl es u)|_=>some (.fsl es u)
  else none
 |_=>none
def dz(H:bl)(es:Nat):V->aZ Zt
 |.dw=>some []|.bG=>some []|.fsl B xs=>if B=es then some xs else none|.hsl id B off len=>if B=es then match(H[id]?).bind Ob.rows with
  |some (_,xs)=>if off+len<=xs.length then some ((xs.drop off).take len)else none|none=>none
  else none
 |_=>none
def pE(k v:V)(B:aY (V×V)):aZ (aY (V×V)):=
 match gT k B 0 with
 |some (some (j,_))=>some (B.set j (k,v))|some none=>some (B++[(k,v)])|none=>none
def gF(H:bl):V->aZ bl
 |.dw=>some H|.bG=>some H|.hsl id _ _ _=>match H[id]?with
  |some (.row _ _)=>some (H.set id .dead)|_=>none
 |_=>none
def mkApp(H:bl)(size bytes:Nat)(zero:Zu)(s x:V):aZ (V×bl):=
 match s,x with
 |.bG,.int _ n=>if n=0 then some (.bG,H)else if 0<n/\n<=2147483648/\bytes<=4096/\0<bytes then some (.hsl H.length size 0 n.toNat,H++[.row size (replicate n.toNat zero)])else none|_,_=>none
def CE(H:bl)(size:Nat)(zero:Zu):V->aZ (V×bl)
 |.bG|.dw=>some (.undef,H)|.hsl id es off len=>if es=size then match len with
  |0=>some (.undef,H)|len+1=>match H[id]?with
   |some (.row B xs)=>if off+(len+1)<=xs.length then some (.undef,H.set id (.row B (xs.take off++replicate (len+1) zero++xs.drop (off+(len+1)))))else none|_=>none
  else none
 |_=>none
def cw(E:Env)(F:Zo)(H:bl)(op:Op):aZ (V×bl):=
 match op with
 |.store t a x=>match E.tt t,ev F a,ev F x with
  |some d,some (.hptr id el off),some v=>match H[id]?with
   |some (.row es w)=>match w[el]?with
    |some z=>if v.cells.length=d.size/\off+d.size<=z.length/\v.cells.all V.one=true then
     some (.undef,H.set id (.row es (w.set el (z.take off++v.cells++z.drop (off+v.cells.length)))))else none
    |none=>none
   |_=>none
  |_,_,_=>none
 |.mapUpdate t m k x|.insert t m k x=>match E.kindOf t,ev F m,ev F k,ev F x with
  |some (.map C _),some (.hmap id),some k,some v=>match H[id]?with
   |some (.map u)=>if wh E C k then(pE k v u).map λu=>(.undef,H.set id (.map u))else none|_=>none
  |_,_,_,_=>none
 |.call {callee:=.builtin .append,args,argTypes}=>match argTypes.toList,fH F args.toList with
  |[t,D],some [s,x]=>match E.kindOf t,E.kindOf D with
   |some (.slice e),some (.slice _)=>match E.tt e with
    |some d=>match dz H d.size s,dz H d.size x with
     |some _,some []=>some (s,H)|some w,some B=>
      if w.length+B.length<=2147483648/\d.bytes<=4096/\0<d.bytes then
       (gF H s).map λH1=>(.hsl H.length d.size 0 (w.length+B.length),H1++[.row d.size (w++B)])
      else none
     |_,_=>none
    |none=>none
   |some (.slice e),some (.int _)=>match E.tt e with
    |some d=>mkApp H d.size d.bytes d.zero s x|none=>none
   |_,_=>none
  |_,_=>none
 |.call {callee:=.builtin .clear,args,argTypes}=>match argTypes[0]?,fH F args.toList with
  |some t,some [v]=>match E.kindOf t with
   |some (.slice e)=>match E.tt e with
    |some d=>CE H d.size d.zero v|none=>none
   |_=>none
  |_,_=>none
 |_=>none
def kY:Zt->aZ Zx
 |[]=>some []|[.int .u8 n]::r=>(kY r).map (n::·)|_=>none
def lF(l:Zx):Zq:=l.foldl (λr n=>r.push (UInt8.ofNat n.toNat)) ByteArray.empty
def evalConv(E:Env)(F:Zo)(H:bl)(op:Op):aZ V:=
 match op with
 |.convert s d x=>match E.kindOf s,E.kindOf d,ev F x with
  |some (.slice e),some .str,some v=>match E.kindOf e with
   |some (.int .u8)=>(dz H 1 v).bind λu=>(kY u).map λl=>.str (lF l)|_=>none
  |_,_,_=>none
 |_=>none
def sO(E:Env)(F:Zo)(H:bl)(place:aZ (Nat×Nat))(op:Op):aZ V:=
 match bK E F op with
 |some v=>some v|none=>match place with
  |none=>evalConv E F H op|some _=>none
inductive Callee where
 |fn(f:FuncId)|yld(id:Nat)
def jK(F:Zo)(op:Op):aZ (Callee×Zu):=
 match op with
 |.call {callee:=.value f,args,..}=>match ev F f,fH F args.toList with
  |some (.clo g a b),some u=>some (.fn g,a++u++b)|some (.yld id),some u=>some (.yld id,u)|_,_=>none
 |_=>none
inductive SL where
 |pure|read|alloc|loud|call
 deriving DecidableEq
def cE:Op->SL
 |.load ..|.lookup ..=>.read|.alloc ..|.box ..|.makeSlice ..|.buildSlice ..|.makeMap ..=>.alloc|.store ..|.mapUpdate ..|.insert ..=>.loud|.call {callee:=.builtin .append,..}=>.loud|.call {callee:=.builtin .clear,..}=>.loud|.call {callee:=.value _,..}=>.call|_=>.pure
def gV(f:V->aZ V):Zu->aZ Zu
 |[]=>some []|x::r=>match f x,gV f r with
  |some y,some s=>some (y::s)|_,_=>none
def lz(f:V->aZ V):Zt->aZ Zt
 |[]=>some []|x::r=>match gV f x,lz f r with
  |some y,some s=>some (y::s)|_,_=>none
def lp(f:V->aZ V):aY (V×V)->aZ (aY (V×V))
 |[]=>some []|(k,x)::r=>match f k,f x,lp f r with
  |some k,some y,some s=>some ((k,y)::s)|_,_,_=>none
def borrow:Nat->bl->V->aZ V
 |0,_,x=>if x.closed then some x else none|n+1,H,x=>
  if x.closed then some x else
  match x with
  |.hsl id es off len=>match(H[id]?).bind Ob.rows with
   |some (B,xs)=>if B=es/\off+len<=xs.length then(lz (borrow n H) ((xs.drop off).take len)).map (.fsl es)else none|none=>none
  |.hptr id el off=>match(H[id]?).bind Ob.rows with
   |some (_,xs)=>match xs[el]?with
    |some cs=>if off<=cs.length then(gV (borrow n H) (cs.drop off)).map .fptr else none|none=>none
   |none=>none
  |.hmap id=>match H[id]?with
   |some (.map G)=>(lp (borrow n H) G).map .fmap|_=>none
  |.clo f a b=>match gV (borrow n H) a,gV (borrow n H) b with
   |some a,some b=>some (.clo f a b)|_,_=>none
  |.agg cs=>(gV (borrow n H) cs).map .agg|.tup cs=>(gV (borrow n H) cs).map .tup|_=>none
def borrows(n:Nat)(H:bl)(l:Zu):aZ Zu:=gV (borrow n H) l
def cN(f:V->Zv):Zu->Zv
 |[]=>[]|x::r=>f x++cN f r
def b8:Nat->bl->V->Zv
 |0,_,_=>[]|n+1,H,x=>
  if x.closed then[]else
  match x with
  |.hsl id _ off len=>id::(match(H[id]?).bind Ob.rows with|some (_,xs)=>cN (b8 n H) ((xs.drop off).take len).flatten|none=>[])|.hptr id el off=>id::(match(H[id]?).bind Ob.rows with|some (_,xs)=>cN (b8 n H) (((xs[el]?).getD []).drop off)|none=>[])|.hmap id=>id::(match H[id]?with|some (.map B)=>cN (b8 n H) (B.map (·.1))++cN (b8 n H) (B.map (·.2))|_=>[])|.clo _ a b=>cN (b8 n H) a++cN (b8 n H) b|.agg cs=>cN (b8 n H) cs|.tup cs=>cN (b8 n H) cs|_=>[]
def tU(H:bl)(id:Nat):bl:=
 match H[id]?with
 |some (.row es u)=>H.set id (.frz es u)|some (.map _)=>H.set id .dead|_=>H
def cH(H:bl)(l:Zv):bl:=l.foldl tU H
structure dg where
 lv:Nat
 go:Callee->List V->bl->Option (V×bl)
instance:CoeFun dg λ_=>Callee->Zu->bl->aZ (V×bl):=⟨dg.go⟩
def iI(H:bl)(T:Zv):Zl:=T.all λid=>((H[id]?).bind Ob.rows).isSome
def bW(call:dg)(f:Zk)(args:Zu)(H:bl):aZ V:=
 match borrows call.lv H args with
 |some az=>match call (.fn f) az []with
  |some (r,H1)=>match borrow call.lv H1 r with
   |some y=>if y.closed then some y else none|none=>none
  |none=>none
 |none=>none
def qA(k:Nat)(H1:bl)(id es off len:Nat):aZ (V×Ob):=
 match H1[id]?with
 |some (.row u w)=>if u=es/\(w.all λx=>x.all V.scalar)=true then some (.hsl k es off len,.row es w)else none|_=>none
def j_(call:dg)(f:Zk)(args:Zu)(H:bl):aZ (V×bl):=
 match borrows call.lv H args with
 |some az=>match call (.fn f) az []with
  |some (r,H1)=>
   if r.scalar then some (r,H)else
   match r with
   |.hsl id es off len=>(qA H.length H1 id es off len).map λ(v,ob)=>(v,H++[ob])|.tup (.hsl id es off len::rest)=>if V.cG rest then(qA H.length H1 id es off len).map λ(v,ob)=>(.tup (v::rest),H++[ob])else none|_=>none
  |none=>none
 |none=>none
def fc(E:Env)(call:dg)(f:Zk)(args:Zu)(H:bl):aZ (V×bl):=if E.own f then j_ call f args H else call (.fn f) args H
def kT(e:Edge):Zl:=match e.ground with|.textOnly _|.gcOnly _=>false|_=>true
def DR(o:Oper)(i:Nat):Zl:=o.after.any λe=>e.on==i&&kT e
def HK(a:aY Zv)(o:Oper):Zv:=(o.after.toList.filter kT).foldl (λl e=>(e.on::(a[e.on]?).getD []).foldl (λl k=>if l.contains k then l else k::l) l) []
def F9(ops:Zz):aY Zv:=ops.foldl (λa o=>a++[HK a o]) []
def before(ops:Zz)(i k:Nat):Zl:=(((F9 ops)[i]?).getD []).contains k
def isApp:Op->Zl
 |.call {callee:=.builtin .append,..}=>true|_=>false
def dD(ops:Zz)(i:Nat):Zl:=
 match ops[i]?with
 |some o=>(range ops.length).all λk=>match ops[k]?with
  |some p=>k==i||cE p.op==.pure||(if k<i then before ops i k else before ops k i)||(isApp o.op&&cE p.op==.alloc&&decide (i<k))|none=>true
 |none=>false
def dstsOf(ops:Zz):Zv:=ops.filterMap (·.dst)
def ri(ops:Zz)(i k:Nat):Zl:=if k<i then before ops i k else before ops k i
def FE(g:Zl)(ops:Zz)(i k:Nat):aZ Zv:=
 match ops[k]?with
 |some p=>
  if k==i||cE p.op==.pure||ri ops i k then some []else
  match p.op with
  |.load _ (.tmp a)=>if(dstsOf ops).contains a then some []else some [a]|o=>if g&&(cE o==.alloc||cE o==.call)then some []else none
 |none=>some []
def BK(g:Zl)(ops:Zz)(i:Nat):Zv->aZ Zv
 |[]=>some []|k::r=>match FE g ops i k,BK g ops i r with
  |some a,some b=>some (a++b)|_,_=>none
def qW(g:Zl)(ops:Zz)(i:Nat):aZ (Nat×Zv):=
 match(ops[i]?).map Oper.op with
 |some (.store _ (.tmp a) _)=>if(dstsOf ops).contains a then none else(BK g ops i (range ops.length)).map λl=>(a,l)|_=>none
def nK(id:Nat):V->Zl
 |.hptr B _ _=>B != id|.fptr _=>true|_=>false
def pn(ops:Zz)(i:Nat)(F:Zo):Zl:=
 match qW false ops i with
 |some (a,l)=>match get F a with
  |.hptr id _ _=>l.all λs=>nK id (get F s)|_=>false
 |none=>false
def qU(ops:Zz)(b i:Nat)(F:Zo):Zl:=
 match qW true ops i with
 |some (a,l)=>match get F a with
  |.hptr id _ _=>decide (id<b)&&l.all λs=>nK id (get F s)|_=>false
 |none=>false
def FW(ops:Zz)(k:Nat):Zl:=(range ops.length).any λi=> !ri ops i k&&(qW true ops i).isSome
def vj(ops:Zz)(place:aZ (Nat×Nat))(args:Zu):Zl:=match place with|some (_,i)=> !FW ops i||V.gX args|none=>true
def oW(ops:Zz)(k a':Nat):Zv:=
 if(dstsOf ops).contains a' then(range ops.length).filterMap λi=>match(ops[i]?).map Oper.op with
  |some (.store _ (.tmp a) _)=>if ri ops i k||(dstsOf ops).contains a then none else some a|_=>none
 else[]
def nM(ops:Zz)(k:Nat)(F:Zo)(op:Op):Zl:=
 match op with
 |.load _ (.tmp u)=>(oW ops k u).all λa=>match get F a with
  |.hptr id _ _=>nK id (get F u)|_=>true
 |_=>true
def Aj(d:Nat)(op:Op):Zl:=op.operands.any λx=>match x with|.tmp t=>t==d|_=>false
def Pk(d:Nat):Op->Zl
 |.call {callee:=.builtin .append,args,..}=>match args.toList with
  |.tmp t::r=>t==d&&r.all λx=>match x with|.tmp t=>t != d|_=>true
  |_=>false
 |_=>false
def AE(ops:Zz)(i:Nat):Zl:=
 match ops[i]?with
 |some o=>match o.op,o.dst with
  |.makeSlice ..,some d=>(ops.any λp=>Aj d p.op)&&ops.all λp=> !Aj d p.op||cE p.op==.call|.buildSlice _ len ps,some d=>len==0&&ps.size==0&&((range ops.length).any λk=>match ops[k]?with|some p=>Aj d p.op&& !dD ops k|none=>false)&&ops.all λp=> !Aj d p.op||Pk d p.op|_,_=>false
 |none=>false
def QC(E:Env)(ops:Zz)(i:Nat):Zl:=
 match ops[i]?with
 |some o=>match o.op,o.dst with
  |.buildSlice t len _,some d=>decide (0<len)&&(match E.kindOf t with
   |some (.slice e)=>(match E.kindOf e with|some .bool|some (.int _)|some .str=>true|_=>false)|_=>false)&&(ops.any λp=>Aj d p.op)&&ops.all λp=> !Aj d p.op||cE p.op==.call
  |_,_=>false
 |none=>false
def CV(E:Env)(ops:Zz)(i:Nat):Zl:=AE ops i||QC E ops i
def nk(E:Env)(ops:Zz):aZ (Nat×Nat)->Zl
 |some (_,i)=>CV E ops i|none=>false
def kG(E:Env)(ops:Zz)(place:aZ (Nat×Nat))(f:Zk):Zl:=E.keep f&&(match place with|none=>true|some (_,i)=>dD ops i|| !E.own f)
def v_(ops:Zz)(i:Nat):Zl:=
 match ops[i]?with
 |some o=>isApp o.op&&(range ops.length).all λk=>match ops[k]?with
  |some p=>k==i||cE p.op==.pure||ri ops i k||cE p.op==.read||(cE p.op==.alloc&&(AE ops k||decide (i<k)))|none=>true
 |none=>false
def pg(F:Zo):Op->Zl
 |.call {callee:=.builtin .append,args,..}=>match args.toList with
  |x::_=>match ev F x with|some .dw|some .bG=>true|_=>false
  |_=>false
 |_=>false
def yQ(ops:Zz)(i b:Nat)(F:Zo)(H:bl)(op:Op):Zl:=v_ ops i&&(isApp op&&pg F op&&decide (b<=H.length))
def dY(E:Env)(call:dg)(ops:Zz)(place:aZ (Nat×Nat))(f:Zk)(args:Zu)(H:bl):aZ (V×bl):=
 if kG E ops place f then
  match place with
  |none=>fc E call f args H|some (_,i)=>if dD ops i then fc E call f args H else none
 else match place with
  |none=>match bW call f args H with
   |some y=>some (y,if y.scalar then H else cH H (cN (b8 call.lv H) args))|none=>none
  |some (b,i)=>match bW call f args (H.take b)with
   |some y=>if y.scalar then some (y,H)else if iI (H.take b) (cN (b8 call.lv (H.take b)) args)then some (y,cH H (cN (b8 call.lv (H.take b)) args))else none|none=>if dD ops i then match bW call f args H with
    |some y=>some (y,if y.scalar then H else cH H (cN (b8 call.lv H) args))|none=>none
    else none
def cK(E:Env)(call:dg)(ops:Zz)(place:aZ (Nat×Nat))(F:Zo)(H:bl)(op:Op):aZ (V×bl):=
 match cE op with
 |.pure=>(sO E F H place op).map λv=>(v,H)|.read=>match place with
  |none=>(dQ E F H op).map λv=>(v,H)|some (b,i)=>if nM ops i F op then match dQ E F (H.take b) op with
   |some v=>some (v,H)|none=>if dD ops i then(dQ E F H op).map λv=>(v,H)else none
   else none
 |.alloc=>if nk E ops place then(o4 E F op).map λv=>(v,H)else match eP E F op,place with
  |some (ob,m),none=>some (m.val H.length,H++[ob])|some (ob,m),some (b,i)=>match H[b+i]?with
   |some .free=>some (m.val (b+i),H.set (b+i) ob)|_=>none
  |none,_=>none
 |.loud=>match place with
  |none=>cw E F H op|some (b,i)=>if dD ops i||pn ops i F||qU ops b i F||yQ ops i b F H op then cw E F H op else none
 |.call=>match jK F op with
  |some (.fn f,args)=>if vj ops place args then dY E call ops place f args H else none|some (.yld id,args)=>match place with
   |none=>call (.yld id) args H|some (_,i)=>if dD ops i then call (.yld id) args H else none
  |none=>none
def jM(n:Nat)(F:Zo)(dst:aZ Nat)(v:V):aZ Zo:=
 match dst with
 |none=>some F|some d=>if d<n then some (set F d v)else none
def fM(ops:Zz)(F:Zo)(o:Oper):Zl:=
 match o.guard with
 |none=>true|some (j,b)=>match(ops[j]?).bind (·.dst)with
  |some d=>match get F d with
   |.bool c=>c==b|_=>false
  |none=>false
def gm(E:Env)(call:dg)(n:Nat)(ops:Zz)(place:aZ (Nat×Nat))(o:Oper)(F:Zo)(H:bl):aZ (Zo×bl):=
 if fM ops F o then
  match cK E call ops place F H o.op with
  |some (v,H')=>(jM n F o.dst v).map λF'=>(F',H')|none=>none
 else(jM n F o.dst .undef).map λF'=>(F',H)
def lZ(E:Env)(call:dg)(n:Nat)(ops:Zz):Zz->Zo->bl->aZ (Zo×bl)
 |[],F,H=>some (F,H)|o::r,F,H=>match gm E call n ops none o F H with
  |some (F',H')=>lZ E call n ops r F' H'|none=>none
def jJ(E:Env)(call:dg)(n:Nat)(ops:Zz)(base:Nat):Zv->Zo->bl->aZ (Zo×bl)
 |[],F,H=>some (F,H)|i::r,F,H=>match ops[i]?with
  |some o=>match gm E call n ops (some (base,i)) o F H with
   |some (F',H')=>jJ E call n ops base r F' H'|none=>none
  |none=>none
def tmpsOf(o:Oper)(ops:Zz):Zv:=
 (o.op.operands.toList.filterMap λ|.tmp t=>some t|_=>none)++
 (match o.guard with|some (g,_)=>((ops[g]?).bind (·.dst)).toList|none=>[])
def xx(ops:Zz)(a b:Oper):Zl:=
 (match a.dst with|some d=> !(tmpsOf b ops).contains d&&b.dst != some d|none=>true)&&
 (match b.dst with|some d=> !(tmpsOf a ops).contains d|none=>true)
def vi(ops:Zz):Zl:=
 (range ops.length).all λj=>(range j).all λi=>
  match ops[i]?,ops[j]?with
  |some a,some b=>DR b i||xx ops a b|_,_=>false
def Ad(ops:Zz):Zl:=
 (range ops.length).all λj=>match ops[j]?with
  |some o=>o.after.all λe=> !kT e||decide (e.on<j)|none=>true
def qY(ops:Zz):Zl:=ops.any λo=>cE o.op==.alloc
def js(E:Env)(call:dg)(n:Nat)(ops:Zz)(B:Zl)(F:Zo)(H:bl):aZ (Zo×bl):=if B then if vi ops&&Ad ops then jJ E call n ops H.length (range ops.length) F (if qY ops then H++replicate ops.length .free else H)else none else lZ E call n ops ops F H
def kz(step:Zo->bl->aZ (Out×Zo×bl)):Nat->Zo->bl->aZ (Out×Zo×bl)
 |0,_,_=>none|k+1,F,H=>match step F H with
  |some (.norm,F',H')=>kz step k F' H'|r=>r
def kQ:Out->aZ Code
 |.norm=>none|.ret=>some .ret|.exit id=>some (.exit id)
def exec(E:Env)(call:dg)(lf:Nat)(ro:Zl)(n:Nat):Code->Zo->bl->aZ (Out×Zo×bl)
 |.skip,F,H=>some (.norm,F,H)|.label _,F,H=>some (.norm,F,H)|.region _ ops B,F,H=>(js E call n ops.toList B F H).map λ(F',H')=>(.norm,F',H')|.seq a b,F,H=>match exec E call lf ro n a F H with
  |some (.norm,F',H')=>exec E call lf ro n b F' H'|r=>r
 |.cond c x y,F,H=>match ev F c with
  |some (.bool t)=>if t then exec E call lf ro n x F H else exec E call lf ro n y F H|_=>none
 |.block id c,F,H=>match exec E call lf ro n c F H with
  |some (.exit G,F',H')=>if G=id then some (.norm,F',H')else some (.exit G,F',H')|r=>r
 |.loop c,F,H=>kz (exec E call lf ro n c) lf F H|.rangeFunc g ps assign body,F,H=>match ro,ev F g with
  |false,some (.clo f a b)=>
   match call (.fn f) (a++.yld H.length::b) (H++[.loop ⟨.ready,none,F,n,ps.toList,assign,body⟩])with
   |some (_,H')=>match H'[H.length]?with
    |some (.loop r)=>match r.st with
     |.busy=>none|_=>some (r.pend.getD .norm,F,H'.set H.length .dead)
    |_=>none
   |none=>none
  |_,_=>none
 |.exit id,F,H=>some (.exit id,F,H)|.ret,F,H=>some (.ret,F,H)|_,_,_=>none
def iq(E:Env)(F:Zo)(H:bl):aY ResultVar->aZ Zu
 |[]=>some []|.tmp t::r=>(iq E F H r).map (get F t::·)|.cell a t::r=>match E.tt t,iq E F H r with
  |some d,some vs=>((ec H (get F a) d.size).bind (mk d.agg)).map (·::vs)|_,_=>none
def result:Zu->V
 |[v]=>v|vs=>.tup vs
def xm:Zv->Zu->Zo->Zo
 |t::B,v::vs,F=>xm B vs (set F t v)|_,_,F=>F
def Gi{α:Type}[Inhabited α](lt:α->α->Zl):Nat->Nat->Array α->Array α
 |0,_,d=>d|k+1,i,d=>Gi lt k (i+1) (Sort.insInner lt 0 i d)
def qe(n:Nat)(lt:Fin (n+1)->Fin (n+1)->Zl):Array (Fin (n+1)):=if n<12 then Gi lt n 1 (finRange (n+1)).toArray else Sort.pdq lt (finRange (n+1)).toArray 0 (n+1) (Lib.bitLen (n+1)) true true
def iP(call:dg)(g:Zk)(G B:Zu)(n:Nat)(i j:Fin (n+1)):Z6:=
 match G[i.1]?,G[j.1]?with
 |some a,some b=>match bW call g (a::b::B) []with
  |some (.int .i64 c)=>some c|_=>none
 |_,_=>none
def oU{n:Nat}(t:Fin (n+1)->Fin (n+1)->Z6)(i j:Fin (n+1)):Zl:=decide ((t i j).getD 0<0)
def Au{n:Nat}(t:Fin (n+1)->Fin (n+1)->Z6):Zl:=
 let l:=finRange (n+1)
 l.all λi=> !oU t i i&&l.all λj=>(t i j).isSome&&l.all λk=>(!(oU t i j&&oU t j k)||oU t i k)&&((oU t i j||oU t j k)|| !oU t i k)
def qN(xs:Zt)(off n:Nat)(l:aY (Fin (n+1))):Zt:=xs.take off++l.map (λi=>(xs[off+i.1]?).getD [])++xs.drop (off+(n+1))
def qb(keep:Zk->Zl)(call:dg)(args:Zu)(H:bl):aZ (V×bl):=
 match args with
 |[s,c]=>match s with
  |.bG|.dw=>some (.undef,H)|.hsl id es off len=>match len,c with
   |0,_=>some (.undef,H)|n+1,.clo g [] cb=>match H[id]?with
    |some (.row w z)=>if es=1/\w=1/\off+(n+1)<=z.length/\n<2147483648/\keep g=false then
     match borrows call.lv (H.set id .dead) ((z.drop off).take (n+1)).flatten,borrows call.lv (H.set id .dead) cb with
     |some B,some u=>if Au (iP call g B u n)then some (.undef,H.set id (.row 1 (qN z off n (qe n (oU (iP call g B u n))).toList)))else none|_,_=>none
     else none
    |_=>none
   |_,_=>none
  |_=>none
 |_=>none
def jD(E:Env)(c:dg)(n:Nat):Callee->Zu->bl->aZ (V×bl)
 |.fn f,args,H=>match E.ft f with
  |some fi=>if args.length<=fi.ntmps then
   match exec E c n false fi.ntmps fi.body args H with
   |some (.exit _,_,_)=>none|some (_,F',H')=>(iq E F' H' fi.results).map λvs=>(result vs,H')|none=>none
   else none
  |none=>if E.sort f then qb E.keep c args H else(E.known f args).map λy=>(y,H)
 |.yld id,args,H=>match H[id]?with
  |some (.loop r)=>match r.st with
   |.ready=>if args.length=r.params.length/\r.params.all (·<r.nt)then
    match exec E c n true r.nt r.assign (xm r.params args r.frame) H with
    |some (.norm,G,H2)=>match H2[id]?with
     |some (.loop r2)=>match r2.st with
      |.ready=>match exec E c n true r.nt r.body G (H2.set id (.loop {r2 with st:=.busy}))with
       |some (o,_,B)=>match B[id]?with
        |some (.loop r4)=>some (.bool (o==.norm),B.set id (.loop {r4 with st:=(if o==.norm then .ready else .done),pend:=(if o==.norm then none else some o)}))|_=>none
       |none=>none
      |_=>none
     |_=>none
    |_=>none
    else none
   |_=>none
  |_=>none
def run(E:Env):Nat->dg
 |0=>⟨0,λ_ _ _=>none⟩|n+1=>⟨n+1,jD E (run E n) n⟩
def FH{E:Env}{n:Nat}{x:Callee}{a:Zu}{H:bl}:run E (n+1) x a H=jD E (run E n) n x a H:=rfl
end Go.VE
namespace Go.VE
variable[bT]
@[simp] def get_nil(i:Nat):get [] i=.undef:=by cases i<;>rfl
@[simp] def sw(F:Zo)(i:Nat)(v:V):get (set F i v) i=v:=by
 induction F generalizing i with
 |nil=>induction i with
  |zero=>rfl|succ i u=>grind[set,get]
 |cons x r u=>cases i with
  |zero=>rfl|succ i=>grind[set,get]
theorem ja(F:Zo){i j:Nat}(v:V)(h:i≠j):get (set F i v) j=get F j:=by
 induction F generalizing i j with
 |nil=>
  induction i generalizing j with
  |zero=>cases j with
   |zero=>grind|succ j=>simp[set,get]
  |succ i u=>cases j with
   |zero=>simp[set,get]|succ j=>grind[set,get]
 |cons x r u=>cases i with
  |zero=>cases j with
   |zero=>grind|succ j=>simp[set,get]
  |succ i=>cases j with
   |zero=>simp[set,get]|succ j=>grind[set,get]
def FL(F:Zo){i j:Nat}(u v:V)(h:i≠j):set (set F i u) j v=set (set F j v) i u:=by
 induction F generalizing i j with
 |nil=>
  induction i generalizing j with
  |zero=>cases j with
   |zero=>grind|succ j=>simp[set]
  |succ i w=>cases j with
   |zero=>simp[set]|succ j=>grind[set]
 |cons x r w=>cases i with
  |zero=>cases j with
   |zero=>grind|succ j=>simp[set]
  |succ i=>cases j with
   |zero=>simp[set]|succ j=>grind[set]
inductive IC where
 |cells(c:Array Value)|map(es:Array MapEntry)
abbrev cn:=Nat->aZ IC
def IC.at(x:IC)(w:World)(b:Nat):Prop:=
 match x with
 |.cells c=>∃el fr,w.heap[b]?=some (.cells c el fr)|.map es=>∃a,w.heap[b]?=some (.map es a)
def cn.le(I I':cn):Prop:=∀b x,I b=some x->I' b=some x
def cn.le_refl(I:cn):cn.le I I:=λ_ _ h=>h
def cn.le_trans{I J K:cn}(h:cn.le I J)(B:cn.le J K):cn.le I K:=λb x e=>B b x (h b x e)
inductive eF(I:cn):V->Value->Prop
 |bool(b:Bool):eF I (.bool b) (.bool b)|int(k:IntKind)(n:Int):eF I (.int k n) (.int k n)|str(s:ByteArray):eF I (.str s) (.string s)|dw(a:Option Addr):eF I .dw (.slice a 0 0)|bG:eF I .bG (.slice none 0 0)|fsl0(es:Nat)(a:Addr)(cap:Nat):eF I (.fsl es []) (.slice (some a) 0 cap)|fsl(es:Nat)(xs:List (List V))(b o cap:Nat)(c:Array Value)(hI:I b=some (.cells c))(hc:xs.length<=cap)
  (hu:∀x∈xs,x.length=es) (ho:∀x∈xs,∀y∈x,V.one y=true) (hb:o+xs.length*es<=c.size)
  (hr:∀(i j:Nat)x y v,xs[i]?=some x->x[j]?=some y->c[o+i*es+j]?=some v->eF I y v):
  eF I (.fsl es xs) (.slice (some ⟨b,o,none⟩) xs.length cap)
 |gW:eF I .gW (.pointer none)|fptr(cs:List V)(b o:Nat)(c:Array Value)(hI:I b=some (.cells c))(hb:o+cs.length<=c.size)
  (hr:∀(j:Nat)y v,cs[j]?=some y->c[o+j]?=some v->eF I y v):eF I (.fptr cs) (.pointer (some ⟨b,o,none⟩))
 |clo(f:FuncId)(x y:List V)(u v:Array Value)(hx:x.length=u.size)(hy:y.length=v.size)
  (h1:∀(j:Nat)a b,x[j]?=some a->u[j]?=some b->eF I a b) (h2:∀(j:Nat)a b,y[j]?=some a->v[j]?=some b->eF I a b):
  eF I (.clo f x y) (.func (.func f) u v)
 |fV:eF I .fV (.map none)|rB:eF I .rB .nilFunc|fmap(kvs:List (V×V))(b:Nat)(es:Array MapEntry)(hI:I b=some (.map es))(hl:kvs.length=es.size)
  (hk:∀(j:Nat)p e,kvs[j]?=some p->es[j]?=some e->eF I p.1 e.key)
  (hv:∀(j:Nat)p e,kvs[j]?=some p->es[j]?=some e->eF I p.2 e.val):eF I (.fmap kvs) (.map (some b))
 |agg(cs:List V)(vs:Array Value)(hl:cs.length=vs.size)(h:∀(j:Nat)a b,cs[j]?=some a->vs[j]?=some b->eF I a b):
  eF I (.agg cs) (.agg vs)
 |tup(cs:List V)(vs:Array Value)(hl:cs.length=vs.size)(h:∀(j:Nat)a b,cs[j]?=some a->vs[j]?=some b->eF I a b):
  eF I (.tup cs) (.tuple vs)
structure Pl where
 b:Nat
 o:Nat
 es:Nat
 sz:Nat
abbrev Mu:=Nat->aZ Pl
inductive bD(I:cn)(μ:Mu):V->Value->Prop
 |c(x:V)(v:Value)(h:eF I x v):bD I μ x v|hsl(id off len cap:Nat)(p:Pl)(hm:μ id=some p)(hc:len<=cap)(hb:p.o+(off+cap)*p.es<=p.sz):
  bD I μ (.hsl id p.es off len) (.slice (some ⟨p.b,p.o+off*p.es,none⟩) len cap)
 |hsl0(id es off:Nat)(a:Addr):bD I μ (.hsl id es off 0) (.slice (some a) 0 0)|hptr(id el off:Nat)(p:Pl)(hm:μ id=some p):bD I μ (.hptr id el off) (.pointer (some ⟨p.b,p.o+el*p.es+off,none⟩))|yld(id:Nat)(p:Pl)(hm:μ id=some p):bD I μ (.yld id) (.func (.yield p.b) #[] #[])|hmap(id:Nat)(p:Pl)(hm:μ id=some p):bD I μ (.hmap id) (.map (some p.b))|clo(f:FuncId)(x y:List V)(u v:Array Value)(hx:x.length=u.size)(hy:y.length=v.size)
  (h1:∀(j:Nat)a b,x[j]?=some a->u[j]?=some b->bD I μ a b) (h2:∀(j:Nat)a b,y[j]?=some a->v[j]?=some b->bD I μ a b):
  bD I μ (.clo f x y) (.func (.func f) u v)
 |agg(cs:List V)(vs:Array Value)(hl:cs.length=vs.size)(h:∀(j:Nat)a b,cs[j]?=some a->vs[j]?=some b->bD I μ a b):
  bD I μ (.agg cs) (.agg vs)
 |tup(cs:List V)(vs:Array Value)(hl:cs.length=vs.size)(h:∀(j:Nat)a b,cs[j]?=some a->vs[j]?=some b->bD I μ a b):
  bD I μ (.tup cs) (.tuple vs)
def Mu.le(μ μ':Mu):Prop:=∀id p,μ id=some p->μ' id=some p
def Mu.le_refl(μ:Mu):Mu.le μ μ:=λ_ _ h=>h
def eF.mono{I I':cn}(h:cn.le I I'){x:V}{v:Zp}(r:eF I x v):eF I' x v:=by induction r with|bool b=>exact .bool b|int k n=>exact .int k n|str s=>exact .str s|dw a=>exact .dw a|bG=>exact .bG|fsl0 es a cap=>exact .fsl0 es a cap|fsl es Q b o cap c C hc hu S J _ w=>exact .fsl es Q b o cap c (h _ _ C) hc hu S J w|gW=>exact .gW|fptr D b o c C J _ w=>exact .fptr D b o c (h _ _ C) J w|clo f x y u v T U _ _ z B=>exact .clo f x y u v T U z B|fV=>exact .fV|rB=>exact .rB|fmap L b es C G _ _ z B=>exact .fmap L b es (h _ _ C) G z B|agg D O G _ w=>exact .agg D O G w|tup D O G _ w=>exact .tup D O G w
def bD.mono{I I':cn}{μ μ':Mu}(h:cn.le I I')(B:Mu.le μ μ'){x:V}{v:Zp}(r:bD I μ x v):bD I' μ' x v:=by induction r with|c x v r=>exact .c _ _ (r.mono h)|hsl id off len cap p w hc O=>exact .hsl id off len cap p (B _ _ w) hc O|hsl0 id es off a=>exact .hsl0 id es off a|hptr id el off p w=>exact .hptr id el off p (B _ _ w)|yld id p w=>exact .yld id p (B _ _ w)|hmap id p w=>exact .hmap id p (B _ _ w)|clo f x y u v Q S _ _ z C=>exact .clo f x y u v Q S z C|agg D G J _ L=>exact .agg D G J L|tup D G J _ L=>exact .tup D G J L
def cF(I:cn)(μ:Mu)(xs:Zu)(vs:aY Zp):Prop:=xs.length=vs.length/\∀(j:Nat)a b,xs[j]?=some a->vs[j]?=some b->bD I μ a b
def cF.nil{I:cn}{μ:Mu}:cF I μ [] []:=⟨rfl,Zc⟩
def cF.cons{I:cn}{μ:Mu}{x:V}{v:Zp}{xs:Zu}{vs:aY Zp}(h:bD I μ x v)(r:cF I μ xs vs):cF I μ (x::xs) (v::vs):=by refine⟨by simp[r.1],?_⟩;intro j a b c u;cases j with|zero=>grind|succ j=>exact r.2 j a b Zd Zd
def cF.cons_inv{I:cn}{μ:Mu}{x:V}{xs:Zu}{B:aY Zp}(r:cF I μ (x::xs) B):∃v vs,B=v::vs/\bD I μ x v/\cF I μ xs vs:=by have⟨u,h⟩:=r;cases B with|nil=>simp_all|cons v vs=>refine⟨v,vs,rfl,h 0 x v Zc Zc,Zd,?_⟩;intro j a b c w;exact h (j+1) a b Zd Zd
def cF.uZ{I:cn}{μ:Mu}{B:aY Zp}(r:cF I μ [] B):B=[]:=by have:=r.1;grind
def cF.append{I:cn}{μ:Mu}{xs ys:Zu}{B vs:aY Zp}(h:cF I μ xs B)(G:cF I μ ys vs):cF I μ (xs++ys) (B++vs):=by induction xs generalizing B with|nil=>rw[cF.uZ h];exact G|cons x xs u=>obtain⟨v,B,rfl,a,b⟩:=h.cons_inv;exact .cons a (u b)
def cF.mono{I I':cn}{μ μ':Mu}(h:cn.le I I')(B:Mu.le μ μ'){xs:Zu}{vs:aY Zp}(r:cF I μ xs vs):cF I' μ' xs vs:=⟨r.1,λj a b c u=>(r.2 j a b c u).mono h B⟩
def cF.take{I:cn}{μ:Mu}{xs:Zu}{vs:aY Zp}(r:cF I μ xs vs)(n:Nat):cF I μ (xs.take n) (vs.take n):=by refine⟨by simp[r.1],λj a b c u=>?_⟩;rw[getElem?_take]at c u;split at c<;>simp_all;exact r.2 j a b c u
def cF.drop{I:cn}{μ:Mu}{xs:Zu}{vs:aY Zp}(r:cF I μ xs vs)(n:Nat):cF I μ (xs.drop n) (vs.drop n):=by refine⟨by simp[r.1],λj a b c u=>?_⟩;rw[getElem?_drop]at c u;exact r.2 _ a b c u
def bD.cells{I:cn}{μ:Mu}{x:V}{v:Zp}(r:bD I μ x v):cF I μ x.cells v.cells.toList:=by
 cases r with
 |c x v h=>cases h with|agg w C z h=>exact⟨by grind[V.cells,Value.cells],λj a b d D=>.c _ _ (h j a b d (by grind[Value.cells]))⟩|bool b=>exact .cons (.c _ _ (.bool b)) .nil|int k n=>exact .cons (.c _ _ (.int k n)) .nil|str s=>exact .cons (.c _ _ (.str s)) .nil|dw a=>exact .cons (.c _ _ (.dw a)) .nil|bG=>exact .cons (.c _ _ .bG) .nil|fsl0 es a cap=>exact .cons (.c _ _ (.fsl0 es a cap)) .nil|fsl es S b o cap c G hc hu T J hr=>exact .cons (.c _ _ (.fsl es S b o cap c G hc hu T J hr)) .nil|gW=>exact .cons (.c _ _ .gW) .nil|fptr w b o c G J hr=>exact .cons (.c _ _ (.fptr w b o c G J hr)) .nil|clo f x y u v L O d D=>exact .cons (.c _ _ (.clo f x y u v L O d D)) .nil|fV=>exact .cons (.c _ _ .fV) .nil|rB=>exact .cons (.c _ _ .rB) .nil|fmap Q b es G z hk hv=>exact .cons (.c _ _ (.fmap Q b es G z hk hv)) .nil|tup w C z h=>exact .cons (.c _ _ (.tup w C z h)) .nil
 |hsl id off len cap p B hc J=>exact .cons (.hsl id off len cap p B hc J) .nil|hsl0 id es off a=>exact .cons (.hsl0 id es off a) .nil|hptr id el off p B=>exact .cons (.hptr id el off p B) .nil|yld id p B=>exact .cons (.yld id p B) .nil|hmap id p B=>exact .cons (.hmap id p B) .nil|clo f x y u v L O d D=>exact .cons (.clo f x y u v L O d D) .nil|agg w C z h=>exact⟨by grind[V.cells,Value.cells],λj a b d D=>h j a b d (by grind[Value.cells])⟩|tup w C z h=>exact .cons (.tup w C z h) .nil
def bD.FD{I:cn}{μ:Mu}{cs:Zu}{vs:Array Zp}(h:cF I μ cs vs.toList):bD I μ (.agg cs) (.agg vs):=.agg cs vs (by simpa using h.1) λj a b c u=>h.2 j a b c Zd
def bD.QW{I:cn}{μ:Mu}{cs:Zu}{vs:Array Zp}(h:cF I μ cs vs.toList):bD I μ (.tup cs) (.tuple vs):=.tup cs vs (by simpa using h.1) λj a b c u=>h.2 j a b c Zd
section inv
variable{I:cn}{μ:Mu}
def bD.q9{b:Zl}{v:Zp}(h:bD I μ (.bool b) v):v=.bool b:=by cases h with|c _ _ h=>cases h;rfl
def bD.fu{k:Zs}{n:Int}{v:Zp}(h:bD I μ (.int k n) v):v=.int k n:=by cases h with|c _ _ h=>cases h;rfl
def bD.tC{s:Zq}{v:Zp}(h:bD I μ (.str s) v):v=.string s:=by cases h with|c _ _ h=>cases h;rfl
def bD.rU{v:Zp}(h:bD I μ .dw v):∃a,v=.slice a 0 0:=by cases h with|c _ _ h=>cases h;grind
def bD.lX{es:Nat}{xs:Zt}{v:Zp}(h:bD I μ (.fsl es xs) v):eF I (.fsl es xs) v:=by cases h with|c _ _ h=>omega
def bD.l8{cs:Zu}{v:Zp}(h:bD I μ (.fptr cs) v):∃b o c,v=.pointer (some ⟨b,o,none⟩)/\I b=some (.cells c)/\o+cs.length<=c.size/\
 (∀(j:Nat)y u,cs[j]?=some y->c[o+j]?=some u->eF I y u):=by
 cases h with|c _ _ h=>cases h with|fptr cs b o c w z hr=>grind
def bD.lT{v:Zp}(h:bD I μ .bG v):v=.slice none 0 0:=by cases h with|c _ _ h=>cases h;rfl
def bD.Om{v:Zp}(h:bD I μ .fV v):v=.map none:=by cases h with|c _ _ h=>cases h;rfl
def bD.sY{id el off:Nat}{v:Zp}(h:bD I μ (.hptr id el off) v):∃p,μ id=some p/\v=.pointer (some ⟨p.b,p.o+el*p.es+off,none⟩):=by cases h with|c _ _ h=>cases h|hptr _ _ _ p u=>grind
def bD.Q7{id:Nat}{v:Zp}(h:bD I μ (.yld id) v):∃p,μ id=some p/\v=.func (.yield p.b) #[] #[]:=by cases h with|c _ _ h=>cases h|yld _ p u=>grind
def bD.Bp{id:Nat}{v:Zp}(h:bD I μ (.hmap id) v):∃p,μ id=some p/\v=.map (some p.b):=by cases h with|c _ _ h=>cases h|hmap _ p u=>grind
def bD.lY{id es off len:Nat}{v:Zp}(h:bD I μ (.hsl id es off len) v):
 (∃p b,μ id=some p/\p.es=es/\len<=b/\p.o+(off+b)*es<=p.sz/\v=.slice (some ⟨p.b,p.o+off*es,none⟩) len b)\/(len=0/\∃a,v=.slice (some a) 0 0):=by
 cases h with
 |c _ _ h=>cases h|hsl _ _ _ b p u hc w=>simp_all|hsl0 _ _ _ a=>grind
def bD.iC{cs:Zu}{v:Zp}(h:bD I μ (.agg cs) v):∃vs,v=.agg vs/\cF I μ cs vs.toList:=by
 cases h with
 |c _ _ h=>cases h with|agg _ vs u h=>exact⟨vs,rfl,Zd,λj a b d w=>.c _ _ (h j a b d Zd)⟩
 |agg _ vs u h=>exact⟨vs,rfl,Zd,λj a b d w=>h j a b d Zd⟩
def bD.qg{cs:Zu}{v:Zp}(h:bD I μ (.tup cs) v):∃vs,v=.tuple vs/\cF I μ cs vs.toList:=by
 cases h with
 |c _ _ h=>cases h with|tup _ vs u h=>exact⟨vs,rfl,Zd,λj a b d w=>.c _ _ (h j a b d Zd)⟩
 |tup _ vs u h=>exact⟨vs,rfl,Zd,λj a b d w=>h j a b d Zd⟩
def bD.jQ{f:Zk}{x y:Zu}{v:Zp}(h:bD I μ (.clo f x y) v):∃a b,v=.func (.func f) a b/\cF I μ x a.toList/\cF I μ y b.toList:=by
 cases h with
 |c _ _ h=>cases h with
  |clo _ _ _ u v z B h1 w=>exact⟨u,v,rfl,⟨Zd,λj a b p q=>.c _ _ (h1 j a b p Zd)⟩,⟨Zd,λj a b p q=>.c _ _ (w j a b p Zd)⟩⟩
 |clo _ _ _ u v z B h1 w=>exact⟨u,v,rfl,⟨Zd,λj a b p q=>h1 j a b p Zd⟩,⟨Zd,λj a b p q=>w j a b p Zd⟩⟩
def bD.of_bool{x:V}{b:Zl}(h:bD I μ x (.bool b)):x=.bool b:=by cases h with|c _ _ h=>cases h;rfl
end inv
def tT(I:cn):Prop:=∀g u,bT.gl g=some u->eF I (.fptr u) (.pointer (some ⟨g,0,none⟩))
def tT.mono{I I':cn}(h:cn.le I I')(r:tT I):tT I':=λg u a=>(r g u a).mono h
structure eE(I:cn)(μ:Mu)(n:Nat)(F:Frame)(tmps:Array Value):Prop where
 size:tmps.size=n
 rel:∀t,bD I μ (get F t) (tmps.getD t undef)
 gl:tT I
def bD.undef(I:cn)(μ:Mu):bD I μ .undef Go.undef:=.c _ _ (.tup [] #[] rfl Zc)
def eE.mono{I I':cn}{μ μ':Mu}{n:Nat}{F:Zo}{tmps:Array Zp}(h:cn.le I I')(B:Mu.le μ μ')(r:eE I μ n F tmps):eE I' μ' n F tmps:=⟨r.1,λt=>(r.2 t).mono h B,r.gl.mono h⟩
def eE.put{I:cn}{μ:Mu}{n:Nat}{F F':Zo}{a:Act}{dst:aZ Nat}{x:V}{v:Zp}(r:eE I μ n F a.tmps)(h:bD I μ x v)
 (B:jM n F dst x=some F'):eE I μ n F' (a.put dst v).tmps:=by
 cases dst with
 |none=>simp[jM]at B;subst B;exact r|some d=>
  simp only[jM]at B;split at B
  .simp at B;subst B;refine⟨by simp[Act.put,r.1],λt=>?_,r.gl⟩
   by_cases u:d=t
   .subst u;have:d<a.tmps.size:=by rw[r.1];omega
    simp_all[Act.put]
   have:=r.2 t;rw[ja _ _ u];simp_all[Act.put]
  grind
def A8{I:cn}:∀(n:Nat)(v:Zp)(x:V),ofValue n v=some x->eF I x v:=by intro n;induction n with|zero=>grind[ofValue]|succ n B=>intro v x h;unfold ofValue at h;split at h<;>(try (simp at h;subst h;constructor))<;>(try grind);simp at h;obtain⟨C,w,rfl⟩:=h;have key:∀(l:aY Zp)(u:Zu),l.mapM (ofValue n)=some u->u.length=l.length/\∀(j:Nat)a b,u[j]?=some a->l[j]?=some b->eF I a b:=(by intro l;induction l with|nil=>grind|cons v l z=>grind[ζg]);have⟨D,c⟩:=key _ _ w;exact .agg _ _ Zd λj a b d G=>c j a b d Zd
def dh{I:cn}{μ:Mu}{n:Nat}{F:Zo}{a:Act}(r:eE I μ n F a.tmps){o:Zr}{x:V}(h:ev F o=some x):bD I μ x (a.eval o):=by cases o with|tmp t=>simp[ev]at h;subst h;exact r.2 t|const v=>exact .c _ _ (A8 4 _ _ h)|func f=>simp[ev]at h;subst h;exact .c _ _ (.clo f [] [] #[] #[] rfl rfl Zc Zc)|global g=>obtain⟨u,b,rfl⟩:=ζf.1 h;exact .c _ _ (r.gl g u b)
def nF{I:cn}{μ:Mu}{n:Nat}{F:Zo}{a:Act}(r:eE I μ n F a.tmps):∀{l:aY Zr}{xs:Zu},fH F l=some xs->cF I μ xs (l.map a.eval):=by intro l;induction l with|nil=>intro xs h;simp[fH]at h;subst h;exact .nil|cons o l u=>intro xs h;simp[fH]at h;split at h;(next v z b w=>simp at h;subst h;exact .cons (dh r b) (u w));grind
def Kx{I:cn}{μ:Mu}{n:Nat}{F:Zo}{a:Act}(r:eE I μ n F a.tmps):∀{l:aY (Nat×Zr)}{xs:aY (Nat×V)},l_ F l=some xs->
 xs.length=l.length/\∀(j:Nat)x y,xs[j]?=some x->l[j]?=some y->x.1=y.1/\bD I μ x.2 (a.eval y.2):=by
 intro l
 induction l with
 |nil=>grind[l_]|cons o l z=>
  intro xs h;simp[l_]at h;split at h
  .rename_i v D h1 B;simp at h;subst h;have⟨C,b⟩:=z B;refine⟨by simp[C],λj x y u w=>?_⟩
   cases j with
   |zero=>simp at u w;subst u;subst w;exact⟨rfl,dh r h1⟩|succ j=>grind
  grind
def mm:TypeDesc->TK
 |.bool=>.bool|.int k=>.int k|.string=>.str|.pointer e=>.ptr e|.slice e=>.slice e|.struct fs=>.struct (fs.toList.map λf=>(f.offset,f.type))|.array n e=>.array n e|.map k e=>.map k e|_=>.other
def Di:Zp->Zl
 |.agg _=>true|_=>false
def tn(P:Program)(t:Zm):aZ TD:=
 match P.info? t,P.underlying t with
 |some i,some d=>match i.zero with
  |some z=>match z.cells.toList.mapM (ofValue 4)with
   |some u=>if u.length=i.size/\u.all V.one=true/\Di z=(TD.mk i.size i.bytes u (mm d)).agg then some ⟨i.size,i.bytes,u,mm d⟩else none|none=>none
  |none=>none
 |_,_=>none
def ic(a:Zx):Array Zp:=(a.map (Value.int .i64)).toArray
structure s9(P:Program)(t:TypeId)(n:Nat):Prop where
 eq:∀(w:World)(x y:Operand)(a b:List Int),a.length=n->b.length=n->
  (do eqGuard .eql t x y (.agg (ic a)) (.agg (ic b));binOp .eql t (.agg (ic a)) (.agg (ic b))).run P w=.ok (.bool (a==b)) w
 ne:∀(w:World)(x y:Operand)(a b:List Int),a.length=n->b.length=n->
  (do eqGuard .neq t x y (.agg (ic a)) (.agg (ic b));binOp .neq t (.agg (ic a)) (.agg (ic b))).run P w=.ok (.bool !(a==b)) w
 key:∀(w:World)(a b:List Int),a.length=n->b.length=n->(equal t (.agg (ic a)) (.agg (ic b))).run P w=.ok (a==b) w
 check:∀(w:World)(e:Bool)(a:List Int),a.length=n->(checkKey e 10000 t (.agg (ic a))).run P w=.ok () w
 kind:∃d,P.underlying t=some d/\((∃n e,d=.array n e)\/(∃fs,d=.struct fs))
structure eG(P:Program)(E:Env):Prop where
 tt:∀t d,E.tt t=some d->tn P t=some d
 ft:∀f fi,E.ft f=some fi->∃fn,P.funcs[f]?=some fn/\fn.body=some fi.body/\fn.ntmps=fi.ntmps/\fn.results.toList=fi.results/\(fn.name== "runtime.NumGoroutine")=false
 eqN:∀t n,E.eqN t=some n->s9 P t n
structure oh(P:Program)(t:TypeId)(d:TD):Prop where
 info:∃i z,P.info? t=some i/\i.size=d.size/\i.bytes=d.bytes/\i.zero=some z/\(∀I μ,cF I μ d.zero z.cells.toList)/\d.zero.length=d.size/\d.zero.all V.one=true/\Di z=d.agg
 und:∃desc,P.underlying t=some desc/\mm desc=d.kind
def NF{I:cn}{μ:Mu}:∀(l:aY Zp)(ys:Zu),l.mapM (ofValue 4)=some ys->cF I μ ys l:=by intro l;induction l with|nil=>intro ys h;simp at h;subst h;exact .nil|cons v l u=>intro ys h;simp only[List.mapM_cons,Option.pure_def,Option.bind_eq_bind,ζg,ζa]at h;obtain⟨y,w,z,B,rfl⟩:=h;exact .cons (.c _ _ (A8 4 _ _ w)) (u z B)
def eG.ty{P:Program}{E:Env}(h:eG P E){t:Zm}{d:TD}(B:E.tt t=some d):oh P t d:=by
 have:=h.tt t d B;unfold tn at this;split at this;rename_i i a u w;split at this;rename_i z C;split at this;rename_i G hc;split at this;next D=>simp only[ζa]at this;subst this;exact⟨⟨i,z,u,rfl,rfl,C,λI μ=>NF _ _ hc,D⟩,⟨a,w,rfl⟩⟩
 simp at this;simp at this;simp at this;simp at this
section runs
variable{P:Program}{w:World}{t:Zm}{d:TD}
def dn{a:TypeDesc}(h:P.underlying t=some a):(underlying t).run P w=.ok a w:=by simp[underlying,h]
def ox{i:TypeInfo}(h:P.info? t=some i):(typeInfo t).run P w=.ok i w:=by simp[typeInfo,h]
def oh.iw(h:oh P t d):(sizeOf t).run P w=.ok d.size w:=by have⟨i,z,u,B,_⟩:=h.info;simp[sizeOf,ox u,B]
def oh.dn(h:oh P t d):∃a,P.underlying t=some a/\mm a=d.kind/\∀w,(underlying t).run P w=.ok a w:=by have⟨a,b,u⟩:=h.und;exact⟨a,b,u,λw=>VE.dn b⟩
def oh.Cg(h:oh P t d):(isAgg t).run P w=.ok d.agg w:=by have⟨a,b,u⟩:=h.und;unfold isAgg;simp only[run_bind,VE.dn b,andThen_ok];cases a<;>simp[TD.agg,<-u,mm]
def oh.zq(h:oh P t d):∃z,(∀w,(zeroValue t).run P w=.ok z w)/\(∀I μ,cF I μ d.zero z.cells.toList)/\d.zero.length=d.size/\d.zero.all V.one=true:=by have⟨i,z,u,_,_,B,a,C,b,_⟩:=h.info;exact⟨z,λw=>by simp[zeroValue,ox u,B],a,C,b⟩
end runs
def oh.RN{P:Program}{t:Zm}{d:TD}(h:oh P t d):∃z,(∀w,(zeroValue t).run P w=.ok z w)/\∀I μ x,VE.mk d.agg d.zero=some x->bD I μ x z:=by
 have⟨i,z,G,_,_,J,a,L,b,u⟩:=h.info;refine⟨z,λw=>by simp[zeroValue,ox G,J],λI μ x C=>?_⟩;have B:=a I μ;cases D:d.agg with|true=>rw[D]at C u;cases z<;>simp[Di]at u;simp only[VE.mk,if_true,ζa]at C;subst C;exact .FD (by simpa[Value.cells]using B)|false=>
  rw[D]at C u;simp only[VE.mk,false_eq_true,if_false]at C;split at C
  .rename_i v hv;simp only[ζa]at C;subst C;rw[hv]at B;have e:z.cells.toList=[z]:=(by cases z<;>first|rfl|simp[Di]at u);rw[e]at B;exact B.2 0 _ _ rfl rfl
  simp at C
def fB{E:Env}{t:Zm}{k:TK}(h:E.kindOf t=some k):∃d,E.tt t=some d/\d.kind=k:=by unfold Env.kindOf at h;simpa[ζf]using h
def B6{d:TypeDesc}{k:Zs}(h:mm d=.int k):d=.int k:=by cases d<;>simp_all [mm]
def Jm{d:TypeDesc}(h:mm d=.bool):d=.bool:=by cases d<;>simp_all [mm]
def zG{d:TypeDesc}(h:mm d=.str):d=.string:=by cases d<;>simp_all [mm]
def ji{d:TypeDesc}{e:Zm}(h:mm d=.slice e):d=.slice e:=by cases d<;>simp_all [mm]
def BY{d:TypeDesc}{n:Nat}{e:Zm}(h:mm d=.array n e):d=.array n e:=by cases d<;>simp_all [mm]
def zO{d:TypeDesc}{k e:Zm}(h:mm d=.map k e):d=.map k e:=by cases d<;>simp_all [mm]
def zF{d:TypeDesc}{fs:aY (Nat×Zm)}(h:mm d=.struct fs):∃B,d=.struct B/\fs=B.toList.map λf=>(f.offset,f.type):=by cases d<;>simp_all [mm]
def Ao{I:cn}{μ:Mu}{cs r:Zu}{vs:aY Zp}{off n:Nat}(h:cF I μ cs vs)(hc:cut cs off n=some r):
 cF I μ r ((vs.drop off).take n)/\r.length=n/\off+n<=cs.length\/(n=0/\r=[]):=by
 unfold cut at hc;simp only at hc;split at hc
 .rename_i u;simp only[ζa]at hc;subst hc
  by_cases w:n=0
  .right;subst w;simp
  left;refine⟨(h.drop off).take n,u,?_⟩;simp at u;omega
 simp at hc
def MZ{I:cn}{μ:Mu}{cs:Zu}{x:V}{vs:Array Zp}(h:mk true cs=some x)(r:cF I μ cs vs.toList):bD I μ x (.agg vs):=by simp only[mk,if_true,ζa]at h;subst h;exact .FD r
def mk_one{I:cn}{μ:Mu}{cs:Zu}{x:V}{vs:aY Zp}(h:mk false cs=some x)(r:cF I μ cs vs):∃v,vs=[v]/\bD I μ x v:=by simp only[mk,false_eq_true,if_false]at h;split at h;simp only[ζa]at h;subst h;obtain⟨v,u,rfl,a,b⟩:=r.cons_inv;exact⟨v,by rw[b.uZ],a⟩;simp at h
def G7{P:Program}{w:World}{I:cn}{μ:Mu}{t:Zm}{d:TD}{cs r:Zu}{vs:Array Zp}{x:V}{off:Nat}(G:oh P t d)(h:cF I μ cs vs.toList)
 (hc:cut cs off d.size=some r)(B:mk d.agg r=some x):∃u,(part t vs off).run P w=.ok u w/\bD I μ x u:=by
 unfold part;simp only[run_bind,G.Cg,andThen_ok]
 cases z:d.agg with
 |true=>
  rw[z]at B;refine⟨.agg (vs.extract off (off+d.size)),by simp[G.iw],?_⟩
  refine MZ B ?_;have e:(vs.extract off (off+d.size)).toList=(vs.toList.drop off).take d.size:=Zc
  rw[e];rcases Ao h hc with⟨a,_⟩|⟨b,rfl⟩
  .exact a
  rw[b];exact .nil
 |false=>
  rw[z]at B;rcases Ao h hc with⟨a,J,_⟩|⟨b,rfl⟩
  .have⟨v,hv,C⟩:=mk_one B a;refine⟨v,?_,C⟩;have D:d.size=1:=by
    have:=a.1;rw[hv]at this;simp at this;omega
   rw[D]at hv;have:vs[off]?=some v:=by have:=congrArg (·[0]?) hv;simpa[getElem?_take,getElem?_drop]using this
   simp[this]
  simp[mk]at B
def KP{I:cn}{μ:Mu}:∀(az:Zu)(a:Zx)(B:aY Zp),hG az=some a->cF I μ az B->B=a.map (Value.int .i64)/\a.length=az.length:=by intro az;induction az with|nil=>intro a B h u;simp only[hG,ζa]at h;subst h;rw[u.uZ];simp|cons x az w=>intro a B h u;obtain⟨v,B,rfl,c,d⟩:=u.cons_inv;have z:∃y,x=.int .i64 y:=(by cases x with|int k y=>cases k<;>simp[hG]at h⊢|_=>simp[hG]at h);obtain⟨y,rfl⟩:=z;simp only[hG,ζf]at h;obtain⟨b,C,rfl⟩:=h;have⟨g1,g2⟩:=w _ _ C d;have:=c.fu;subst this;exact⟨by simp[g1],by simp[g2]⟩
def qh{I:cn}{μ:Mu}{az:Zu}{a:Zx}{B:Array Zp}(h:hG az=some a)(G:cF I μ az B.toList):B=ic a/\a.length=az.length:=by have⟨b,u⟩:=KP _ _ _ h G;refine⟨?_,u⟩;have:=congrArg List.toArray b;simpa[ic]using this
def wS{az B:Zu}{r:Zl}(h:kH az B=some r):∃a b,hG az=some a/\hG B=some b/\a.length=b.length/\r=(a==b):=by
 unfold kH at h;split at h;rename_i a b c u;split at h;next w=>simp only[ζa]at h;exact⟨a,b,c,u,w,h.symm⟩
 simp at h;simp at h
section
variable{P:Program}{E:Env}{I:cn}{μ:Mu}{n:Nat}{F:Zo}{a:Act}{w:World}
def MC(f:BinOp)(t:Zm)(p q:Zr)(k B:Zs)(m m':Int):(eqGuard f t p q (.int k m) (.int B m')).run P w=.ok () w:=by unfold eqGuard;cases f<;>simp
def LH(f:BinOp)(t:Zm)(p q:Zr)(s B:Zq):(eqGuard f t p q (.string s) (.string B)).run P w=.ok () w:=by unfold eqGuard;cases f<;>simp
def KL(f:BinOp)(t:Zm)(p q:Zr)(s B:Zl):(eqGuard f t p q (.bool s) (.bool B)).run P w=.ok () w:=by unfold eqGuard;cases f<;>simp
def G3(d:Nat){t:Zm}(x y:Zl)(h:P.underlying t=some .bool):(equalIn (d+1) t (.bool x) (.bool y)).run P w=.ok (x==y) w:=by simp only[equalIn,run_bind,dn h,andThen_ok,run_pure]
def CO{t:Zm}(x y:Zl)(h:P.underlying t=some .bool):(equal t (.bool x) (.bool y)).run P w=.ok (x==y) w:=G3 9999 x y h
def AW(d:Nat){t:Zm}{k:Zs}(x y:Int)(h:P.underlying t=some (.int k)):(equalIn (d+1) t (.int k x) (.int k y)).run P w=.ok (x==y) w:=by simp only[equalIn,run_bind,dn h,andThen_ok,run_pure,if_true]
def Fh(d:Nat){t e:Zm}(B:aZ Addr)(l c:Nat)(h:P.underlying t=some (.slice e)):(equalIn (d+1) t (.slice B l c) (.slice none 0 0)).run P w=.ok B.isNone w:=by cases B<;>simp only[equalIn,run_bind,dn h,andThen_ok,run_pure]<;>rfl
def H9(d:Nat){t e:Zm}(B:aZ Addr)(h:P.underlying t=some (.pointer e)):(equalIn (d+1) t (.pointer B) (.pointer none)).run P w=.ok B.isNone w:=by cases B<;>simp only[equalIn,run_bind,dn h,andThen_ok,run_pure]<;>rfl
def Il(d:Nat){t e G:Zm}(B:aZ Nat)(h:P.underlying t=some (.map e G)):(equalIn (d+1) t (.map B) (.map none)).run P w=.ok B.isNone w:=by cases B<;>simp only[equalIn,run_bind,dn h,andThen_ok,run_pure]<;>rfl
def D_(U:eG P E){t:Zm}{k:TK}{x y:V}{u v:Zp}{b:Zl}(m:E.kindOf t=some k)(h:uo k x y=some b)(B:bD I μ x u)(G:bD I μ y v):
 (equal t u v).run P w=.ok b w/\(∀op p q,(eqGuard op t p q u v).run P w=.ok () w)/\binOp .eql t u v=(do pure (.bool (<-equal t u v)))/\binOp .neq t u v=(do pure (.bool (!(<-equal t u v)))):=by
 have⟨d,T,O⟩:=fB m;have⟨a,f,C,_⟩:=(U.ty T).dn;rw[O]at C;have g:∀(e:Zm)(z:aZ Addr)(l c:Nat),P.underlying t=some (.slice e)->b=z.isNone->
  (equal t (.slice z l c) (.slice none 0 0)).run P w=.ok b w/\(∀op p q,(eqGuard op t p q (.slice z l c) (.slice none 0 0)).run P w=.ok () w)/\binOp .eql t (.slice z l c) (.slice none 0 0)=(do pure (.bool (<-equal t (.slice z l c) (.slice none 0 0))))/\binOp .neq t (.slice z l c) (.slice none 0 0)=(do pure (.bool (!(<-equal t (.slice z l c) (.slice none 0 0))))):=by
  intro e z l c i L;refine⟨?_,λop p q=>by unfold eqGuard;cases op<;>simp,rfl,rfl⟩
  rw[L];exact Fh 9999 z l c i
 have D:∀(e:Zm)(z:aZ Addr),P.underlying t=some (.pointer e)->b=z.isNone->
  (equal t (.pointer z) (.pointer none)).run P w=.ok b w/\(∀op p q,(eqGuard op t p q (.pointer z) (.pointer none)).run P w=.ok () w)/\binOp .eql t (.pointer z) (.pointer none)=(do pure (.bool (<-equal t (.pointer z) (.pointer none))))/\binOp .neq t (.pointer z) (.pointer none)=(do pure (.bool (!(<-equal t (.pointer z) (.pointer none))))):=by
  intro e z i L;refine⟨?_,λop p q=>by unfold eqGuard;cases op<;>simp,rfl,rfl⟩
  rw[L];exact H9 9999 z i
 have J:∀(e S:Zm)(z:aZ Nat),P.underlying t=some (.map e S)->b=z.isNone->
  (equal t (.map z) (.map none)).run P w=.ok b w/\(∀op p q,(eqGuard op t p q (.map z) (.map none)).run P w=.ok () w)/\binOp .eql t (.map z) (.map none)=(do pure (.bool (<-equal t (.map z) (.map none))))/\binOp .neq t (.map z) (.map none)=(do pure (.bool (!(<-equal t (.map z) (.map none))))):=by
  intro e S z i L;refine⟨?_,λop p q=>by unfold eqGuard;cases op<;>simp,rfl,rfl⟩
  rw[L];exact Il 9999 z i
 unfold uo at h;split at h<;>(try (simp only[ζa]at h;subst h))
 .have:=ji C;subst this;rw[B.lT,G.lT];exact g _ none 0 0 f rfl
 .have:=ji C;subst this;rw[G.lT];have W:=B.lX
  cases W with
  |fsl0 _ z j=>exact g _ _ _ _ f rfl|fsl=>exact g _ _ _ _ f rfl
 .have:=ji C;subst this;rw[G.lT];rcases B.lY with⟨p,j,_,_,_,_,Q⟩|⟨_,z,Q⟩
  .rw[Q];exact g _ _ _ _ f rfl
  rw[Q];exact g _ _ _ _ f rfl
 .obtain⟨e,rfl⟩:∃e,a=.pointer e:=by cases a<;>simp_all [mm]
  cases B with|c _ _ B=>cases B;cases G with|c _ _ G=>cases G;exact D _ none f rfl
 .obtain⟨e,rfl⟩:∃e,a=.pointer e:=by cases a<;>simp_all [mm]
  cases G with|c _ _ G=>cases G;cases B with|c _ _ B=>cases B;exact D _ _ f rfl
 .obtain⟨e,rfl⟩:∃e,a=.pointer e:=by cases a<;>simp_all [mm]
  cases G with
  |c _ _ G=>
   cases G
   cases B with
   |c _ _ B=>cases B|hptr=>exact D _ _ f rfl
 .have:=zO C;subst this;cases B with|c _ _ B=>cases B;cases G with|c _ _ G=>cases G;exact J _ _ none f rfl
 .have:=zO C;subst this;cases G with|c _ _ G=>cases G;cases B with|c _ _ B=>cases B;exact J _ _ _ f rfl
 .have:=zO C;subst this
  cases G with
  |c _ _ G=>
   cases G
   cases B with
   |c _ _ B=>cases B|hmap=>exact J _ _ _ f rfl
 cases h
def Q3(J:eG P E){op:BinOp}{t:Zm}{x y z:V}{u v:Zp}(p q:Zr)(h:HH E op t x y=some z)(O:bD I μ x u)(U:bD I μ y v):
 ∃r,(do eqGuard op t p q u v;binOp op t u v).run P w=.ok r w/\bD I μ z r:=by
 unfold HH at h;split at h
 .
  rename_i k m i m';rw[O.fu,U.fu];simp only[run_bind,MC,andThen_ok];split at h
  .
   split at h
   .simp at h
   rename_i B;simp only[ζa]at h;subst h;exact⟨_,by simp[binOp,Op.shift,B],.c _ _ (.int _ _)⟩
  .split at h
   .simp at h
   rename_i B;simp only[ζa]at h;subst h;exact⟨_,by simp[binOp,Op.shift,B],.c _ _ (.int _ _)⟩
  split at h
  .rename_i T W c;subst c
   cases op with
   |shl=>exact absurd rfl T|shr=>exact absurd rfl W|add=>simp only[ζa]at h;subst h;exact⟨_,by simp[binOp,intArith],.c _ _ (.int _ _)⟩|sub=>simp only[ζa]at h;subst h;exact⟨_,by simp[binOp,intArith],.c _ _ (.int _ _)⟩|mul=>simp only[ζa]at h;subst h;exact⟨_,by simp[binOp,intArith],.c _ _ (.int _ _)⟩|quo=>
    simp only at h;split at h
    .simp at h
    rename_i B;simp only[ζa]at h;subst h;exact⟨_,by simp[binOp,Op.intDiv,B],.c _ _ (.int _ _)⟩
   |rem=>
    simp only at h;split at h
    .simp at h
    rename_i B;simp only[ζa]at h;subst h;exact⟨_,by simp[binOp,Op.intDiv,B],.c _ _ (.int _ _)⟩
   |and=>simp only[ζa]at h;subst h;exact⟨_,by simp[binOp,intBits],.c _ _ (.int _ _)⟩|or=>simp only[ζa]at h;subst h;exact⟨_,by simp[binOp,intBits],.c _ _ (.int _ _)⟩|xor=>simp only[ζa]at h;subst h;exact⟨_,by simp[binOp,intBits],.c _ _ (.int _ _)⟩|andNot=>simp only[ζa]at h;subst h;exact⟨_,by simp[binOp,intBits],.c _ _ (.int _ _)⟩|eql=>simp only[oP,map_some,ζa]at h;subst h;exact⟨_,by simp[binOp,intCmp],.c _ _ (.bool _)⟩|neq=>simp only[oP,map_some,ζa]at h;subst h;exact⟨_,by simp[binOp,intCmp],.c _ _ (.bool _)⟩|lss=>simp only[oP,map_some,ζa]at h;subst h;exact⟨_,by simp[binOp,intCmp],.c _ _ (.bool _)⟩|leq=>simp only[oP,map_some,ζa]at h;subst h;exact⟨_,by simp[binOp,intCmp],.c _ _ (.bool _)⟩|gtr=>simp only[oP,map_some,ζa]at h;subst h;exact⟨_,by simp[binOp,intCmp],.c _ _ (.bool _)⟩|geq=>simp only[oP,map_some,ζa]at h;subst h;exact⟨_,by simp[binOp,intCmp],.c _ _ (.bool _)⟩
  simp at h
 .
  rename_i s j;rw[O.tC,U.tC];simp only[run_bind,LH,andThen_ok];split at h
  .split at h
   .simp at h
   rename_i B;simp only[ζa]at h;subst h;exact⟨_,by simp only[binOp,Op.stringOp];rw[if_neg B];rfl,.c _ _ (.str _)⟩
  all_goals first
   |(simp only[ζa]at h;subst h;exact⟨_,by simp[binOp,Op.stringOp],.c _ _ (.bool _)⟩)|simp at h
 .
  rename_i b l;rw[O.q9,U.q9];simp only[run_bind,KL,andThen_ok];split at h
  next c=>have⟨d,X,D⟩:=fB c;have⟨e,a,C,_⟩:=(J.ty X).dn;rw[D]at C;have:=Jm C;subst this;simp only[ζa]at h;subst h;exact⟨_,by simp only[binOp,run_bind,CO _ _ a,andThen_ok,run_pure],.c _ _ (.bool _)⟩
  next c=>have⟨d,X,D⟩:=fB c;have⟨e,a,C,_⟩:=(J.ty X).dn;rw[D]at C;have:=Jm C;subst this;simp only[ζa]at h;subst h;exact⟨_,by simp only[binOp,run_bind,CO _ _ a,andThen_ok,run_pure],.c _ _ (.bool _)⟩
  simp at h
 .
  rename_i az n;obtain⟨o,rfl,L⟩:=O.iC;obtain⟨A,rfl,Q⟩:=U.iC;split at h
  .rename_i m G;split at h
   next g=>simp only[ζf]at h;obtain⟨r,f,rfl⟩:=h;obtain⟨Y,Z,a,C,S,rfl⟩:=wS f;obtain⟨rfl,e1⟩:=qh a L;obtain⟨rfl,e2⟩:=qh C Q;exact⟨_,(J.eqN _ _ G).eq w p q Y Z Za Za,.c _ _ (.bool _)⟩
   simp at h
  .rename_i m G;split at h
   next g=>simp only[ζf]at h;obtain⟨r,f,rfl⟩:=h;obtain⟨Y,Z,a,C,S,rfl⟩:=wS f;obtain⟨rfl,e1⟩:=qh a L;obtain⟨rfl,e2⟩:=qh C Q;exact⟨_,(J.eqN _ _ G).ne w p q Y Z Za Za,.c _ _ (.bool _)⟩
   simp at h
  simp at h

 split at h
 next k c=>simp only[ζf]at h;obtain⟨b,B,rfl⟩:=h;have⟨a,C,S,_⟩:=D_ (w:=w) J c B O U;exact⟨.bool b,by rw[run_bind,C,S];simp[andThen,a],.c _ _ (.bool _)⟩
 next k c=>simp only[ζf]at h;obtain⟨b,B,rfl⟩:=h;have⟨a,C,_,S⟩:=D_ (w:=w) J c B O U;exact⟨.bool !b,by rw[run_bind,C,S];simp[andThen,a],.c _ _ (.bool _)⟩
 simp at h
def IF(off:Nat):∀(l:aY Zp)(k:Nat)(cells:Array Zp),off+k+l.length<=cells.size->
 ((l.zipIdx k).foldl (λcs(p:Zp×Nat)=>cs.setIfInBounds (off+p.2) p.1) cells).toList=cells.toList.take (off+k)++l++cells.toList.drop (off+k+l.length):=by
 intro l
 induction l with
 |nil=>simp_all|cons v l u=>
  intro k cells h;simp at h;simp;rw[u (k+1) _ (by simp;omega)]
  simp;rw[show off+(k+1)=off+k+1 from Za,List.take_succ_eq_append_getElem Zd]
  rw[List.take_set_of_le Za,List.getElem_set_self]
  rw[List.drop_set_of_lt Za]
  grind
def KZ{cs xs:Zu}{cells:Array Zp}{v:Zp}{off:Nat}(h:cF I μ cs cells.toList)(B:cF I μ xs v.cells.toList)(G:off+xs.length<=cs.length):
 cF I μ (cs.take off++xs++cs.drop (off+xs.length)) (v.cells.zipIdx.foldl (λcs(p:Zp×Nat)=>cs.setIfInBounds (off+p.2) p.1) cells).toList:=by
 have e:v.cells.zipIdx.foldl (λcs p=>cs.setIfInBounds (off+p.2) p.1) cells=(v.cells.toList.zipIdx 0).foldl (λcs p=>cs.setIfInBounds (off+p.2) p.1) cells:=by rw[<-Array.foldl_toList];simp
 have a:=h.1;have u:=B.1;rw[e,IF off _ 0 _ Zd]
 rw[<-u];exact((h.take off).append B).append (h.drop _)
def Bl{place place':Nat->aZ (Nat×Nat)}(U:∀i p,place i=some p->place' i=some p):∀(vs:aY (Nat×V))(B:aY (Nat×Zp))(cs r:Zu)(cells:Array Zp),
 vs.length=B.length->(∀(j:Nat)x y,vs[j]?=some x->B[j]?=some y->x.1=y.1/\bD I μ x.2 y.2)->cF I μ cs cells.toList->tO place cs vs=some r->
 ∃G,fill place' cells B=some G/\cF I μ r G.toList:=by
 intro vs
 induction vs with
 |nil=>
  intro B cs r cells L _ hc w
  cases B with
  |nil=>simp[tO]at w;subst w;exact⟨cells,rfl,hc⟩|cons _ _=>simp_all
 |cons x vs Q=>
  intro B cs r cells L c hc w
  cases B with
  |nil=>simp_all|cons y B=>
   have⟨i,x⟩:=x;have⟨S,y⟩:=y;have⟨C,z⟩:=c 0 (i,x) (S,y) rfl rfl;subst C;simp only at z;simp only[tO]at w;split at w
   .simp at w
   rename_i off size D;split at w
   .simp at w
   rename_i T;have u:=z.cells;have O:x.cells.length=y.cells.size:=by simpa using u.1
   have W:cs.length=cells.size:=by simpa using hc.1
   have J:¬(decide (y.cells.size≠size)||decide (off+y.cells.size>cells.size))=true:=by grind
   simp at T;have⟨G,d,X⟩:=Q B _ r _ (by simpa using L) (λj a b p q=>c (j+1) a b (by simpa using p) (by simpa using q)) (KZ hc u Za) w
   refine⟨G,?_,X⟩;simp only[fill,U _ _ D];rw[if_neg J];omega
def Mm(ps:Array (Nat×Zr))(f:Zr->Zp):(ps.map λ(i,x)=>(i,f x)).toList=ps.toList.map λp=>(p.1,f p.2):=Zc
def EG{ps:Array (Nat×Zr)}{vs:aY (Nat×V)}(r:eE I μ n F a.tmps)(h:l_ F ps.toList=some vs):
 vs.length=(ps.map λ(i,x)=>(i,a.eval x)).toList.length/\∀(j:Nat)x y,vs[j]?=some x->(ps.map λ(i,x)=>(i,a.eval x)).toList[j]?=some y->x.1=y.1/\bD I μ x.2 y.2:=by
 have⟨u,b⟩:=Kx r h;rw[Mm]
 grind
def Ma(G:eG P E):∀(B:aY Field)(pl:aY (Nat×Nat)),mZ E (B.map λf=>(f.offset,f.type))=some pl->
 ((B.mapM λf=>do pure (f.offset,<-sizeOf f.type)):Sem (aY (Nat×Nat))).run P w=.ok pl w:=by
 intro B
 induction B with
 |nil=>intro pl h;simp[mZ]at h;simp_all|cons f B z=>
  intro pl h;simp[mZ]at h;split at h
  next d ps C u=>simp at h;subst h;have:=z _ u;simp only[List.mapM_cons,run_bind,(G.ty C).iw,andThen_ok,run_pure,this]
  grind
def KD(G:eG P E)(B:Array Field)(pl:aY (Nat×Nat))(h:mZ E (B.toList.map λf=>(f.offset,f.type))=some pl):
 ((B.mapM λf=>do pure (f.offset,<-sizeOf f.type)):Sem (Array (Nat×Nat))).run P w=.ok pl.toArray w:=by
 rw[Array.mapM_eq_mapM_toList];simp only[Sem.run_map,Ma G _ _ h,andThen_ok]
def Ou(B:eG P E)(r:eE I μ n F a.tmps){t:Zm}{ps:Array (Nat×Zr)}{x:V}(h:bK E F (.build t ps)=some x):
 ∃v,(Instr.build t (ps.map λ(i,x)=>(i,a.eval x))).run P w=.ok v w/\bD I μ x v:=by
 simp[bK]at h;split at h
 .rename_i d S T D;have⟨U,b⟩:=EG r D;have⟨z,X,u,_⟩:=(B.ty T).zq;have⟨c,f,C,Y⟩:=(B.ty T).dn;unfold Instr.build;simp[run_bind,X,Y,andThen_ok];split at h
  .rename_i fs hk;rw[hk]at C;obtain⟨Z,rfl,rfl⟩:=zF C;split at h
   .rename_i pl G;simp at h;obtain⟨J,L,rfl⟩:=h;have⟨O,g1,g2⟩:=Bl (place':=λi=>pl.toArray[i]?) Zd S _ d.zero J z.cells U b (u I μ) L
    refine⟨.agg O,?_,.FD g2⟩;have:=KD (w:=w) B Z pl G;simp_all
   grind
  .rename_i e hk;rw[hk]at C;have:=BY C;subst this;split at h
   .rename_i W Q;simp at h;obtain⟨J,L,rfl⟩:=h;have⟨O,g1,g2⟩:=Bl (place':=λi=>some (i*W.size,W.size)) Zd S _ d.zero J z.cells U b (u I μ) L
    refine⟨.agg O,?_,.FD g2⟩;simp[run_bind,(B.ty Q).iw,andThen_ok];simp_all
   grind
  grind
 grind
def pN(b o k:Nat):(⟨b,o,none⟩:Addr).add k=⟨b,o+k,none⟩:=by unfold Addr.add;grind
def E5{cs:Zu}{b o:Nat}{c:Array Zp}(k:Nat)(B:I b=some (.cells c))(G:o+cs.length<=c.size)
 (a:∀(j:Nat)y u,cs[j]?=some y->c[o+j]?=some u->eF I y u)(d:k<=cs.length):bD I μ (.fptr (cs.drop k)) (.pointer (some ⟨b,o+k,none⟩)):=
 .c _ _ (.fptr _ b (o+k) c B (by simp;omega) λj y u e w=>a (k+j) y u Zd Zd)
def Lu(O:eG P E)(r:eE I μ n F a.tmps){s:Zm}{o:Zr}{f:Nat}{x:V}(h:bK E F (.fieldAddr s o f)=some x):
 ∃v,(fieldAt s (a.eval o) f).run P w=.ok v w/\bD I μ x v:=by
 simp[bK]at h;split at h
 .rename_i fs p hk S;have⟨d,T,C⟩:=fB hk;have⟨i,m,L,U⟩:=(O.ty T).dn;rw[C]at L;obtain⟨W,rfl,rfl⟩:=zF L;have j:=dh r S;split at h
  .rename_i off t Q;simp at Q;obtain⟨g,X,rfl,rfl⟩:=Q;have z:W[f]?=some g:=by grind
   split at h
   .rename_i dt D;split at h
    .simp_all
    rename_i G;have B:∀(b u:Nat),(fieldAt s (.pointer (some ⟨b,u,none⟩)) f).run P w=.ok (.pointer (some ⟨b,u+g.offset,none⟩)) w:=by intro b u;unfold fieldAt;simp[run_bind,U,andThen_ok,z,sureAddr,run_pure,fieldPlace,(O.ty D).iw,if_neg G,pN]
    split at h
    .split at h
     next J=>simp at h;subst h;have⟨b,u,c,e,Y,Z,k⟩:=j.l8;rw[e];exact⟨_,B b u,E5 _ Y Z k J⟩
     grind
    .rename_i id el u;simp at h;have⟨p,l,e⟩:=j.sY;rw[e];have:=bD.hptr (I:=I) id el (u+g.offset) p l
     grind
    grind
   grind
  grind
 grind
def OJ(G:eG P E)(r:eE I μ n F a.tmps){s:Zm}{o:Zr}{f:Nat}{x:V}(h:bK E F (.field s o f)=some x):
 ∃v,(Instr.field s (a.eval o) f).run P w=.ok v w/\bD I μ x v:=by
 simp[bK]at h;split at h
 .rename_i fs Z hk O;have⟨d,Q,B⟩:=fB hk;have⟨b,i,J,S⟩:=(G.ty Q).dn;rw[B]at J;obtain⟨T,rfl,rfl⟩:=zF J;have⟨vs,e,C⟩:=(dh r O).iC;rw[e];split at h
  .rename_i off t L;simp at L;obtain⟨c,U,rfl,rfl⟩:=L;have z:T[f]?=some c:=by grind
   split at h
   next j D=>simp[ζg]at h;have⟨q,W,X⟩:=h;have⟨u,g,Y⟩:=G7 (w:=w) (G.ty D) C W X;refine⟨u,?_,Y⟩;unfold Instr.field;simp[run_bind,S,andThen_ok,z,asAgg,run_pure,g]
   grind
  grind
 grind
def lI(k:Zs)(m:Int):(asIntOf (.int k m)).run P w=.ok (k,m) w:=rfl
def JK(U:eG P E)(r:eE I μ n F a.tmps){t:Zm}{o i:Zr}{x:V}(h:bK E F (.indexAddr t o i)=some x):
 ∃v,(indexAt t (a.eval o) (a.eval i)).run P w=.ok v w/\bD I μ x v:=by
 simp[bK]at h;split at h
 .
  rename_i e s k m H X Y;have⟨d,Z,G⟩:=fB H;have⟨l,h1,Q,K⟩:=(U.ty Z).dn;rw[G]at Q;have:=ji Q;subst this;have A:=dh r X;have J:=(dh r Y).fu;rw[J];split at h
  .rename_i T L;split at h
   .simp_all
   have B:∀(b z len f:Nat),m.toNat<len->(indexAt t (.slice (some ⟨b,z,none⟩) len f) (.int k m)).run P w=.ok (.pointer (some ⟨b,z+m.toNat*T.size,none⟩)) w:=by intro b z len f C;unfold indexAt;have hc:0<=m/\m<(len):=Za;simp[run_bind,lI,K,andThen_ok,run_pure,(U.ty L).iw,run_ite,if_pos hc,pN]
   split at h
   .rename_i es xs;split at h
    .rename_i D;simp only[ζf]at h;obtain⟨W,O,rfl⟩:=h;have C:m.toNat<xs.length:=(ζe.1 O).1;have hf:=A.lX;generalize hg:a.eval o=g at hf
     cases hf with
     |fsl0=>simp_all|fsl _ _ b z f c R hc hu ho N hr=>refine⟨_,B b z _ _ C,?_⟩;have S:W∈xs:=mem_of_getElem? O;have ad:=hu W S;have aa:(m.toNat+1)*es<=xs.length*es:=mul_le_mul_right _ C;rw[add_mul]at aa;rw[<-D];exact .c _ _ (.fptr W b _ c R Za λj y u p q=>hr m.toNat j W y u O p q)
    grind
   .rename_i id es off len;split at h
    .rename_i D;simp only[ζa]at h;have⟨D,C⟩:=D;rcases A.lY with⟨p,f,M,he,hc,N,e⟩|⟨h0,_⟩
     .rw[e];have:=bD.hptr (I:=I) (μ:=μ) id (off+m.toNat) 0 p M
      grind
     omega
    grind
   grind
  grind
 .
  rename_i len e p k m H X Y;have⟨d,Z,G⟩:=fB H;have⟨l,h1,Q,K⟩:=(U.ty Z).dn;rw[G]at Q;have:=BY Q;subst this;have A:=dh r X;have J:=(dh r Y).fu;rw[J];split at h
  .rename_i T L;split at h
   .rename_i hc;have B:∀(b z:Nat),(indexAt t (.pointer (some ⟨b,z,none⟩)) (.int k m)).run P w=.ok (.pointer (some ⟨b,z+m.toNat*T.size,none⟩)) w:=by
     intro b z;unfold indexAt;simp only[run_bind,lI,K,andThen_ok,run_pure,sureAddr,(U.ty L).iw,run_ite,if_pos hc,pN]
    split at h
    .split at h
     next ab=>simp only[ζa]at h;subst h;have⟨b,z,c,e,R,N,hr⟩:=A.l8;rw[e];exact⟨_,B b z,E5 _ R N hr ab⟩
     grind
    .rename_i id el z;simp only[ζa]at h;have⟨p,M,e⟩:=A.sY;rw[e];have:=bD.hptr (I:=I) (μ:=μ) id el (z+m.toNat*T.size) p M
     grind
    grind
   grind
  grind
 grind
def Pr(G:eG P E)(r:eE I μ n F a.tmps){t:Zm}{o i:Zr}{x:V}(h:bK E F (.index t o i)=some x):
 ∃v,(Instr.index t (a.eval o) (a.eval i)).run P w=.ok v w/\bD I μ x v:=by
 simp[bK]at h;split at h
 .rename_i s k m hk D J;have⟨d,L,z⟩:=fB hk;have⟨c,f,B,O⟩:=(G.ty L).dn;rw[z]at B;have:=zG B;subst this;rw[(dh r J).fu,(dh r D).tC];split at h
  next hc=>simp at h;obtain⟨b,S,rfl⟩:=h;refine⟨.int .u8 b.toNat,?_,.c _ _ (.int _ _)⟩;unfold Instr.index;simp[run_bind,lI,O,andThen_ok,if_pos hc,S,run_pure]
  grind
 .rename_i len e X k m hk D J;have⟨d,L,z⟩:=fB hk;have⟨c,f,B,O⟩:=(G.ty L).dn;rw[z]at B;have:=BY B;subst this;have⟨Y,ev,Q⟩:=(dh r D).iC;rw[(dh r J).fu,ev];split at h
  .rename_i Z C;split at h
   next hc=>simp[ζg]at h;have⟨q,T,U⟩:=h;have⟨u,g,W⟩:=G7 (w:=w) (G.ty C) Q T U;refine⟨u,?_,W⟩;unfold Instr.index;simp[run_bind,lI,O,andThen_ok,run_ite,if_pos hc,(G.ty C).iw,g]
   grind
  grind
 grind
def Kp(B:eG P E)(r:eE I μ n F a.tmps){s d:Zm}{o:Zr}{x:V}(h:bK E F (.convert s d o)=some x):
 ∃v,(convert s d (a.eval o)).run P w=.ok v w/\bD I μ x v:=by
 simp[bK]at h;split at h
 .rename_i J L k m z C D;split at h
  next O b=>simp at h;subst h;have⟨c,g1,_,g3⟩:=(B.ty z).dn;have⟨e,f,u,G⟩:=(B.ty C).dn;rw[b]at u;have:=B6 u;subst this;rw[(dh r D).fu];refine⟨_,?_,.c _ _ (.int _ _)⟩;unfold convert;simp[run_bind,g3,G,andThen_ok,Conv.intToInt,run_pure]
  grind
 grind
def pI(r:eE I μ n F a.tmps){o:aZ Zr}{m:Z6}(h:jP F o=some m):
 (m=none/\o.map a.eval=none)\/∃k z,m=some z/\o.map a.eval=some (.int k z):=by
 cases o with
 |none=>simp[jP]at h;grind|some x=>
  simp[jP]at h;split at h
  next k z u=>simp at h;subst h;exact .inr ⟨k,z,rfl,by simp[(dh r u).fu]⟩
  grind
def mF(k:Zs)(z:Int)(y:Nat)(code:BoundsCode)(a:0<=z)(b:z<=y):(sliceBound (.int k z) y code).run P w=.ok z.toNat w:=by unfold sliceBound;simp[run_bind,lI,andThen_ok,if_pos (And.intro a b),run_pure]
def lS(r:eE I μ n F a.tmps){O U:aZ Zr}{l h:Z6}(e1:jP F O=some l)(e2:jP F U=some h)(G:Zl)(len b L H:Nat)(hc:len<=b)
 (B:dR len l h=some (L,H)):(sliceBounds G len b (O.map a.eval) (U.map a.eval) none).run P w=.ok (L,H,b) w/\L<=H/\H<=len:=by
 unfold dR at B;simp only at B;split at B
 .rename_i u;obtain⟨rfl,rfl⟩:=B;have⟨D,T,J,W⟩:=u;refine⟨?_,Za,Za⟩
  unfold sliceBounds;rcases pI r e1 with⟨rfl,Q⟩|⟨k1,C,rfl,Q⟩<;>rcases pI r e2 with⟨rfl,S⟩|⟨k2,z,rfl,S⟩<;>
   simp only[Q,S,getD_some]at D T J W⊢
  .simp_all
  .simp only[run_pure,andThen_ok,run_bind,mF k2 z _ _ D (show z<=b by omega)]
   simp
  .simp only[run_pure,andThen_ok,run_bind,mF k1 C _ _ J (show C<=len by omega)]
   simp
  simp[run_pure,andThen_ok,run_bind,mF k2 z _ _ D (show z<=b by omega),mF k1 C _ _ J (show C<=z.toNat by omega)]
 grind
def Dt{es:Nat}{xs:Zt}{v:Zp}{L H:Nat}(h:eF I (.fsl es xs) v)(d:L<=H)(G:H<=xs.length):
 ∃B len a,v=.slice B len a/\len=xs.length/\len<=a/\eF I (.fsl es ((xs.take H).drop L)) (.slice (if a=L then B else B.map (·.add (L*es))) (H-L) (a-L)):=by
 cases h with
 |fsl0 _ B a=>
  simp at G;have z:L=0:=Za
  subst G;subst z;refine⟨some B,0,a,rfl,rfl,zero_le _,?_⟩;have:=eF.fsl0 (I:=I) es B a;split
  .grind
  simpa[Addr.add]using eF.fsl0 es (B.add (0*es)) a
 |fsl _ _ b o a c C hc hu D O hr=>
  refine⟨_,_,a,rfl,rfl,hc,?_⟩;have u:((xs.take H).drop L).length=H-L:=Ze
  by_cases J:H-L=0
  .have:(xs.take H).drop L=[]:=List.eq_nil_of_length_eq_zero Zd
   rw[this,J];split
   .exact .fsl0 es _ _
   exact .fsl0 es _ _
  simp[pN];have e:eF I (.fsl es ((xs.take H).drop L)) (.slice (some ⟨b,o+L*es,none⟩) ((xs.take H).drop L).length (a-L)):=by refine .fsl es _ b (o+L*es) (a-L) c C Zd (λx w=>hu x (mem_of_mem_take (mem_of_mem_drop w))) (λx w=>D x (mem_of_mem_take (mem_of_mem_drop w))) ?_ ?_;rw[u];have:L*es+(H-L)*es<=xs.length*es:=(by rw[<-add_mul];exact mul_le_mul_right _ Za);omega;grind
  grind
def Oa(j:eG P E)(r:eE I μ n F a.tmps){t:Zm}{o:Zr}{m y i:aZ Zr}{x:V}(h:bK E F (.slice t o m y i)=some x):
 ∃v,(sliceAt t (a.eval o) (m.map a.eval) (y.map a.eval) (i.map a.eval)).run P w=.ok v w/\bD I μ x v:=by
 simp[bK]at h;split at h
 .
  rename_i s l hh A K U C S;obtain⟨d,M,T⟩:=fB A;obtain⟨f,h1,Y,h3⟩:=(j.ty M).dn;rw[T]at Y;have:=zG Y;rw[(dh r K).tC];simp only[ζf]at h;obtain⟨⟨L,H⟩,G,rfl⟩:=h;obtain⟨g,_,_⟩:=lS (P:=P) (w:=w) r U C false s.size s.size L H (le_refl _) G;have hm:i.map a.eval=none:=by rcases pI r S with⟨_,q⟩|⟨k,z,e,_⟩;exact q;cases e
  refine⟨.string (s.extract L H),?_,.c _ _ (.str _)⟩;unfold sliceAt Instr.slice;simp_all
 .rename_i e v l hh A K U C S;obtain⟨d,M,T⟩:=fB A;obtain⟨f,h1,Y,h3⟩:=(j.ty M).dn;rw[T]at Y;have:=ji Y;subst this;have c:=dh r K;have hm:i.map a.eval=none:=by rcases pI r S with⟨_,q⟩|⟨k,z,e,_⟩;exact q;cases e
  have B:∀(D:aZ Addr)(len b L H:Nat)(J:TD),E.tt e=some J->len<=b->dR len l hh=some (L,H)->
   (sliceAt t (.slice D len b) (m.map a.eval) (y.map a.eval) (i.map a.eval)).run P w=.ok (.slice (if b=L then D else D.map (·.add (L*J.size))) (H-L) (b-L)) w:=by
   intro D len b L H J u hc G;obtain⟨g,_,_⟩:=lS (P:=P) (w:=w) r U C true len b L H hc G;unfold sliceAt Instr.slice;simp[run_bind,h3,andThen_ok,hm,g,(j.ty u).iw,run_pure]
  split at h
  .rename_i J u;split at h
   .rename_i es xs;split at h
    next Z=>simp only[ζf]at h;obtain⟨⟨L,H⟩,G,rfl⟩:=h;obtain⟨_,W,X⟩:=lS (P:=P) (w:=w) r U C true xs.length xs.length L H (le_refl _) G;obtain⟨D,len,b,e1,e2,e3,e4⟩:=Dt c.lX W X;rw[e1];subst e2;refine⟨_,B D _ b L H J u e3 G,?_⟩;rw[<-Z];exact .c _ _ e4
    grind
   .rename_i id es off len;split at h
    .rename_i Z;simp only[ζf]at h;obtain⟨⟨L,H⟩,G,rfl⟩:=h;obtain⟨_,W,X⟩:=lS (P:=P) (w:=w) r U C true len len L H (le_refl _) G;rcases c.lY with⟨p,b,aa,he,hc,ab,O⟩|⟨h0,D,O⟩
     .rw[O];refine⟨_,B _ _ b L H J u hc G,?_⟩
      by_cases hz:b=L
      .have:H-L=0:=by omega
       rw[if_pos hz,this,show b-L=0 by omega]
       exact .hsl0 id es (off+L) _
      rw[if_neg hz];simp only[map_some,pN];rw[<-Z];subst he;have:=bD.hsl (I:=I) (μ:=μ) id (off+L) (H-L) (b-L) p aa Za (by
       have:off+L+(b-L)=off+b:=Za
       rw[this];exact ab)
      rwa [add_mul,<-add_assoc]at this
     rw[O];subst h0;refine⟨_,B _ _ 0 L H J u (le_refl _) G,?_⟩;have N:L=0:=Za
     have R:H=0:=Za
     subst N;subst R;simpa using bD.hsl0 id es (off+0) D
    grind
   .simp only[ζf]at h;obtain⟨⟨L,H⟩,G,rfl⟩:=h;obtain⟨_,W,X⟩:=lS (P:=P) (w:=w) r U C true 0 0 L H (le_refl _) G;obtain⟨D,O⟩:=c.rU;rw[O];refine⟨_,B D 0 0 L H J u (le_refl _) G,?_⟩;have N:L=0:=by omega
    have R:H=0:=Za
    subst N;subst R;exact .c _ _ (.dw _)
   .simp only[ζf]at h;obtain⟨⟨L,H⟩,G,rfl⟩:=h;obtain⟨_,W,X⟩:=lS (P:=P) (w:=w) r U C true 0 0 L H (le_refl _) G;have O:=c.lT;rw[O];refine⟨_,B none 0 0 L H J u (le_refl _) G,?_⟩;have N:L=0:=by omega
    have R:H=0:=Za
    subst N;subst R;exact .c _ _ .bG
   grind
  grind
 .rename_i e v A K U C S;obtain⟨d,M,T⟩:=fB A;obtain⟨f,h1,Y,h3⟩:=(j.ty M).dn;rw[T]at Y;have:=ji Y;subst this;have c:=dh r K;have q1:m.map a.eval=none:=by rcases pI r U with⟨_,q⟩|⟨k,z,e,_⟩;exact q;cases e
  obtain⟨k2,q2⟩:∃k,y.map a.eval=some (.int k 0):=by rcases pI r C with⟨q,_⟩|⟨k,z,e,q⟩;cases q;cases e;exact⟨k,q⟩
  obtain⟨k3,q3⟩:∃k,i.map a.eval=some (.int k 0):=by rcases pI r S with⟨q,_⟩|⟨k,z,e,q⟩;cases q;cases e;exact⟨k,q⟩
  have B:∀(D:aZ Addr)(len b:Nat)(J:TD),E.tt e=some J->∃Q,(sliceAt t (.slice D len b) (m.map a.eval) (y.map a.eval) (i.map a.eval)).run P w=.ok (.slice Q 0 0) w:=by intro D len b J u;refine⟨D,?_⟩;unfold sliceAt Instr.slice sliceBounds;simp only[run_bind,h3,andThen_ok,q1,q2,q3,mF k3 0 b _ (Int.le_refl _) Za,mF k2 0 _ _ (Int.le_refl _) Zc,(j.ty u).iw];simp
  split at h
  next J es xs u=>simp at h;subst h;obtain⟨D,len,b,e1,_⟩:=Dt c.lX (le_refl _) (zero_le _);rw[e1];obtain⟨Q,g⟩:=B D len b _ u;exact⟨_,g,.c _ _ (.dw _)⟩
  .rename_i J id es off len u;simp at h;subst h;rcases c.lY with⟨p,b,_,_,_,_,O⟩|⟨_,D,O⟩
   .rw[O];obtain⟨Q,g⟩:=B _ _ _ _ u;exact⟨_,g,.c _ _ (.dw _)⟩
   rw[O];obtain⟨Q,g⟩:=B _ _ _ _ u;exact⟨_,g,.c _ _ (.dw _)⟩
  next J u=>simp at h;subst h;obtain⟨D,O⟩:=c.rU;rw[O];obtain⟨Q,g⟩:=B _ _ _ _ u;exact⟨_,g,.c _ _ (.dw _)⟩
  next J u=>simp only[ζa]at h;subst h;have O:=c.lT;rw[O];obtain⟨Q,g⟩:=B _ _ _ _ u;exact⟨_,g,.c _ _ (.dw _)⟩
  simp at h
 grind
def cF.one{x:V}{vs:aY Zp}(h:cF I μ [x] vs):∃v,vs=[v]/\bD I μ x v:=by obtain⟨v,r,rfl,a,b⟩:=h.cons_inv;exact⟨v,by rw[b.uZ],a⟩
def cF.two{x y:V}{vs:aY Zp}(h:cF I μ [x,y] vs):∃u v,vs=[u,v]/\bD I μ x u/\bD I μ y v:=by obtain⟨u,r,rfl,a,b⟩:=h.cons_inv;obtain⟨v,rfl,c⟩:=b.one;exact⟨u,v,rfl,a,c⟩
def cF.four{x y z t:V}{vs:aY Zp}(h:cF I μ [x,y,z,t] vs):∃u v p q,vs=[u,v,p,q]/\bD I μ x u/\bD I μ y v/\bD I μ z p/\bD I μ t q:=by obtain⟨u,r,rfl,b,a⟩:=h.cons_inv;obtain⟨v,r2,rfl,c,a⟩:=a.cons_inv;obtain⟨p,q,rfl,w,B⟩:=a.two;exact⟨u,v,p,q,rfl,b,c,w,B⟩
theorem rW{args:Array Zr}{l:aY Zp}(h:args.toList.map a.eval=l):args.map a.eval=l.toArray:=by subst h;apply ext';simp
def wQ:aZ TK->V->aZ V
 |some .str,.str s=>some (.int .i64 s.size)|some (.slice _),.fsl _ xs=>some (.int .i64 xs.length)|some (.slice _),.hsl _ _ _ len=>some (.int .i64 len)|some (.slice _),.dw=>some (.int .i64 0)|some (.slice _),.bG=>some (.int .i64 0)|_,_=>none
def UM(U:eG P E){t:Zm}{x z:V}{v:Zp}{ty:Zm}{G:Array Zm}(J:G[0]?=some t)(O:bD I μ x v)
 (h:wQ (E.kindOf t) x=some z):∃u,(len_ G ty #[v]).run P w=.ok u w/\bD I μ z u:=by
 cases b:E.kindOf t with
 |none=>rw[b]at h;simp[wQ]at h|some k=>
  rw[b]at h;have⟨d,W,Q⟩:=fB b;have⟨c,g,S,T⟩:=(U.ty W).dn;rw[Q]at S
  cases k with
  |str=>
   have:=zG S;subst this
   cases x with
   |str s=>simp only[wQ,ζa]at h;subst h;rw[O.tC];refine⟨_,?_,.c _ _ (.int _ _)⟩;unfold len_;simp[J,T,goInt]|_=>simp[wQ]at h
  |slice e=>
   have:=ji S;subst this;have B:∀C(len a:Nat),(len_ G ty #[.slice C len a]).run P w=.ok (.int .i64 len) w:=by intro C len a;unfold len_;simp[J,T,goInt]
   cases x with
   |fsl es X=>simp only[wQ,ζa]at h;subst h;have⟨C,len,a,e1,e2,_⟩:=Dt (L:=0) (H:=0) O.lX (le_refl _) (zero_le _);rw[e1,<-e2];exact⟨_,B _ _ _,.c _ _ (.int _ _)⟩|hsl id es off len=>
    simp only[wQ,ζa]at h;subst h;rcases O.lY with⟨p,a,_,_,_,_,D⟩|⟨f,C,D⟩
    .rw[D];exact⟨_,B _ _ _,.c _ _ (.int _ _)⟩
    rw[D,f];exact⟨_,B _ _ _,.c _ _ (.int _ _)⟩
   |dw=>simp only[wQ,ζa]at h;subst h;have⟨C,D⟩:=O.rU;rw[D];exact⟨_,B _ _ _,.c _ _ (.int _ _)⟩|bG=>simp only[wQ,ζa]at h;subst h;rw[O.lT];exact⟨_,B _ _ _,.c _ _ (.int _ _)⟩|_=>simp[wQ]at h
  |_=>simp[wQ]at h
def T6:aZ TK->V->aZ V
 |some (.slice _),.bG=>some (.int .i64 0)|some (.slice _),.dw=>some (.int .i64 0)|_,_=>none
def Uj(O:eG P E){t:Zm}{x z:V}{v:Zp}{ty:Zm}{B:Array Zm}(G:B[0]?=some t)(J:bD I μ x v)
 (h:T6 (E.kindOf t) x=some z):∃u,(cap_ B ty #[v]).run P w=.ok u w/\bD I μ z u:=by
 have key:∀e C,E.kindOf t=some (.slice e)->v=.slice C 0 0->(cap_ B ty #[v]).run P w=.ok (.int .i64 0) w:=λe C a c=>by have⟨d,Q,D⟩:=fB a;have⟨b,f,L,S⟩:=(O.ty Q).dn;rw[D]at L;have:=ji L;subst this;unfold cap_;simp[G,S,goInt,c]
 unfold T6 at h;split at h
 next _ _ e a=>cases h;exact⟨_,key _ _ a J.lT,.c _ _ (.int _ _)⟩
 next _ _ e a=>cases h;have⟨C,q⟩:=J.rU;exact⟨_,key _ _ a q,.c _ _ (.int _ _)⟩
 cases h
def dI{s:Sem Zp}{v:Zp}{w':World}(h:s.run P w=.ok v w'):(do pure (Next.value (<-s)):Sem Next).run P w=.ok (.value v) w':=by rw[run_bind,h];rfl
def SY(G:eG P E)(r:eE I μ n F a.tmps)(o:Oper){x:V}(h:bK E F o.op=some x):
 ∃v,(execOp a.eval o).run P w=.ok (.value v) w/\bD I μ x v:=by
 obtain⟨dst,op,ty,pos,after,M⟩:=o;simp only at h
 cases op with
 |move y=>exact⟨_,rfl,dh r (by simpa[bK]using h)⟩|assign y=>exact⟨_,rfl,dh r (by simpa[bK]using h)⟩|pick c y z=>
  simp only[bK]at h;simp only[execOp];split at h
  .rename_i t hc;have e:=(dh r hc).q9;simp only[e,asBool,run_bind,run_pure,andThen_ok]
   cases t with
   |true=>simp only[if_true]at h⊢;exact⟨_,rfl,dh r h⟩|false=>simp only[false_eq_true,if_false]at h⊢;exact⟨_,rfl,dh r h⟩
  simp at h
 |nilCheck y=>
  simp only[bK]at h;simp only[execOp];split at h
  next id el off D=>simp only[ζa]at h;subst h;have g:=dh r D;obtain⟨p,_,e⟩:=g.sY;rw[e]at g⊢;exact⟨_,rfl,g⟩
  next Z D=>simp only[ζa]at h;subst h;have g:=dh r D;obtain⟨b,o,c,e,_⟩:=g.l8;rw[e]at g⊢;exact⟨_,rfl,g⟩
  next f u v D=>simp only[ζa]at h;subst h;have g:=dh r D;obtain⟨b,c,e,_⟩:=g.jQ;rw[e]at g⊢;exact⟨_,rfl,g⟩
  simp at h
 |binOp op t y z yt=>
  simp only[bK]at h;split at h
  next u v A g=>obtain⟨q,O,H⟩:=Q3 (w:=w) G y z h (dh r A) (dh r g);exact⟨q,dI O,H⟩
  simp at h
 |unOp op t y=>
  simp only[bK]at h;simp only[execOp];split at h
  next b D=>simp only[ζa]at h;subst h;rw[(dh r D).q9];exact⟨_,dI (by simp only[Op.unary];rfl),.c _ _ (.bool _)⟩
  next k m D=>simp only[ζa]at h;subst h;rw[(dh r D).fu];exact⟨_,dI (by simp only[Op.unary,intArith];rfl),by simpa using bD.c _ _ (.int k _)⟩
  simp at h
 |convert s d y=>obtain⟨v,l,C⟩:=Kp (w:=w) G r h;exact⟨v,dI l,C⟩|fieldAddr s y f=>obtain⟨v,l,C⟩:=Lu (w:=w) G r h;exact⟨v,dI l,C⟩|field s y f=>obtain⟨v,l,C⟩:=OJ (w:=w) G r h;exact⟨v,dI l,C⟩|indexAddr t y i=>obtain⟨v,l,C⟩:=JK (w:=w) G r h;exact⟨v,dI l,C⟩|index t y i=>obtain⟨v,l,C⟩:=Pr (w:=w) G r h;exact⟨v,dI l,C⟩|slice t y lo hi mx=>obtain⟨v,l,C⟩:=Oa (w:=w) G r h;exact⟨v,dI l,C⟩|build t ps=>obtain⟨v,l,C⟩:=Ou (w:=w) G r h;exact⟨v,dI l,C⟩|makeFunc f u v=>
  cases f with
  |func f=>
   simp only[bK]at h;split at h
   next Q x2 l C=>simp only[ζa]at h;subst h;have r1:=nF r l;have r2:=nF r C;refine⟨.func (.func f) (u.map a.eval) (v.map a.eval),rfl,?_⟩;refine .clo f _ _ _ _ (by simpa using r1.1) (by simpa using r2.1) (λj p q s t=>r1.2 j p q s (by simpa using t)) (λj p q s t=>r2.2 j p q s (by simpa using t))
   simp at h
  |_=>simp[bK]at h
 |extract y i=>
  simp only[bK]at h;simp only[execOp];split at h
  .rename_i vs D;obtain⟨S,e,T⟩:=(dh r D).qg;rw[e];have U:=(ζe.1 h).1;have J:i<S.size:=by have:=T.1;simp at this;omega
   refine⟨S[i],dI (by simp[Instr.extract,J]),T.2 i x _ h (by simp[J])⟩
  simp at h
 |call c=>
  obtain⟨callee,args,W⟩:=c
  cases callee with
  |builtin b=>
   simp only[bK]at h;simp only[execOp,resolve,run_bind,run_pure,andThen_ok,invoke];split at h
   .rename_i v t B L;obtain⟨u,A,H⟩:=(nF r B).one;rw[rW A];obtain⟨q,l,C⟩:=UM (w:=w) (ty:=ty) G L H (by rw[<-h];rfl)
    exact⟨q,by simp only[builtin];exact dI l,C⟩
   .rename_i v t B L;obtain⟨u,A,H⟩:=(nF r B).one;rw[rW A];obtain⟨q,l,C⟩:=Uj (w:=w) (ty:=ty) G L H (by rw[<-h];rfl)
    exact⟨q,by simp only[builtin];exact dI l,C⟩
   .rename_i k Q X x2 B;split at h
    next K=>simp only[ζa]at h;subst h;subst K;obtain⟨u,v,e,A,g⟩:=(nF r B).two;rw[rW e,A.fu,g.fu];exact⟨_,by simp only[builtin];exact dI (by simp[max_,max2]),.c _ _ (.int _ _)⟩
    simp at h
   .rename_i k Q k1 x2 k2 x3 k3 x4 B;split at h
    next K=>simp only[ζa]at h;subst h;obtain⟨rfl,rfl,rfl⟩:=K;obtain⟨u,v,p,q,e,A,g,Y,O⟩:=(nF r B).four;rw[rW e,A.fu,g.fu,Y.fu,O.fu];exact⟨_,by simp only[builtin];exact dI (by simp[max_,max2,Bo]),.c _ _ (.int _ _)⟩
    simp at h
   .rename_i k Q X x2 B;split at h
    next K=>simp only[ζa]at h;subst h;subst K;obtain⟨u,v,e,A,g⟩:=(nF r B).two;rw[rW e,A.fu,g.fu];exact⟨_,by simp only[builtin];exact dI (by simp[min_,min2]),.c _ _ (.int _ _)⟩
    simp at h
   simp at h
  |_=>simp[bK]at h
 |_=>simp[bK]at h
end
structure fT(I:cn)(μ:Mu)(p:Pl)(c:Array Value)(es:Nat)(xs:List (List V)):Prop where
 es_eq:p.es=es
 sz:c.size=p.sz
 o6:∀x∈xs,x.length=es
 one:∀x∈xs,∀y∈x,V.one y=true
 room:p.o+xs.length*es<=c.size
 rel:cF I μ xs.flatten ((c.toList.drop p.o).take (xs.length*es))
def uT(I:cn)(μ:Mu)(B:aY (V×V))(es:Array MapEntry):Prop:=B.length=es.size/\∀(j:Nat)q e,B[j]?=some q->es[j]?=some e->bD I μ q.1 e.key/\bD I μ q.2 e.val
def Bg.is:Bg->LoopState->Prop
 |.ready,.ready|.busy,.busy|.done,.done=>True|_,_=>False
structure vg(I:cn)(μ:Mu)(r:ve)(l:Loop):Prop where
 st:r.st.is l.state
 pend:l.pending=r.pend.bind kQ
 pendOk:r.pend≠some .norm
 frame:eE I μ r.nt r.frame l.tmps
 params:l.params.toList=r.params
 assign:l.assign=r.assign
 body:l.body=r.body
def Ob.live:Ob->Zl
 |.row ..|.map _|.loop _=>true|_=>false
def sK(I:cn)(μ:Mu)(w:World)(id:Nat):Ob->Prop
 |.free=>μ id=none|.dead=>True|.row es xs=>∃p c el,μ id=some p/\I p.b=none/\w.heap[p.b]?=some (.cells c el)/\fT I μ p c es xs|.frz es xs=>∃p c,μ id=some p/\I p.b=some (.cells c)/\fT I μ p c es xs|.map B=>∃p es a,μ id=some p/\I p.b=none/\w.heap[p.b]?=some (.map es a)/\uT I μ B es|.loop r=>∃p l,μ id=some p/\I p.b=none/\w.heap[p.b]?=some (.loop l)/\vg I μ r l
structure cO(I:cn)(μ:Mu)(H:bl)(w:World):Prop where
 dom:∀id,H.length<=id->μ id=none
 imm:∀b x,I b=some x->x.at w b
 obs:∀id ob,H[id]?=some ob->sK I μ w id ob
 inj:∀id id' ob ob' p p',H[id]?=some ob->H[id']?=some ob'->ob.live=true->ob'.live=true->μ id=some p->μ id'=some p'->p.b=p'.b->id=id'
 gl:tT I
def gY(μ:Mu)(H:bl)(b:Nat):Prop:=∃id p ob,H[id]?=some ob/\ob.live=true/\μ id=some p/\p.b=b
def Obj.nf(o:Obj):Prop:=∀c t fr,o=.cells c t fr->fr=(0,0)
def tg(c:Array Zp)(t:Zm):Obj.nf (.cells c t):=λ_ _ _ h=>Zd
def qV{o:Obj}(h:(match o with|.cells ..=>false|_=>true)=true):Obj.nf o:=λc t fr e=>Zd
theorem CC{w w':World}{o:Obj}{b:Nat}(B:Obj.nf o)(d:w'.heap[b]?=some o)(G:∀k,k≠b->w'.heap[k]?=w.heap[k]?)(a:Addr)(h:w.frozen? a=false):w'.frozen? a=false:=by by_cases e:a.block=b;unfold frozen?;rw[e,d];split;rename_i c t z C u;cases u;have:=B _ _ _ rfl;grind;rfl;grind[frozen?]
structure uJ(w w':World):Prop where
 out:w'.output=w.output
 tape:w'.tape=w.tape
 dr:w.drawn<=w'.drawn
def uJ.refl(w:World):uJ w w:=⟨rfl,rfl,le_refl _⟩
def uJ.trans{w w' w'':World}(h:uJ w w')(B:uJ w' w''):uJ w w'':=⟨B.out.trans h.out,B.tape.trans h.tape,le_trans h.dr B.dr⟩
structure Step(I:cn)(μ:Mu)(H:bl)(w:World)(I':cn)(μ':Mu)(H':bl)(w':World):Prop where
 le:cn.le I I'
 mu:Mu.le μ μ'
 len:H.length<=H'.length
 size:w.heap.size<=w'.heap.size
 frame:∀b,b<w.heap.size->¬gY μ H b->w'.heap[b]?=w.heap[b]?
 terr:∀b,((I' b).isSome=true\/gY μ' H' b)->(I b).isSome=true\/gY μ H b\/w.heap.size<=b
 os:w'.os=w.os
 out:uJ w w'
 fz:∀a:Addr,a.block<w.heap.size->w.frozen? a=false->w'.frozen? a=false
section
variable{I I' I'':cn}{μ μ' μ'':Mu}{H H' H'':bl}{w w' w'':World}{P:Program}{E:Env}{n:Nat}{F:Zo}{a:Act}
def IC.uM{x:IC}{b:Nat}(h:x.at w b):b<w.heap.size:=by cases x with|cells c=>have⟨_,_,h⟩:=h;grind|map es=>have⟨_,h⟩:=h;grind
def IC.rN{x:IC}{b:Nat}(h:x.at w b)(e:w'.heap[b]?=w.heap[b]?):x.at w' b:=by cases x with|cells c=>have⟨el,fr,h⟩:=h;exact⟨el,fr,Zd⟩|map es=>have⟨a,h⟩:=h;exact⟨a,Zd⟩
def Step.refl(I:cn)(μ:Mu)(H:bl)(w:World):Step I μ H w I μ H w:=⟨cn.le_refl _,Mu.le_refl _,le_refl _,le_refl _,λ_ _ _=>rfl,λ_ h=>h.elim .inl λh=>.inr (.inl h),rfl,.refl _,λ_ _ h=>h⟩
theorem fR(s:cO I μ H w){b:Nat}(h:gY μ H b):I b=none:=by obtain⟨id,p,ob,h1,C,D,rfl⟩:=h;have:=s.obs id ob h1;cases ob with|row es G=>have⟨q,c,el,u,z,_⟩:=this;grind|map B=>have⟨q,c,el,u,z,_⟩:=this;grind|loop r=>have⟨q,c,u,z,_⟩:=this;grind|_=>grind[Ob.live]
theorem mV(s:cO I μ H w){b:Nat}(h:gY μ H b):b<w.heap.size:=by obtain⟨id,p,ob,h1,D,G,rfl⟩:=h;have:=s.obs id ob h1;cases ob with|row es J=>have⟨q,c,el,u,z,B,_⟩:=this;grind|map C=>have⟨q,c,el,u,z,B,_⟩:=this;grind|loop r=>have⟨q,c,u,z,B,_⟩:=this;grind|_=>grind[Ob.live]
def Step.trans(G:cO I' μ' H' w')(c:Step I μ H w I' μ' H' w')(B:Step I' μ' H' w' I'' μ'' H'' w''):Step I μ H w I'' μ'' H'' w'' where
 fz:=λa u h=>B.fz a (Nat.lt_of_lt_of_le u c.size) (c.fz a u h)
 le:=cn.le_trans c.le B.le
 mu:=λid p h=>B.mu id p (c.mu id p h)
 len:=le_trans c.len B.len
 size:=le_trans c.size B.size
 frame:=by intro b u C;rw[B.frame b (Nat.lt_of_lt_of_le u c.size) ?_,c.frame b u C];intro z;rcases c.terr b (.inr z)with h|h|h;have:=fR G z;have⟨x,D⟩:=isSome_iff_exists.1 h;rw[c.le _ _ D]at this;simp_all;all_goals grind
 terr:=by intro b h;rcases B.terr b h with h|h|h;exact c.terr b (.inl h);exact c.terr b (.inr h);exact .inr (.inr (le_trans c.size h))
 os:=B.os.trans c.os
 out:=c.out.trans B.out
def fT.mono(h:cn.le I I')(B:Mu.le μ μ'){p:Pl}{c:Array Zp}{es:Nat}{xs:Zt}(r:fT I μ p c es xs):fT I' μ' p c es xs:=⟨r.es_eq,r.sz,r.o6,r.one,r.room,r.rel.mono h B⟩
def uT.mono(h:cn.le I I')(G:Mu.le μ μ'){B:aY (V×V)}{es:Array MapEntry}(r:uT I μ B es):uT I' μ' B es:=⟨r.1,λj q e a b=>⟨(r.2 j q e a b).1.mono h G,(r.2 j q e a b).2.mono h G⟩⟩
def vg.mono(h:cn.le I I')(B:Mu.le μ μ'){r:ve}{l:Loop}(x:vg I μ r l):vg I' μ' r l:=⟨x.st,x.pend,x.pendOk,x.frame.mono h B,x.params,x.assign,x.body⟩
def sK.mono(h:cn.le I I')(B:Mu.le μ μ'){id:Nat}{ob:Ob}(r:sK I μ w id ob)
 (G:∀p,μ id=some p->ob.live=true->w'.heap[p.b]?=w.heap[p.b]?/\I' p.b=none)(J:ob=.free->μ' id=none):sK I' μ' w' id ob:=by
 cases ob with
 |free=>exact J rfl|dead=>trivial|row es D=>have⟨p,c,el,a,z,C,u⟩:=r;have⟨g1,g2⟩:=G p a rfl;exact⟨p,c,el,B _ _ a,g2,Zd,u.mono h B⟩|frz es D=>have⟨p,c,a,z,u⟩:=r;exact⟨p,c,B _ _ a,h _ _ z,u.mono h B⟩|map L=>have⟨p,es,b,a,z,C,u⟩:=r;have⟨g1,g2⟩:=G p a rfl;exact⟨p,es,b,B _ _ a,g2,Zd,u.mono h B⟩|loop x=>have⟨p,l,a,z,C,u⟩:=r;have⟨g1,g2⟩:=G p a rfl;exact⟨p,l,B _ _ a,g2,Zd,u.mono h B⟩
def cO.oC(s:cO I μ H w)(e:w'.heap=w.heap):cO I μ H w' where
 dom:=s.dom
 imm:=λb x h=>IC.rN (s.imm b x h) (by rw[e])
 obs:=λid ob h=>(s.obs id ob h).mono (cn.le_refl _) (Mu.le_refl _) (λp u z=>⟨by rw[e],fR s ⟨id,p,ob,h,z,u,rfl⟩⟩) (λB=>by subst B;exact s.obs id _ h)
 inj:=s.inj
 gl:=s.gl
def Step.oC(e:w'.heap=w.heap)(c:w'.os=w.os)(B:uJ w w'):Step I μ H w I μ H w':=⟨cn.le_refl _,Mu.le_refl _,le_refl _,Zd,λ_ _ _=>by rw[e],λb h=>h.elim .inl λh=>.inr (.inl h),c,B,λa _ h=>by grind[frozen?]⟩
def Mu.gD(μ:Mu)(k:Nat)(p:Pl):Mu:=λid=>if id=k then some p else μ id
theorem Mu.fS(μ:Mu)(k:Nat)(p:Pl):μ.gD k p k=some p:=by simp[Mu.gD]
theorem Mu.iE(μ:Mu){k id:Nat}(p:Pl)(h:id≠k):μ.gD k p id=μ id:=by grind[Mu.gD]
def Mu.qw{k:Nat}{p:Pl}(h:μ k=none):Mu.le μ (μ.gD k p):=by intro id q u;grind[Mu.iE]
theorem jq(o:Obj)(b:Nat)(h:b<w.heap.size):(w.alloc o).heap[b]?=w.heap[b]?:=by show(w.heap.push o)[b]?=_;grind
def kF(o:Obj):(w.alloc o).heap[w.heap.size]?=some o:=by show(w.heap.push o)[w.heap.size]?=_;simp
def Mc{o:Obj}(B:Obj.nf o)(a:Addr)(h:w.frozen? a=false):(w.alloc o).frozen? a=false:=
 CC B (kF o) (λk b=>by
  by_cases u:k<w.heap.size
  .grind[jq]
  show(w.heap.push o)[k]?=_
  grind) a h
def cO.place(s:cO I μ H w){k:Nat}{ob:Ob}{o:Obj}{p:Pl}(c:μ k=none)(G:H.length<=H'.length)(j:k<H'.length)
 (l:∀id,id≠k->H'[id]?=some .free\/H'[id]?=H[id]?)(U:∀id,id≠k->H'[id]?=some .free->μ id=none)(m:H'[k]?=some ob)(n:p.b=w.heap.size)
 (r:sK I (μ.gD k p) (w.alloc o) k ob)(d:Obj.nf o):cO I (μ.gD k p) H' (w.alloc o)/\Step I μ H w I (μ.gD k p) H' (w.alloc o):=by
 have f:∀b x,I b=some x->b<w.heap.size:=λb x h=>IC.uM (s.imm b x h)
 have z:∀id u,id≠k->H'[id]?=some u->u≠.free->H[id]?=some u:=by grind
 have L:∀b,gY (μ.gD k p) H' b->gY μ H b\/b=w.heap.size:=by rintro b ⟨id,q,u,h1,O,S,rfl⟩;by_cases e:id=k;grind[Mu.fS];rw[Mu.iE _ _ e]at S;exact .inl ⟨id,q,u,z id u e h1 Zd,O,S,rfl⟩
 refine⟨⟨?_,?_,?_,?_,s.gl⟩,⟨cn.le_refl _,Mu.qw c,G,Zc,?_,?_,rfl,⟨rfl,rfl,le_refl _⟩,λa _=>CC (b:=w.heap.size) d (kF o) (λk c=>?_) a⟩⟩
 .intro id h;rw[Mu.iE _ _ Za]
  exact s.dom id Za
 .intro b x h;exact IC.rN (s.imm b x h) (jq o b (f b x h))
 .intro id u h
  by_cases e:id=k
  .grind
  by_cases Q:u=.free
  .subst Q;show(μ.gD k p) id=none;rw[Mu.iE _ _ e];grind
  have T:=z id u e h Q;refine(s.obs id u T).mono (cn.le_refl _) (Mu.qw c) (λq g W=>?_) (λi=>absurd i Q)
  have t:gY μ H q.b:=⟨id,q,u,T,W,g,rfl⟩
  grind[jq,mV,fR]
 .intro id B o1 o2 q X h1 O Y Z C D hb
  by_cases e:id=k<;>by_cases J:B=k
  .simp_all
  .subst e;rw[Mu.fS]at C;cases C;rw[Mu.iE _ _ J]at D;have:=mV s ⟨B,X,o2,z B o2 J O Zd,Z,D,rfl⟩
   omega
  .subst J;rw[Mu.fS]at D;cases D;rw[Mu.iE _ _ e]at C;have:=mV s ⟨id,q,o1,z id o1 e h1 Zd,Y,C,rfl⟩
   omega
  rw[Mu.iE _ _ e]at C;rw[Mu.iE _ _ J]at D;exact s.inj id B o1 o2 q X (z id o1 e h1 Zd) (z B o2 J O Zd) Y Z C D hb
 .grind[jq]
 .grind
 by_cases W:k<w.heap.size
 .grind[jq]
 show(w.heap.push o)[k]?=_;rw[getElem?_eq_none (by simp;omega),getElem?_eq_none Za]
def cO.push(s:cO I μ H w){ob:Ob}{o:Obj}{p:Pl}(G:p.b=w.heap.size)(B:sK I (μ.gD H.length p) (w.alloc o) H.length ob)(J:Obj.nf o:=by first|exact tg _ _|exact qV rfl):
 cO I (μ.gD H.length p) (H++[ob]) (w.alloc o)/\Step I μ H w I (μ.gD H.length p) (H++[ob]) (w.alloc o):=by
 refine s.place (s.dom _ (le_refl _)) Zc Zc (λid h=>.inr ?_) (λid h z=>?_) Zc G B J
 .grind
 by_cases u:id<H.length
 .rw[getElem?_append_left u]at z;exact s.obs id _ z
 grind
def cO.fill(s:cO I μ H w){k:Nat}{ob:Ob}{o:Obj}{p:Pl}(a:H[k]?=some .free)(G:p.b=w.heap.size)(B:sK I (μ.gD k p) (w.alloc o) k ob)(J:Obj.nf o:=by first|exact tg _ _|exact qV rfl):
 cO I (μ.gD k p) (H.set k ob) (w.alloc o)/\Step I μ H w I (μ.gD k p) (H.set k ob) (w.alloc o):=by
 have z:=(ζe.1 a).1;refine s.place (s.obs k _ a) Zc Zd (λid h=>.inr ?_) (λid h u=>?_) Ze G B J
 .grind
 rw[getElem?_set_ne (Ne.symm h)]at u;exact s.obs id _ u
def fK(w:World)(b:Nat)(o:Obj):World:={w with heap:=w.heap.setIfInBounds b o}
theorem fh(o:Obj){b B:Nat}(h:B≠b):(fK w b o).heap[B]?=w.heap[B]?:=by grind[fK]
def gG(o:Obj){b:Nat}(h:b<w.heap.size):(fK w b o).heap[b]?=some o:=by grind[fK]
def rJ(b:Nat)(o:Obj):(fK w b o).heap.size=w.heap.size:=by simp[fK]
def M4(b:Nat)(o B:Obj):fK (fK w b o) b B=fK w b B:=by simp[fK]
def T5{o:Obj}{b:Nat}(B:Obj.nf o)(a:Addr)(h:w.frozen? a=false):(fK w b o).frozen? a=false:=by grind[CC,fK,frozen?]
def cO.write(s:cO I μ H w){id:Nat}{ob ob':Ob}{o:Obj}{p:Pl}(B:H[id]?=some ob)(U:ob.live=true)(W:μ id=some p)
 (Y:sK I μ (fK w p.b o) id ob')(d:Obj.nf o:=by first|exact tg _ _|exact qV rfl):cO I μ (H.set id ob') (fK w p.b o)/\Step I μ H w I μ (H.set id ob') (fK w p.b o):=by
 have C:gY μ H p.b:=⟨id,p,ob,B,U,W,rfl⟩;have u:∀k x,(H.set id ob')[k]?=some x->∃y,H[k]?=some y/\(x.live=true->y.live=true)/\(k≠id->y=x):=by grind
 have J:∀b,gY μ (H.set id ob') b->gY μ H b:=by rintro b ⟨k,q,x,c,L,Z,rfl⟩;have⟨y,O,z,_⟩:=u k x c;exact⟨k,q,y,O,z L,Z,rfl⟩
 refine⟨⟨?_,?_,?_,?_,s.gl⟩,⟨cn.le_refl _,Mu.le_refl _,Zc,by rw[rJ];grind,?_,?_,rfl,⟨rfl,rfl,le_refl _⟩,λa _=>CC d (gG o (mV s C)) (λk f=>fh o f) a⟩⟩
 .intro k h;exact s.dom k Zd
 .intro b x h;refine IC.rN (s.imm b x h) (fh o ?_)
  grind[fR]
 .intro k x h
  by_cases e:k=id
  .grind
  rw[getElem?_set_ne (Ne.symm e)]at h;refine(s.obs k x h).mono (cn.le_refl _) (Mu.le_refl _) (λq T D=>⟨fh o ?_,fR s ⟨k,q,x,h,D,T,rfl⟩⟩) (λg=>by subst g;exact s.obs k _ h)
  intro Q;exact e (s.inj k id x ob q p h B D U T W Q)
 .intro k X x x' q q' c L l1 l2 m1 m2 Q;have⟨y,O,z,_⟩:=u k x c;have⟨i,S,G,_⟩:=u X x' L;exact s.inj k X y i q q' O S (z l1) (G l2) m1 m2 Q
 all_goals grind[fh]
def cO.kill(s:cO I μ H w){id:Nat}{ob:Ob}(B:H[id]?=some ob):cO I μ (H.set id .dead) w/\Step I μ H w I μ (H.set id .dead) w:=by
 have C:=(ζe.1 B).1;have u:∀k x,(H.set id .dead)[k]?=some x->x.live=true->H[k]?=some x/\k≠id:=by grind[Ob.live]
 refine⟨⟨?_,s.imm,?_,?_,s.gl⟩,⟨cn.le_refl _,Mu.le_refl _,Zc,le_refl _,λ_ _ _=>rfl,?_,rfl,.refl _,λ_ _ h=>h⟩⟩;intro k h;exact s.dom k Zd;intro k x h;by_cases e:k=id;subst e;rw[getElem?_set_self C]at h;cases h;trivial;rw[getElem?_set_ne (Ne.symm e)]at h;exact s.obs k x h;intro k D x G q O a z J L Q S T;exact s.inj k D x G q O (u k x a J).1 (u D G z L).1 J L Q S T;rintro b (h|⟨k,q,x,a,z,U,rfl⟩);grind;exact .inr (.inl ⟨k,q,x,(u k x a z).1,z,U,rfl⟩)
end
section
variable{P:Program}{E:Env}{I:cn}{μ:Mu}{H:bl}{n:Nat}{F:Zo}{a:Act}{w:World}
def qm{b:Nat}{c:Array Zp}{el:Zm}{fr:Nat×Nat}(h:w.heap[b]?=some (.cells c el fr))(k:Nat):w.cell? ⟨b,k,none⟩=c[k]?:=by simp[cell?,h]
def II{b o:Nat}{c:Array Zp}(hc:∀k,w.cell? ⟨b,k,none⟩=c[k]?):∀(m i:Nat)(a:Array Zp),o+i+m<=c.size->
 (loadCellsFrom ⟨b,o,none⟩ i m a).run P w=.ok (a++((c.toList.drop (o+i)).take m).toArray) w:=by
 intro m
 induction m with
 |zero=>intro i a _;simp[loadCellsFrom]|succ m z=>
  intro i a h;have u:o+i<c.size:=Za
  have e:w.cell? ⟨b,o+i,none⟩=some c[o+i]:=by rw[hc];simp[u]
  simp only[loadCellsFrom,run_bind,pN,run_load,e,andThen_ok];rw[z (i+1) _ Za]
  congr 1
  rw[List.drop_eq_getElem_cons (show o+i<c.toList.length by simpa using u),List.take_succ_cons]
  apply ext';simp[add_assoc]
def u5{b o m:Nat}{c:Array Zp}(hc:∀k,w.cell? ⟨b,k,none⟩=c[k]?)(h:o+m<=c.size\/m=0):
 (loadCells ⟨b,o,none⟩ m).run P w=.ok ((c.toList.drop o).take m).toArray w:=by
 rcases h with h|h
 .have:=II (P:=P) hc m 0 #[] (o:=o) Za
  simpa[loadCells]using this
 subst h;simp[loadCells,loadCellsFrom]
theorem fJ{es:Nat}{xs:Zt}(a:∀x∈xs,x.length=es):xs.flatten.length=xs.length*es:=by induction xs with|nil=>simp|cons x xs u=>simp only[flatten_cons,ζi,length_cons];rw[u (λy w=>a y (mem_cons_of_mem _ w)),a x Zc,add_mul];omega
def DF{es:Nat}:∀{xs:Zt}(_:∀x∈xs,x.length=es){el:Nat}{cs:Zu},xs[el]?=some cs->(xs.flatten.drop (el*es)).take es=cs:=by intro xs;induction xs with|nil=>intro _ el cs h;simp at h|cons x xs w=>intro a el cs h;have u:x.length=es:=a x Zc;cases el with|zero=>simp at h;subst h;simp[u]|succ el=>have:=w (λy z=>a y (mem_cons_of_mem _ z)) (el:=el) (cs:=cs) (by simpa using h);rw[flatten_cons,show(el+1)*es=x.length+el*es by rw[u,add_mul];omega,<-drop_drop];simpa using this
def Ho{es:Nat}:∀{xs:Zt}(_:∀x∈xs,x.length=es){el:Nat}(cs:Zu),el<xs.length->cs.length=es->
 (xs.set el cs).flatten=xs.flatten.take (el*es)++cs++xs.flatten.drop (el*es+es):=by
 intro xs
 induction xs with
 |nil=>intro _ el cs h;simp at h|cons x xs w=>
  intro a el cs h hc;have u:x.length=es:=a x Zc
  cases el with
  |zero=>simp[u]|succ el=>
   have:=w (λy z=>a y (mem_cons_of_mem _ z)) (el:=el) cs (by simpa using h) hc
   simp only[List.set_cons_succ,flatten_cons,this];rw[show(el+1)*es=x.length+el*es by rw[u,add_mul];omega]
   rw[show x.length+el*es+es=x.length+(el*es+es)by omega]
   rw[List.take_append,List.drop_append];simp[List.take_of_length_le,List.drop_eq_nil_of_le,Nat.add_sub_cancel_left]
def vq{es:Nat}{xs:Zt}(a:∀x∈xs,x.length=es){i j:Nat}{x:Zu}{y:V}(b:xs[i]?=some x)(B:x[j]?=some y):xs.flatten[i*es+j]?=some y:=by
 have:=DF a b;have u:j<es:=by rw[<-a x (mem_of_getElem? b)];exact(ζe.1 B).1
 have e:=congrArg (·[j]?) this;simp only[getElem?_take,u,if_true,getElem?_drop]at e;rw[e];exact B
def fT.elem{p:Pl}{c:Array Zp}{es:Nat}{xs:Zt}(r:fT I μ p c es xs){el:Nat}{cs:Zu}(h:xs[el]?=some cs):
 cF I μ cs ((c.toList.drop (p.o+el*es)).take es)/\cs.length=es/\p.o+el*es+es<=c.size:=by
 have u:=(ζe.1 h).1;have z:=r.o6 cs (mem_of_getElem? h);have a:=(r.rel.drop (el*es)).take es;rw[DF r.o6 h]at a;have B:el*es+es<=xs.length*es:=by have:=mul_le_mul_right es (show el+1<=xs.length from u);rwa [add_mul,one_mul]at this
 have w:=r.room;refine⟨?_,z,Za⟩
 have e:(((c.toList.drop p.o).take (xs.length*es)).drop (el*es)).take es=(c.toList.drop (p.o+el*es)).take es:=by rw[drop_take,take_take,drop_drop,min_eq_left Za]
 rw[e]at a;exact a
def fT.span{p:Pl}{c:Array Zp}{es:Nat}{xs:Zt}(r:fT I μ p c es xs){off len:Nat}(h:off+len<=xs.length):
 cF I μ ((xs.drop off).take len).flatten ((c.toList.drop (p.o+off*es)).take (len*es))/\p.o+off*es+len*es<=c.size:=by
 have w:=r.room;have B:off*es+len*es<=xs.length*es:=by rw[<-add_mul];exact mul_le_mul_right _ h
 have e1:((xs.drop off).take len).flatten=(xs.flatten.drop (off*es)).take (len*es):=by have u:xs=xs.take off++((xs.drop off).take len++(xs.drop off).drop len):=(by rw[take_append_drop,take_append_drop]);have g1:(xs.take off).flatten.length=off*es:=(by rw[fJ (λx u=>r.o6 x (mem_of_mem_take u))];rw[List.length_take,min_eq_left Za]);have g2:((xs.drop off).take len).flatten.length=len*es:=(by rw[fJ (λx u=>r.o6 x (mem_of_mem_drop (mem_of_mem_take u))),List.length_take,List.length_drop,min_eq_left Za]);have z:=congrArg List.flatten u;simp only[flatten_append]at z;rw[z,<-g1,List.drop_left,<-g2,List.take_left]
 have a:=(r.rel.drop (off*es)).take (len*es);rw[e1];refine⟨?_,Za⟩
 have e:(((c.toList.drop p.o).take (xs.length*es)).drop (off*es)).take (len*es)=(c.toList.drop (p.o+off*es)).take (len*es):=by rw[drop_take,take_take,drop_drop,min_eq_left Za]
 rw[e]at a;exact a
def GS{ob:Ob}{es:Nat}{xs:Zt}(h:ob.rows=some (es,xs)):ob=.row es xs\/ob=.frz es xs:=by cases ob<;>simp_all [Ob.rows]
def cO.rows(s:cO I μ H w){id es:Nat}{xs:Zt}(h:(H[id]?).bind Ob.rows=some (es,xs)):
 ∃p c,μ id=some p/\(∀k,w.cell? ⟨p.b,k,none⟩=c[k]?)/\fT I μ p c es xs:=by
 have⟨ob,a,u⟩:=ζg.1 h;have:=s.obs id ob a;rcases GS u with rfl|rfl
 .have⟨p,c,el,g1,_,g3,g4⟩:=this;exact⟨p,c,g1,qm g3,g4⟩
 have⟨p,c,g1,g2,g4⟩:=this;have⟨el,fr,g3⟩:=s.imm _ _ g2;exact⟨p,c,g1,qm g3,g4⟩
def Od(s:cO I μ H w){p:V}{v:Zp}(d:bD I μ p v){m:Nat}{cs:Zu}(h:ec H p m=some cs):
 ∃(b o:Nat)(c:Array Zp),v=.pointer (some ⟨b,o,none⟩)/\(∀k,w.cell? ⟨b,k,none⟩=c[k]?)/\(o+m<=c.size\/m=0)/\cF I μ cs ((c.toList.drop o).take m):=by
 unfold ec at h;split at h
 .rename_i z;have⟨b,o,c,e,G,Q,l⟩:=d.l8;have⟨el,fr,g⟩:=s.imm _ _ G;refine⟨b,o,c,e,qm g,?_⟩;have J:cF I μ z ((c.toList.drop o).take z.length):=by
   refine⟨by simp;omega,λj x y f C=>?_⟩
   have L:=(ζe.1 f).1;rw[getElem?_take,if_pos L,getElem?_drop]at C;exact .c _ _ (l j x y f (by simpa using C))
  rcases Ao J h with⟨g1,g2,g3⟩|⟨g1,g2⟩
  .refine⟨.inl Za,?_⟩
   rw[List.drop_zero,take_take,min_eq_left Za]at g1
   exact g1
  refine⟨.inr g1,?_⟩;rw[g2,g1];exact .nil
 .rename_i id el off;split at h
  .rename_i es z u;split at h
   .rename_i O B;have⟨p,c,g1,g2,g3⟩:=s.rows u;have⟨q,D,e⟩:=d.sY;rw[g1]at D;cases D;refine⟨_,_,c,e,g2,?_⟩;have⟨k1,k2,k3⟩:=g3.elem B;rw[g3.es_eq];rcases Ao k1 h with⟨a,i,n⟩|⟨a,i⟩
    .refine⟨.inl Za,?_⟩
     rw[drop_take,take_take,min_eq_left Za,drop_drop]at a
     exact a
    refine⟨.inr a,?_⟩;rw[i,a];exact .nil
   simp at h
  simp at h
 simp at h
def C7(G:eG P E)(s:cO I μ H w){t:Zm}{d:TD}(J:E.tt t=some d){p x:V}{v:Zp}(g:bD I μ p v)(h:(ec H p d.size).bind (mk d.agg)=some x):
 ∃u,(loadAt t v).run P w=.ok u w/\bD I μ x u/\∃O,v=.pointer (some O)/\(loadVar t O).run P w=.ok u w:=by
 have⟨S,hc,C⟩:=ζg.1 h;have⟨b,o,c,e,g1,g2,g3⟩:=Od s g hc;have key:∃u,(loadVar t ⟨b,o,none⟩).run P w=.ok u w/\bD I μ x u:=by unfold loadVar;simp only[run_bind,(G.ty J).Cg,andThen_ok];cases z:d.agg with|true=>rw[z]at C;refine⟨.agg ((c.toList.drop o).take d.size).toArray,?_,MZ C (by simpa using g3)⟩;simp only[if_true,run_bind,(G.ty J).iw,andThen_ok,u5 g1 g2,run_pure]|false=>rw[z]at C;have⟨u,a,D⟩:=mk_one C g3;refine⟨u,?_,D⟩;have L:d.size≠0:=(by intro i;rw[i]at a;simp at a);have B:c[o]?=some u:=(by have:=congrArg (·[0]?) a;simp only[getElem?_take,getElem?_drop,getElem?_cons_zero]at this;rw[if_pos Za]at this;simpa using this);simp only[false_eq_true,if_false,run_load,g1,B]
 have⟨u,f,Q⟩:=key;refine⟨u,?_,Q,_,e,f⟩;rw[e];unfold loadAt;simp only[run_bind,sureAddr,run_pure,andThen_ok,f]
def cO.GL(s:cO I μ H w){b:Nat}{x:IC}(h:I b=some x):b<w.heap.size:=IC.uM (s.imm b x h)
def Sa{b es:Nat}{c:Array Zp}{xs:Zt}(h:cF I μ xs.flatten c.toList)(a:∀x∈xs,x.length=es)(B:∀x∈xs,∀y∈x,V.one y=true):
 fT I μ ⟨b,0,es,c.size⟩ c es xs:=by
 have u:xs.length*es=c.size:=by rw[<-fJ a,h.1];simp
 exact⟨rfl,rfl,a,B,by simp[u],by simpa[u,List.take_of_length_le]using h⟩
structure QH(I:cn)(μ:Mu)(w:World)(ob:Ob)(m:Mk)(o:Obj)(p:Pl)(u:Value):Prop where
 b:p.b=w.heap.size
 live:ob.live=true
 nf:Obj.nf o
 len:∀es xs,ob=.row es xs->p.sz=xs.length*es
 rel:∀k,μ k=none->sK I (μ.gD k p) (w.alloc o) k ob/\bD I (μ.gD k p) (m.val k) u
def cO.yh(s:cO I μ H w):I w.heap.size=none:=by cases h:I w.heap.size with|none=>rfl|some x=>have:=s.GL h;omega
def wu(s:cO I μ H w){es:Nat}{xs:Zt}{c:Array Zp}{el:Zm}{m:Mk}{u:Zp}(h:cF I μ xs.flatten c.toList)(a:∀x∈xs,x.length=es)
 (B:∀x∈xs,∀y∈x,V.one y=true)(d:∀k,bD I (μ.gD k ⟨w.heap.size,0,es,c.size⟩) (m.val k) u):QH I μ w (.row es xs) m (.cells c el) ⟨w.heap.size,0,es,c.size⟩ u where
 nf:=tg _ _
 b:=rfl
 live:=rfl
 len:=λz C e=>by cases e;rw[<-fJ a,h.1];simp
 rel:=λk f=>⟨⟨_,c,el,Mu.fS _ _ _,s.yh,kF _,(Sa h a B).mono (cn.le_refl _) (Mu.qw f)⟩,d k⟩
def Du(t:Zm)(v:Zp):(newVar t v).run P w=.ok ⟨w.heap.size,0,none⟩ (w.alloc (.cells v.cells t)):=by simp[newVar,newRow]
def vN{z:Zu}{B:Array Zp}(h:cF I μ z B.toList)(m:Nat):
 cF I μ (replicate m z).flatten (((Array.range (m*B.size)).map (λi=>B[i % B.size]!)).toList):=by
 have G:z.length=B.size:=by simpa using h.1
 have d:∀x∈replicate m z,x.length=z.length:=λx L=>by rw[eq_of_mem_replicate L]
 have w:=fJ d;simp only[List.length_replicate]at w;refine⟨by rw[w,G];simp,λj x y a J=>?_⟩
 have C:=(ζe.1 a).1;rw[w]at C;have u:0<z.length:=by rcases Nat.eq_zero_or_pos z.length with b|b;rw[b]at C;simp at C;exact b
 have O:j / z.length<m:=(Nat.div_lt_iff_lt_mul u).2 C;have c:j % z.length<z.length:=mod_lt _ u;have e1:=vq d (i:=j / z.length) (j:=j % z.length) (x:=z) (y:=z[j % z.length]) (by simp[O]) (by simp[c])
 rw[Nat.mul_comm,Nat.div_add_mod]at e1;rw[e1]at a;cases a;have D:j % B.size<B.size:=by rw[<-G];exact c
 have e2:y=B[j % B.size]:=by have Q:j<(Array.range (m*B.size)).size:=(by simp;rw[<-G];exact C);simp only[Array.toList_map,List.getElem?_map,ζf]at J;obtain⟨q,S,rfl⟩:=J;have:q=j:=(by have:=(ζe.1 S).2;simpa using this.symm);subst this;simp[D]
 rw[e2];exact h.2 (j % z.length) _ _ (by simp[c]) (by rw[G];simp[D])
def Fa{es:Nat}:∀(vs:aY (Nat×V))(xs ys:Zt),(∀x∈xs,x.length=es)->(∀x∈xs,∀y∈x,V.one y=true)->eS es xs vs=some ys->
 tO (λi=>some (i*es,es)) xs.flatten vs=some ys.flatten/\(∀x∈ys,x.length=es)/\(∀x∈ys,∀y∈x,V.one y=true)/\ys.length=xs.length:=by
 intro vs
 induction vs with
 |nil=>intro xs ys a u h;simp only[eS,ζa]at h;subst h;exact⟨rfl,a,u,rfl⟩|cons v vs G=>
  intro xs ys a u h;have⟨i,v⟩:=v;simp only[eS]at h;split at h
  .rename_i hc;have⟨b,D,I⟩:=hc;have w:∀x∈xs.set i v.cells,x.length=es:=λx z=>by
    rcases List.mem_or_eq_of_mem_set z with h|h
    .exact a x h
    rw[h];exact b
   have B:∀x∈xs.set i v.cells,∀y∈x,V.one y=true:=λx z=>by rcases List.mem_or_eq_of_mem_set z with h|h;exact u x h;rw[h];simpa using I
   have⟨g1,g2,g3,g4⟩:=G _ ys w B h;refine⟨?_,g2,g3,by simpa using g4⟩
   rw[Ho a _ D b]at g1;have J:i*es+es<=xs.length*es:=by have:=mul_le_mul_right es (show i+1<=xs.length from D);rwa [add_mul,one_mul]at this
   have C:=fJ a;simp only[tO];rw[if_neg (by simp[b,C];omega),b]
   exact g1
  simp at h
def BT(J:eG P E)(r:eE I μ n F a.tmps)(s:cO I μ H w)(o:Oper){ob:Ob}{m:Mk}(h:eP E F o.op=some (ob,m)):
 ∃x p u,(execOp a.eval o).run P w=.ok (.value u) (w.alloc x)/\QH I μ w ob m x p u:=by
 have⟨dst,op,ty,pos,after,A⟩:=o;simp only at h
 cases op with
 |alloc t=>
  simp only[eP,ζf,ζc]at h;obtain⟨d,U,rfl,rfl⟩:=h;have⟨z,W,b,X,L⟩:=(J.ty U).zq;refine⟨.cells z.cells t,_,.pointer (some ⟨w.heap.size,0,none⟩),?_,wu s (by simpa using b I μ) (by simp[X]) (by simpa using L) (λk=>?_)⟩
  .simp only[execOp];refine dI ?_;unfold Instr.alloc;simp only[run_bind,W,andThen_ok,Du,run_pure]
  have:=bD.hptr (I:=I) k 0 0 _ (Mu.fS μ k ⟨w.heap.size,0,d.size,z.cells.size⟩);simp only[zero_mul,add_zero]at this;exact this
 |box t x=>
  simp only[eP]at h;split at h
  .rename_i v hv;split at h
   .rename_i L;simp only[ζa,ζc]at h;obtain⟨rfl,rfl⟩:=h;have b:=dh r hv;refine⟨.cells (a.eval x).cells t,_,.pointer (some ⟨w.heap.size,0,none⟩),?_,wu s (by simpa using b.cells) Zc (by simpa using L) (λk=>?_)⟩
    .simp only[execOp];refine dI ?_;unfold Instr.box;simp only[run_bind,Du,andThen_ok,run_pure]
    have:=bD.hptr (I:=I) k 0 0 _ (Mu.fS μ k ⟨w.heap.size,0,v.cells.length,(a.eval x).cells.size⟩);simp only[zero_mul,add_zero]at this;exact this
   simp at h
  simp at h
 |makeSlice t l c=>
  simp only[eP]at h;split at h
  .rename_i e k1 ln k2 B q X hc;have⟨d,U,O⟩:=fB q;have⟨g,V,Y,K⟩:=(J.ty U).dn;rw[O]at Y;have:=ji Y;subst this;split at h
   .rename_i G D;split at h
    .rename_i Q;obtain⟨rfl,rfl,an,ao,hm,ap⟩:=Q;simp only[ζa,ζc]at h;obtain⟨rfl,rfl⟩:=h;have⟨z,W,b,S,L⟩:=(J.ty D).zq;have⟨i,_,hi,am,aq,_⟩:=(J.ty D).info;have C:z.cells.size=G.size:=by have:=(b I μ).1;simp at this;omega
     have Z:(0:Int)<=B:=Za
     have w1:i64.wrap ln=ln:=by simp[wrap,signed,IntKind.bits];omega
     have w2:i64.wrap B=B:=by simp[wrap,signed,IntKind.bits];omega
     have aa:∀y:Int,0<=y->y<=2147483648->((i.bytes:Int)*y>2 ^ 48)=False:=by
      intro y ae hy;simp only[eq_iff_iff,iff_false,Int.not_lt,gt_iff_lt];have af:(i.bytes:Int)<=4096:=Za
      calc (i.bytes:Int)*y<=4096*2147483648:=Int.mul_le_mul af hy ae Za
       _<=2 ^ 48:=by decide
     have ab:(Instr.makeSlice t (.int .i64 ln) (.int .i64 B)).run P w=
      .ok (.slice (some ⟨w.heap.size,0,none⟩) ln.toNat B.toNat) (w.alloc (.cells ((Array.range (B.toNat*z.cells.size)).map (λi=>z.cells[i % z.cells.size]!)) e)):=by
      unfold Instr.makeSlice;have t1:(decide (B<0)||decide ((i.bytes:Int)*B>2 ^ 48))=false:=by
       rw[Bool.or_eq_false_iff];exact⟨by simp;omega,by simp only[aa B Z hm,decide_false]⟩
      have q1:(((decide (B<0)||decide ((i.bytes:Int)*B>2 ^ 48))||decide (ln<0))||decide (ln>B))=false:=by rw[t1];simp;omega
      simp only[run_bind,K,andThen_ok,asInt,lI,run_pure,ox hi,w1,w2,q1,false_eq_true,if_false,run_askRoom,(J.ty D).iw];rw[C]
      by_cases f:B.toNat*G.size=0
      .have N:Array.range 0=(#[]:Array Nat):=rfl;simp[f,newRow,N]
      simp[f,W,C,newRow]
     refine⟨.cells ((Array.range (B.toNat*z.cells.size)).map (λi=>z.cells[i % z.cells.size]!)) e,_,.slice (some ⟨w.heap.size,0,none⟩) ln.toNat B.toNat,?_,wu s (vN (b I μ) B.toNat) (λx T=>by rw[eq_of_mem_replicate T,S]) (λx T=>by rw[eq_of_mem_replicate T];simpa using L) (λk=>?_)⟩
     .simp only[execOp];refine dI ?_;rw[(dh r X).fu,(dh r hc).fu];exact ab
     have:=bD.hsl (I:=I) (μ:=μ.gD k ⟨w.heap.size,0,G.size,((Array.range (B.toNat*z.cells.size)).map (λi=>z.cells[i % z.cells.size]!)).size⟩) k 0 ln.toNat B.toNat _ (Mu.fS _ _ _) Za (by simp[C])
     simpa[Mk.val]using this
    simp at h
   simp at h
  simp at h
 |buildSlice t len ps=>
  simp only[eP]at h;split at h
  .rename_i e vs q ah;have⟨d,U,O⟩:=fB q;have⟨g,V,Y,K⟩:=(J.ty U).dn;rw[O]at Y;have:=ji Y;subst this;split at h
   .rename_i G D;split at h
    .rename_i ai;simp only[ζf,ζc]at h;obtain⟨ys,aj,rfl,rfl⟩:=h;have⟨z,W,b,S,L⟩:=(J.ty D).zq;have C:z.cells.size=G.size:=by have:=(b I μ).1;simp at this;omega
     have⟨X,ak⟩:=EG r ah;have⟨g1,g2,g3,g4⟩:=Fa vs _ ys (λx T=>by rw[eq_of_mem_replicate T,S]) (λx T=>by rw[eq_of_mem_replicate T];simpa using L) aj
     have⟨M,j,R⟩:=Bl (place':=λi=>some (i*G.size,G.size)) (λi p hp=>hp) vs _ _ _ ((Array.range (len*z.cells.size)).map (λi=>z.cells[i % z.cells.size]!)) X ak (vN (b I μ) len) g1
     have ad:M.size=len*G.size:=by
      have e1:=R.1;rw[fJ g2,g4]at e1;simpa using e1.symm
     refine⟨.cells M e,_,.slice (some ⟨w.heap.size,0,none⟩) len len,?_,wu s R g2 g3 (λk=>?_)⟩
     .simp only[execOp];refine dI ?_;unfold Instr.buildSlice;have al:¬(len*G.size>2 ^ 24):=by omega
      simp only[run_bind,K,andThen_ok,(J.ty D).iw,if_neg al]
      by_cases f:len*G.size=0
      .have e0:(Array.range (len*z.cells.size)).map (λi=>z.cells[i % z.cells.size]!)=#[]:=by rw[C,f];simp
       rw[e0]at j;have N:Array.range 0=(#[]:Array Nat):=rfl;simp only[f,if_true,run_pure,andThen_ok,N,Array.map_empty];rw[j];simp[newRow]
      simp only[if_neg f,run_bind,W,andThen_ok,run_pure];rw[C]at j;rw[C,j];simp[newRow]
     have:=bD.hsl (I:=I) (μ:=μ.gD k ⟨w.heap.size,0,G.size,M.size⟩) k 0 len len _ (Mu.fS _ _ _) (le_refl _) (by simp[ad])
     simpa[Mk.val]using this
    simp at h
   simp at h
  simp at h
 |makeMap t r=>
  cases r with
  |none=>
   simp only[eP,ζa,ζc]at h;obtain⟨rfl,rfl⟩:=h;refine⟨.map #[] 0,⟨w.heap.size,0,0,0⟩,.map (some w.heap.size),?_,⟨rfl,rfl,qV rfl,λ_ _ e=>(nomatch e),λk q=>⟨⟨_,#[],0,Mu.fS _ _ _,s.yh,kF _,rfl,Zc⟩,?_⟩⟩⟩
   .simp only[execOp];refine dI ?_;unfold Instr.makeMap;simp[run_newObj]
   exact bD.hmap (I:=I) k ⟨w.heap.size,0,0,0⟩ (Mu.fS _ _ _)
  |some x=>simp[eP]at h
 |_=>simp[eP]at h
end
section
variable{P:Program}{E:Env}{I:cn}{μ:Mu}{H H':bl}{n:Nat}{F:Zo}{a:Act}{w:World}
def bD.one{x:V}{v:Zp}(h:bD I μ x v)(B:x.one=true):v.oneCell'=true:=by
 cases h with
 |c _ _ h=>cases h<;>first|rfl|simp[V.one]at B
 |agg=>simp[V.one]at B|tup=>simp[V.one]at B|_=>rfl
def cF.ON{xs:Zu}{vs:aY Zp}(h:cF I μ xs vs)(B:∀x∈xs,V.one x=true):∀v∈vs,v.oneCell'=true:=by
 intro v a;obtain⟨j,w,rfl⟩:=List.mem_iff_getElem.1 a;have u:j<xs.length:=by rw[h.1];exact w
 exact(h.2 j xs[j] vs[j] (by simp[u]) (by simp[w])).one (B _ (List.getElem_mem u))
def No{b:Nat}{o:Obj}(h:w.heap[b]?=some o):fK w b o=w:=by
 unfold fK;have:w.heap.setIfInBounds b o=w.heap:=by apply Array.ext;simp;intro i a u;have⟨z,e⟩:=Array.getElem?_eq_some_iff.1 h;rw[Array.getElem_setIfInBounds];split;subst_vars;rfl;rfl
 rw[this]
def He{b o:Nat}{c:Array Zp}{el:Zm}{v:Zp}(h:w.heap[b]?=some (.cells c el)):
 w.setCell ⟨b,o,none⟩ v=fK w b (.cells (c.setIfInBounds o v) el):=by
 unfold World.setCell fK
 congr 1
 have⟨C,e⟩:=Array.getElem?_eq_some_iff.1 h;apply Array.ext
 .simp
 intro i a B
 by_cases z:i=b
 .subst z;simp[Array.getElem_modify,e]
 have u:i<w.heap.size:=by simpa using B
 rw[Array.getElem_modify_of_ne (Ne.symm z) _ (by simpa using u),Array.getElem_setIfInBounds]
 .simp[Ne.symm z]
 exact u
def ot{b o:Nat}{el:Zm}:∀(vs:aY Zp)(i:Nat)(w:World)(c:Array Zp),w.heap[b]?=some (.cells c el)->(∀v∈vs,v.oneCell'=true)->o+i+vs.length<=c.size->
 ∃c',(storeCells ⟨b,o,none⟩ vs i).run P w=.ok () (fK w b (.cells c' el))/\c'.toList=c.toList.take (o+i)++vs++c.toList.drop (o+i+vs.length):=by
 intro vs
 induction vs with
 |nil=>intro i w c h _ _;exact⟨c,by simp[storeCells,No h],Zc⟩|cons v vs G=>
  intro i w c h D I;simp only[length_cons]at I;have z:o+i<c.size:=Za
  have u:w.cell? ⟨b,o+i,none⟩=some c[o+i]:=by rw[qm h];simp[z]
  have C:w.frozen? ⟨b,o+i,none⟩=false:=by simp[frozen?,h]
  have J:=(Array.getElem?_eq_some_iff.1 h).1;have⟨c',g1,g2⟩:=G (i+1) (fK w b (.cells (c.setIfInBounds (o+i) v) el)) (c.setIfInBounds (o+i) v) (gG _ J) (λx L=>D x (mem_cons_of_mem _ L)) (by simp;omega)
  refine⟨c',?_,?_⟩
  .simp only[storeCells,run_bind,pN,run_store P w _ v _ (D v Zc),u,C,false_eq_true,if_false,andThen_ok,He h]
   rw[g1,M4]
  rw[g2];have B:o+i<c.toList.length:=by simpa using z
  simp only[Array.toList_setIfInBounds,length_cons];rw[show o+(i+1)=o+i+1 from Za,List.take_succ_eq_append_getElem (by simpa using B),List.take_set_of_le Za,List.getElem_set_self,List.drop_set_of_lt Za]
  simp[append_assoc];omega
structure Bq(P:Program)(I:cn)(μ:Mu)(H:bl)(w:World)(s:Sem Next)(x:V)(H':bl):Prop where
 run:∃nx u w' μ',s.run P w=.ok nx w'/\(nx=.value u\/(nx=.skip/\u=undef))/\bD I μ' x u/\cO I μ' H' w'/\Step I μ H w I μ' H' w'
def A0{α:Type}(L vs:aY α)(o m k:Nat)(G:o+m<=L.length)(a:k+vs.length<=m):
 ((L.take (o+k)++vs++L.drop (o+k+vs.length)).drop o).take m=((L.drop o).take m).take k++vs++((L.drop o).take m).drop (k+vs.length):=by
 obtain⟨A,B,C,rfl,u,w⟩:∃A B C:aY α,L=A++(B++C)/\A.length=o/\B.length=m:=⟨L.take o,(L.drop o).take m,(L.drop o).drop m,by rw[take_append_drop,take_append_drop],by simp;omega,by simp;omega⟩
 subst u;subst w;have e1:(A++(B++C)).take (A.length+k)=A++B.take k:=by rw[List.take_append,List.take_of_length_le Za,Nat.add_sub_cancel_left,List.take_append_of_le_length Za]
 have e2:(A++(B++C)).drop (A.length+k+vs.length)=B.drop (k+vs.length)++C:=by rw[List.drop_append,List.drop_eq_nil_of_le Za,List.nil_append,List.drop_append_of_le_length Za];congr 2;omega
 have e3:((A++(B++C)).drop A.length).take B.length=B:=Zc
 rw[e1,e2,e3];simp only[append_assoc,List.drop_left];have z:(B.take k++(vs++B.drop (k+vs.length))).length=B.length:=by simp;omega
 have:B.take k++(vs++(B.drop (k+vs.length)++C))=(B.take k++(vs++B.drop (k+vs.length)))++C:=by simp[append_assoc]
 rw[this,<-z,List.take_left]
def fT.splice{p:Pl}{c c':Array Zp}{es el off:Nat}{xs:Zt}{cs ys:Zu}{vs:aY Zp}(r:fT I μ p c es xs)(B:xs[el]?=some cs)(U:cF I μ ys vs)
 (W:∀y∈ys,V.one y=true)(Y:off+ys.length<=cs.length)(hc:c'.toList=c.toList.take (p.o+el*es+off)++vs++c.toList.drop (p.o+el*es+off+vs.length)):
 fT I μ p c' es (xs.set el (cs.take off++ys++cs.drop (off+ys.length))):=by
 have⟨k1,k2,k3⟩:=r.elem B;have D:=(ζe.1 B).1;have S:=U.1;have u:=r.room;have X:el*es+es<=xs.length*es:=by have:=mul_le_mul_right es (show el+1<=xs.length from D);rwa [add_mul,one_mul]at this
 have G:c'.size=c.size:=by have:=congrArg length hc;simp at this;omega
 have J:(cs.take off++ys++cs.drop (off+ys.length)).length=es:=by simp;omega
 have z:∀x∈xs.set el (cs.take off++ys++cs.drop (off+ys.length)),x∈xs\/x=cs.take off++ys++cs.drop (off+ys.length):=λx L=>List.mem_or_eq_of_mem_set L
 refine⟨r.es_eq,by rw[G];exact r.sz,?_,?_,by rw[G];simpa using u,?_⟩
 .intro x L;rcases z x L with h|h
  .exact r.o6 x h
  rw[h];exact J
 .intro x L y w;rcases z x L with h|h
  .exact r.one x h y w
  rw[h]at w;have O:=r.one cs (mem_of_getElem? B);simp only[mem_append]at w;rcases w with(h|h)|h
  .exact O y (mem_of_mem_take h)
  .exact W y h
  exact O y (mem_of_mem_drop h)
 rw[Ho r.o6 _ D J,hc,length_set];have C:=r.rel;have Q:=DF r.o6 B;have e:take (xs.length*es) (List.drop p.o (take (p.o+el*es+off) c.toList++vs++List.drop (p.o+el*es+off+vs.length) c.toList))=
  (((c.toList.drop p.o).take (xs.length*es)).take (el*es+off))++vs++(((c.toList.drop p.o).take (xs.length*es)).drop (el*es+off+vs.length)):=by
  have:=A0 c.toList vs p.o (xs.length*es) (el*es+off) (by simpa using u) Za
  simpa only[add_assoc]using this
 rw[e];have e2:xs.flatten.take (el*es)++(cs.take off++ys++cs.drop (off+ys.length))++xs.flatten.drop (el*es+es)=
  xs.flatten.take (el*es+off)++ys++xs.flatten.drop (el*es+off+ys.length):=by
  have T:=fJ r.o6;have a:xs.flatten.take (el*es+off)=xs.flatten.take (el*es)++cs.take off:=by rw[<-Q,List.take_add,take_take,min_eq_left Za]
  have b:xs.flatten.drop (el*es+off+ys.length)=cs.drop (off+ys.length)++xs.flatten.drop (el*es+es):=by rw[<-Q,drop_take];have:xs.flatten.drop (el*es+es)=(xs.flatten.drop (el*es+(off+ys.length))).drop (es-(off+ys.length)):=(by rw[drop_drop];congr 1;omega);rw[this,drop_drop,take_append_drop,add_assoc]
  rw[a,b];simp[append_assoc]
 rw[e2,<-S];exact((C.take _).append U).append (C.drop _)
def Pg(U:eG P E)(r:eE I μ n F a.tmps)(s:cO I μ H w){t:Zm}{p q:Zr}{x:V}(h:cw E F H (.store t p q)=some (x,H')):
 Bq P I μ H w (do storeAt t (a.eval p) (a.eval q);pure .skip) x H':=by
 simp only[cw]at h;split at h
 .rename_i d id el off v W X Y;split at h
  .rename_i es Q z;split at h
   .rename_i D B;split at h
    .rename_i hc;have⟨Z,k,G⟩:=hc;simp only[ζa,ζc]at h;obtain⟨rfl,rfl⟩:=h;have⟨pl,c,ty,g1,g2,g3,g4⟩:=s.obs id _ z;have⟨l,S,e⟩:=(dh r X).sY;rw[g1]at S;cases S;have u:=(dh r Y).cells;have T:∀y∈v.cells,V.one y=true:=by simpa using G
     have⟨k1,k2,k3⟩:=g4.elem B;have J:=u.1;have b:pl.o+el*es+off+0+(a.eval q).cells.toList.length<=c.size:=Za
     have⟨c',f,g⟩:=ot (P:=P) (o:=pl.o+el*es+off) (a.eval q).cells.toList 0 w c g3 (u.ON T) b;have C:fT I μ pl c' es (Q.set el (D.take off++v.cells++D.drop (off+v.cells.length))):=g4.splice B u T Za (by simpa using g)
     have L:=(Array.getElem?_eq_some_iff.1 g3).1;have⟨i,j⟩:=s.write (ob':=.row es (Q.set el (D.take off++v.cells++D.drop (off+v.cells.length)))) (o:=.cells c' ty) z rfl g1
      ⟨pl,c',ty,g1,g2,gG _ L,C⟩
     refine⟨.skip,undef,_,μ,?_,.inr ⟨rfl,rfl⟩,.undef I μ,i,j⟩;rw[e];have O:¬((a.eval q).cells.size≠d.size):=by simp at J;omega
     rw[g4.es_eq];unfold storeAt storeVar;simp only[run_bind,sureAddr,run_pure,andThen_ok,(U.ty W).iw,if_neg O,f]
    simp at h
   simp at h
  simp at h
 simp at h
def yR(s:cO I μ H w){x:V}{v:Zp}(Y:bD I μ x v){es:Nat}{ys:Zt}(h:dz H es x=some ys):
 ∃G a arr,v=.slice G ys.length a/\ys.length<=a/\(∀J:World,J.heap=w.heap->(firstCells es ys.length v).run P J=.ok arr J)/\cF I μ ys.flatten arr.toList/\(∀y∈ys,y.length=es)/\
  (∀y∈ys,∀z∈y,V.one z=true):=by
 have B:∀(G:aZ Addr)(a:Nat)(J:World),J.heap=w.heap->(firstCells es 0 (.slice G 0 a)).run P J=.ok #[] J:=by intro G a J _;cases G with|none=>rfl|some G=>simp[firstCells,loadCells,loadCellsFrom]
 cases x with
 |dw=>simp only[dz,ζa]at h;subst h;obtain⟨G,rfl⟩:=Y.rU;exact⟨G,0,#[],rfl,le_refl _,B G 0,.nil,Zc,Zc⟩|bG=>simp only[dz,ζa]at h;subst h;rw[Y.lT];exact⟨none,0,#[],rfl,le_refl _,B none 0,.nil,Zc,Zc⟩|fsl u L=>
  simp only[dz]at h;split at h
  .rename_i Z;simp only[ζa]at h;subst h;subst Z;have t:=Y.lX
   cases t with
   |fsl0 _ G a=>exact⟨some G,a,#[],rfl,zero_le _,B (some G) a,.nil,Zc,Zc⟩|fsl _ _ b o a c hI hc hu ho r hr=>
    have⟨el,fr,A⟩:=s.imm _ _ hI;refine⟨_,a,((c.toList.drop o).take (L.length*u)).toArray,rfl,hc,?_,?_,hu,ho⟩
    .intro J O;simp only[firstCells];exact u5 (qm (w:=J) (by rw[O];exact A)) (.inl r)
    have S:=fJ hu;refine⟨by simp[S];omega,λj p q l m=>?_⟩
    have T:=(ζe.1 l).1;rw[S]at T;have D:0<u:=by rcases Nat.eq_zero_or_pos u with d|d;rw[d]at T;simp at T;exact d
    have f:j / u<L.length:=(Nat.div_lt_iff_lt_mul D).2 T;have U:j % u<u:=mod_lt _ D;have W:=hu _ (List.getElem_mem f);have e1:=vq hu (i:=j / u) (j:=j % u) (x:=L[j / u]) (y:=(L[j / u])[j % u]) (by simp[f]) (by simp[W,U])
    have n:j / u*u+j % u=j:=by rw[Nat.mul_comm,Nat.div_add_mod]
    rw[n,l]at e1;cases e1;simp only[getElem?_take,if_pos T,getElem?_drop]at m;refine .c _ _ (hr (j / u) (j % u) L[j / u] _ q (by simp[f]) (by simp[W,U]) ?_)
    rw[add_assoc,n];simpa using m
  simp at h
 |hsl id u off len=>
  simp only[dz]at h;split at h
  .rename_i Z;subst Z;split at h
   .rename_i Q L X;split at h
    .rename_i ab;simp only[ζa]at h;subst h;have⟨p,c,g1,g2,g3⟩:=s.rows X;have C:((L.drop off).take len).length=len:=by simp;omega
     rcases Y.lY with⟨q,a,U,E,hc,r,e⟩|⟨d,G,e⟩
     .rw[g1]at U;cases U;have D:Q=u:=by rw[<-g3.es_eq,E]
      subst D;have⟨k1,k2⟩:=g3.span ab;refine⟨_,a,((c.toList.drop (p.o+off*Q)).take (len*Q)).toArray,by rw[e,C],Za,?_,by simpa using k1,?_,?_⟩
      .intro J O;rw[e,C];simp only[firstCells];exact u5 (λk=>by rw[<-g2 k];simp[cell?,O]) (.inl k2)
      .exact λy g=>g3.o6 y (mem_of_mem_drop (mem_of_mem_take g))
      exactλy g=>g3.one y (mem_of_mem_drop (mem_of_mem_take g))
     subst d;simp only[List.take_zero]at C⊢;exact⟨_,0,#[],by rw[e];rfl,le_refl _,by rw[e];exact B _ 0,.nil,Zc,Zc⟩
    simp at h
   simp at h
  simp at h
 |_=>simp[dz]at h
def qn(z:Array Zp)(k:Nat):(zeroCells z k).size=k*z.size:=by simp[zeroCells]
def cO.drew(s:cO I μ H w):cO I μ H w.drew:=s.oC rfl
def Ay(s:cO I μ H w){es B:Nat}{xs ys:Zt}{old new rest:Array Zp}{el:Zm}(Y:cF I μ xs.flatten old.toList)(a:cF I μ ys.flatten new.toList)
 (J:∀x∈xs,x.length=es)(O:∀x∈ys,x.length=es)(U:∀x∈xs,∀y∈x,V.one y=true)(W:∀x∈ys,∀y∈x,V.one y=true)
 (G:xs.length+ys.length<=B)(b:rest.size=(B-(xs.length+ys.length))*es):
 ∃μ',bD I μ' (.hsl H.length es 0 (xs.length+ys.length)) (.slice (some ⟨w.heap.size,0,none⟩) (xs.length+ys.length) B)/\cO I μ' (H++[.row es (xs++ys)]) (w.alloc (.cells (old++new++rest) el))/\
  Step I μ H w I μ' (H++[.row es (xs++ys)]) (w.alloc (.cells (old++new++rest) el)):=by
 have D:=fJ J;have L:=fJ O;have z:=Y.1;have C:=a.1;simp only[length_toList]at z C;have Q:(old++new++rest).size=B*es:=by simp only[Array.size_append];rw[<-z,<-C,D,L,b,<-add_mul,<-add_mul];congr 1;omega
 have u:(xs.length+ys.length)*es<=B*es:=mul_le_mul_right _ G;rw[add_mul]at u;have S:fT I μ ⟨w.heap.size,0,es,(old++new++rest).size⟩ (old++new++rest) es (xs++ys):=by refine⟨rfl,rfl,?_,?_,?_,?_⟩;intro x T;rcases mem_append.1 T with h|h;exact J x h;exact O x h;intro x T;rcases mem_append.1 T with h|h;exact U x h;exact W x h;rw[Q];simp only[ζi,zero_add,add_mul];exact u;have e:((old++new++rest).toList.drop 0).take ((xs++ys).length*es)=old.toList++new.toList:=(by simp only[List.drop_zero,Array.toList_append];rw[List.take_left' (by simp[<-z,<-C,D,L,add_mul])]);rw[e,flatten_append];exact Y.append a
 have⟨X,Z⟩:=s.push (ob:=.row es (xs++ys)) (o:=.cells (old++new++rest) el) (p:=⟨w.heap.size,0,es,(old++new++rest).size⟩) rfl
  ⟨_,_,el,Mu.fS _ _ _,s.yh,kF _,S.mono (cn.le_refl _) (Mu.qw (s.dom _ (le_refl _)))⟩
 refine⟨_,?_,X,Z⟩;have:=bD.hsl (I:=I) H.length 0 (xs.length+ys.length) B _ (Mu.fS μ H.length ⟨w.heap.size,0,es,(old++new++rest).size⟩) G (by simp only[zero_add];rw[Q];exact le_refl _)
 simpa using this
def JC(s:cO I μ H w){id:Nat}{ob ob':Ob}{p p':Pl}{o:Obj}(B:H[id]?=some ob)(U:ob.live=true)(W:μ id=some p)(d:p'.b=p.b)
 (m:sK I (μ.gD H.length p') (fK w p.b o) H.length ob')(n:Obj.nf o:=by first|exact tg _ _|exact qV rfl):cO I (μ.gD H.length p') (H.set id .dead++[ob']) (fK w p.b o)/\Step I μ H w I (μ.gD H.length p') (H.set id .dead++[ob']) (fK w p.b o):=by
 have r:=(ζe.1 B).1;have z:gY μ H p.b:=⟨id,p,ob,B,U,W,rfl⟩;have c:=s.dom H.length (le_refl _);have u:∀k x,(H.set id .dead++[ob'])[k]?=some x->(k=H.length/\x=ob')\/(k≠H.length/\k=id/\x=.dead)\/(k≠H.length/\k≠id/\H[k]?=some x):=by intro k x h;by_cases e:k<H.length;rw[getElem?_append_left (by simpa using e)]at h;by_cases D:k=id;subst D;rw[getElem?_set_self r]at h;cases h;exact .inr (.inl ⟨Za,rfl,rfl⟩);rw[getElem?_set_ne (Ne.symm D)]at h;exact .inr (.inr ⟨Za,D,h⟩);have:=(ζe.1 h).1;simp at this;have e2:k=H.length:=Za;subst e2;simp at h;exact .inl ⟨rfl,h.symm⟩
 have C:∀b,gY (μ.gD H.length p') (H.set id .dead++[ob']) b->gY μ H b:=by rintro b ⟨k,q,x,i,Q,T,rfl⟩;rcases u k x i with⟨rfl,rfl⟩|⟨_,_,rfl⟩|⟨e,D,h⟩;rw[Mu.fS]at T;cases T;rw[d];exact z;simp[Ob.live]at Q;rw[Mu.iE _ _ e]at T;exact⟨k,q,x,h,Q,T,rfl⟩
 refine⟨⟨?_,?_,?_,?_,s.gl⟩,⟨cn.le_refl _,Mu.qw c,Zc,by rw[rJ];exact le_refl _,?_,?_,rfl,⟨rfl,rfl,le_refl _⟩,λa _=>CC (b:=p.b) n (gG o (mV s z)) (λk c=>fh o c) a⟩⟩
 .intro k h;simp at h;rw[Mu.iE _ _ Za]
  exact s.dom k Za
 .intro b x h;refine IC.rN (s.imm b x h) (fh o ?_);intro G;rw[G,fR s z]at h;cases h
 .intro k x h;rcases u k x h with⟨rfl,rfl⟩|⟨_,_,rfl⟩|⟨e,D,h⟩
  .exact m
  .trivial
  refine(s.obs k x h).mono (cn.le_refl _) (Mu.qw c) (λq j S=>⟨fh o ?_,fR s ⟨k,q,x,h,S,j,rfl⟩⟩) (λt=>?_)
  .intro G;exact D (s.inj k id x ob q p h B S U j W G)
  subst t;rw[Mu.iE _ _ e];exact s.obs k _ h
 .intro k X x Y q q' i Q l1 Z L O J;rcases u k x i with⟨rfl,rfl⟩|⟨_,_,rfl⟩|⟨e,D,h⟩
  .rcases u X Y Q with⟨rfl,rfl⟩|⟨_,_,rfl⟩|⟨f,l,g⟩
   .rfl
   .simp[Ob.live]at Z
   rw[Mu.fS]at L;cases L;rw[Mu.iE _ _ f]at O;exact absurd (s.inj X id Y ob q' p g B Z U O W (by rw[<-J,d])) l
  .simp[Ob.live]at l1
  rcases u X Y Q with⟨rfl,rfl⟩|⟨_,_,rfl⟩|⟨f,l,g⟩
  .rw[Mu.fS]at O;cases O;rw[Mu.iE _ _ e]at L;exact absurd (s.inj k id x ob q p h B l1 U L W (by rw[J,d])) D
  .simp[Ob.live]at Z
  rw[Mu.iE _ _ e]at L;rw[Mu.iE _ _ f]at O;exact s.inj k X x Y q q' h g l1 Z L O J
 .intro b _ hn;refine fh o ?_;rintro rfl;exact hn z
 intro b h;rcases h with h|h
 .exact .inl h
 exact .inr (.inl (C b h))
def Ci(f:eG P E){t g e:Zm}{d:TD}{G:TypeDesc}(j:P.underlying t=some (.slice e))(Y:P.underlying g=some G)(l:∃k,G=.slice k)(h:E.tt e=some d)
 (W O:aZ Addr)(sl sc B c:Nat)(new:Array Zp)(m:(firstCells d.size B (.slice O B c)).run P w=.ok new w)(ty:Zm):
 (sl+B<=sc->∀w',(match W with|some b=>(storeCells (b.add (sl*d.size)) new.toList).run P w=.ok () w'|none=>w'=w)->
  (append_ #[t,g] ty #[.slice W sl sc,.slice O B c]).run P w=.ok (.slice W (sl+B) sc) w')/\
 (sc<sl+B->sl+B<=2147483648->d.bytes<=4096->0<d.bytes->∀old,(∀U,U.heap=w.heap->(firstCells d.size sl (.slice W sl sc)).run P U=.ok old U)->
  (∀U,U.heap=w.heap->(firstCells d.size B (.slice O B c)).run P U=.ok new U)->
  ∃J rest,sl+B<=J/\rest.size=(J-(sl+B))*d.size/\
   (append_ #[t,g] ty #[.slice W sl sc,.slice O B c]).run P w=.ok (.slice (some ⟨w.heap.size,0,none⟩) (sl+B) J) (w.drew.alloc (.cells (old++new++rest) e))):=by
 have⟨i,z,X,Z,o,p,I,q,_⟩:=(f.ty h).info;have u:∀w,(zeroValue e).run P w=.ok z w:=λw=>by simp_all[zeroValue,ox]
 have L:z.cells.size=d.size:=by have:=(I (λ_=>none) (λ_=>none)).1;grind
 obtain⟨k,rfl⟩:=l;constructor
 .intro Q w' aj;unfold append_;simp only[run_bind,List.getElem?_toArray,getElem?_cons_zero,List.getElem?_cons_succ,dn j,dn Y,andThen_ok,(f.ty h).iw,run_pure,lenOf,false_eq_true,if_false,Bool.not_false,if_true,if_pos Q,m]
  cases W with
  |none=>simp_all|some b=>simp_all
 intro S r s v old a C;have T:=nextslicecap_le S;have n:¬(nextslicecap (sl+B) sc*i.bytes>2 ^ 48):=by have:nextslicecap (sl+B) sc*i.bytes<=(2*2147483648)*4096:=mul_le_mul Za Za;omega
 have D:¬(sl+B<=sc):=Za
 refine⟨(appendCap (sl+B) sc e).cut (w.tape w.drawn (appendCap (sl+B) sc e)),zeroCells z.cells (((appendCap (sl+B) sc e).cut (w.tape w.drawn (appendCap (sl+B) sc e)))-(sl+B)),?_,?_,?_⟩
 .simp[Question.cut]
 .rw[qn,L]
 unfold append_;simp only[run_bind,List.getElem?_toArray,getElem?_cons_zero,List.getElem?_cons_succ,dn j,dn Y,andThen_ok,(f.ty h).iw,run_pure,lenOf,false_eq_true,if_false,Bool.not_false,if_true,if_neg D,ox X];rw[if_neg Zd]
 simp only[run_bind,ox X,if_neg n,run_choose,forced,false_eq_true,if_false,andThen_ok,run_askRoom,u,newRow,run_newObj,run_pure];rw[a {w with drawn:=w.drawn+1} rfl];simp only[andThen_ok];rw[C {w with drawn:=w.drawn+1} rfl];rfl
def wrap_small{m:Nat}(h:m<=2147483648):i64.wrap (m:Int)=m:=by grind[wrap,IntKind.bits]
def EF(O:eG P E){t U e:Zm}{d:TD}{kk k:Zs}(a:P.underlying t=some (.slice e))(J:P.underlying U=some (.int kk))(W:E.tt e=some d)(ty:Zm)(m:Nat)(G:m<=2147483648):
 (m=0->(append_ #[t,U] ty #[.slice none 0 0,.int k m]).run P w=.ok (.slice none 0 0) w)/\
 (0<m->d.bytes<=4096->0<d.bytes->∃B z rest,m<=B/\rest.size=(B-m)*d.size/\cF I μ d.zero z.toList/\
  (append_ #[t,U] ty #[.slice none 0 0,.int k m]).run P w=.ok (.slice (some ⟨w.heap.size,0,none⟩) m B) (w.drew.alloc (.cells (#[]++zeroCells z m++rest) e))):=by
 have⟨i,z,Q,Z,j,l,C,n,_⟩:=(O.ty W).info;have u:∀w,(zeroValue e).run P w=.ok z w:=λw=>by simp_all[zeroValue,ox]
 have S:z.cells.size=d.size:=by have:=(C (λ_=>none) (λ_=>none)).1;grind
 have b:=wrap_small G;constructor
 .rintro rfl;unfold append_;have T:i64.wrap 0=0:=by omega
  simp[dn a,dn J,(O.ty W).iw,asInt,ox Q,lI,T]
 intro o p q;have X:nextslicecap (0+m) 0<=2*(0+m):=nextslicecap_le Za
 have c:¬(nextslicecap (0+m) 0*i.bytes>2 ^ 48):=by have:nextslicecap (0+m) 0*i.bytes<=(2*2147483648)*4096:=mul_le_mul Za Za;omega
 have f:¬(m*(i.bytes:Int)>2 ^ 48):=by have r:m*i.bytes<=2147483648*4096:=mul_le_mul G Za;grind
 have g:¬((0+m:Nat)>i64.max):=by have:i64.max=9223372036854775807:=(by rfl);omega
 have D:¬(0+m<=0):=Za
 have L:¬((m:Int)<0):=Za
 refine⟨(appendCap (0+m) 0 e).cut (w.tape w.drawn (appendCap (0+m) 0 e)),z.cells,zeroCells z.cells (((appendCap (0+m) 0 e).cut (w.tape w.drawn (appendCap (0+m) 0 e)))-(0+m)),?_,?_,C _ _,?_⟩
 .simp[Question.cut]
 .rw[qn,S,zero_add]
 unfold append_;have Y:(if m*d.size=0 then pure #[]else do pure (zeroCells (<-zeroValue e).cells m))=(do pure (zeroCells (<-zeroValue e).cells m))\/(m*d.size=0/\zeroCells z.cells m=#[]):=by by_cases h:m*d.size=0;all_goals simp_all[Array.eq_empty_of_size_eq_zero,qn]
 simp only[run_bind,List.getElem?_toArray,getElem?_cons_zero,List.getElem?_cons_succ,dn a,dn J,andThen_ok,(O.ty W).iw,run_pure,if_true,asInt,lI,b,if_neg L,ox Q,if_neg f,Int.toNat_natCast,if_neg D,if_false];rw[if_neg (λh=>g h.1)]
 simp only[run_bind,ox Q,if_neg c,run_choose,forced,andThen_ok,u,newRow,firstCells];rcases Y with h|⟨h,s⟩
 all_goals simp_all
def MB(g:eG P E)(r:eE I μ n F a.tmps)(s:cO I μ H w){args:Array Zr}{O:Array Zm}{x:V}{ty:Zm}
 (h:cw E F H (.call {callee:=.builtin .append,args,argTypes:=O})=some (x,H')):
 Bq P I μ H w (do let d<-resolve a.eval {callee:=.builtin .append,args,argTypes:=O} ty;invoke d.target d.args) x H':=by
 simp[cw]at h;split at h
 .rename_i t t' vs vx aQ ae;obtain⟨us,ux,S,i,j⟩:=(nF r ae).two;split at h
  .rename_i e e' hk af;obtain⟨d0,ah,ai⟩:=fB hk;obtain⟨N,R,h2,h3⟩:=(g.ty ah).dn;rw[ai]at h2;have:=ji h2;subst this;obtain⟨d1,jd,T⟩:=fB af;obtain⟨aj,g1,g2,g3⟩:=(g.ty jd).dn;rw[T]at g2;have:=ji g2;subst this;have C:∀v w',(append_ #[t,t'] ty #[us,ux]).run P w=.ok v w'->
    (do let d<-resolve a.eval {callee:=.builtin .append,args,argTypes:=O} ty;invoke d.target d.args).run P w=.ok (.value v) w':=by
    simp[resolve,run_bind,run_pure,andThen_ok,invoke,builtin];rw[rW S];have ea:O=#[t,t']:=Zd
    simp_all
   split at h
   .rename_i d hd;split at h
    .
     rename_i xs B ak;obtain⟨ad,f,arr,e1,e2,e3,e4,_⟩:=yR (P:=P) s i B;obtain⟨al,U,D,M,f2,A,l,_⟩:=yR s j ak;simp at M A;have aR:D=#[]:=by have:=l.1;grind
     have A:=A w rfl;rw[M]at A;have key:=(Ci g R g1 ⟨_,rfl⟩ hd ad al xs.length f 0 U D A ty).1 Za w
      (by
       cases ad with
       |none=>rfl|some b=>simp_all[storeCells])
     rw[<-M,<-e1,add_zero,<-e1]at key;have am:x=vs/\H'=H:=by grind
     obtain⟨rfl,rfl⟩:=am;exact⟨_,us,w,μ,C _ _ key,.inl rfl,i,s,.refl _ _ _ _⟩
    .rename_i xs ys aT B ak;obtain⟨ad,f,arr,e1,e2,e3,e4,e5,e6⟩:=yR s i B;obtain⟨al,U,D,M,f2,A,l,f5,f6⟩:=yR s j ak;split at h
     .rename_i hc;obtain⟨av,an,ao⟩:=hc;have aD:0<ys.length:=by
       grind
      have key:=Ci g R g1 ⟨_,rfl⟩ hd ad al xs.length f ys.length U D (by rw[<-M];exact A w rfl) ty
      rw[<-M,<-e1]at key;have L:f<xs.length+ys.length->∃G rest,xs.length+ys.length<=G/\rest.size=(G-(xs.length+ys.length))*d.size/\
       (append_ #[t,t'] ty #[us,ux]).run P w=.ok (.slice (some ⟨w.heap.size,0,none⟩) (xs.length+ys.length) G) (w.drew.alloc (.cells (arr++D++rest) e)):=by
       intro ap;refine key.2 ap av an ao arr ?_ ?_
       .intro w2 aE;exact e3 w2 aE
       grind
      simp at h;obtain⟨H1,J,rfl,rfl⟩:=h
      cases vs with
      |dw=>
       simp[gF]at J;subst J;simp[dz]at B;subst B;obtain⟨aF,q⟩:=i.rU;have aw:f=0:=by rw[q]at e1;cases e1;rfl
       obtain⟨G,rest,k1,k2,k3⟩:=L (by simp;omega)
       obtain⟨μ',m1,o,K⟩:=Ay s.drew e4 l e5 f5 e6 f6 k1 k2;refine⟨_,_,_,μ',C _ _ k3,.inl rfl,m1,o,?_⟩;exact Step.trans s.drew (Step.oC rfl rfl ⟨rfl,rfl,le_succ _⟩) K
      |bG=>
       simp[gF]at J;subst J;simp[dz]at B;subst B;have q:=i.lT;have aw:f=0:=by rw[q]at e1;cases e1;rfl
       obtain⟨G,rest,k1,k2,k3⟩:=L (by simp;omega)
       obtain⟨μ',m1,o,K⟩:=Ay s.drew e4 l e5 f5 e6 f6 k1 k2;refine⟨_,_,_,μ',C _ _ k3,.inl rfl,m1,o,?_⟩;exact Step.trans s.drew (Step.oC rfl rfl ⟨rfl,rfl,le_succ _⟩) K
      |hsl id es off len=>
       simp[gF]at J;split at J
       .rename_i u aG Z;simp at J;subst J;have ax:(H[id]?).bind Ob.rows=some (u,aG):=by rw[Z];rfl
        have aS:=B;simp only[dz]at B;split at B
        .rename_i aH;rw[ax]at B;simp only at B;split at B
         .rename_i aI;simp at B;obtain⟨p,c,ay,q1,q2,q3,q4⟩:=s.obs id _ Z;have W:xs.length=len:=by rw[<-B];simp;omega
          have aq:f<xs.length+ys.length->Bq P I μ H w (do let d<-resolve a.eval {callee:=.builtin .append,args,argTypes:=O} ty;invoke d.target d.args)
           (.hsl H.length d.size 0 (xs.length+ys.length)) (H.set id .dead++[.row d.size (xs++ys)]):=by
           intro ap;obtain⟨G,rest,k1,k2,k3⟩:=L ap;obtain⟨s1,s2⟩:=s.drew.kill Z;obtain⟨μ',m1,o,K⟩:=Ay s1 e4 l e5 f5 e6 f6 k1 k2;rw[length_set]at m1;exact⟨_,_,_,μ',C _ _ k3,.inl rfl,m1,o,Step.trans s.drew (Step.oC rfl rfl ⟨rfl,rfl,le_succ _⟩) (Step.trans s1 s2 K)⟩
          rcases i.lY with⟨p',Q,hm,aJ,aU,aK,ee⟩|⟨h0,aF,ee⟩
          .rw[q1]at hm;cases hm;have ar:Q=f/\ad=some ⟨p.b,p.o+off*es,none⟩:=by rw[ee]at e1;grind
           obtain⟨rfl,rfl⟩:=ar
           by_cases ab:xs.length+ys.length<=Q
           .have aA:u=es:=by rw[<-q4.es_eq,aJ]
            subst aA;have X:=aH;obtain⟨r1,r2⟩:=q4.span aI;rw[B]at r1;have aa:=l.1;simp only[length_toList]at aa;rw[fJ f5]at aa;have aL:(len+ys.length)*u<=Q*u:=mul_le_mul_right _ Za
            rw[add_mul]at aL;rw[add_mul]at aK;have aM:=q4.sz;rw[<-X]at aa;have au:p.o+off*u+len*u+0+D.toList.length<=c.size:=by simp;omega
            obtain⟨c',u1,u2⟩:=ot D.toList 0 w c q3 (l.ON (λx j=>by
             grind[mem_flatten])) au
            have aB:c'.size=c.size:=by have:=congrArg length u2;grind
            have aC:=key.1 ab (fK w p.b (.cells c' ay)) (by
             simp[pN,W];rw[<-X];exact u1)
            have Y:fT I μ ⟨p.b,p.o+off*u,u,p.sz⟩ c' u (xs++ys):=by refine⟨rfl,by rw[aB];exact aM,?_,?_,?_,?_⟩;grind;grind;rw[aB,ζi,W,add_mul];grind;have e:(c'.toList.drop (p.o+off*u)).take ((xs++ys).length*u)=(c.toList.drop (p.o+off*u)).take (len*u)++D.toList:=(by rw[u2,ζi,W,add_mul,aa];simp only[add_zero];have aN:(take (p.o+off*u+len*u) c.toList).length=p.o+off*u+len*u:=(by simp;omega);rw[append_assoc,List.drop_append_of_le_length (by rw[aN];omega),drop_take,show p.o+off*u+len*u-(p.o+off*u)=len*u by omega];grind[List.take_left']);rw[e,flatten_append];exact r1.append l
            obtain⟨s1,s2⟩:=JC (ob':=.row u (xs++ys)) (p':=⟨p.b,p.o+off*u,u,p.sz⟩) s Z rfl q1 rfl
             ⟨_,c',ay,Mu.fS _ _ _,q2,gG _ (Array.getElem?_eq_some_iff.1 q3).1,Y.mono (cn.le_refl _) (Mu.qw (s.dom _ (le_refl _)))⟩
            rw[<-X];refine⟨_,_,_,_,C _ _ aC,.inl rfl,?_,s1,s2⟩;have:=bD.hsl (I:=I) H.length 0 (xs.length+ys.length) Q _ (Mu.fS μ H.length ⟨p.b,p.o+off*u,u,p.sz⟩) ab (by simp;omega)
            grind
           grind
          grind
         grind
        grind
       grind
      |_=>simp[gF]at J
     grind
    grind
   grind
  .
   rename_i e kk hk af;obtain⟨d0,ah,ai⟩:=fB hk;obtain⟨N,R,h2,h3⟩:=(g.ty ah).dn;rw[ai]at h2;have:=ji h2;subst this;obtain⟨d1,jd,T⟩:=fB af;obtain⟨aj,g1,g2,g3⟩:=(g.ty jd).dn;rw[T]at g2;have:=B6 g2;subst this;have C:∀v w',(append_ #[t,t'] ty #[us,ux]).run P w=.ok v w'->
    (do let d<-resolve a.eval {callee:=.builtin .append,args,argTypes:=O} ty;invoke d.target d.args).run P w=.ok (.value v) w':=by
    intro v w' hv;simp[resolve,run_bind,run_pure,andThen_ok,invoke,builtin];rw[rW S];have ea:O=#[t,t']:=Zd
    rw[ea,hv];rfl
   split at h
   .rename_i d hd;unfold mkApp at h;split at h
    .rename_i k m;have q:=i.lT;subst q;have q:=j.fu;subst q;split at h
     .rename_i h0;subst h0;cases h;have key:=(EF (μ:=μ) (I:=I) (w:=w) (k:=k) g R g1 hd ty 0 Za).1 rfl
      exact⟨_,_,w,μ,C _ _ key,.inl rfl,i,s,.refl _ _ _ _⟩
     split at h
     .rename_i hc;obtain⟨aO,av,an,ao⟩:=hc;cases h;obtain⟨m,rfl⟩:=Int.eq_ofNat_of_zero_le (Int.le_of_lt aO);obtain⟨G,z,rest,k1,k2,k3,k4⟩:=(EF g R g1 hd ty m Za).2 Za an ao
      have aP:=(g.ty hd).info.choose_spec.choose_spec.2.2.2.2.2.1;have aV:=(g.ty hd).info.choose_spec.choose_spec.2.2.2.2.2.2.1;have hu:∀x∈replicate m d.zero,x.length=d.size:=λx j=>by rw[eq_of_mem_replicate j];exact aP
      have ho:∀x∈replicate m d.zero,∀y∈x,V.one y=true:=λx j y hy=>by rw[eq_of_mem_replicate j]at hy;grind
      obtain⟨μ',m1,o,K⟩:=Ay (xs:=[]) (ys:=replicate m d.zero) (old:=#[]) (new:=zeroCells z m) (rest:=rest) s.drew .nil (vN k3 m) Zc hu Zc ho (by simpa using k1) Zd
      simp at m1 o K;refine⟨_,_,_,μ',C _ _ k4,.inl rfl,Zd,by simpa using o,?_⟩
      exact Step.trans s.drew (Step.oC rfl rfl ⟨rfl,rfl,le_succ _⟩) Zd
     cases h
    cases h
   cases h
  grind
 grind
def zH{es:Nat}{xs:Zt}(a:∀x∈xs,x.length=es)(k:Nat)(b:k<=xs.length):(xs.take k).flatten=xs.flatten.take (k*es)/\(xs.drop k).flatten=xs.flatten.drop (k*es):=by grind[take_append_drop,fJ]
def Pn(l:eG P E)(r:eE I μ n F a.tmps)(s:cO I μ H w){args:Array Zr}{G:Array Zm}{x:V}{ty:Zm}
 (h:cw E F H (.call {callee:=.builtin .clear,args,argTypes:=G})=some (x,H')):
 Bq P I μ H w (do let d<-resolve a.eval {callee:=.builtin .clear,args,argTypes:=G} ty;invoke d.target d.args) x H':=by
 simp[cw]at h;split at h
 .rename_i t v ab L;have⟨u,hu,g⟩:=(nF r L).one;split at h
  .rename_i e hk;have⟨d0,N,R⟩:=fB hk;have⟨m,h1,A,h3⟩:=(l.ty N).dn;rw[R]at A;have:=ji A;split at h
   .rename_i d hd;have⟨i,z,hi,an,ap,hz,S,ah,aq,_⟩:=(l.ty hd).info;have ai:∀w,(zeroValue e).run P w=.ok z w:=λw=>by simp_all[zeroValue,ox]
    have aj:z.cells.size=d.size:=by have:=(S (λ_=>none) (λ_=>none)).1;grind
    have J:∀v w',(clear_ G ty #[u]).run P w=.ok v w'->
     (do let d<-resolve a.eval {callee:=.builtin .clear,args,argTypes:=G} ty;invoke d.target d.args).run P w=.ok (.value v) w':=by
     grind[resolve,run_bind,run_pure,andThen_ok,invoke,builtin,rW]
    have T:∀U f,u=.slice U 0 f->Bq P I μ H w (do let d<-resolve a.eval {callee:=.builtin .clear,args,argTypes:=G} ty;invoke d.target d.args) .undef H:=λU f q=>by subst q;refine⟨_,.tuple #[],w,μ,J (.tuple #[]) w ?_,.inl rfl,bD.undef _ _,s,.refl _ _ _ _⟩;unfold clear_;cases U<;>simp[ab,h3]
    unfold CE at h;split at h
    .cases h;exact T _ _ g.lT
    .have⟨U,q⟩:=g.rU;grind
    .rename_i id es off len;split at h
     .rename_i O;subst O;split at h
      .rcases g.lY with⟨p,f,_,_,_,_,q⟩|⟨_,U,q⟩
       all_goals grind
      rename_i len;split at h
      .rename_i ak Q W;split at h
       .rename_i X;cases h;have⟨p,c,el,j,hI,C,B⟩:=s.obs id _ W;rcases g.lY with⟨q,f,K,al,ao,am,rfl⟩|⟨h0,_⟩
        .rw[j]at K;cases K;have O:ak=d.size:=by rw[<-B.es_eq,al]
         subst O;have ar:(zeroCells z.cells (len+1)).size=(len+1)*d.size:=by rw[qn,aj]
         have au:=B.room;have Y:(off+(len+1))*d.size<=Q.length*d.size:=mul_le_mul_right _ X;rw[add_mul]at Y;have D:=vN (S I μ) (len+1);have av:∀x∈replicate (len+1) d.zero,x.length=d.size:=λx b=>by rw[eq_of_mem_replicate b];exact ah
         have aw:∀x∈replicate (len+1) d.zero,∀y∈x,V.one y=true:=λx b y hy=>by rw[eq_of_mem_replicate b]at hy;grind
         have⟨c',u1,k⟩:=ot (P:=P) (o:=p.o+off*d.size) (zeroCells z.cells (len+1)).toList 0 w c C (cF.ON D (λx b=>by
          grind[mem_flatten])) Zd
         rw[add_zero]at k;have Z:c'.size=c.size:=by have:=congrArg length k;grind
         have⟨s2,st2⟩:=s.write (ob':=.row d.size (Q.take off++replicate (len+1) d.zero++Q.drop (off+(len+1)))) W rfl j
          ⟨p,c',el,j,hI,gG _ (Array.getElem?_eq_some_iff.1 C).1,by
           have M:(Q.take off++replicate (len+1) d.zero++Q.drop (off+(len+1))).length=Q.length:=by simp;omega
           refine⟨B.es_eq,by rw[Z];exact B.sz,?_,?_,by rw[M,Z];grind,?_⟩
           .intro x b;rcases mem_append.1 b with b|b
            .rcases mem_append.1 b with b|b
             .exact B.o6 x (mem_of_mem_take b)
             grind
            exact B.o6 x (mem_of_mem_drop b)
           .intro x b;rcases mem_append.1 b with b|b
            .rcases mem_append.1 b with b|b
             .exact B.one x (mem_of_mem_take b)
             grind
            exact B.one x (mem_of_mem_drop b)
           rw[M,k];have hL:=A0 c.toList (zeroCells z.cells (len+1)).toList p.o (Q.length*d.size) (off*d.size) (by simp;omega) Zd
           rw[hL,flatten_append,flatten_append,(zH B.o6 off Za).1,(zH B.o6 _ X).2]
           have e:off*d.size+(zeroCells z.cells (len+1)).toList.length=(off+(len+1))*d.size:=Zd
           rw[e];exact((B.rel.take _).append D).append (B.rel.drop _)⟩
         refine⟨_,.tuple #[],_,μ,J (.tuple #[]) (fK w p.b (.cells c' el)) ?_,.inl rfl,bD.undef _ _,s2,st2⟩;simp_all[clear_]
        simp_all
       simp_all
      simp_all
     simp_all
    simp_all
   simp_all
  simp_all
 simp_all
def Vz(s t:Zq)(h:(s==t)=true):s=t:=by
 cases s with|mk a=>cases t with|mk b=>
 have u:(a==b)=true:=h;grind
inductive xS(P:Program)(E:Env)(t:TypeId):V->Value->Prop
 |int(k:IntKind)(m:Int)(h:P.underlying t=some (.int k)):xS P E t (.int k m) (.int k m)|str(s:ByteArray)(h:P.underlying t=some .string):xS P E t (.str s) (.string s)|agg(m:Nat)(cs:List V)(l:List Int)(h:s9 P t m)(hl:l.length=m)(hi:hG cs=some l):xS P E t (.agg cs) (.agg (ic l))
def LN(B:eG P E){t:Zm}{k:V}{v:Zp}(h:wh E t k=true)(b:bD I μ k v):xS P E t k v:=by
 unfold wh at h;split at h;rename_i k1 k2 m c;have⟨d,z,u⟩:=fB c;have⟨a,f,w,J⟩:=(B.ty z).dn;rw[u]at w;have:=B6 w;subst this;have e:k1=k2:=by grind
 subst e;rw[b.fu];exact .int _ _ f;next s c=>have⟨d,z,u⟩:=fB c;have⟨a,f,w,J⟩:=(B.ty z).dn;rw[u]at w;have:=zG w;subst this;rw[b.tC];exact .str _ f
 rename_i L _;split at h;next m C=>simp[isSome_iff_exists]at h;have⟨O,l,G⟩:=h;obtain⟨Q,rfl,D⟩:=b.iC;obtain⟨rfl,e⟩:=qh G D;exact .agg m L l (B.eqN _ _ C) Za G
 grind;grind
def MQ(d:Nat)(e:Zl){t:Zm}{k:Zs}{m:Int}(h:P.underlying t=some (.int k)):(checkKey e (d+1) t (.int k m)).run P w=.ok () w:=by simp[checkKey,run_bind,dn h,andThen_ok,run_pure]
def Ng(d:Nat)(e:Zl){t:Zm}{m:Zq}(h:P.underlying t=some .string):(checkKey e (d+1) t (.string m)).run P w=.ok () w:=by simp[checkKey,run_bind,dn h,andThen_ok,run_pure]
def xT{t:Zm}{k:V}{v:Zp}(h:xS P E t k v)(e:Zl):(checkKey e 10000 t v).run P w=.ok () w:=by cases h with|int k m h=>exact MQ 9999 e h|str s h=>exact Ng 9999 e h|agg m z l h u B=>exact h.check w e l u
def lR(I:cn)(μ:Mu)(es:aY MapEntry)(i:Nat):aZ (Nat×V)->aZ (Nat×Zp)->Prop
 |none,none=>True|some (j,x),some (B,v)=>j=B/\bD I μ x v/\i<=j/\∃e,es[j-i]?=some e/\e.val=v|_,_=>False
def Co{d:TypeDesc}{k:V}{v:Zp}(U:(∃kk m,d=.int kk/\k=.int kk m/\v=.int kk m)\/(∃s,d=.string/\k=.str s/\v=.string s)):
 ∀(B:aY (V×V))(es:aY MapEntry)(i:Nat)(r:aZ (Nat×V)),B.length=es.length->(∀(j:Nat)q e,B[j]?=some q->es[j]?=some e->bD I μ q.1 e.key/\bD I μ q.2 e.val)->
 gT k B i=some r->∃G,findNow d v es i=some G/\lR I μ es i r G/\∀j x,r=some (j,x)->∃e,es[j-i]?=some e/\e.key=v:=by
 intro B
 induction B with
 |nil=>
  intro es i r O _ h
  cases es with
  |nil=>simp only[gT,ζa]at h;subst h;exact⟨none,rfl,trivial,Zc⟩|cons _ _=>simp_all
 |cons q B Q=>
  intro es i r O f h
  cases es with
  |nil=>simp_all|cons e es=>
   have⟨D,S⟩:=q;have⟨g1,g2⟩:=f 0 (D,S) e rfl rfl;simp only[gT]at h;have u:∀b,vL k D=some b->sameNow d v e.key=some b/\(b=true->e.key=v):=by
    intro b w;rcases U with⟨kk,m,rfl,rfl,rfl⟩|⟨s,rfl,rfl,rfl⟩
    .cases D<;>simp only[vL]at w<;>(try grind);rename_i k2 p;split at w;(next J=>simp only[ζa]at w;subst w;subst J;rw[g1.fu];exact⟨by simp[sameNow],by simp;grind⟩);grind
    cases D<;>simp only[vL]at w<;>(try (simp at w;done));simp only[ζa]at w;subst w;rw[g1.tC];exact⟨by simp[sameNow],λT=>by rw[Vz _ _ T]⟩
   split at h
   .rename_i hk;have⟨c,g⟩:=u true hk;simp only[ζa]at h;subst h;refine⟨some (i,e.val),by simp[findNow,c],⟨rfl,g2,le_refl _,e,Zc,rfl⟩,?_⟩
    intro j x C;simp only[ζa,ζc]at C;obtain⟨rfl,_⟩:=C;exact⟨e,Zc,g rfl⟩
   .rename_i hk;have⟨c,_⟩:=u false hk;have⟨G,p1,p2,p3⟩:=Q es (i+1) r (by simpa using O) (λj a b x y=>f (j+1) a b (by simpa using x) (by simpa using y)) h
    refine⟨G,by simp[findNow,c,p1],?_,?_⟩
    .cases r with
     |none=>cases G<;>simp_all [lR]|some z=>
      cases G with
      |none=>simp[lR]at p2|some W=>have⟨X,Y,t,L,Z,l⟩:=p2;exact⟨X,Y,Za,L,by rw[show z.1-i=(z.1-(i+1))+1 by omega];simpa using Z,l⟩
    intro j x C;have⟨L,n,o⟩:=p3 j x C;subst C;have:i+1<=j:=by cases G with|none=>simp[lR]at p2|some W=>exact p2.2.2.1
    exact⟨L,by rw[show j-i=(j-(i+1))+1 by omega];simpa using n,o⟩
   grind
def JD{t:Zm}{m:Nat}(U:s9 P t m){cs:Zu}{l:Zx}(W:l.length=m)(Y:hG cs=some l):
 ∀(B:aY (V×V))(es:aY MapEntry)(i:Nat)(r:aZ (Nat×V)),B.length=es.length->(∀(j:Nat)q e,B[j]?=some q->es[j]?=some e->bD I μ q.1 e.key/\bD I μ q.2 e.val)->
 gT (.agg cs) B i=some r->∃G,(findAsking t (.agg (ic l)) es i).run P w=.ok G w/\lR I μ es i r G/\∀j x,r=some (j,x)->∃e,es[j-i]?=some e/\e.key=.agg (ic l):=by
 intro B
 induction B with
 |nil=>
  intro es i r C _ h
  cases es with
  |nil=>simp[gT]at h;subst h;exact⟨none,rfl,trivial,Zc⟩|cons _ _=>simp_all
 |cons q B T=>
  intro es i r C d h
  cases es with
  |nil=>simp_all|cons e es=>
   have⟨D,X⟩:=q;have⟨g1,g2⟩:=d 0 (D,X) e rfl rfl;simp[gT]at h;have u:∀b,vL (.agg cs) D=some b->(equal t (.agg (ic l)) e.key).run P w=.ok b w/\(b=true->e.key=.agg (ic l)):=by intro b J;cases D<;>simp[vL]at J<;>(try (simp at J));obtain⟨s,Z,Q,x2,v,rfl⟩:=wS J;rw[Y]at Q;cases Q;have⟨A,ev,L⟩:=g1.iC;obtain⟨rfl,e2⟩:=qh x2 L;rw[ev];refine⟨U.key w l Z W Za,?_⟩;grind
   split at h
   .rename_i hk;have⟨c,E⟩:=u true hk;simp at h;subst h;refine⟨some (i,e.val),by simp[findAsking,c],⟨rfl,g2,le_refl _,e,Zc,rfl⟩,?_⟩
    grind
   .rename_i hk;have⟨c,_⟩:=u false hk;have⟨G,p1,p2,p3⟩:=T es (i+1) r Zd (λj a b x y=>d (j+1) a b Zd (by simpa using y)) h
    refine⟨G,by simp[findAsking,c,p1],?_,?_⟩
    .cases r with
     |none=>cases G<;>simp_all [lR]|some z=>
      cases G with
      |none=>simp[lR]at p2|some z'=>have⟨f,g,F,O,k,n⟩:=p2;exact⟨f,g,Za,O,by rw[show z.1-i=(z.1-(i+1))+1 by omega];simpa using k,n⟩
    intro j x S;have⟨O,o,p⟩:=p3 j x S;subst S;have:=by cases G with|none=>simp[lR]at p2|some z'=>exact p2.2.2.1
    exact⟨O,by rw[show j-i=(j-(i+1))+1 by omega];simpa using o,p⟩
   grind
def uV{t:Zm}{k:V}{v:Zp}(h:xS P E t k v){B:aY (V×V)}{es:Array MapEntry}(a:uT I μ B es){r:aZ (Nat×V)}(J:gT k B 0=some r):
 ∃G,(findKey t v es.toList).run P w=.ok G w/\lR I μ es.toList 0 r G/\∀j x,r=some (j,x)->∃e,es[j]?=some e/\e.key=v:=by
 have u:=by simpa using a.1
 have z:∀(j:Nat)q e,B[j]?=some q->es.toList[j]?=some e->bD I μ q.1 e.key/\bD I μ q.2 e.val:=λj q e x y=>a.2 j q e x Zd
 have fin:∀(G:aZ (Nat×Zp)),(∀j x,r=some (j,x)->∃e,es.toList[j-0]?=some e/\e.key=v)->∀j x,r=some (j,x)->∃e,es[j]?=some e/\e.key=v:=by grind
 cases h with
 |int kk m h=>have⟨G,g1,g2,g3⟩:=Co (.inl ⟨kk,m,rfl,rfl,rfl⟩) B es.toList 0 r u z J;exact⟨G,by simp[findKey,run_bind,dn h,andThen_ok,g1,run_pure],g2,fin G g3⟩|str s h=>have⟨G,g1,g2,g3⟩:=Co (.inr ⟨s,rfl,rfl,rfl⟩) B es.toList 0 r u z J;exact⟨G,by simp[findKey,run_bind,dn h,andThen_ok,g1,run_pure],g2,fin G g3⟩|agg m S l h L O=>
  have⟨G,g1,g2,g3⟩:=JD (w:=w) h L O B es.toList 0 r u z J;have⟨d,Q,C⟩:=h.kind;refine⟨G,?_,g2,fin G g3⟩;simp[findKey,run_bind,dn Q,andThen_ok]
  cases D:es.toList with
  |nil=>rw[D]at g1;simp[findNow,run_pure];simpa[findAsking]using g1|cons e rest=>
   have:findNow d (.agg (ic l)) (e::rest) 0=none:=by rcases C with⟨_,_,rfl⟩|⟨_,rfl⟩<;>simp[findNow,sameNow]
   grind
def y8{b:Nat}{o:Obj}(h:w.heap[b]?=some o)(B:∀c e f,o≠.cells c e f):(getObj b).run P w=.ok o w:=by simp[getObj,Sem.run,h]
def N9(s:cO I μ H w){m:V}{v:Zp}(d:bD I μ m v){B:aY (V×V)}(h:mA H m=some B):
 (v=.map none/\B=[])\/∃b es a,v=.map (some b)/\w.heap[b]?=some (.map es a)/\uT I μ B es:=by
 cases m with
 |fV=>simp only[mA,ζa]at h;exact .inl ⟨d.Om,h.symm⟩|fmap k=>
  simp[mA]at h;subst h
  cases d with
  |c _ _ d=>cases d with
   |fmap _ b es C D hk u=>have⟨f,g⟩:=s.imm _ _ C;exact .inr ⟨b,es,f,rfl,g,D,λj q e x y=>⟨.c _ _ (hk j q e x y),.c _ _ (u j q e x y)⟩⟩
 |hmap id=>
  simp[mA]at h;split at h
  .rename_i G z;simp at h;have⟨p,es,f,g1,g2,g3,g4⟩:=s.obs id _ z;have⟨q,J,e⟩:=d.Bp
   grind
  grind
 |_=>simp[mA]at h
def MW(U:eG P E)(r:eE I μ n F a.tmps)(s:cO I μ H w){t:Zm}{m k:Zr}{ok:Zl}{x:V}(h:dQ E F H (.lookup t m k ok)=some x):
 ∃v,(Instr.lookup t (a.eval m) (a.eval k) ok).run P w=.ok v w/\bD I μ x v:=by
 simp[dQ]at h;split at h
 .rename_i kt et mv kv hk hm Q;obtain⟨d,l,S⟩:=fB hk;obtain⟨c,o,e,f⟩:=(U.ty l).dn;rw[S]at e;have:=zO e;subst this;split at h
  .rename_i de T W J;split at h
   .rename_i X;have D:=LN U X (dh r Q);obtain⟨z,g,Y⟩:=(U.ty W).RN;obtain⟨es,L,G⟩:∃es:Array MapEntry,uT I μ T es/\∀u,(findKey kt (a.eval k) es.toList).run P w=.ok u w->(Instr.lookup t (a.eval m) (a.eval k) ok).run P w=
     .ok (if ok then .tuple #[(u.map (·.2)).getD z,.bool u.isSome]else(u.map (·.2)).getD z) w:=by
     rcases N9 s (dh r hm) J with⟨e1,rfl⟩|⟨b,es,p,e1,e2,e3⟩
     .refine⟨#[],⟨rfl,Zc⟩,λu C=>?_⟩
      unfold Instr.lookup;rw[e1];simp[run_bind,f,andThen_ok,run_pure,xT D,C];cases u<;>cases ok<;>simp[g]
     refine⟨es,e3,λu C=>?_⟩
     unfold Instr.lookup;rw[e1];simp[run_bind,f,andThen_ok,run_pure,y8 e2 Zc,xT D,C]
     cases u<;>cases ok<;>simp[g]
    split at h
    .rename_i j y _ B;simp at h;obtain⟨u,Z,O,_⟩:=uV D L B
     cases u with
     |none=>simp[lR]at O|some q=>
      obtain⟨_,i,_⟩:=O;refine⟨_,G _ Z,?_⟩;subst h
      cases ok with
      |true=>exact .QW (.cons i (.cons (.c _ _ (.bool _)) .nil))|false=>exact i
    .rename_i y B hy;simp at h;obtain⟨u,Z,O,_⟩:=uV D L B
     cases u with
     |some q=>simp[lR]at O|none=>
      refine⟨_,G _ Z,?_⟩;subst h
      cases ok with
      |true=>exact .QW (.cons (Y _ _ _ hy) (.cons (.c _ _ (.bool _)) .nil))|false=>grind
    grind
   grind
  grind
 grind
def Ib(l:Zx)(d:Nat):sameBits (d+2) (.agg (ic l)) (.agg (ic l))=true:=by simp only[sameBits,beq_self_eq_true,Bool.true_and,all_eq_true];intro p u;obtain⟨j,w,rfl⟩:=List.mem_iff_getElem.1 u;simp[ic,sameBits]
def N_{t:Zm}{k:V}{v:Zp}(h:xS P E t k v):(Instr.keyThatStays v v).run P w=.ok v w:=by
 have:sameBits 10000 v v=true:=by cases h with|int k m h=>simp[sameBits]|str s h=>simp[sameBits];exact(by cases s;exact beq_self_eq_true (α:=Array UInt8) _)|agg m u l h z B=>exact Ib l 9998
 unfold Instr.keyThatStays;rw[this];rfl
def D6{b:Nat}{es:Array MapEntry}{a:Nat}(o:Obj)(h:w.heap[b]?=some (.map es a)):(setObj b o).run P w=.ok () (fK w b o):=by simp only[setObj,Sem.run,h];rfl
def zd(K:eG P E)(r:eE I μ n F a.tmps)(s:cO I μ H w){t:Zm}{m k y:Zr}{x:V}(h:cw E F H (.mapUpdate t m k y)=some (x,H')):
 Bq P I μ H w (do Instr.mapUpdate t (a.eval m) (a.eval k) (a.eval y);pure .skip) x H':=by
 simp only[cw]at h;split at h
 .rename_i kt et id Z yv hk hm W hy;have⟨d,hd,aa⟩:=fB hk;have⟨M,b,B,N⟩:=(K.ty hd).dn;rw[aa]at B;have:=zO B;subst this;split at h
  .rename_i D U;split at h
   .rename_i ab;simp only[ζf,ζc]at h;obtain⟨af,u,rfl,rfl⟩:=h;have G:=LN K ab (dh r W);have⟨p,es,c,g1,g2,g3,g4⟩:=s.obs id _ U;have⟨q,R,em⟩:=(dh r hm).Bp;rw[g1]at R;cases R;have T:=(Array.getElem?_eq_some_iff.1 g3).1;have ah:∀(f:Unit->Sem Next),True:=λ_=>trivial
    unfold pE at u;have J:=dh r W;have L:=dh r hy;split at u
    .rename_i j z C;simp only[ζa]at u;subst u;have⟨O,l,g,q3⟩:=uV (w:=w) G g4 C
     cases O with
     |none=>simp[lR]at g|some O=>
      have⟨j',zv⟩:=O;obtain⟨rfl,_,_,e',ai,_⟩:=g;have⟨e2,X,ad⟩:=q3 j z rfl;have hj:=(Array.getElem?_eq_some_iff.1 X).1;have Q:uT I μ (D.set j (Z,yv)) (es.modify j λe=>{e with key:=a.eval k,val:=a.eval y}):=by refine⟨by simpa using g4.1,λi q e b B=>?_⟩;by_cases S:i=j;subst S;rw[getElem?_set_self (by rw[g4.1];exact hj)]at b;cases b;rw[Array.getElem?_modify]at B;simp only[if_true,ζf]at B;obtain⟨_,_,rfl⟩:=B;exact⟨J,L⟩;rw[getElem?_set_ne (Ne.symm S)]at b;rw[Array.getElem?_modify]at B;rw[if_neg (Ne.symm S)]at B;exact g4.2 i q e b B
      have⟨v,A⟩:=s.write (ob':=.map (D.set j (Z,yv))) (o:=.map (es.modify j λe=>{e with key:=a.eval k,val:=a.eval y}) c) U rfl g1
       ⟨p,_,c,g1,g2,gG _ T,Q⟩
      refine⟨.skip,undef,_,μ,?_,.inr ⟨rfl,rfl⟩,.undef I μ,v,A⟩;unfold Instr.mapUpdate;rw[em];have Y:((es[j]?).map (·.key)).getD (a.eval k)=a.eval k:=by rw[X];simpa using ad
      simp only[run_bind,N,andThen_ok,y8 g3 Zc,xT G,l,Y,N_ G,D6 _ g3,run_pure]
    .rename_i C;simp only[ζa]at u;subst u;have⟨O,l,g,q3⟩:=uV (w:=w) G g4 C
     cases O with
     |some q=>simp[lR]at g|none=>
      have Q:uT I μ (D++[(Z,yv)]) (es.push {key:=a.eval k,val:=a.eval y,born:=c}):=by refine⟨by simp[g4.1],λi q e b B=>?_⟩;by_cases S:i<D.length;rw[getElem?_append_left S]at b;rw[Array.getElem?_push]at B;rw[if_neg (by rw[<-g4.1];omega)]at B;exact g4.2 i q e b B;have ae:=(ζe.1 b).1;simp at ae;have:i=D.length:=Za;subst this;simp at b;subst b;rw[Array.getElem?_push,if_pos g4.1]at B;cases B;exact⟨J,L⟩
      have⟨v,A⟩:=s.write (ob':=.map (D++[(Z,yv)])) (o:=.map (es.push {key:=a.eval k,val:=a.eval y,born:=c}) (c+1)) U rfl g1
       ⟨p,_,_,g1,g2,gG _ T,Q⟩
      refine⟨.skip,undef,_,μ,?_,.inr ⟨rfl,rfl⟩,.undef I μ,v,A⟩;unfold Instr.mapUpdate;rw[em];simp only[run_bind,N,andThen_ok,y8 g3 Zc,xT G,l,D6 _ g3,run_pure]
    simp at u
   simp at h
  simp at h
 simp at h
theorem Sw(B:eG P E)(r:eE I μ n F a.tmps)(s:cO I μ H w)(o:Oper){x:V}(h:dQ E F H o.op=some x):
 ∃v,(execOp a.eval o).run P w=.ok (.value v) w/\bD I μ x v:=by
 have⟨dst,op,ty,pos,after,b⟩:=o;simp only at h
 cases op with
 |load t p=>
  simp only[dQ]at h;split at h
  next d G C D=>have⟨u,c,z,_⟩:=C7 B s C (dh r D) h;exact⟨u,dI c,z⟩
  simp at h
 |lookup t m k ok=>have⟨u,c,z⟩:=MW B r s h;exact⟨u,dI c,z⟩|_=>simp[dQ]at h
def SR(B:eG P E)(r:eE I μ n F a.tmps)(s:cO I μ H w)(o:Oper){x:V}(h:cw E F H o.op=some (x,H')):Bq P I μ H w (execOp a.eval o) x H':=by
 have⟨dst,op,ty,pos,after,d⟩:=o;simp only at h
 cases op with
 |store t p q=>exact Pg B r s h|mapUpdate t m k y=>exact zd B r s h|insert t m k y=>exact zd (t:=t) (m:=m) (k:=k) (y:=y) B r s h|call c=>
  have⟨callee,args,u⟩:=c
  cases callee with
  |builtin b=>cases b with|append=>exact MB B r s h|clear=>exact Pn B r s h|_=>simp[cw]at h
  |_=>simp[cw]at h
 |_=>simp[cw]at h
end
def tP{xs:Zu}(h:V.gX xs=true):∀x∈xs,V.closed x=true:=by induction xs with|nil=>simp|cons x r u=>simp[V.gX]at h;grind
def tG{xs:Zu}(h:V.cG xs=true):∀x∈xs,V.scalar x=true:=by induction xs with|nil=>simp|cons x r u=>simp[V.cG]at h;grind
section
variable{I I':cn}{μ:Mu}{H H':bl}{w:World}
def bD.closed{x:V}{v:Zp}(h:bD I μ x v)(hc:x.closed=true):eF I x v:=by induction h with|c x v h=>omega|hsl id off len cap p w h1 Q=>simp[V.closed]at hc|hsl0 id es off a=>simp[V.closed]at hc|hptr id el off p w=>simp[V.closed]at hc|yld id p w=>simp[V.closed]at hc|hmap id p w=>simp[V.closed]at hc|clo f x y u v L O _ _ z B=>simp[V.closed]at hc;exact .clo f x y u v L O (λj a b p q=>z j a b p q (tP hc.1 a (mem_of_getElem? p))) (λj a b p q=>B j a b p q (tP hc.2 a (mem_of_getElem? p)))|agg C D G _ J=>exact .agg C D G λj a b p q=>J j a b p q (tP hc a (mem_of_getElem? p))|tup C D G _ J=>exact .tup C D G λj a b p q=>J j a b p q (tP hc a (mem_of_getElem? p))
def eF.scalar{x:V}{v:Zp}(h:eF I x v)(B:x.scalar=true):eF I' x v:=by induction h with|bool b=>exact .bool b|int k n=>exact .int k n|str s=>exact .str s|dw a=>exact .dw a|bG=>exact .bG|gW=>exact .gW|fV=>exact .fV|rB=>exact .rB|agg u w z _ C=>exact .agg u w z λj a b p q=>C j a b p q (tG B a (mem_of_getElem? p))|tup u w z _ C=>exact .tup u w z λj a b p q=>C j a b p q (tG B a (mem_of_getElem? p))|_=>simp[V.scalar]at B
def iL{f:V->aZ V}:∀{xs ys:Zu},gV f xs=some ys->ys.length=xs.length/\∀(j:Nat)y,ys[j]?=some y->∃x,xs[j]?=some x/\f x=some y:=by intro xs;induction xs with|nil=>intro ys h;simp[gV]at h;grind|cons x xs u=>intro ys h;simp[gV]at h;split at h;grind;grind
def Ks{f:V->aZ V}:∀{xs ys:Zt},lz f xs=some ys->ys.length=xs.length/\∀(j:Nat)y,ys[j]?=some y->∃x,xs[j]?=some x/\gV f x=some y:=by intro xs;induction xs with|nil=>intro ys h;simp[lz]at h;grind|cons x xs u=>intro ys h;simp[lz]at h;grind
def Ku{f:V->aZ V}:∀{xs ys:aY (V×V)},lp f xs=some ys->ys.length=xs.length/\∀(j:Nat)y,ys[j]?=some y->∃x,xs[j]?=some x/\f x.1=some y.1/\f x.2=some y.2:=by intro xs;induction xs with|nil=>intro ys h;simp only[lp]at h;grind|cons x xs u=>intro ys h;simp only[lp]at h;grind
def Obj.ic:Obj->aZ IC
 |.cells c _ _=>some (.cells c)|.map es _=>some (.map es)|_=>none
def As(μ:Mu)(H:bl)(T:Zv)(b:Nat):Prop:=∃id p ob,id∈T/\H[id]?=some ob/\ob.live=true/\μ id=some p/\p.b=b
open Classical in
noncomputable def plus(I:cn)(μ:Mu)(H:bl)(w:World)(T:Zv):cn:=λb=>
 match I b with
 |some x=>some x|none=>if As μ H T b then(w.heap[b]?).bind Obj.ic else none
def oM(I:cn)(μ:Mu)(H:bl)(w:World)(T:Zv):cn.le I (plus I μ H w T):=by intro b x h;simp[plus,h]
theorem tv(s:cO I μ H w)(T:Zv):∀b x,plus I μ H w T b=some x->x.at w b:=by
 intro b x h;unfold plus at h;split at h;next y B=>cases h;exact s.imm b _ B
 split at h;have⟨o,z,u⟩:=ζg.1 h;cases o<;>simp[Obj.ic]at u;subst u;exact⟨_,_,z⟩;subst u;exact⟨_,z⟩;grind
theorem yf{T:Zv}{b:Nat}(h:(plus I μ H w T b).isSome=true):(I b).isSome=true\/As μ H T b:=by unfold plus at h;grind
theorem Be{T:Zv}{b:Nat}(h:As μ H T b):gY μ H b:=by have⟨id,p,ob,_,h1,u,w,z⟩:=h;exact⟨id,p,ob,h1,u,w,z⟩
def BO(s:cO I μ H w){T:Zv}{id es:Nat}{xs:Zt}(B:id∈T)(h:(H[id]?).bind Ob.rows=some (es,xs)):
 ∃p c,μ id=some p/\plus I μ H w T p.b=some (.cells c)/\fT I μ p c es xs:=by
 have⟨ob,a,z⟩:=ζg.1 h;have u:=s.obs id ob a;rcases GS z with rfl|rfl
 .have⟨p,c,el,g1,g2,g3,g4⟩:=u;refine⟨p,c,g1,?_,g4⟩;have C:As μ H T p.b:=⟨id,p,_,B,a,rfl,g1,rfl⟩;unfold plus;rw[g2];simp[C,g3,Obj.ic]
 have⟨p,c,g1,g2,g4⟩:=u;exact⟨p,c,g1,oM _ _ _ _ _ _ _ g2,g4⟩
def fT.idx{p:Pl}{c:Array Zp}{es:Nat}{xs:Zt}(r:fT I μ p c es xs){i j:Nat}{x:Zu}{y:V}{v:Zp}(a:xs[i]?=some x)(B:x[j]?=some y)
 (G:c[p.o+i*es+j]?=some v):bD I μ y v:=by
 have w:=vq r.o6 a B;refine r.rel.2 (i*es+j) y v w ?_;have u:=(ζe.1 w).1;rw[fJ r.o6]at u
 grind
def jX{f:V->Zv}{xs:Zu}{x:V}{k:Nat}(B:x∈xs)(a:k∈f x):k∈cN f xs:=by induction xs with|nil=>simp_all|cons y r u=>simp[cN];grind
def jb(n:Nat)(H:bl){x:V}(h:x.closed=true):borrow n H x=some x:=by cases n<;>simp[borrow,h]
def uh(s:cO I μ H w)(T:Zv):∀(n:Nat)(x y:V)(v:Zp),borrow n H x=some y->(∀k∈b8 n H x,k∈T)->bD I μ x v->
 eF (plus I μ H w T) y v/\(x.one=true->y.one=true):=by
 intro n
 induction n with
 |zero=>
  intro x y v h _ g;simp only[borrow]at h;split at h
  next hc=>simp at h;subst h;exact⟨(g.closed hc).mono (oM _ _ _ _ _),id⟩
  grind
 |succ n ih=>
  intro x y v h O g;simp[borrow]at h;split at h
  next hc=>simp at h;subst h;exact⟨(g.closed hc).mono (oM _ _ _ _ _),id⟩
  rename_i al;simp[b8,if_neg al]at O;split at h
  .
   rename_i id es off len;split at h
   .rename_i B xs J;split at h
    .rename_i hc;obtain⟨rfl,am⟩:=hc;simp only[J]at O;simp at h;obtain⟨U,l,rfl⟩:=h;have⟨R,W⟩:=Ks l;refine⟨?_,λ_=>rfl⟩
     have aj:U.length=len:=Zd
     rcases g.lY with⟨p,F,A,hp,ar,r,rfl⟩|⟨h0,a,rfl⟩
     .have⟨p',c,g1,g2,g3⟩:=BO s (O id Zc) J
      rw[A]at g1;cases g1;have X:∀i z,U[i]?=some z->∃Q,xs[off+i]?=some Q/\gV (borrow n H) Q=some z:=by grind
      have ak:∀i Q,i<len->xs[off+i]?=some Q->∀q∈Q,∀k∈b8 n H q,k∈T:=by intro i Q m an q K k d;refine O k ?_;refine mem_cons_of_mem _ (jX (mem_flatten.2 ⟨Q,mem_of_getElem? (i:=i) ?_,K⟩) d);rw[getElem?_take,if_pos m,getElem?_drop];exact an
      have au:eF (plus I μ H w T) (.fsl B U) (.slice (some ⟨p.b,p.o+off*B,none⟩) U.length F):=by refine .fsl B U p.b (p.o+off*B) F c g2 Za ?_ ?_ ?_ ?_;intro z af;have⟨i,m⟩:=List.mem_iff_getElem?.1 af;have⟨Q,G,Y⟩:=X i z m;rw[(iL Y).1];exact g3.o6 Q (mem_of_getElem? G);intro z af q K;have⟨i,m⟩:=List.mem_iff_getElem?.1 af;have⟨Q,G,Y⟩:=X i z m;have⟨j,o⟩:=List.mem_iff_getElem?.1 K;have⟨L,D,Z⟩:=(iL Y).2 j q o;have ad:=mem_of_getElem? G;have ae:=mem_of_getElem? D;have ao:=g3.room;have aw:=g3.o6 Q ad;have ax:=(ζe.1 D).1;have ap:=(ζe.1 G).1;have av:(off+i)*B+B<=xs.length*B:=(by have:=mul_le_mul_right B (ap);grind);have aq:=Za;have M:=g3.idx G D (v:=c[p.o+(off+i)*B+j]) (by simp[aq]);exact(ih L q _ Z (ak i Q (by have:=(ζe.1 m).1;omega) G L ae) M).2 (g3.one Q ad L ae);have E:=(g3.span am).2;grind;intro i j z q u m o hu;have⟨Q,G,Y⟩:=X i z m;have⟨L,D,Z⟩:=(iL Y).2 j q o;have M:=g3.idx G D (v:=u) Zd;exact(ih L q u Z (ak i Q (by have:=(ζe.1 m).1;omega) G L (mem_of_getElem? D)) M).1
      grind
     subst h0;have:=List.eq_nil_of_length_eq_zero aj;subst this;exact .fsl0 B _ _
    grind
   grind
  .
   rename_i id el off;split at h
   .rename_i B xs J;split at h
    .rename_i cs ah;split at h
     .simp only[J]at O;simp at h;obtain⟨U,l,rfl⟩:=h;have⟨R,W⟩:=iL l;refine⟨?_,λ_=>rfl⟩
      obtain⟨p,A,rfl⟩:=g.sY;have⟨p',c,g1,g2,g3⟩:=BO s (O id Zc) J
      rw[A]at g1;cases g1;have⟨k1,k2,k3⟩:=g3.elem ah;rw[g3.es_eq];refine .fptr U p.b _ c g2 ?_ ?_
      .rw[R,List.length_drop];omega
      intro j q u o hu;have⟨L,D,Z⟩:=W j q o;rw[getElem?_drop]at D;have M:=g3.idx ah D (by rw[<-add_assoc];exact hu)
      refine(ih L q u Z (λk d=>O k ?_) M).1
      exact mem_cons_of_mem _ (jX (mem_of_getElem? (i:=j) (by rw[ah,getD_some,getElem?_drop];exact D)) d)
     simp at h
    simp at h
   simp at h
  .
   rename_i id;split at h
   .rename_i ay ai;simp at h;obtain⟨U,l,rfl⟩:=h;simp only[ai]at O;have⟨R,W⟩:=Ku l;refine⟨?_,λ_=>rfl⟩
    obtain⟨p,A,rfl⟩:=g.Bp;have⟨p',es,cl,g1,g2,g3,g4⟩:=s.obs id _ ai;rw[A]at g1;cases g1;have ht:As μ H T p.b:=⟨id,p,_,O id Zc,ai,rfl,A,rfl⟩
    have hI:plus I μ H w T p.b=some (.map es):=by unfold plus;rw[g2];simp[ht,g3,Obj.ic]
    refine .fmap U p.b es hI (by rw[R];exact g4.1) ?_ ?_
    .intro j q e o he;have⟨L,E,h2,h3⟩:=W j q o;refine(ih L.1 q.1 e.key h2 (λk d=>O k ?_) (g4.2 j L e E he).1).1
     exact mem_cons_of_mem _ (mem_append.2 (.inl (jX (mem_map.2 ⟨L,mem_of_getElem? E,rfl⟩) d)))
    intro j q e o he;have⟨L,E,h2,h3⟩:=W j q o;refine(ih L.2 q.2 e.val h3 (λk d=>O k ?_) (g4.2 j L e E he).2).1
    exact mem_cons_of_mem _ (mem_append.2 (.inr (jX (mem_map.2 ⟨L,mem_of_getElem? E,rfl⟩) d)))
   simp at h
  .rename_i f p q;split at h
   .rename_i p' q' hp K;simp at h;subst h;obtain⟨N,u2,rfl,r1,r2⟩:=g.jQ;have⟨P,m1⟩:=iL hp;have⟨l2,m2⟩:=iL K;refine⟨.clo f p' q' N u2 (by rw[P];simpa using r1.1) (by rw[l2];simpa using r2.1) ?_ ?_,λ_=>rfl⟩
    .intro j a b t r;have⟨a0,C,S⟩:=m1 j a t;exact(ih a0 a b S (λk d=>O k (mem_append.2 (.inl (jX (mem_of_getElem? C) d)))) (r1.2 j a0 b C (by simpa using r))).1
    intro j a b t r;have⟨a0,C,S⟩:=m2 j a t;exact(ih a0 a b S (λk d=>O k (mem_append.2 (.inr (jX (mem_of_getElem? C) d)))) (r2.2 j a0 b C (by simpa using r))).1
   simp at h
  .rename_i cs;simp at h;obtain⟨U,l,rfl⟩:=h;have⟨P,m1⟩:=iL l;obtain⟨N,rfl,r1⟩:=g.iC;refine⟨.agg U N (by rw[P];simpa using r1.1) ?_,λh=>by simp[V.one]at h⟩
   intro j a b t r;have⟨a0,C,S⟩:=m1 j a t;exact(ih a0 a b S (λk d=>O k (jX (mem_of_getElem? C) d)) (r1.2 j a0 b C (by simpa using r))).1
  .rename_i cs;simp at h;obtain⟨U,l,rfl⟩:=h;have⟨P,m1⟩:=iL l;obtain⟨N,rfl,r1⟩:=g.qg;refine⟨.tup U N (by rw[P];simpa using r1.1) ?_,λh=>by simp[V.one]at h⟩
   intro j a b t r;have⟨a0,C,S⟩:=m1 j a t;exact(ih a0 a b S (λk d=>O k (jX (mem_of_getElem? C) d)) (r1.2 j a0 b C (by simpa using r))).1
  grind
end
def fr(ro:aZ Nat):Fence:={fn:=λ_=>True,depth:=none,alive:=false,round:=ro}
def w_(I:cn)(μ:Mu)(H:bl)(w:World)(r:V)(H':bl):Ending->World->Prop:=λe w'=>∃u I' μ',e=.returned u/\bD I' μ' r u/\cO I' μ' H' w'/\Step I μ H w I' μ' H' w'
def xM(P:Program)(f:Zk):Prop:=∃fn,P.funcs[f]?=some fn/\fn.body.isSome=true/\(fn.name== "runtime.NumGoroutine")=false
structure kL(P:Program)(call:dg):Prop where
 fn:∀f args H r H',call (.fn f) args H=some (r,H')->xM P f/\∀I μ w vs,cO I μ H w->cF I μ args vs->CallsIn (fr none) 0 P f vs.toArray w (w_ I μ H w r H')
 yld:∀id args H r H',call (.yld id) args H=some (r,H')->∀I μ w vs p,cO I μ H w->cF I μ args vs->μ id=some p->
  ∃l f tmps assign body,(Instr.yield p.b vs.toArray).run P w=.ok (.round l f tmps assign body) w/\RoundIn (fr none) 0 P l f tmps assign body w (w_ I μ H w r H')
def rX:Ob->Ob
 |.row es xs=>.frz es xs|.map _=>.dead|o=>o
theorem E_(H:bl)(k id:Nat):(tU H k)[id]?=(H[id]?).map λob=>if id=k then rX ob else ob:=by
 unfold tU;by_cases e:id=k;subst e;cases h:H[id]?with|none=>simp[h]|some ob=>have u:=(ζe.1 h).1;cases ob<;>simp[rX,u]<;>exact(ζe.1 h).2
 grind
theorem IA(o:Ob):rX (rX o)=rX o:=by cases o<;>rfl
theorem iB:∀(T:Zv)(H:bl)(id:Nat),(cH H T)[id]?=(H[id]?).map λob=>if id∈T then rX ob else ob:=by intro T;induction T with|nil=>simp[cH]|cons k T u=>intro H id;have:=u (tU H k) id;grind[cH,E_,IA]
def jS(T:Zv)(H:bl):(cH H T).length=H.length:=by induction T generalizing H with|nil=>rfl|cons k T u=>simp[cH]at u⊢;rw[u];grind[tU]
section
variable{P:Program}{I I':cn}{μ μ':Mu}{H H':bl}{w w':World}
def cO.kept(s:cO I μ H w)(a:∀b,b<w.heap.size->w'.heap[b]?=w.heap[b]?):cO I μ H w' where
 dom:=s.dom
 imm:=λb x h=>IC.rN (s.imm b x h) (a b (s.GL h))
 obs:=λid ob h=>(s.obs id ob h).mono (cn.le_refl _) (Mu.le_refl _) (λp u z=>by
  have C:gY μ H p.b:=⟨id,p,ob,h,z,u,rfl⟩
  grind[mV,fR]) (λB=>by subst B;exact s.obs id _ h)
 inj:=s.inj
 gl:=s.gl
theorem qP(μ:Mu)(b:Nat):¬gY μ [] b:=by rintro⟨id,p,ob,h,_⟩;simp_all
def B4{call:dg}(hc:kL P call){f:Zk}{args:Zu}{y:V}(h:bW call f args H=some y)(s:cO I μ H w){vs:aY Zp}(n:cF I μ args vs):
 xM P f/\CallsIn (fr none) 0 P f vs.toArray w (w_ I μ H w y (if y.scalar then H else cH H (cN (b8 call.lv H) args))):=by
 unfold bW at h;split at h
 .rename_i az has;split at h
  .rename_i r H1 S;split at h
   .rename_i y' hy;split at h
    .rename_i aa;simp at h;subst h;generalize N:cN (b8 call.lv H) args=T;obtain⟨R,D⟩:=iL has;have s0:cO (plus I μ H w T) (λ_=>none) [] w:=⟨λ_ _=>rfl,tv s T,Zc,Zc,s.gl.mono (oM I μ H w T)⟩
     have U:cF (plus I μ H w T) (λ_=>none) az vs:=by refine⟨R.trans n.1,λj a b d z=>?_⟩;obtain⟨x,Y,af⟩:=D j a d;refine .c _ _ (uh s T call.lv x a b af (λk o=>?_) (n.2 j x b Y z)).1;rw[<-N];exact jX (mem_of_getElem? Y) o
     obtain⟨hf,L⟩:=hc.fn f az [] r H1 S;refine⟨hf,(L _ _ w vs s0 U).mono ?_⟩;rintro e w' ⟨u,I1,t,rfl,hr,v,st⟩;have B:=λb D=>st.frame b D (qP _ _)
     generalize ak:b8 call.lv H1 r=T1;have A:=(uh v T1 call.lv r y' u hy (λk o=>Zd) hr).1
     cases ah:y'.scalar with
     |true=>exact⟨u,I,μ,rfl,.c _ _ (A.scalar ah),s.kept B,⟨cn.le_refl _,Mu.le_refl _,le_refl _,st.size,λb D _=>B b D,λ_ h=>h.elim .inl λh=>.inr (.inl h),st.os,st.out,st.fz⟩⟩|false=>
      simp only[false_eq_true,if_false]
      let I2:=plus I1 t H1 w' T1
      have G:cn.le I I2:=cn.le_trans (oM I μ H w T) (cn.le_trans st.le (oM _ _ _ _ _));have W:∀b,(I2 b).isSome=true->(I b).isSome=true\/As μ H T b\/w.heap.size<=b:=by intro b D;have d:(I1 b).isSome=true\/gY t H1 b:=(by rcases yf D with h|h;all_goals grind[Be]);rcases st.terr b d with h|h|h;all_goals grind[yf,qP]
      have X:∀id ob p,H[id]?=some ob->ob.live=true->id∉T->μ id=some p->I2 p.b=none:=by intro id ob p d z h3 h4;cases E:I2 p.b with|none=>rfl|some x=>have F:gY μ H p.b:=⟨id,p,ob,d,z,h4,rfl⟩;rcases W p.b Zd with h|⟨O,p',ai,g0,g1,g2,g3,g4⟩|h;rw[fR s F]at h;cases h;have:=s.inj O id ai ob p' p g1 d g2 z g3 h4 g4;simp_all;have:=mV s F;omega
      have Q:∀id x,(cH H T)[id]?=some x->∃ob,H[id]?=some ob/\x=(if id∈T then rX ob else ob):=by grind[iB]
      have C:∀id x,(cH H T)[id]?=some x->x.live=true->H[id]?=some x/\(id∉T\/∃r,x=.loop r):=by intro id x Y g;obtain⟨ob,d,z⟩:=Q id x Y;by_cases Z:id∈T;rw[if_pos Z]at z;cases ob<;>simp[rX]at z<;>subst z<;>simp[Ob.live]at g;grind;grind
      refine⟨u,I2,μ,rfl,.c _ _ A,⟨?_,?_,?_,?_,s.gl.mono G⟩,⟨G,Mu.le_refl _,by rw[jS];grind,st.size,λb D _=>B b D,?_,st.os,st.out,st.fz⟩⟩
      .intro id h;rw[jS]at h;exact s.dom id h
      .grind[tv]
      .intro id x Y;obtain⟨ob,d,z⟩:=Q id x Y;have J:=s.obs id ob d
       by_cases Z:id∈T
       .rw[if_pos Z]at z
        cases ob with
        |row es xs=>
         subst z;obtain⟨p,c,g1,g2,g3⟩:=BO s Z (by rw[d];rfl)
         exact⟨p,c,g1,oM _ _ _ _ _ _ _ (st.le _ _ g2),g3.mono G (Mu.le_refl _)⟩
        |frz es xs=>subst z;exact J.mono G (Mu.le_refl _) (λp _ g=>by grind[Ob.live]) (λi=>by cases i)|map al=>subst z;trivial|free=>simp[rX]at z;subst z;exact J|dead=>subst z;trivial|loop r=>
         simp[rX]at z;subst z;obtain⟨p,l,g1,g2,g3,g4⟩:=J;refine⟨p,l,g1,?_,?_,g4.mono G (Mu.le_refl _)⟩
         .
          cases E:I2 p.b with
          |none=>rfl|some x=>
           have K:=tv v T1 p.b x E;have aj:=(Array.getElem?_eq_some_iff.1 g3).1;have m:=B p.b aj;rw[g3]at m
           cases x with
           |cells c=>obtain⟨_,_,q⟩:=K;rw[m]at q;cases q|map es=>obtain⟨_,q⟩:=K;rw[m]at q;cases q
         grind
       rw[if_neg Z]at z;subst z;refine J.mono G (Mu.le_refl _) (λp M g=>⟨B _ (mV s ⟨id,p,x,d,g,M,rfl⟩),X id x p d g Z M⟩) (λi=>by subst i;exact J)
      .intro id O o1 o2 p p' d z l1 l2 m1 m2 D;exact s.inj id O o1 o2 p p' (C id o1 d l1).1 (C O o2 z l2).1 l1 l2 m1 m2 D
      intro b D;rcases D with h|⟨id,p,x,d,z,h3,rfl⟩
      .grind[Be]
      exact .inr (.inl ⟨id,p,x,(C id x d z).1,z,h3,rfl⟩)
    grind
   grind
  grind
 grind
def bD.scalar{x:V}{v:Zp}(h:bD I μ x v)(B:x.scalar=true):bD I' μ' x v:=by
 have key:∀(l:Zu)(u:aY Zp),(∀x∈l,∀v,bD I μ x v->x.scalar=true->bD I' μ' x v)->V.cG l=true->(∀(j:Nat)a b,l[j]?=some a->u[j]?=some b->bD I μ a b)->
  ∀(j:Nat)a b,l[j]?=some a->u[j]?=some b->bD I' μ' a b:=by
  intro l
  induction l with
  |nil=>grind|cons x l C=>
   intro u f L O j a b D G;simp only[V.cG,ζh]at L
   cases j with
   |zero=>grind|succ j=>
    cases u with
    |nil=>simp at G|cons v u=>exact C u (λy w=>f y (mem_cons_of_mem _ w)) L.2 (λj a b p q=>O (j+1) a b Zd Zd) j a b Zd Zd
 have d:∀(k:Nat)(x:V)(v:Zp),SizeOf.sizeOf x<k->bD I μ x v->x.scalar=true->bD I' μ' x v:=by intro k;induction k with|zero=>grind|succ k C=>intro x v g h B;cases h with|c _ _ h=>exact .c _ _ (h.scalar B)|agg z u J h=>refine .agg z u J (λj a b D G=>key z u.toList (λy w v e B=>C y v ?_ e B) B (λj a b p q=>h j a b p (by simpa using q)) j a b D Zd);have:=List.sizeOf_lt_of_mem w;grind|tup z u J h=>refine .tup z u J (λj a b D G=>key z u.toList (λy w v e B=>C y v ?_ e B) B (λj a b p q=>h j a b p (by simpa using q)) j a b D Zd);have:=List.sizeOf_lt_of_mem w;grind|_=>grind[V.scalar]
 exact d (SizeOf.sizeOf x+1) x v Za h B
def cO.JC(s:cO I μ H w){ob:Ob}{p:Pl}(U:ob≠.free)(b:I p.b=none)(G:¬gY μ H p.b)(W:sK I (μ.gD H.length p) w H.length ob):
 cO I (μ.gD H.length p) (H++[ob]) w:=by
 have a:=s.dom _ (le_refl _);have u:∀id x,(H++[ob])[id]?=some x->(id≠H.length/\H[id]?=some x)\/(id=H.length/\x=ob):=by grind
 refine⟨?_,s.imm,?_,?_,s.gl⟩
 .intro id h;simp at h;rw[Mu.iE _ _ Za];exact s.dom id Za
 .intro id x h;rcases u id x h with⟨e,h⟩|⟨rfl,rfl⟩
  .refine(s.obs id x h).mono (cn.le_refl _) (Mu.qw a) (λq Q S=>?_) (λT=>by subst T;rw[Mu.iE _ _ e];exact s.obs id _ h)
   exact⟨rfl,fR s ⟨id,q,x,h,S,Q,rfl⟩⟩
  grind
 intro id z o1 o2 q J h1 X L O B C D;rcases u id o1 h1 with⟨e1,k1⟩|⟨a1,Z⟩<;>rcases u z o2 X with⟨e2,k2⟩|⟨Y,c⟩
 .rw[Mu.iE _ _ e1]at B;rw[Mu.iE _ _ e2]at C;exact s.inj id z o1 o2 q J k1 k2 L O B C D
 .subst Y;rw[Mu.iE _ _ e1]at B;rw[Mu.fS]at C;cases C;exact absurd ⟨id,q,o1,k1,L,B,D⟩ G
 .subst a1;rw[Mu.iE _ _ e2]at C;rw[Mu.fS]at B;cases B;exact absurd ⟨z,J,o2,k2,O,C,D.symm⟩ G
 grind
theorem UR{call:dg}(hc:kL P call){f:Zk}{args:Zu}{y:V}(h:j_ call f args H=some (y,H'))(s:cO I μ H w){vs:aY Zp}(F:cF I μ args vs):
 xM P f/\CallsIn (fr none) 0 P f vs.toArray w (w_ I μ H w y H'):=by
 unfold j_ at h;split at h
 .rename_i az has;split at h
  .rename_i r H1 L;generalize hT:cN (b8 call.lv H) args=T;have⟨W,D⟩:=iL has;have s0:cO (plus I μ H w T) (λ_=>none) [] w:=⟨λ_ _=>rfl,tv s T,Zc,Zc,s.gl.mono (oM I μ H w T)⟩
   have O:cF (plus I μ H w T) (λ_=>none) az vs:=by refine⟨W.trans F.1,λj a b d m=>?_⟩;have⟨x,U,aa⟩:=D j a d;refine .c _ _ (uh s T call.lv x a b aa (λk hk=>?_) (F.2 j x b U m)).1;rw[<-hT];exact jX (mem_of_getElem? U) hk
   have⟨hf,G⟩:=hc.fn f az [] r H1 L;refine⟨hf,(G _ _ w vs s0 O).mono ?_⟩;rintro e w' ⟨u,I1,μ1,rfl,n,s1,st⟩;have z:∀b,b<w.heap.size->w'.heap[b]?=w.heap[b]?:=λb D=>st.frame b D (qP _ _)
   have K:cO I μ H w':=s.kept z;have ab:Step I μ H w I μ H w':=⟨cn.le_refl _,Mu.le_refl _,le_refl _,st.size,λb D _=>z b D,λ_ h=>h.elim .inl λh=>.inr (.inl h),st.os,st.out,st.fz⟩
   split at h
   next ae=>simp only[ζa,ζc]at h;obtain⟨rfl,rfl⟩:=h;exact⟨u,I,μ,rfl,n.scalar ae,K,ab⟩

   have key:∀(id es off len:Nat)(v:V)(ob:Ob)(u:Zp),qA H.length H1 id es off len=some (v,ob)->bD I1 μ1 (.hsl id es off len) u->
    ∃p,bD I (μ.gD H.length p) v u/\cO I (μ.gD H.length p) (H++[ob]) w'/\Step I μ H w I (μ.gD H.length p) (H++[ob]) w':=by
    intro id es off len v ob u B hu;unfold qA at B;split at B
    .rename_i X xs J;split at B
     .rename_i Q;obtain⟨rfl,am⟩:=Q;obtain⟨rfl,rfl⟩:=B;have⟨p,c,el,g1,g2,g3,g4⟩:=s1.obs id _ J;have an:w.heap.size<=p.b:=by
       rcases st.terr p.b (.inr ⟨id,p,_,J,rfl,g1,rfl⟩)with h|h|h
       .have⟨x,U⟩:=isSome_iff_exists.1 h;have:=st.le _ _ U
        grind
       all_goals grind[qP]
      have M:I p.b=none:=by cases U:I p.b with|none=>rfl|some x=>have:=s.GL U;omega
      have hn:¬gY μ H p.b:=λho=>by have:=mV s ho;omega
      have af:fT I (μ.gD H.length p) p c X xs:=by refine⟨g4.es_eq,g4.sz,g4.o6,g4.one,g4.room,g4.rel.1,λj a b B D=>(g4.rel.2 j a b B D).scalar ?_⟩;have g:=mem_of_getElem? B;rw[mem_flatten]at g;grind
      have sa:=K.JC (ob:=.row X xs) Zc M hn ⟨p,c,el,Mu.fS _ _ _,M,g3,af⟩
      refine⟨p,?_,sa,⟨cn.le_refl _,Mu.qw (s.dom _ (le_refl _)),Zc,st.size,λb D _=>z b D,?_,st.os,st.out,st.fz⟩⟩
      .rcases hu.lY with⟨p',o,g,ah,ai,aj,t⟩|⟨h0,ad,t⟩
       .rw[g1]at g;cases g;rw[t];subst ah;exact .hsl _ off len o p (Mu.fS _ _ _) ai aj
       rw[t,h0];exact .hsl0 _ _ _ _
      rintro b (h|⟨k,q,x,d,m,N,rfl⟩)
      .exact .inl h
      by_cases e:k=H.length
      .grind[Mu.fS]
      rw[Mu.iE _ _ e]at N;have ak:k<H.length:=by have:=(ζe.1 d).1;grind
      rw[getElem?_append_left ak]at d;exact .inr (.inl ⟨k,q,x,d,m,N,rfl⟩)
     grind
    grind
   split at h
   next id es off len _=>simp only[ζf]at h;obtain⟨⟨v,ob⟩,B,rfl,rfl⟩:=h;have⟨p,k1,k2,k3⟩:=key id es off len v ob u B n;exact⟨u,I,_,rfl,k1,k2,k3⟩
   .rename_i id es off len rest _;split at h
    .rename_i S;simp only[ζf,ζc]at h;obtain⟨⟨v,ob⟩,B,rfl,rfl⟩:=h;obtain⟨A,rfl,C⟩:=n.qg;have Y:0<A.toList.length:=by have:=C.1;grind
     obtain⟨i,E,Z⟩:∃i E,A.toList=i::E:=by cases hl:A.toList with|nil=>rw[hl]at Y;simp at Y|cons a b=>grind
     rw[Z]at C;have⟨p,k1,k2,k3⟩:=key id es off len v ob i B (C.2 0 _ _ rfl rfl);refine⟨_,I,_,rfl,.tup _ _ ?_ ?_,k2,k3⟩
     .have:=C.1;grind
     intro j a b R D;have al:(i::E)[j]?=some b:=by rw[<-Z];grind
     cases j with
     |zero=>grind|succ j=>
      simp at R al;refine(C.2 (j+1) a b Zd Zd).scalar ?_
      have:∀(l:Zu),V.cG l=true->∀x∈l,x.scalar=true:=by intro l;induction l with|nil=>grind|cons y l ih=>simp_all[V.cG]
      exact this rest S a (mem_of_getElem? R)
    simp at h
   grind
  grind
 grind
def Ul{E:Env}{call:dg}(hc:kL P call){f:Zk}{args:Zu}{y:V}(h:fc E call f args H=some (y,H'))(s:cO I μ H w){vs:aY Zp}(a:cF I μ args vs):
 xM P f/\CallsIn (fr none) 0 P f vs.toArray w (w_ I μ H w y H'):=by
 unfold fc at h;split at h
 .grind[UR]
 have⟨k1,k2⟩:=hc.fn f args H y H' h
 grind
end
def Ob.mp:Ob->aZ (aY (V×V))
 |.map B=>some B|_=>none
def mO(H H2:bl):Prop:=∀id:Nat,(H[id]?).bind Ob.rows=(H2[id]?).bind Ob.rows/\(H[id]?).bind Ob.mp=(H2[id]?).bind Ob.mp
def mO.refl(H:bl):mO H H:=λ_=>⟨rfl,rfl⟩
def mO.symm{H H2:bl}(h:mO H H2):mO H2 H:=λid=>⟨(h id).1.symm,(h id).2.symm⟩
def mO.trans{H H2 B:bl}(h:mO H H2)(k:mO H2 B):mO H B:=λid=>⟨(h id).1.trans (k id).1,(h id).2.trans (k id).2⟩
theorem mO.of_eq{H H2:bl}(h:H=H2):mO H H2:=by subst h;exact .refl _
def H7{H H2:bl}(h:mO H H2):∀n,borrow n H=borrow n H2:=by
 intro n
 induction n with
 |zero=>funext x;rfl|succ n u=>
  funext x
  cases x with
  |hsl id es off len=>simp only[borrow,(h id).1,u]|hptr id el off=>simp only[borrow,(h id).1,u]|hmap id=>
   have:=(h id).2;simp only[borrow,u];split;rfl
   cases a:H[id]?with
   |none=>cases w:H2[id]?with|none=>rfl|some o2=>rw[a,w]at this;cases o2<;>simp[Ob.mp]at this<;>rfl
   |some o=>cases w:H2[id]?with|none=>rw[a,w]at this;cases o<;>simp[Ob.mp]at this<;>rfl|some o2=>rw[a,w]at this;cases o<;>cases o2<;>simp[Ob.mp]at this<;>first|rfl|(subst this;rfl)
  |_=>simp only[borrow,u]
theorem K8{H H2:bl}(h:mO H H2):∀n,b8 n H=b8 n H2:=by
 intro n
 induction n with
 |zero=>funext x;rfl|succ n u=>
  funext x
  cases x with
  |hsl id es off len=>simp only[b8,(h id).1,u]|hptr id el off=>simp only[b8,(h id).1,u]|hmap id=>
   have:=(h id).2;simp only[b8,u];split;rfl
   cases a:H[id]?with
   |none=>cases w:H2[id]?with|none=>rfl|some o2=>rw[a,w]at this;cases o2<;>simp[Ob.mp]at this<;>rfl
   |some o=>cases w:H2[id]?with|none=>rw[a,w]at this;cases o<;>simp[Ob.mp]at this<;>rfl|some o2=>rw[a,w]at this;cases o<;>cases o2<;>simp[Ob.mp]at this<;>first|rfl|(subst this;rfl)
  |_=>simp only[b8,u]
theorem zY{H H2:bl}(h:mO H H2)(call:dg)(f:Zk)(args:Zu):bW call f args H=bW call f args H2:=by unfold bW borrows;rw[H7 h]
def Gu{H H2:bl}(h:mO H H2)(p:V)(n:Nat):ec H p n=ec H2 p n:=by cases p with|hptr id el off=>simp only[ec,(h id).1]|_=>rfl
def Lj{H H2:bl}(h:mO H H2)(p:V):mA H p=mA H2 p:=by
 cases p with
 |hmap id=>
  have:=(h id).2;simp only[mA]
  cases a:H[id]?with
  |none=>cases u:H2[id]?with|none=>rfl|some o2=>rw[a,u]at this;cases o2<;>simp[Ob.mp]at this<;>rfl
  |some o=>cases u:H2[id]?with|none=>rw[a,u]at this;cases o<;>simp[Ob.mp]at this<;>rfl|some o2=>rw[a,u]at this;cases o<;>cases o2<;>simp[Ob.mp]at this<;>first|rfl|(subst this;rfl)
 |_=>rfl
theorem yD{E:Env}{F:Zo}{H H2:bl}(h:mO H H2)(op:Op):dQ E F H op=dQ E F H2 op:=by cases op<;>simp only[dQ,Gu h,Lj h]
theorem uu{H H2:bl}(h:mO H H2)(T:Zv):iI H T=iI H2 T:=by unfold iI;congr 1;funext id;rw[(h id).1]
def zW{H:bl}{T:Zv}(h:iI H T=true){id:Nat}(B:id∈T):∃es xs,H[id]?=some (.row es xs)\/H[id]?=some (.frz es xs):=by unfold iI at h;rw[all_eq_true]at h;have:=h id B;cases a:H[id]?with|none=>rw[a]at this;simp at this|some o=>rw[a]at this;cases o<;>simp[Ob.rows]at this<;>exact⟨_,_,by first|exact .inl rfl|exact .inr rfl⟩
def pG{H:bl}{b id:Nat}:(H.take b)[id]?=if id<b then H[id]?else none:=by rw[getElem?_take]
def qD{H:bl}{T:Zv}{b:Nat}(h:iI (H.take b) T=true):mO (cH H T) H:=by intro id;rw[iB];by_cases u:id∈T;have⟨es,z,a⟩:=zW h u;rw[pG]at a;by_cases w:id<b;rw[if_pos w]at a;rcases a with a|a<;>simp[a,u,rX,Ob.rows,Ob.mp];rw[if_neg w]at a;rcases a with a|a<;>cases a;cases H[id]?<;>simp[u]
def mO.take{H H2:bl}(h:mO H H2)(b:Nat):mO (H.take b) (H2.take b):=by intro id;rw[pG,pG];by_cases u:id<b;rw[if_pos u,if_pos u];exact h id;rw[if_neg u,if_neg u];exact⟨rfl,rfl⟩
def z6{H:bl}{T:Zv}{b:Nat}(h:iI (H.take b) T=true){id:Nat}(B:id∈T):id<b:=by have⟨es,w,a⟩:=zW h B;rw[pG]at a;by_cases u:id<b;exact u;rw[if_neg u]at a;rcases a with a|a<;>cases a
def C8{H:bl}{T:Zv}{k:Nat}{ob:Ob}(h:k∉T):cH (H.set k ob) T=(cH H T).set k ob:=by apply List.ext_getElem?;intro i;rw[iB];by_cases e:i=k;subst e;by_cases u:i<H.length;rw[getElem?_set_self u,getElem?_set_self (by rw[jS];exact u)];simp[h];rw[List.getElem?_eq_none (by simp;omega),List.getElem?_eq_none (by rw[length_set,jS];omega)];rfl;rw[getElem?_set_ne (Ne.symm e),getElem?_set_ne (Ne.symm e),iB]
def Ic(H:bl)(T B:Zv):cH (cH H T) B=cH (cH H B) T:=by apply List.ext_getElem?;intro i;simp only[iB];cases H[i]?with|none=>rfl|some o=>by_cases a:i∈T<;>by_cases u:i∈B<;>simp[a,u]
def JX{H:bl}{b:Nat}:∀(n:Nat)(x:V),(∀id∈b8 n (H.take b) x,id<b)->b8 n H x=b8 n (H.take b) x:=by
 intro n
 induction n with
 |zero=>intro x _;rfl|succ n C=>
  have u:∀l:Zu,(∀id∈cN (b8 n (H.take b)) l,id<b)->cN (b8 n H) l=cN (b8 n (H.take b)) l:=by intro l;induction l with|nil=>intro _;rfl|cons x r B=>intro h;simp only[cN,mem_append]at h⊢;rw[C x λid w=>h id (.inl w),B λid w=>h id (.inr w)]
  intro x h;simp only[b8]at h⊢;split;rfl;rename_i hc;rw[if_neg hc]at h
  cases x with
  |hsl id es off len=>simp only at h⊢;have z:id<b:=h id (mem_cons_self ..);rw[pG,if_pos z]at h⊢;cases d:(H[id]?).bind Ob.rows with|none=>rfl|some q=>rw[d]at h;simp only at h⊢;rw[u _ λi w=>h i (mem_cons_of_mem _ w)]
  |hptr id el off=>simp only at h⊢;have z:id<b:=h id (mem_cons_self ..);rw[pG,if_pos z]at h⊢;cases d:(H[id]?).bind Ob.rows with|none=>rfl|some q=>rw[d]at h;simp only at h⊢;rw[u _ λi w=>h i (mem_cons_of_mem _ w)]
  |hmap id=>simp only at h⊢;have z:id<b:=h id (mem_cons_self ..);rw[pG,if_pos z]at h⊢;split;(next D e=>rw[e]at h;simp only[mem_cons,mem_append]at h;rw[u _ λi w=>h i (.inr (.inl w)),u _ λi w=>h i (.inr (.inr w))]);rfl|clo f a c=>simp only[mem_append]at h⊢;rw[u _ λi w=>h i (.inl w),u _ λi w=>h i (.inr w)]|agg G=>simp only at h⊢;exact u _ h|tup G=>simp only at h⊢;exact u _ h|_=>rfl
def tL{H:bl}{b n:Nat}:∀(l:Zu),(∀id∈cN (b8 n (H.take b)) l,id<b)->cN (b8 n H) l=cN (b8 n (H.take b)) l
 |[],_=>rfl|x::r,h=>by simp only[cN,mem_append]at h⊢;rw[JX n x λid B=>h id (.inl B),tL r λid B=>h id (.inr B)]
def Eh{H:bl}{b id es:Nat}{xs:Zt}(h:((H.take b)[id]?).bind Ob.rows=some (es,xs)):(H[id]?).bind Ob.rows=some (es,xs):=by grind
theorem GG{H:bl}{b:Nat}{p:V}{n:Nat}{cs:Zu}(h:ec (H.take b) p n=some cs):ec H p n=some cs:=by unfold ec at h⊢;grind
theorem KJ{H:bl}{b:Nat}{m:V}{B:aY (V×V)}(h:mA (H.take b) m=some B):mA H m=some B:=by unfold mA at h⊢;grind
def yF{E:Env}{F:Zo}{H:bl}{b:Nat}{op:Op}{x:V}(h:dQ E F (H.take b) op=some x):dQ E F H op=some x:=by cases op with|load t a=>grind[dQ,ζg,GG]|lookup t m k ok=>grind[dQ,KJ]|_=>simp[dQ]at h
theorem sB{f g:V->aZ V}(B:∀x y,f x=some y->g x=some y):∀{xs ys:Zu},gV f xs=some ys->gV g xs=some ys:=by intro xs;induction xs with|nil=>intro ys h;exact h|cons x xs u=>grind[gV]
theorem Ir{f g:V->aZ V}(B:∀x y,f x=some y->g x=some y):∀{xs ys:Zt},lz f xs=some ys->lz g xs=some ys:=by intro xs;induction xs with|nil=>intro ys h;exact h|cons x xs u=>grind[lz,sB]
theorem It{f g:V->aZ V}(B:∀x y,f x=some y->g x=some y):∀{xs ys:aY (V×V)},lp f xs=some ys->lp g xs=some ys:=by intro xs;induction xs with|nil=>intro ys h;exact h|cons x xs u=>grind[lp]
theorem Bi{H:bl}{b:Nat}:∀(n:Nat)(x y:V),borrow n (H.take b) x=some y->borrow n H x=some y:=by intro n;induction n with|zero=>intro x y h;exact h|succ n z=>intro x y h;simp[borrow]at h⊢;split at h;grind;rename_i hc;rw[if_neg hc];split at h;split at h;rename_i a;simp only[Eh a];split at h;rename_i u;rw[if_pos u];grind[ζf,Ir];grind;grind;split at h;rename_i a;simp[Eh a];split at h;split at h;rename_i w;rw[if_pos w];grind[ζf,sB];grind;grind;grind;all_goals grind[ζf,It,sB]
def pQ{call:dg}{f:Zk}{args:Zu}{H:bl}{b:Nat}{y:V}(h:bW call f args (H.take b)=some y):bW call f args H=some y:=by grind[bW,borrows,sB,Bi]
theorem zg(n:Nat)(H:bl){x:V}(h:x.closed=true):b8 n H x=[]:=by cases n with|zero=>rfl|succ n=>simp[b8,h]
def Ff(n:Nat)(H:bl){xs:Zu}(h:V.gX xs=true):cN (b8 n H) xs=[]:=by induction xs with|nil=>rfl|cons x r u=>grind[V.gX,cN,zg]
section
variable{P:Program}{E:Env}{I I':cn}{μ μ':Mu}{H H':bl}{n:Nat}{F:Zo}{a:Act}{w w':World}
def wV{f:Zk}(h:xM P f)(args:Array Zp):(callFunc f args).run P w=.ok (.enter f args) w:=by have⟨fn,a,B,u⟩:=h;unfold callFunc;have z:fn.body.isNone=false:=Ze;simp only[run_bind,run_program,andThen_ok,a,u,z,false_eq_true,if_false,run_pure]
theorem CA{o:Oper}{ro:aZ Nat}{K:Act->World->Prop}{Q:Exit->Act->World->Prop}{f:Zk}{args:Array Zp}{r:V}
 (B:CallsIn (fr none) 0 P f args w (w_ I μ H w r H'))(G:∀u I' μ' w',bD I' μ' r u->cO I' μ' H' w'->Step I μ H w I' μ' H' w'->K (a.put o.dst u) w'):
 o.uponIn (fr ro) 0 P a K Q (.ok (.enter f args) w):=by
 refine⟨λh=>by grind[fr],?_⟩
 have z:=B;refine z.mono ?_;rintro e w' ⟨u,I',μ',rfl,b,z,C⟩
 grind
def Fp{x:V}(h:x.scalar=true){I:cn}{μ:Mu}{v:Zp}(r:bD I μ x v):eF I x v:=by induction r with|c x v C=>omega|agg u w z _ B=>exact .agg u w z λj a b p q=>B j a b p q (tG h a (mem_of_getElem? p))|tup u w z _ B=>exact .tup u w z λj a b p q=>B j a b p q (tG h a (mem_of_getElem? p))|_=>grind[V.scalar]
theorem R5(m:eG P E)(r:eE I μ n F a.tmps)(s:cO I μ H w)(o:Oper){x:V}(h:o4 E F o.op=some x):
 ∃u I' w',(execOp a.eval o).run P w=.ok (.value u) w'/\bD I' μ x u/\cO I' μ H w'/\Step I μ H w I' μ H w':=by
 unfold o4 at h;split at h
 rotate_left
 .cases h
 rename_i es C B n Y;split at h
 rotate_left
 .cases h
 rename_i hc;obtain⟨rfl,rfl,Z⟩:=hc;have⟨obj,p,u,t,W⟩:=BT m r s o Y;have A:=W.len _ _ rfl;have⟨⟨q,c,el,g1,g2,g3,g4⟩,f⟩:=W.rel _ (s.dom _ (le_refl _));rw[Mu.fS]at g1;cases g1;have O:=W.b;have Q:obj=.cells c el:=by rw[O,kF]at g3;cases g3;rfl
 subst Q
 let I':cn:=λb=>if b=w.heap.size then some (.cells c)else I b
 have D:cn.le I I':=λb y L=>by grind
 have G:I' p.b=some (.cells c):=Zd
 have K:∀y∈C,∀z∈y,z.scalar=true:=λy L z M=>all_eq_true.1 (all_eq_true.1 Z y L) z M
 have g:∀b,b<w.heap.size->(w.alloc (.cells c el)).heap[b]?=w.heap[b]?:=λb S=>jq _ b S
 have af:∀b,b<w.heap.size->I' b=I b:=λb S=>Zd
 refine⟨u,I',_,t,?_,⟨s.dom,?_,?_,s.inj,s.gl.mono D⟩,⟨D,Mu.le_refl _,le_refl _,Zc,λb S _=>g b S,?_,rfl,⟨rfl,rfl,le_refl _⟩,λa S=>Mc W.nf a⟩⟩
 .refine .c _ _ ?_;have ah:∀d,C.length<=d->p.o+(0+d)*B<=p.sz->u=.slice (some ⟨p.b,p.o+0*B,none⟩) C.length d->eF I' x u:=by
   rintro d k1 k2 rfl;rw[zero_mul,add_zero];have hf:eF I' (.fsl B C) (.slice (some ⟨p.b,p.o,none⟩) C.length d):=.fsl B C p.b p.o d c G k1 g4.o6 g4.one g4.room λi j y z v m1 l N=>eF.mono D (Fp (K y (mem_of_getElem? m1) z (mem_of_getElem? l)) (g4.idx m1 l N))
   split at h
   .split at h
    .rename_i X;split at h
     rotate_left
     .cases h
     rename_i T;simp only[ζa]at h;subst h;simp only[List.isEmpty_iff,bne_iff_ne,ne_eq]at X T;subst X;have:d=0:=by simp only[List.length_nil,zero_mul]at A;rcases Nat.eq_zero_or_pos d with k|k;exact k;have:=Nat.mul_pos k (Nat.pos_of_ne_zero T);rw[zero_add]at k2;omega
     subst this;exact .dw _
    grind
   grind
  have hp:p.es=B:=g4.es_eq;change bD I _ (.hsl H.length B 0 C.length) u at f;generalize R:C.length=ln at f
  cases f with
  |c _ _ ae=>cases ae|hsl id off len d p' hm k1 k2=>rw[Mu.fS]at hm;grind|hsl0 id es off a=>
   have X:C=[]:=List.length_eq_zero_iff.1 R;subst X;split at h
   .split at h
    .split at h
     .simp only[ζa]at h;subst h;exact .dw _
     cases h
    grind
   simp only[ζa]at h;subst h;exact .fsl0 _ _ _
 .intro b y L
  by_cases e:b=w.heap.size
  .subst e;have:y=.cells c:=by have:=G;rw[O]at this;rw[this]at L;cases L;rfl
   subst this;exact⟨el,_,kF _⟩
  have U:I b=some y:=by have:(if b=w.heap.size then some (IC.cells c)else I b)=some y:=L;rw[if_neg e]at this;exact this
  exact IC.rN (s.imm b y U) (g b (IC.uM (s.imm b y U)))
 .intro id ob J;refine(s.obs id ob J).mono D (Mu.le_refl _) (λq hq hl=>?_) (λe=>by subst e;exact s.obs id _ J)
  have ho:gY μ H q.b:=⟨id,q,ob,J,hl,hq,rfl⟩;have ai:=mV s ho
  grind[fR]
 grind
def D4:∀{ys:Zt}{l:Zx},kY ys=some l->ys.flatten=l.map (V.int .u8)/\l.length=ys.length
 |[],l,h=>by cases h;grind|x::r,l,h=>by unfold kY at h;split at h;grind;rename_i n B e;cases e;obtain⟨k,a,rfl⟩:=ζf.1 h;have⟨u,w⟩:=D4 a;grind;cases h
def Rx(O:eG P E)(r:eE I μ n F a.tmps)(s:cO I μ H w)(o:Oper){x:V}(h:evalConv E F H o.op=some x):∃u,(execOp a.eval o).run P w=.ok (.value u) w/\bD I μ x u:=by
 unfold evalConv at h;split at h;rename_i st Q y B;split at h;rename_i e v S T f;split at h;rename_i U;obtain⟨D,g,W⟩:=ζg.1 h;obtain⟨l,X,rfl⟩:=ζf.1 W;obtain⟨Y,m⟩:=D4 X;have C:∀{t:Zm}{k:TK},E.kindOf t=some k->∃d b,E.tt t=some d/\P.underlying t=some b/\mm b=k:=λ{t k}hk=>by unfold Env.kindOf at hk;obtain⟨d,g1,g2⟩:=ζf.1 hk;obtain⟨b,G,J,_⟩:=(O.ty g1).dn;grind
 obtain⟨_,p,_,p1,G⟩:=C S;obtain⟨_,A,_,p2,J⟩:=C T;obtain⟨_,K,_,p3,Z⟩:=C U;rw[ji G]at p1;rw[zG J]at p2;rw[B6 Z]at p3;obtain⟨L,c,arr,e1,_,e2,e3,_⟩:=yR s (dh r f) g;have z:arr=(l.map (Value.int .u8)).toArray:=by apply ext';rw[Y]at e3;refine List.ext_getElem (by simpa using e3.1.symm) λj g1 g2=>?_;have g3:j<l.length:=Zd;have:=e3.2 j (V.int .u8 l[j]) arr.toList[j] (by simp[g3]) (ζd g1);rw[this.fu];simp
 refine⟨.string (lF l),?_,.c _ _ (.str _)⟩;rw[show execOp a.eval o=_ from by unfold execOp;rw[B]];refine dI ?_;rw[e1];rw[run_convert_bytes_string w st Q e L D.length c p1 p3 p2];cases L with|none=>have:=e2 w rfl;rw[e1]at this;simp only[firstCells,run_pure]at this;cases this;have i:l=[]:=(by have:=congrArg Array.size z;grind);subst i;rfl|some q=>have:=e2 w rfl;rw[e1]at this;simp only[firstCells,Nat.mul_one]at this;rw[z]at this;exact run_bytesToString w q D.length c l this
 cases h;cases h;cases h
def N3(Y:eG P E){call:dg}(hc:kL P call){ops:Zz}{place:aZ (Nat×Nat)}{o:Oper}{x:V}(h:cK E call ops place F H o.op=some (x,H'))
 (r:eE I μ n F a.tmps)(s:cO I μ H w)(ro:aZ Nat){K:Act->World->Prop}{Q:Exit->Act->World->Prop}
 (k:∀u I' μ' w',bD I' μ' x u->cO I' μ' H' w'->Step I μ H w I' μ' H' w'->K (a.put o.dst u) w'):o.wpIn (fr ro) 0 P a w K Q:=by
 refine⟨λ_ _=>trivial,?_⟩
 have aa:∀c,o.op≠.defer c:=by intro c ab;rw[ab]at h;simp[cK,cE,sO,bK]at h;all_goals grind[evalConv]
 show o.uponIn (fr ro) 0 P a K Q ((o.semAt ro a.eval).run P w);rw[Oper.semAt_eq ro a.eval o aa];have ae:∀v,(execOp a.eval o).run P w=.ok (.value v) w->bD I μ x v->H'=H->o.uponIn (fr ro) 0 P a K Q ((execOp a.eval o).run P w):=by intro v e j hH;rw[e,Oper.uponIn_value];subst hH;exact k v I μ w j s (.refl _ _ _ _)
 unfold cK at h;split at h
 .
  simp at h;obtain⟨v,j,rfl,rfl⟩:=h;unfold sO at j;split at j
  .rename_i hp;cases j;have⟨u,d,B⟩:=SY (w:=w) Y r o hp
   grind
  split at j
  .have⟨u,d,B⟩:=Rx Y r s o j
   grind
  cases j
 .
  have hr:dQ E F H o.op=some x/\H'=H:=by split at h;simp at h;grind;split at h;split at h;(next v j=>obtain⟨rfl,rfl⟩:=h;exact⟨yF j,rfl⟩);split at h;simp at h;grind;grind;grind
  grind[Sw]
 .
  by_cases G:nk E ops place=true
  .rw[if_pos G]at h
   grind[ζf,R5,Oper.uponIn_value]
  rw[if_neg G]at h;split at h
  .rename_i ob m T;have⟨obj,p,u,d,B⟩:=BT Y r s o T;rw[d,Oper.uponIn_value];have⟨g1,g2⟩:=B.rel _ (s.dom _ (le_refl _));have⟨s1,s2⟩:=s.push B.b g1 B.nf
   grind
  .rename_i ob m b i T;split at h
   .rename_i J;have⟨obj,p,u,d,B⟩:=BT Y r s o T;rw[d,Oper.uponIn_value];have⟨g1,g2⟩:=B.rel _ (s.obs _ _ J);have⟨s1,s2⟩:=s.fill J B.b g1 B.nf
    grind
   grind
  grind
 .
  have hl:cw E F H o.op=some (x,H'):=by grind
  have⟨nx,u,w',μ',d,B,Z,t,N⟩:=(SR Y r s o hl).run;rw[d];rcases B with rfl|⟨rfl,rfl⟩
  .exact k u I μ' w' Z t N
  exact k _ I μ' w' Z t N

 have z:∀c args,jK F o.op=some (c,args)->∃O:aY Zp,cF I μ args O/\
  (∀f,c=.fn f->xM P f->(execOp a.eval o).run P w=.ok (.enter f O.toArray) w)/\
  (∀id,c=.yld id->∃p,μ id=some p/\(execOp a.eval o).run P w=(Instr.yield p.b O.toArray).run P w):=by
  intro c args C;have⟨dst,op,ty,pos,after,A⟩:=o
  cases op with
  |call cl=>
   have⟨callee,L,ai⟩:=cl
   cases callee with
   |value f=>
    simp only[jK]at C;split at C
    .rename_i g p q O hf U;obtain⟨rfl,rfl⟩:=C;have⟨u,v,R,hu,j⟩:=(dh r hf).jQ;have D:=nF r U;refine⟨u.toList++L.toList.map a.eval++v.toList,(hu.append D).append j,?_,Zc⟩
     simp_all[execOp,resolve,Deferred.ofValue,invoke,wV]
    .rename_i id O hf U;simp at C;obtain⟨rfl,rfl⟩:=C;have⟨p,M,R⟩:=(dh r hf).Q7;have D:=nF r U;refine⟨L.toList.map a.eval,D,Zc,?_⟩
     intro aj X;cases X;refine⟨p,M,?_⟩;simp[execOp,resolve,run_bind];rw[R];simp[Deferred.ofValue,run_pure,andThen_ok,invoke]
     congr 1
     congr 1
     grind
    grind
   |_=>grind[jK]
  |_=>simp[jK]at C
 have S:∀f args y,jK F o.op=some (.fn f,args)->bW call f args H=some y->x=y->H'=(if y.scalar then H else cH H (cN (b8 call.lv H) args))->
  o.uponIn (fr ro) 0 P a K Q ((execOp a.eval o).run P w):=by
  intro f args y d B Z t;have⟨O,g1,g2,_⟩:=z _ _ d;have⟨k1,k2⟩:=B4 hc B s g1;rw[g2 f rfl k1]
  grind[CA]
 have af:∀f args,jK F o.op=some (.fn f,args)->fc E call f args H=some (x,H')->o.uponIn (fr ro) 0 P a K Q ((execOp a.eval o).run P w):=by intro f args d B;have⟨O,g1,g2,_⟩:=z _ _ d;have⟨k1,k2⟩:=Ul hc B s g1;rw[g2 f rfl k1];grind[CA]
 have ah:∀id args,jK F o.op=some (.yld id,args)->call (.yld id) args H=some (x,H')->o.uponIn (fr ro) 0 P a K Q ((execOp a.eval o).run P w):=by intro id args d B;have⟨O,g1,_,g3⟩:=z _ _ d;have⟨p,M,e⟩:=g3 id rfl;have⟨l,f,tmps,assign,body,k1,k2⟩:=hc.yld id args H x H' B I μ w O p s g1 M;rw[e,k1,Oper.uponIn_round];refine⟨λh=>by grind[fr],?_⟩;have B:=k2;refine B.mono ?_;rintro e w' ⟨u,I',μ',rfl,d,B,Z⟩;grind
 split at h
 .rename_i f args C;split at h
  rotate_left
  .cases h
  unfold dY at h;split at h
  .grind
  split at h
  .grind
  split at h
  .rename_i y hy;split at h
   next W=>simp at h;refine S f args y C (pQ hy) h.1.symm ?_;rw[<-h.2,if_pos W]
   rename_i W;split at h
   next ad=>simp at h;refine S f args y C (pQ hy) h.1.symm ?_;rw[<-h.2,if_neg W,tL _ λid hi=>z6 ad hi]
   simp at h
  grind
 all_goals grind
end
structure jR(B:Nat)(ds:List Deferred)(w:World):Prop where
 all:∀d∈ds,∃r,d.target=.collected r/\B<=r/\w.heap[r]?=some (.deferred (some []))
 apart:ds.Pairwise λd d'=>∀r,d.target=.collected r->d'.target≠.collected r
section
variable{P:Program}{E:Env}{I I' I'':cn}{μ μ' μ'':Mu}{H H' H'':bl}{n B:Nat}{F F':Zo}{a:Act}{w w' w'':World}
def ue(s:cO I μ H w){r:Nat}{c:aZ (aY Deferred)}(h:w.heap[r]?=some (.deferred c)):¬gY μ H r:=by rintro⟨id,p,ob,h1,C,B,rfl⟩;have:=s.obs id ob h1;cases ob with|row es G=>have⟨q,c,el,u,_,z,_⟩:=this;rw[B]at u;cases u;rw[h]at z;cases z|map D=>have⟨q,c,el,u,_,z,_⟩:=this;rw[B]at u;cases u;rw[h]at z;cases z|loop x=>have⟨q,c,u,_,z,_⟩:=this;rw[B]at u;cases u;rw[h]at z;cases z|_=>simp[Ob.live]at C
def jR.step{ds:aY Deferred}(h:jR B ds w)(s:cO I μ H w)(st:Step I μ H w I' μ' H' w'):jR B ds w' where
 all:=by intro d z;have⟨r,a,C,u⟩:=h.all d z;refine⟨r,a,C,?_⟩;rw[st.frame r (Array.getElem?_eq_some_iff.1 u).1 (ue s u)];exact u
 apart:=h.apart
def MJ(r:eE I μ n F a.tmps)(ops:Array Oper)(o:Oper):fM ops.toList F o=Region.wanted o (yielded ops a.tmps):=by unfold fM Region.wanted;cases i:o.guard with|none=>rfl|some g=>have⟨j,b⟩:=g;simp only;unfold yielded;have e:ops.toList[j]?=ops[j]?:=Zc;rw[e];cases C:(ops[j]?).bind (·.dst)with|none=>simp|some d=>simp only[ζb];have f:=r.2 d;by_cases w:d<a.tmps.size;have u:a.tmps[d]?=some a.tmps[d]:=(by simp[w]);have z:a.tmps.getD d undef=a.tmps[d]:=(by simp[w]);rw[z]at f;rw[u];(cases B:get F d with|bool c=>rw[B]at f;rw[f.q9];cases c<;>cases b<;>rfl|_=>cases h:a.tmps[d]with|bool c=>rw[h]at f;have:=f.of_bool;rw[B]at this;cases this|_=>rfl);have u:a.tmps[d]?=none:=getElem?_eq_none (Nat.le_of_not_lt w);have z:a.tmps.getD d undef=undef:=(by simp[w]);rw[z]at f;rw[u];cases B:get F d with|bool c=>rw[B]at f;have:=f.q9;simp[undef]at this|_=>rfl
def Cr(O:eG P E){call:dg}(hc:kL P call){ops:Array Oper}{place:aZ (Nat×Nat)}{o:Oper}(h:gm E call n ops.toList place o F H=some (F',H'))
 (r:eE I μ n F a.tmps)(s:cO I μ H w)(ro:aZ Nat){K:Act->World->Prop}{Q:Exit->Act->World->Prop}
 (J:∀a' I' μ' w',eE I' μ' n F' a'.tmps->a'.defers=a.defers->cO I' μ' H' w'->Step I μ H w I' μ' H' w'->K a' w'):
 if Region.wanted o (yielded ops a.tmps)then o.wpIn (fr ro) 0 P a w K Q else(∀f,o.about P w a.eval=some f->(fr ro).fn f)/\K (a.put o.dst undef) w:=by
 unfold gm at h;rw[<-MJ r];have z:∀v,(a.put o.dst v).defers=a.defers:=λv=>by cases o.dst<;>rfl
 split at h
 .rename_i C;rw[if_pos C];split at h
  .rename_i x H2 D;simp only[ζf,ζc]at h;obtain⟨L,G,rfl,rfl⟩:=h;refine N3 O hc D r s ro (λu I' μ' w' S T B=>?_)
   exact J _ I' μ' w' ((r.mono B.le B.mu).put S G) (z u) T B
  simp at h
 rename_i C;rw[if_neg C];simp only[ζf,ζc]at h;obtain⟨L,G,rfl,rfl⟩:=h;exact⟨λ_ _=>trivial,J _ I μ w (r.put (.undef I μ) G) (z _) s (.refl _ _ _ _)⟩
def LM(U:eG P E){call:dg}(hc:kL P call){ops:Array Oper}(ro:aZ Nat){Q:Exit->Act->World->Prop}:∀(rest:Zz)(k:Nat)(I:cn)(μ:Mu)(F:Zo)(H:bl)(a:Act)(w:World),
 (∀j,rest[j]?=ops[k+j]?)->lZ E call n ops.toList rest F H=some (F',H')->eE I μ n F a.tmps->cO I μ H w->
 (∀a' I' μ' w',eE I' μ' n F' a'.tmps->a'.defers=a.defers->cO I' μ' H' w'->Step I μ H w I' μ' H' w'->Q .normal a' w')->
 wpOpsIn (fr ro) 0 P ops Q (List.range' k rest.length) a w:=by
 intro rest
 induction rest with
 |nil=>intro k I μ F H a w _ h r s C;simp only[lZ,ζa,ζc]at h;obtain⟨rfl,rfl⟩:=h;exact C a I μ w r rfl s (.refl _ _ _ _)|cons o rest S=>
  intro k I μ F H a w u h r s C;simp only[lZ]at h;split at h
  .rename_i F1 H1 z;have b:ops[k]?=some o:=by simpa using(u 0).symm
   simp only[length_cons,List.range'_succ,wpOpsIn,b];refine Cr U hc z r s ro (λa' I' μ' w' c T O D=>?_)
   refine S (k+1) I' μ' F1 H1 a' w' (λj=>by have:=u (j+1);simpa[add_assoc,Nat.add_comm 1 j]using this) h c O ?_
   intro W I2 X Y G J L B;exact C W I2 X Y G (J.trans T) L (Step.trans O D B)
  simp at h
end
def ny(F F':Zo)(op:Op):Prop:=∀x∈op.operands,ev F x=ev F' x
def rC{F F':Zo}:∀{l:aY Zr},(∀x∈l,ev F x=ev F' x)->fH F l=fH F' l:=by intro l;induction l with|nil=>intro _;rfl|cons x l u=>grind[fH]
def yW{F F':Zo}:∀{l:aY (Nat×Zr)},(∀x∈l,ev F x.2=ev F' x.2)->l_ F l=l_ F' l:=by intro l;induction l with|nil=>intro _;rfl|cons x l u=>grind[l_]
def wY{F F':Zo}{o:aZ Zr}(h:∀x∈o.toArray,ev F x=ev F' x):jP F o=jP F' o:=by cases o with|none=>rfl|some x=>grind[jP]
def Dy{E:Env}{F F':Zo}{op:Op}(h:ny F F' op):bK E F op=bK E F' op:=by
 cases op with
 |move x=>exact h x (by simp[operands])|assign x=>exact h x (by simp[operands])|pick c a b=>simp[bK];rw[h c (by simp[operands]),h a (by simp[operands]),h b (by simp[operands])]|nilCheck x=>simp[bK];rw[h x (by simp[operands])]|binOp op t x y B=>simp[bK];rw[h x (by simp[operands]),h y (by simp[operands])]|unOp op t x=>simp[bK];rw[h x (by simp[operands])]|convert s d x=>simp[bK];rw[h x (by simp[operands])]|fieldAddr s x f=>simp[bK];rw[h x (by simp[operands])]|field s x f=>simp[bK];rw[h x (by simp[operands])]|indexAddr t x i=>simp[bK];rw[h x (by simp[operands]),h i (by simp[operands])]|index t x i=>simp[bK];rw[h x (by simp[operands]),h i (by simp[operands])]|slice t x C D G=>
  simp[bK];rw[h x (by simp[operands]),wY (λy w=>h y (by grind[operands])),wY (λy w=>h y (by grind[operands])),
   wY (λy w=>h y (by grind[operands]))]
 |build t ps=>simp[bK];rw[yW (λx u=>h x.2 (by grind[operands]))]|makeFunc f a b=>cases f with|func f=>simp[bK];rw[rC (λx u=>h x (by grind[operands])),rC (λx u=>h x (by grind[operands]))]|_=>rfl
 |extract x i=>simp[bK];rw[h x (by simp[operands])]|call c=>have⟨callee,args,z⟩:=c;cases callee with|builtin b=>simp[bK];rw[rC (λx u=>h x (by grind[operands,Call.operands]))]|_=>rfl
 |_=>rfl
def w5{E:Env}{F F':Zo}{H:bl}{op:Op}(h:ny F F' op):dQ E F H op=dQ E F' H op:=by cases op with|load t x=>simp[dQ];rw[h x (by simp[operands])]|lookup t m k ok=>simp[dQ];rw[h m (by simp[operands]),h k (by simp[operands])]|_=>rfl
theorem wq{E:Env}{F F':Zo}{op:Op}(h:ny F F' op):eP E F op=eP E F' op:=by cases op with|alloc t=>rfl|box t x=>simp[eP];rw[h x (by simp[operands])]|makeSlice t l c=>simp[eP];rw[h l (by simp[operands]),h c (by simp[operands])]|buildSlice t len ps=>simp[eP];rw[yW (λx u=>h x.2 (by grind[operands]))]|makeMap t r=>cases r<;>rfl|_=>rfl
def DC{E:Env}{F F':Zo}{H:bl}{op:Op}(h:ny F F' op):cw E F H op=cw E F' H op:=by
 cases op with
 |store t p x=>simp[cw];rw[h p (by simp[operands]),h x (by simp[operands])]|mapUpdate t m k x=>simp[cw];rw[h m (by simp[operands]),h k (by simp[operands]),h x (by simp[operands])]|insert t m k x=>simp[cw];rw[h m (by simp[operands]),h k (by simp[operands]),h x (by simp[operands])]|call c=>
  have⟨callee,args,u⟩:=c
  cases callee with
  |builtin b=>cases b with|append=>simp[cw];rw[rC (λx w=>h x (by grind[operands,Call.operands]))]|clear=>simp[cw];rw[rC (λx w=>h x (by grind[operands,Call.operands]))]|_=>rfl
  |_=>rfl
 |_=>rfl
def DJ{F F':Zo}{op:Op}(h:ny F F' op):jK F op=jK F' op:=by
 cases op with
 |call c=>have⟨callee,args,u⟩:=c;cases callee with|value f=>simp[jK];rw[h f (by simp[operands,Call.operands]),rC (λx w=>h x (by grind[operands,Call.operands]))]|_=>rfl
 |_=>rfl
def IE{E:Env}{F F':Zo}{op:Op}(h:ny F F' op):o4 E F op=o4 E F' op:=by grind[o4,wq]
def KA{F F':Zo}{ops:Zz}{i b:Nat}{H:bl}{op:Op}(h:ny F F' op):yQ ops i b F H op=yQ ops i b F' H op:=by
 have:pg F op=pg F' op:=by
  unfold pg;split;rename_i args _;split;rename_i x r u;rw[h x (by
   have:x∈args.toList:=by rw[u];simp
   grind[operands,Call.operands])]
  rfl;rfl
 grind[yQ]
def Ie{E:Env}{place:aZ (Nat×Nat)}{F F':Zo}{H:bl}{op:Op}(h:ny F F' op):sO E F H place op=sO E F' H place op:=by
 unfold sO;rw[Dy h];have:evalConv E F H op=evalConv E F' H op:=by unfold evalConv;split;rw[h _ (by simp[operands])];rfl
 rw[this]
def B_{E:Env}{b:Nat×Nat}{F:Zo}{H:bl}{op:Op}:sO E F H (some b) op=bK E F op:=by grind[sO]
def B8{E:Env}{call:dg}{ops:Zz}{place:aZ (Nat×Nat)}{F F':Zo}{H:bl}{op:Op}(h:ny F F' op)(B:∀b i,place=some (b,i)->pn ops i F=pn ops i F'/\qU ops b i F=qU ops b i F'/\nM ops i F op=nM ops i F' op):cK E call ops place F H op=cK E call ops place F' H op:=by
 unfold cK;rw[Ie h,wq h,DC h,DJ h,w5 (H:=H) h,IE h];split<;>(try rfl)
 .split<;>(try rfl);rename_i i;rw[w5 h,(B _ i rfl).2.2]
 split<;>(try rfl);rename_i b i;rw[(B _ i rfl).1,(B _ i rfl).2.1,KA h]
section
variable{E:Env}{call:dg}{n:Nat}{ops:Zz}{base:Nat}
def JN{o:Oper}{t:Nat}(h:.tmp t∈o.op.operands):t∈tmpsOf o ops:=by refine mem_append.2 (.inl (List.mem_filterMap.2 ⟨.tmp t,Zd,rfl⟩))
def EW{F F':Zo}{o:Oper}{dst:aZ Nat}{v:V}(B:jM n F dst v=some F')(h:∀d,dst=some d->d∉tmpsOf o ops):ny F' F o.op:=by
 intro x u
 cases x with
 |tmp t=>cases dst with|none=>grind[jM]|some d=>simp only[jM]at B;split at B;simp at B;subst B;have w:d≠t:=λe=>h d rfl (by rw[e];exact JN u);grind[ev,ja];grind
 |const v=>rfl|func f=>rfl|global g=>rfl
def Bb{F F':Zo}{o:Oper}{dst:aZ Nat}{v:V}(B:jM n F dst v=some F')(h:∀d,dst=some d->d∉tmpsOf o ops):fM ops F' o=fM ops F o:=by unfold fM;cases a:o.guard with|none=>rfl|some g=>have⟨j,b⟩:=g;simp only;cases w:(ops[j]?).bind (·.dst)with|none=>rfl|some t=>simp only;cases dst with|none=>grind[jM]|some d=>simp only[jM]at B;split at B;simp at B;subst B;have u:d≠t:=λe=>h d rfl (by grind[tmpsOf]);rw[ja _ _ u];grind
def LJ{F F1 J:Zo}{d G:aZ Nat}{u v:V}(a:jM n F d u=some F1)(U:jM n F1 G v=some J)(O:∀x,d=some x->G≠some x):
 ∃B,jM n F G v=some B/\jM n B d u=some J:=by
 cases d with
 |none=>simp_all[jM]|some x=>
  cases G with
  |none=>simp_all[jM]|some y=>simp_all[jM,FL]
def H_{i k:Nat}{B ok:Oper}(h:dD ops i=true)(J:ops[i]?=some B)(a:ops[k]?=some ok)(G:k≠i):cE ok.op=.pure\/(if k<i then before ops i k else before ops k i)=true\/(isApp B.op=true/\cE ok.op=.alloc/\i<k):=by grind[dD]
theorem D9{H:bl}{j es:Nat}{ob:Ob}{x:V}{xs:Zt}(B:H[j]?=some .free)(h:dz H es x=some xs):dz (H.set j ob) es x=some xs:=by unfold dz at h⊢;all_goals grind[Ob.rows]
def PL{H H1:bl}{j:Nat}{ob:Ob}{x:V}(h:gF H x=some H1):H1.length=H.length/\(H1[j]?=some .free->H[j]?=some .free)/\(H[j]?=some .free->gF (H.set j ob) x=some (H1.set j ob)):=by unfold gF at h⊢;split at h;grind;grind;rename_i id a b c;split at h;rename_i d;cases h;refine⟨Zc,λh=>?_,λh=>?_⟩;grind;have e:id≠j:=λe=>Zd;rw[getElem?_set_ne (Ne.symm e),d];rw[set_comm _ _ e];simp_all;simp_all
def OV{H:bl}{o:Ob}{j:Nat}(B:o≠.free)(h:(H++[o])[j]?=some .free):j<H.length/\H[j]?=some .free:=by grind
def Sx{F:Zo}{H H1:bl}{op:Op}{v:V}{j:Nat}{ob:Ob}(B:isApp op=true)(h:cw E F H op=some (v,H1))(G:H1[j]?=some .free):H[j]?=some .free/\cw E F (H.set j ob) op=some (v,H1.set j ob):=by unfold isApp at B;split at B;simp only[cw]at h⊢;split at h;split at h;rename_i e _ u w;split at h;rename_i d C;split at h;simp_all[D9];rename_i O Q D S T;split at h;obtain⟨H0,a,I⟩:=ζf.1 h;obtain⟨rfl,rfl⟩:=I;obtain⟨J,z⟩:=OV Zc G;obtain⟨g1,g2,g3⟩:=PL (ob:=ob) a;have L:=g2 z;grind[D9];simp_all;simp_all;simp_all;rename_i e _ u w;split at h;rename_i d C;unfold mkApp at h;split at h;split at h;simp_all[mkApp];split at h;obtain⟨rfl,rfl⟩:=h;grind[mkApp];simp_all;simp_all;simp_all;simp_all;simp_all;simp_all
def tS{i:Nat}{F:Zo}{H H':bl}{op:Op}{v:V}(h:cK E call ops (some (base,i)) F H op=some (v,H'))(O:dD ops i=false)(B:cE op≠.loud):
 (H'=H/\∀H2:bl,mO (H2.take base) (H.take base)->cK E call ops (some (base,i)) F H2 op=some (v,H2))\/
 (∃ob,H[base+i]?=some .free/\H'=H.set (base+i) ob/\∀H2:bl,H2[base+i]?=some .free->cK E call ops (some (base,i)) F H2 op=some (v,H2.set (base+i) ob))\/
 (∃T,iI (H.take base) T=true/\H'=cH H T/\∀H2:bl,mO (H2.take base) (H.take base)->cK E call ops (some (base,i)) F H2 op=some (v,cH H2 T)):=by
 unfold cK at h;split at h
 next Q=>simp at h;obtain⟨x,L,rfl,rfl⟩:=h;simp_all[B_,cK]
 .rename_i B;simp only at h;split at h
  .rename_i S;split at h
   .rename_i x L;obtain⟨rfl,rfl⟩:=h;refine .inl ⟨rfl,λH2 D=>?_⟩
    grind[cK,yD]
   grind
  grind
 .split at h
  .have⟨x,L,e⟩:=ζf.1 h;simp_all[cK]
  split at h
  .grind
  .rename_i ob m W X U G;obtain⟨rfl,rfl⟩:=G;split at h
   .rename_i w;obtain⟨rfl,rfl⟩:=h;refine .inr (.inl ⟨ob,w,rfl,λH2 D=>?_⟩)
    grind[cK]
   grind
  grind
 .grind
 rename_i B;split at h
 .rename_i f args z;split at h
  rotate_left
  .cases h
  rename_i C;unfold dY at h;split at h
  .grind
  rename_i u;simp only at h;split at h
  .rename_i y Y;split at h
   .rename_i I;obtain⟨rfl,rfl⟩:=h;refine .inl ⟨rfl,λH2 D=>?_⟩
    unfold cK dY;rw[B];simp only[z,if_pos C];rw[if_neg u]
    grind[zY]
   split at h
   .rename_i J;obtain⟨rfl,rfl⟩:=h;refine .inr (.inr ⟨_,J,rfl,λH2 D=>?_⟩)
    unfold cK dY;rw[B];simp only[z,if_pos C];rw[if_neg u]
    grind[zY,K8,uu]
   grind
  grind
 all_goals grind
def EM{g:Zl}{i:Nat}:∀{r l:Zv},BK g ops i r=some l->∀k∈r,∃a,FE g ops i k=some a/\∀s∈a,s∈l
 |[],l,h,k,c=>Ze|q::r,l,h,k,c=>by simp[BK]at h;split at h;rename_i a b d B;simp at h;rcases mem_cons.1 c with rfl|c;grind;have⟨a',g1,g2⟩:=EM B k c;exact⟨a',g1,λs u=>Zd⟩;grind
def FU{g:Zl}{i:Nat}:∀{r l:Zv},BK g ops i r=some l->∀s∈l,s∉dstsOf ops
 |[],l,h,s,c=>by grind[BK]|q::r,l,h,s,c=>by simp[BK]at h;split at h;rename_i a b d B;simp at h;subst h;rcases mem_append.1 c with c|c;grind[FE];exact FU B s c;grind
def pF{g:Zl}{i a:Nat}{l:Zv}{B:Oper}(G:ops[i]?=some B)(h:qW g ops i=some (a,l)):(∃t x,B.op=.store t (.tmp a) x)/\a∉dstsOf ops/\(∀s∈l,s∉dstsOf ops)/\
 ∀k ok,ops[k]?=some ok->k≠i->cE ok.op=.pure\/(if k<i then before ops i k else before ops k i)=true\/(∃J a',ok.op=.load J (.tmp a')/\(a'∈l\/a'∈dstsOf ops))\/(g=true/\(cE ok.op=.alloc\/cE ok.op=.call)):=by
 unfold qW at h;rw[G]at h;simp at h;split at h
 .rename_i t a0 x w;simp at w;split at h
  .simp_all
  have⟨D,z,e⟩:=ζf.1 h;obtain⟨rfl,rfl⟩:=e;refine⟨⟨t,x,w⟩,Zd,FU z,λk ok d C=>?_⟩
  have⟨b,c,I⟩:=EM z k (List.mem_range.2 (ζe.1 d).1);unfold FE at c;rw[d]at c;simp only at c;split at c
  .rename_i u;simp at u;rcases u with(u|u)|u
   .grind
   .grind
   exact .inr (.inl u)
  grind
 grind
def FY{F F':Zo}{dst:aZ Nat}{v:V}{s:Nat}(B:jM n F dst v=some F')(h:∀d,dst=some d->s≠d):get F' s=get F s:=by unfold jM at B;split at B;grind;rename_i d;split at B;simp at B;subst B;simp_all[ja,Ne.symm];grind
def Gs{k d:Nat}{ok:Oper}(a:ops[k]?=some ok)(B:ok.dst=some d):d∈dstsOf ops:=List.mem_filterMap.2 ⟨ok,mem_of_getElem? a,B⟩
def xH{F F':Zo}{k i:Nat}{ok G:Oper}{v:V}(c:ops[k]?=some ok)(B:ops[i]?=some G)(J:jM n F ok.dst v=some F'):pn ops i F'=pn ops i F/\∀b,qU ops b i F'=qU ops b i F:=by
 have f:∀s,s∉dstsOf ops->get F' s=get F s:=λs z=>FY J λd C e=>z (e▸Gs c C);refine⟨?_,λb=>?_⟩;unfold pn;cases u:qW false ops i with|none=>rfl|some w=>have⟨a,l⟩:=w;have⟨_,D,I,_⟩:=pF B u;grind
 unfold qU;cases u:qW true ops i with|none=>rfl|some w=>have⟨a,l⟩:=w;have⟨_,D,I,_⟩:=pF B u;grind
def LW{i k a a':Nat}{t:Zm}{x:Zr}{B:Oper}(G:ops[i]?=some B)(e1:B.op=.store t (.tmp a) x)(b:a'∈dstsOf ops)(J:a∉dstsOf ops)(O:ri ops i k=false):a∈oW ops k a':=by grind[oW]
theorem Cx{k a' s:Nat}(h:s∈oW ops k a'):s∉dstsOf ops/\∃i B t x,ops[i]?=some B/\B.op=.store t (.tmp s) x/\ri ops i k=false:=by grind[oW]
def Ek{F F':Zo}{k i:Nat}{ok:Oper}{op:Op}{v:V}(a:ops[k]?=some ok)(B:jM n F ok.dst v=some F')(G:ny F' F op):nM ops i F' op=nM ops i F op:=by
 have b:∀s,s∉dstsOf ops->get F' s=get F s:=λs h=>FY B λd u e=>h (e▸Gs a u);unfold nM;split;rename_i t w;have z:=by have:=G (.tmp w) (by simp[operands]);simpa[ev]using this
 rw[z,Bool.eq_iff_iff];grind[Cx];rfl
def Cz{k a':Nat}{ok:Oper}{t:Zm}(a:ops[k]?=some ok)(e:ok.op=.load t (.tmp a'))(h:dD ops k=true):oW ops k a'=[]:=by refine List.eq_nil_iff_forall_not_mem.2 λs w=>?_;have⟨_,i,B,C,x,b,z,D⟩:=Cx w;have u:i≠k:=λe2=>Zd;rcases H_ h a b u with g|g|g;rw[z]at g;cases g;all_goals grind[ri,isApp]
def wZ{F:Zo}{H H':bl}{t:Zm}{a:Nat}{x:Zr}{id el off:Nat}{u:V}(B:get F a=.hptr id el off)(h:cw E F H (.store t (.tmp a) x)=some (u,H')):∃r,H'=H.set id r:=by grind[cw,ev]
theorem Lh{F:Zo}{H:bl}{t:Zm}{a id b:Nat}{r:Ob}(B:nK id (get F a)=true):dQ E F ((H.set id r).take b) (.load t (.tmp a))=dQ E F (H.take b) (.load t (.tmp a)):=by
 have:∀m,ec ((H.set id r).take b) (get F a) m=ec (H.take b) (get F a) m:=λm=>by unfold nK at B;grind[ec]
 grind[dQ,ev]
def Ei{i:Nat}{B:Oper}(W:ops[i]?=some B)(Y:cE B.op=.loud)(d:dD ops i=false)(O:isApp B.op=false){F:Zo}{U J:bl}{u:V}(G:cK E call ops (some (base,i)) F U B.op=some (u,J)):
 ∃g a l id el off t x,qW g ops i=some (a,l)/\B.op=.store t (.tmp a) x/\get F a=.hptr id el off/\(∀s∈l,nK id (get F s)=true)/\(g=true->id<base)/\cw E F U B.op=some (u,J)/\∀H,cK E call ops (some (base,i)) F H B.op=cw E F H B.op:=by
 have key:(pn ops i F||qU ops base i F)=true/\cw E F U B.op=some (u,J)/\∀H,cK E call ops (some (base,i)) F H B.op=cw E F H B.op:=by have O:∀F b H,yQ ops i b F H B.op=false:=λF b H=>(by grind[yQ]);(have e:∀H,cK E call ops (some (base,i)) F H B.op=if pn ops i F||qU ops base i F then cw E F H B.op else none:=λH=>by unfold cK;rw[Y];simp only[d,Bool.false_or,O,Bool.or_false]);rw[e]at G;split at G;(next hc=>exact⟨hc,G,λH=>by rw[e,if_pos hc]⟩);cases G
 have⟨f,C,D⟩:=key;rcases Bool.or_eq_true_iff.1 f with c|c
 .unfold pn at c;split at c
  .rename_i a l w;split at c
   next id el off hg=>obtain⟨⟨t,x,z⟩,-⟩:=pF W w;exact⟨false,a,l,id,el,off,t,x,w,z,hg,λs G=>all_eq_true.1 c s G,λh=>(by cases h),C,D⟩
   cases c
  cases c
 unfold qU at c;split at c
 .rename_i a l w;split at c
  next id el off hg=>obtain⟨⟨t,x,z⟩,-⟩:=pF W w;simp only[ζh,decide_eq_true_eq]at c;exact⟨true,a,l,id,el,off,t,x,w,z,hg,λs G=>all_eq_true.1 c.2 s G,λ_=>c.1,C,D⟩
  cases c
 cases c
def Gb{g:Zl}{k i a a' id el off:Nat}{l:Zv}{ok U:Oper}{t Y:Zm}{x:Zr}(e:ops[k]?=some ok)(W:ops[i]?=some U)(f:(if k<i then before ops i k else before ops k i)=false)(lk:dD ops k=false)
 (J:qW g ops i=some (a,l))(O:U.op=.store t (.tmp a) x){F:Zo}(h:get F a=.hptr id el off)(c:∀s∈l,nK id (get F s)=true)(G:ok.op=.load Y (.tmp a'))(b:a'∈l\/a'∈dstsOf ops)
 {H0 H1:bl}{v:V}(B:cK E call ops (some (base,k)) F H0 ok.op=some (v,H1)):
 H1=H0/\(∀(H:bl)(r:Ob),dQ E F ((H.set id r).take base) ok.op=dQ E F (H.take base) ok.op)/\cE ok.op=.read/\dQ E F (H0.take base) ok.op=some v/\nM ops k F ok.op=true:=by
 obtain⟨-,z,-,-⟩:=pF W J;unfold cK at B;rw[G]at B;simp only[cE]at B;split at B
 rotate_left
 .simp at B
 rename_i u;have C:nK id (get F a')=true:=by rcases b with b|b;exact c a' b;have w:ri ops i k=false:=(by grind[ri]);have D:=LW W O b z w;grind[nM]
 split at B
 next I d=>simp only[ζa,ζc]at B;obtain⟨rfl,rfl⟩:=B;exact⟨rfl,λH r=>by rw[G];grind[Lh],by rw[G];rfl,by rw[G];exact d,by rw[G];exact u⟩
 grind
def D2{F:Zo}{H:bl}{t:Zm}{a:Nat}{x:Zr}{id el off j:Nat}{ob:Ob}(G:get F a=.hptr id el off)(B:id≠j):cw E F (H.set j ob) (.store t (.tmp a) x)=(cw E F H (.store t (.tmp a) x)).map λp=>(p.1,p.2.set j ob):=by
 have b:(H.set j ob)[id]?=H[id]?:=getElem?_set_ne (Ne.symm B);have hc:∀r,(H.set j ob).set id r=(H.set id r).set j ob:=λr=>set_comm _ _ (Ne.symm B);simp only[cw,ev,G];split
 .rename_i h1 u w;cases u;rw[b];(repeat' split)<;>first|rfl|simp only[hc,map_some]
 rfl
def A_{i:Nat}{F:Zo}{H H':bl}{op:Op}{v:V}(B:cE op=.alloc)(G:nk E ops (some (base,i))=false)(h:cK E call ops (some (base,i)) F H op=some (v,H')):
 ∃ob,H[base+i]?=some .free/\H'=H.set (base+i) ob/\∀H2:bl,H2[base+i]?=some .free->cK E call ops (some (base,i)) F H2 op=some (v,H2.set (base+i) ob):=by
 unfold cK at h;rw[B]at h;simp only[G,false_eq_true,if_false]at h;split at h
 .grind
 .rename_i ob m D I w z;obtain⟨rfl,rfl⟩:=z;split at h
  .rename_i u;obtain⟨rfl,rfl⟩:=h;refine⟨ob,u,rfl,λH2 C=>?_⟩
   unfold cK;rw[B];simp only[G,false_eq_true,if_false,w,C]
  cases h
 cases h
def tf(n:Nat)(H:bl):∀{l:Zu},V.gX l=true->borrows n H l=some l
 |[],_=>rfl|x::r,h=>by simp only[V.gX,ζh]at h;have:=tf n H h.2;unfold borrows at this⊢;simp only[gV,jb n H h.1,this]
def C4{k i:Nat}{a:Nat}{l:Zv}{F:Zo}{H H':bl}{op:Op}{v:V}(B:cE op=.call)(lk:dD ops k=false)(G:qW true ops i=some (a,l))(J:i<ops.length)(O:ri ops i k=false)(h:cK E call ops (some (base,k)) F H op=some (v,H')):
 H'=H/\∀H2:bl,cK E call ops (some (base,k)) F H2 op=some (v,H2):=by
 have z:FW ops k=true:=by unfold FW;rw[List.any_eq_true];exact⟨i,List.mem_range.2 J,by simp[O,G]⟩
 unfold cK at h;rw[B]at h;simp only at h;split at h
 .rename_i f args C;split at h
  .rename_i u;have hc:V.gX args=true:=by
    unfold vj at u;simpa[z]using u
   have w:∀H2,bW call f args H2=bW call f args []:=λH2=>by unfold bW;rw[tf _ _ hc,tf _ _ hc]
   have D:∀n H2,cN (b8 n H2) args=[]:=λn H2=>Ff n H2 hc
   have e:∀H2,cK E call ops (some (base,k)) F H2 op=dY E call ops (some (base,k)) f args H2:=λH2=>by unfold cK;rw[B];simp only[C,if_pos u]
   have I:∀H2:bl,cH H2 []=H2:=λ_=>rfl
   have L:kG E ops (some (base,k)) f=false:=by cases b:kG E ops (some (base,k)) f with|false=>rfl|true=>unfold dY at h;rw[if_pos b]at h;simp only[lk,false_eq_true,if_false]at h;cases h
   have e2:∀H2,dY E call ops (some (base,k)) f args H2=(bW call f args []).map λy=>(y,H2):=λH2=>by unfold dY;simp only[L,false_eq_true,if_false,w,D,I,lk];cases bW call f args []with|none=>rfl|some y=>simp[iI]
   rw[e2]at h;have⟨y,Q,e3⟩:=ζf.1 h;cases e3;exact⟨rfl,λH2=>by rw[e,e2,Q];rfl⟩
  cases h
 .simp only[lk,false_eq_true,if_false]at h;cases h
 cases h
def CS{place:Nat×Nat}{F:Zo}{H H':bl}{op:Op}{v:V}(B:cE op=.pure\/cE op=.alloc/\nk E ops (some place)=true)(h:cK E call ops (some place) F H op=some (v,H')):
 H'=H/\∀H2:bl,cK E call ops (some place) F H2 op=some (v,H2):=by
 rcases B with B|⟨B,u⟩
 rotate_left
 .unfold cK at h;rw[B]at h;simp only[u]at h;have⟨x,w,e⟩:=ζf.1 h;simp_all[cK]
 unfold cK at h;rw[B]at h;simp at h;obtain⟨x,w,rfl,rfl⟩:=h;simp_all[B_,cK]
def take_set_of_le{H:bl}{b k:Nat}{x:Ob}(h:b<=k):(H.set k x).take b=H.take b:=List.take_set_of_le h
def apart_spec{a b:Oper}(h:xx ops a b=true):(∀d,a.dst=some d->d∉tmpsOf b ops/\b.dst≠some d)/\(∀d,b.dst=some d->d∉tmpsOf a ops):=by grind[xx]
def C_{i k:Nat}{ok:Oper}(h:v_ ops i=true)(a:ops[k]?=some ok)(B:k≠i)(G:ri ops i k=false):cE ok.op=.pure\/cE ok.op=.read\/cE ok.op=.alloc/\(AE ops k=true\/i<k):=by grind[v_]
def Ab{op:Op}(h:isApp op=true):cE op=.loud:=by unfold isApp at h;split at h;rfl;cases h
theorem GH{F:Zo}{H H1:bl}{op:Op}{v:V}{b:Nat}(B:isApp op=true)(G:pg F op=true)(J:b<=H.length)(h:cw E F H op=some (v,H1)):H1.take b=H.take b:=by
 unfold isApp at B;split at B;rotate_left;cases B;rename_i args u;simp only[cw]at h;split at h;rotate_left;cases h;rename_i t D s x w z;have C:s=.dw\/s=.bG:=by grind[pg,fH]
 have a:∀H2,gF H s=some H2->H2=H:=λH2 h=>by rcases C with rfl|rfl<;>(grind[gF])
 split at h;grind[ζf];split at h;unfold mkApp at h;grind;cases h;cases h
def DH{i:Nat}{F:Zo}{H H':bl}{op:Op}{u:V}(G:isApp op=true)(J:dD ops i=false)(O:(ops[i]?).map Oper.op=some op)(h:cK E call ops (some (base,i)) F H op=some (u,H')):
 v_ ops i=true/\pg F op=true/\base<=H.length/\cw E F H op=some (u,H'):=by
 unfold cK at h;rw[Ab G]at h;have w:∀g,qW g ops i=none:=λg=>by unfold qW;rw[O];grind[isApp]
 have z:pn ops i F=false:=by unfold pn;rw[w]
 have B:qU ops base i F=false:=by unfold qU;rw[w]
 simp only[J,z,B,Bool.false_or]at h
 grind[yQ]
theorem Nk{i:Nat}{F:Zo}{H H':bl}{op:Op}{u:V}(B:isApp op=true)(h:cw E F H op=some (u,H'))(hc:dD ops i=true\/v_ ops i=true/\pg F op=true/\base<=H.length):cK E call ops (some (base,i)) F H op=some (u,H'):=by unfold cK;rw[Ab B];grind[yQ]
def Cn{i:Nat}{F:Zo}{H H':bl}{op:Op}{v:V}(B:cE op=.read)(G:dD ops i=false)(h:cK E call ops (some (base,i)) F H op=some (v,H')):
 H'=H/\∀H2:bl,mO (H2.take base) (H.take base)->cK E call ops (some (base,i)) F H2 op=some (v,H2):=by
 unfold cK at h;rw[B]at h;simp only at h;split at h
 .rename_i u;split at h
  .rename_i x w;simp only[ζa,ζc]at h;obtain⟨rfl,rfl⟩:=h;refine⟨rfl,λH2 z=>?_⟩
   unfold cK;rw[B];simp only[yD z,w,u,if_true]
  grind
 simp at h
def swap{k i:Nat}{ok J:Oper}(p:ops[k]?=some ok)(U:ops[i]?=some J)(af:k<i)(W:before ops i k=false)(O:xx ops ok J=true){F F1 F2:Zo}{H H1 H2:bl}
 (P:gm E call n ops (some (base,k)) ok F H=some (F1,H1))(y:gm E call n ops (some (base,i)) J F1 H1=some (F2,H2)):
 ∃B G,gm E call n ops (some (base,i)) J F H=some (B,G)/\gm E call n ops (some (base,k)) ok B G=some (F2,H2):=by
 obtain⟨a1,a2⟩:=apart_spec O;have ah:∃v,jM n F ok.dst v=some F1/\((fM ops F ok=true/\cK E call ops (some (base,k)) F H ok.op=some (v,H1))\/(fM ops F ok=false/\v=.undef/\H1=H)):=by unfold gm at P;split at P;rename_i hw;split at P;rename_i v H' K;simp only[ζf,ζc]at P;grind;simp at P;rename_i hw;simp only[ζf,ζc]at P;grind
 have ai:∃v,jM n F1 J.dst v=some F2/\((fM ops F1 J=true/\cK E call ops (some (base,i)) F1 H1 J.op=some (v,H2))\/(fM ops F1 J=false/\v=.undef/\H2=H1)):=by unfold gm at y;split at y;rename_i hw;split at y;rename_i v H' K;simp only[ζf,ζc]at y;grind;simp at y;rename_i hw;simp only[ζf,ζc]at y;grind
 obtain⟨v,Q,jd⟩:=ah;obtain⟨u,ay,ao⟩:=ai;have aA:fM ops F1 J=fM ops F J:=Bb Q λd K=>(a1 d K).1
 have ap:ny F1 F J.op:=EW Q λd K=>(a1 d K).1
 have aB:∀(b j:Nat),(some (base,i):aZ (Nat×Nat))=some (b,j)->pn ops j F1=pn ops j F/\qU ops b j F1=qU ops b j F/\nM ops j F1 J.op=nM ops j F J.op:=λb j e=>by cases e;exact⟨(xH p U Q).1,(xH p U Q).2 _,Ek p Q ap⟩
 rw[aA,B8 ap aB]at ao;obtain⟨B,S,aC⟩:=LJ Q ay λx hx=>(a1 x hx).2
 have aD:fM ops B ok=fM ops F ok:=Bb S λd K=>a2 d K
 have aq:ny B F ok.op:=EW S λd K=>a2 d K
 have aE:∀(b j:Nat),(some (base,k):aZ (Nat×Nat))=some (b,j)->pn ops j B=pn ops j F/\qU ops b j B=qU ops b j F/\nM ops j B ok.op=nM ops j F ok.op:=λb j e=>by cases e;exact⟨(xH U p S).1,(xH U p S).2 _,Ek U S aq⟩
 have fin:∀G,((fM ops F J=true/\cK E call ops (some (base,i)) F H J.op=some (u,G))\/(fM ops F J=false/\u=.undef/\G=H))->
  ((fM ops F ok=true/\cK E call ops (some (base,k)) F G ok.op=some (v,H2))\/(fM ops F ok=false/\v=.undef/\H2=G))->
  ∃B G,gm E call n ops (some (base,i)) J F H=some (B,G)/\gm E call n ops (some (base,k)) ok B G=some (F2,H2):=by
  intro G e1 e2;refine⟨B,G,?_,?_⟩
  .grind[gm]
  unfold gm;rw[aD];rcases e2 with⟨x1,x2⟩|⟨x1,x2,x3⟩
  .rw[if_pos x1,B8 aq aE,x2];simp[aC]
  grind
 rcases jd with⟨D,s⟩|⟨D,rfl,rfl⟩
 .rcases ao with⟨I,f⟩|⟨I,rfl,rfl⟩
  .by_cases pk:cE ok.op=.pure\/cE ok.op=.alloc/\nk E ops (some (base,k))=true
   .obtain⟨rfl,q⟩:=CS pk s
    grind
   by_cases pi:cE J.op=.pure\/cE J.op=.alloc/\nk E ops (some (base,i))=true
   .obtain⟨rfl,q⟩:=CS pi f
    grind
   by_cases O:isApp ok.op=true/\cE J.op=.alloc
   .
    obtain⟨O,aF⟩:=O;have aI:=Ab O;have ar:(dD ops k=true\/v_ ops k=true/\pg F ok.op=true/\base<=H.length)/\cw E F H ok.op=some (v,H1):=by cases hl:dD ops k with|true=>simp_all[cK]|false=>obtain⟨a,b,c,d⟩:=DH O hl (by rw[p];rfl) s;grind
    obtain⟨ar,e1⟩:=ar;have ad:nk E ops (some (base,i))=false:=by grind
    have e2:∃ob m,eP E F J.op=some (ob,m)/\H1[base+i]?=some .free/\u=m.val (base+i)/\H2=H1.set (base+i) ob:=by unfold cK at f;rw[aF]at f;grind
    obtain⟨ob,m,aJ,aj,rfl,rfl⟩:=e2;obtain⟨f0,R⟩:=Sx (ob:=ob) O e1 aj;refine fin (H.set (base+i) ob) (.inl ⟨I,?_⟩) (.inl ⟨D,?_⟩)
    .grind[cK]
    grind[Nk]
   have lk:dD ops k=false:=by grind[dD]
   have M:dD ops i=false:=by grind[dD]
   by_cases au:isApp J.op=true
   .obtain⟨g1,g2,g3,g4⟩:=DH au M (by rw[U];rfl) f
    rcases C_ g1 p Za (by grind[ri])with h|h|⟨h,y⟩
    .grind
    .obtain⟨rfl,q⟩:=Cn h lk s
     grind[mO.of_eq,GH]
    rcases y with y|y
    .exact absurd (.inr ⟨h,show(AE ops k||QC E ops k)=true by rw[y];rfl⟩) pk
    omega
   by_cases av:isApp ok.op=true
   .obtain⟨g1,g2,g3,g4⟩:=DH av lk (by rw[p];rfl) s
    rcases C_ g1 U Za (by grind[ri])with h|h|⟨h,y⟩
    .grind
    .obtain⟨rfl,q⟩:=Cn h M f
     grind[mO.of_eq,GH]
    grind
   by_cases L:cE J.op=.loud
   .obtain⟨g,a,l,id,el,off,t,x,C,w,hg,Y,ak,he,al⟩:=Ei U L M (by simpa using au) f
    obtain⟨r,hr⟩:=wZ hg (by rw[<-w];exact he)
    obtain⟨-,-,-,h4⟩:=pF U C;rcases h4 k ok p Za with h|h|⟨t',a',am,Z⟩|⟨rfl,h|h⟩
    .exact absurd (.inl h) pk
    .rw[if_pos af,W]at h;cases h
    .obtain⟨rfl,q1,q3,q4,q5⟩:=Gb p U (by rw[if_pos af];exact W) lk C w hg Y am Z s
     refine fin H2 (.inl ⟨I,f⟩) (.inl ⟨D,?_⟩);unfold cK;rw[q3];subst hr;simp only[q1,q4,q5,if_true]
    .have ad:nk E ops (some (base,k))=false:=by
      cases hc:nk E ops (some (base,k))with
      |false=>rfl|true=>exact absurd (.inr ⟨h,hc⟩) pk
     obtain⟨ob,R,rfl,A⟩:=A_ h ad s;have aG:=ak rfl;rw[w,D2 hg (show id≠base+k by omega)]at he
     obtain⟨⟨u',H'⟩,e1,e2⟩:=ζf.1 he;cases e2;obtain⟨r',rfl⟩:=wZ hg e1;exact fin (H.set id r') (.inl ⟨I,by rw[al,w];exact e1⟩) (.inl ⟨D,A _ (by rw[getElem?_set_ne Za];exact R)⟩)
    obtain⟨rfl,A⟩:=C4 h lk C (ζe.1 U).1 (by unfold ri;rw[if_pos af];exact W) s
    exact fin H2 (.inl ⟨I,f⟩) (.inl ⟨D,A H2⟩)
   by_cases ae:cE ok.op=.loud
   .obtain⟨g,a,l,id,el,off,t,x,C,w,hg,Y,ak,he,al⟩:=Ei p ae lk (by simpa using av) s
    obtain⟨r,hr⟩:=wZ hg (by rw[<-w];exact he)
    obtain⟨-,-,-,h4⟩:=pF p C;rcases h4 i J U Za with h|h|⟨t',a',am,Z⟩|⟨rfl,h|h⟩
    .exact absurd (.inl h) pi
    .rw[if_neg Za,W]at h;cases h
    .obtain⟨rfl,q1,q3,q4,q5⟩:=Gb U p (by rw[if_neg Za];exact W) M C w hg Y am Z f
     refine fin H (.inl ⟨I,?_⟩) (.inl ⟨D,s⟩);unfold cK;rw[q3];subst hr;rw[q1]at q4;simp only[q4,q5,if_true]
    .have ad:nk E ops (some (base,i))=false:=by
      cases hc:nk E ops (some (base,i))with
      |false=>rfl|true=>exact absurd (.inr ⟨h,hc⟩) pi
     obtain⟨ob,R,rfl,z⟩:=A_ h ad f;have aG:=ak rfl;subst hr;rw[getElem?_set_ne Za]at R
     refine fin (H.set (base+i) ob) (.inl ⟨I,z H R⟩) (.inl ⟨D,?_⟩);rw[al,w,D2 hg (show id≠base+i by omega),<-w,he];rfl
    obtain⟨rfl,z⟩:=C4 h M C (ζe.1 p).1 (by unfold ri;rw[if_neg Za];exact W) f
    exact fin H (.inl ⟨I,z H⟩) (.inl ⟨D,s⟩)
   have tk:∀(X:bl)(k:Nat)(o:Ob),mO ((X.set (base+k) o).take base) (X.take base):=λX k o=>mO.of_eq (take_set_of_le Za)
   rcases tS s lk ae with⟨rfl,A⟩|⟨ob,fk,rfl,A⟩|⟨T,tr,rfl,A⟩
   .rcases tS f M L with⟨rfl,z⟩|⟨an,fi,rfl,z⟩|⟨N,V,rfl,z⟩
    .grind
    .grind
    exact fin _ (.inl ⟨I,f⟩) (.inl ⟨D,A _ ((qD V).take base)⟩)
   .rcases tS f M L with⟨rfl,z⟩|⟨an,fi,rfl,z⟩|⟨N,V,rfl,z⟩
    .refine fin H (.inl ⟨I,z H (tk _ _ _).symm⟩) (.inl ⟨D,s⟩)
    .grind[set_comm]
    have ab:iI (H.take base) N=true:=by rw[<-uu (tk H k ob)];exact V
    have aw:base+k∉N:=λhm=>absurd (z6 ab hm) Za
    refine fin (cH H N) (.inl ⟨I,z H (tk _ _ _).symm⟩) (.inl ⟨D,?_⟩);rw[A _ (by rw[iB,fk];simp[aw]),C8 aw]
   rcases tS f M L with⟨rfl,z⟩|⟨an,fi,rfl,z⟩|⟨N,V,rfl,z⟩
   .refine fin H (.inl ⟨I,z H ((qD tr).take base).symm⟩) (.inl ⟨D,s⟩)
   .have ax:base+i∉T:=λhm=>absurd (z6 tr hm) Za
    have aH:H[base+i]?=some .free:=by rw[iB]at fi;obtain⟨o,ho,hf⟩:=ζf.1 fi;rw[if_neg ax]at hf;rw[ho,hf]
    refine fin (H.set (base+i) an) (.inl ⟨I,z H aH⟩) (.inl ⟨D,?_⟩);rw[A _ (tk _ _ _),C8 ax]
   have ab:iI (H.take base) N=true:=by rw[<-uu ((qD tr).take base)];exact V
   refine fin (cH H N) (.inl ⟨I,z H ((qD tr).take base).symm⟩) (.inl ⟨D,?_⟩);rw[A _ ((qD ab).take base),Ic]
  grind
 grind
theorem Iw(h:vi ops=true){k i:Nat}{ok B:Oper}(a:ops[k]?=some ok)(J:ops[i]?=some B)(G:k<i):DR B k=true\/xx ops ok B=true:=by unfold vi at h;simp at h;grind
def N4(U:vi ops=true){i:Nat}{B:Oper}(G:ops[i]?=some B):∀(l r:Zv),(∀k∈l,k<i/\DR B k=false/\before ops i k=false)->∀{F F':Zo}{H H':bl},
 jJ E call n ops base (l++i::r) F H=some (F',H')->jJ E call n ops base (i::(l++r)) F H=some (F',H'):=by
 intro l
 induction l with
 |nil=>grind|cons k l D=>
  intro r C F F' H H' h;have⟨u,I,w⟩:=C k Zc
  simp[jJ]at h;split at h
  .rename_i ok hk;split at h
   .rename_i F1 H1 h1;have:=D r (λx J=>C x (mem_cons_of_mem _ J)) h
    simp[jJ,G]at this;split at this
    .rename_i S H2 L;have z:xx ops ok B=true:=by
      grind[Iw]
     have⟨O,Q,g1,g2⟩:=swap hk G u w z h1 L
     grind[jJ]
    grind
   grind
  grind
inductive Reach(ops:List Oper):Nat->Nat->Prop
 |one(i k:Nat)(o:Oper)(e:Edge)(hi:ops[i]?=some o)(he:e∈o.after)(hb:kT e=true)(hk:e.on=k):Reach ops i k|more(i j k:Nat)(o:Oper)(e:Edge)(hi:ops[i]?=some o)(he:e∈o.after)(hb:kT e=true)(hk:e.on=j)(h:Reach ops j k):Reach ops i k
def CN:∀(B l:Zv)(k:Nat),k∈B.foldl (λl k=>if l.contains k then l else k::l) l->k∈B\/k∈l
 |[],_,_,h=>.inr h|x::B,l,k,h=>by rcases CN B _ k h with h|h;all_goals grind
def Lf{a:aY Zv}{o:Oper}{k:Nat}(h:k∈HK a o):∃e∈o.after,kT e=true/\(k=e.on\/∃S,a[e.on]?=some S/\k∈S):=by
 have key:∀(es:aY Edge)(l:Zv),k∈es.foldl (λl e=>(e.on::(a[e.on]?).getD []).foldl (λl k=>if l.contains k then l else k::l) l) l->k∈l\/∃e∈es,k=e.on\/∃S,a[e.on]?=some S/\k∈S:=by
  intro es;induction es with|nil=>grind|cons e es u=>
   intro l h;rcases u _ h with h|⟨z,b,w⟩
   .rcases CN _ _ _ h with h|h;all_goals grind
   grind
 rcases key _ _ h with h|⟨e,b,w⟩;all_goals grind
def xE(ops:Zz):∀(l:Zz)(a:aY Zv)(pre:Zz),ops=pre++l->a.length=pre.length->(∀(i:Nat)S,a[i]?=some S->∀k∈S,Reach ops i k)->
 ∀(i:Nat)S,(l.foldl (λa o=>a++[HK a o]) a)[i]?=some S->∀k∈S,Reach ops i k
 |[],_,_,_,_,h=>h|o::l,a,pre,J,O,h=>by refine xE ops l _ (pre++[o]) Ze Ze ?_;intro i S B k b;by_cases U:i<a.length;grind;rw[List.getElem?_append_right Za]at B;have G:i=a.length:=(by grind);subst G;simp at B;subst B;have u:ops[a.length]?=some o:=Zd;have⟨e,w,z,b⟩:=Lf b;rcases b with b|⟨S,B,b⟩;exact .one _ _ o e u w z b.symm;exact .more _ e.on _ o e u w z rfl (h _ S B k b)
def HR{i k:Nat}(h:before ops i k=true):Reach ops i k:=by unfold before at h;cases u:(F9 ops)[i]?with|none=>grind|some S=>exact xE ops ops [] [] rfl rfl Zc i S u k Zd
end
section
variable{P:Program}{E:Env}{I I':cn}{μ μ':Mu}{H H':bl}{n B:Nat}{F F':Zo}{a:Act}{w w':World}
def Eo(e:Edge):Region.binds .any e=kT e:=by unfold Region.binds kT;grind
def todo(ops:Array Oper)(a:Array Zl):Zv:=(range ops.size).filter λi=> !a.getD i true
def wP(ops:Array Oper)(a:Array Zl):(todo ops a).Pairwise (·<·):=List.pairwise_lt_range.filter _
def OZ{ops:Array Oper}{a:Array Zl}{i:Nat}(J:a.size=ops.size)(O:i<ops.size){B G:Zv}(h:todo ops a=B++i::G):
 todo ops (a.setIfInBounds i true)=B++G:=by
 have D:∀j∈range ops.size,(!(a.setIfInBounds i true).getD j true)=((!a.getD j true)&&(j != i)):=by intro j _;by_cases e:j=i;simp_all;have:(a.setIfInBounds i true).getD j true=a.getD j true:=(by simp[Array.getElem?_setIfInBounds_ne (Ne.symm e)]);grind
 have:todo ops (a.setIfInBounds i true)=(todo ops a).filter (· != i):=by unfold todo;rw[List.filter_filter];grind
 rw[this,h];have u:=wP ops a;rw[h]at u;rw[List.pairwise_append]at u;have⟨_,z,C⟩:=u;rw[List.pairwise_cons]at z;rw[List.filter_append,List.filter_cons];simp;rw[List.filter_eq_self.2 (λx w=>by have:=C x w i Zc;simp;omega),List.filter_eq_self.2 (λx w=>Zd)]
def Down(ops:Array Oper)(a:Array Zl):Prop:=∀j o,a.getD j false=true->ops[j]?=some o->∀e∈o.after,kT e=true->a.getD e.on false=true
def Ln{ops:Array Oper}{a:Array Zl}(B:Down ops a){i k:Nat}(h:Reach ops.toList i k)(G:∀o,ops[i]?=some o->∀e∈o.after,kT e=true->a.getD e.on false=true):a.getD k false=true:=by induction h with|one i k o e C w z hk=>grind|more i j k o e C w z hk _ D=>subst hk;exact D λI u=>B _ _ (G o Zd e w z) u
def Ec(hE:eG P E){call:dg}(hc:kL P call){ops:Array Oper}(hd:vi ops.toList=true)(q:Ad ops.toList=true)(ro:aZ Nat){Q:Exit->Act->World->Prop}(base:Nat):
 ∀(G:Nat)(b:Array Zl)(I:cn)(μ:Mu)(F:Zo)(H:bl)(a:Act)(w:World),b.size=ops.size->Down ops b->(todo ops b).length=G->
 jJ E call n ops.toList base (todo ops b) F H=some (F',H')->eE I μ n F a.tmps->cO I μ H w->
 (∀a' I' μ' w',eE I' μ' n F' a'.tmps->a'.defers=a.defers->cO I' μ' H' w'->Step I μ H w I' μ' H' w'->Q .normal a' w')->
 wpAnyIn (fr ro) 0 P .any ops Q G b a w:=by
 intro G
 induction G with
 |zero=>
  intro b I μ F H a w O L c h r s t;have S:todo ops b=[]:=List.eq_nil_of_length_eq_zero c;rw[S]at h;obtain⟨rfl,rfl⟩:=h;refine⟨?_,t a I μ w r rfl s (.refl _ _ _ _)⟩;unfold Region.ready;rw[List.filter_eq_nil_iff];intro i d;have:i∉todo ops b:=Zd
  unfold todo at this
  grind
 |succ G ih=>
  intro b I μ F H a w O L c h r s t;have W:∀i,i∈Region.ready .any ops b->i<ops.size/\i∈todo ops b/\∃o,ops[i]?=some o/\∀e∈o.after,kT e=true->b.getD e.on false=true:=by intro i d;unfold Region.ready at d;rw[mem_filter]at d;have⟨v,h2⟩:=d;simp only[ζh]at h2;have D:i<ops.size:=Zd;refine⟨D,by unfold todo;grind,ops[i],Ze,?_⟩;have M:(ops[i].after.all λe=> !Region.binds .any e||b.getD e.on false)=true:=(by grind);rw[Array.all_eq_true_iff_forall_mem]at M;intro e U X;have:=M e U;rw[Eo,X]at this;grind
  refine⟨?_,?_⟩
  .
   intro S
   cases Y:todo ops b with
   |nil=>rw[Y]at c;simp at c|cons Z rest=>
    have z:Z∈todo ops b:=by rw[Y];simp
    have g:=wP ops b;rw[Y,List.pairwise_cons]at g;unfold todo at z;rw[mem_filter]at z;have D:Z<ops.size:=by simpa using z.1
    have:Z∈Region.ready .any ops b:=by unfold Region.ready;rw[mem_filter];refine⟨z.1,?_⟩;simp only[ζh];refine⟨z.2,?_⟩;have e0:ops[Z]?=some ops[Z]:=(by simp[D]);rw[e0];simp only[map_some,getD_some];rw[Array.all_eq_true_iff_forall_mem];intro e U;rw[Eo];cases am:kT e with|false=>simp|true=>simp only[Bool.not_true];have an:e.on<Z:=(by unfold Ad at q;simp only[all_eq_true]at q;have:=q Z (by simpa using D);have e1:ops.toList[Z]?=some ops[Z]:=(by simp[D]);rw[e1]at this;simp only[Array.all_eq_true_iff_forall_mem]at this;have:=this e U;rw[am]at this;simpa using this);cases ao:b.getD e.on false with|true=>rfl|false=>exfalso;have N:e.on∈todo ops b:=(by unfold todo;rw[mem_filter];refine⟨by simp;omega,?_⟩;have aj:e.on<b.size:=Za;have:b.getD e.on true=b.getD e.on false:=(by simp[aj]);rw[this,ao];rfl);rw[Y]at N;rcases mem_cons.1 N with h|h;omega;have:=g.1 _ h;omega
    rw[S]at this;simp at this
  intro i d;have⟨D,z,o,l,C⟩:=W i d;have⟨R,l2,u⟩:=List.append_of_mem z;have J:=wP ops b;rw[u,List.pairwise_append]at J;have aa:∀k∈R,k<i/\DR o k=false/\before ops.toList i k=false:=by intro k x;have ap:b.getD k false=false:=(by have B:k∈todo ops b:=(by rw[u];simp[x]);unfold todo at B;rw[mem_filter]at B;have y:k<b.size:=(by rw[O];simpa using B.1);have:b.getD k true=b.getD k false:=(by simp[y]);rw[this]at B;simpa using B.2);refine⟨J.2.2 k x i Zc,?_,?_⟩;rotate_left;(cases aq:before ops.toList i k with|false=>rfl|true=>have:=Ln L (HR aq) (λo' m=>by rw[l]at m;cases m;exact C);rw[ap]at this;cases this);cases U:DR o k with|false=>rfl|true=>exfalso;unfold DR at U;rw[Array.any_eq_true]at U;have⟨ix,ar,p⟩:=U;have V:o.after[ix]∈o.after:=Array.getElem_mem ar;generalize o.after[ix]=e at V p;simp only[ζh,beq_iff_eq]at p;have v:=C e V p.2;rw[p.1]at v;have B:k∈todo ops b:=(by rw[u];simp[x]);unfold todo at B;rw[mem_filter]at B;have y:k<b.size:=(by rw[O];simpa using B.1);have:b.getD k true=b.getD k false:=(by simp[y]);rw[this,v]at B;simp at B
  rw[u]at h;have f:=N4 hd (by simpa using l) R l2 aa h
  simp only[jJ]at f;have m:ops.toList[i]?=some o:=by simpa using l
  rw[m]at f;simp only at f;split at f
  .rename_i F1 H1 af;unfold wpOpIn;rw[l];simp only;refine Cr hE hc af r s ro (λa' I' μ' w' hr au g av=>?_)
   have ht:=OZ O D u;refine ih (b.setIfInBounds i true) I' μ' F1 H1 a' w' (by simpa using O) ?_ ?_ (by rw[ht];exact f) hr g ?_
   .have T:∀j,b.getD j false=true->(b.setIfInBounds i true).getD j false=true:=by
     intro j A
     by_cases e:i=j
     .subst e;simp[O,D]
     simpa[Array.getD_eq_getD_getElem?,Array.getElem?_setIfInBounds_ne e]using A
    intro j oj A K e U X
    by_cases e':i=j
    .subst e';rw[l]at K;cases K;exact T _ (C e U X)
    refine T _ (L j oj ?_ K e U X);simpa[Array.getD_eq_getD_getElem?,Array.getElem?_setIfInBounds_ne e']using A
   .rw[ht];rw[u]at c;simp at c⊢;omega
   intro a2 I2 μ2 w2 aw ax ay al;exact t a2 I2 μ2 w2 aw (ax.trans au) ay (Step.trans g av al)
  simp at f
def cO.FA(s:cO I μ H w)(k:Nat):cO I μ (H++replicate k .free) w:=by
 have u:∀id ob,(H++replicate k Ob.free)[id]?=some ob->H[id]?=some ob\/(ob=.free/\H.length<=id):=by grind
 refine⟨λid h=>s.dom id Zd,s.imm,?_,?_,s.gl⟩;intro id ob h;rcases u id ob h with h|⟨rfl,z⟩;exact s.obs id ob h;exact s.dom id z;intro id B ob C p J a z D G;rcases u id ob a with a|⟨rfl,_⟩;rcases u B C z with z|⟨rfl,_⟩;exact s.inj id B ob C p J a z D G;simp[Ob.live]at G;simp[Ob.live]at D
def IB(k:Nat)(b:Nat):gY μ (H++replicate k .free) b↔gY μ H b:=by constructor;rintro⟨id,p,ob,h1,u,w,z⟩;by_cases B:id<H.length;rw[getElem?_append_left B]at h1;exact⟨id,p,ob,h1,u,w,z⟩;rw[List.getElem?_append_right Za,List.getElem?_replicate]at h1;split at h1;simp at h1;subst h1;simp[Ob.live]at u;grind;rintro⟨id,p,ob,h1,u,w,z⟩;exact⟨id,p,ob,Zd,u,w,z⟩
def Step.FA(k:Nat):Step I μ H w I μ (H++replicate k .free) w:=⟨cn.le_refl _,Mu.le_refl _,Zc,le_refl _,λ_ _ _=>rfl,λb h=>h.elim .inl λh=>.inr (.inl ((IB k b).1 h)),rfl,.refl _,λ_ _ h=>h⟩
def FM(G:eG P E)(U:P.follows .mixedOrders=true){call:dg}(hc:kL P call){id:Nat}{ops:Array Oper}{B:Zl}(ro:aZ Nat){Q:Exit->Act->World->Prop}
 (h:js E call n ops.toList B F H=some (F',H'))(r:eE I μ n F a.tmps)(s:cO I μ H w)
 (J:∀a' I' μ' w',eE I' μ' n F' a'.tmps->a'.defers=a.defers->cO I' μ' H' w'->Step I μ H w I' μ' H' w'->Q .normal a' w'):
 (Code.region id ops B).wpIn (fr ro) 0 P Q a w:=by
 unfold js at h
 cases B with
 |false=>refine wpIn_region ?_;rw[List.range_eq_range',<-length_toList];exact LM G hc ro ops.toList 0 I μ F H a w Zc h r s J|true=>
  simp only[if_true]at h;split at h
  .rename_i u;simp at u;refine wpIn_region_draw λt=>?_
   simp[Region.schedule,U];have D:cO I μ H {w with drawn:=w.drawn+1}:=s.oC rfl;have st0:Step I μ H w I μ H {w with drawn:=w.drawn+1}:=Step.oC rfl rfl ⟨rfl,rfl,le_succ _⟩;have z:todo ops (Array.replicate ops.size false)=range ops.toList.length:=by unfold todo;simp_all
   have C:Down ops (Array.replicate ops.size false):=by intro j o T;simp[Array.getElem?_replicate]at T;grind
   refine wpAnyIn_sound ops.size t _ a _ ?_;split at h
   .refine Ec G hc u.1 u.2 ro H.length ops.size _ I μ F (H++replicate ops.toList.length .free) a _ Zc C Zd (by rw[z];omega) r (D.FA _) ?_
    intro a' I' μ' w' b L O S;exact J a' I' μ' w' b L O (Step.trans D st0 (Step.trans (D.FA _) (Step.FA _) S))
   refine Ec G hc u.1 u.2 ro H.length ops.size _ I μ F H a _ Zc C Zd (by rw[z];omega) r D ?_
   intro a' I' μ' w' b L O S;exact J a' I' μ' w' b L O (Step.trans D st0 S)
  grind
end
def Out.Gq:Out->Exit
 |.norm=>.normal|.exit id=>.exit id|.ret=>.ret
def exists_least(p:Nat->Prop):∀k,p k->∃m,p m/\∀j,p j->m<=j:=by intro k;induction k using Nat.strongRecOn with|_ k z=>intro a;by_cases h:∃j,j<k/\p j;have⟨j,B,u⟩:=h;exact z j B u;exact⟨k,a,λj u=>Nat.le_of_not_lt λw=>h ⟨j,w,u⟩⟩
open Classical in
noncomputable def least(p:Nat->Prop):Nat:=if h:∃m,p m/\∀j,p j->m<=j then h.choose else 0
def Lm(p:Nat->Prop){k:Nat}(a:p k):p (least p)/\least p<=k:=by have h:=exists_least p k a;unfold least;rw[dif_pos h];exact⟨h.choose_spec.1,h.choose_spec.2 k a⟩
section
variable{P:Program}{E:Env}{I I':cn}{μ μ':Mu}{H H':bl}{n B:Nat}{F F':Zo}{a:Act}{w w':World}
def Post(B n:Nat)(I:cn)(μ:Mu)(H:bl)(w:World)(o:Out)(F':Zo)(H':bl):Exit->Act->World->Prop:=λe u w'=>e=o.Gq/\(∃I' μ',eE I' μ' n F' u.tmps/\cO I' μ' H' w'/\Step I μ H w I' μ' H' w')/\jR B u.defers w'
def Post.mono{I1:cn}{G:Mu}{H1:bl}{J:World}{o:Out}(O:cO I1 G H1 J)(st:Step I μ H w I1 G H1 J){e:Exit}{a':Act}{w':World}(h:Post B n I1 G H1 J o F' H' e a' w'):
 Post B n I μ H w o F' H' e a' w':=by
 have⟨a,⟨I',μ',u,z,C⟩,D⟩:=h;exact⟨a,⟨I',μ',u,z,Step.trans O st C⟩,D⟩
def cO.Ai(s:cO I μ H w){b:Nat}(o:Obj)(B:I b=none)(G:¬gY μ H b):cO I μ H (fK w b o)where
 dom:=s.dom
 imm:=λz x h=>IC.rN (s.imm z x h) (fh o (by rintro rfl;rw[B]at h;cases h))
 obs:=λid ob h=>(s.obs id ob h).mono (cn.le_refl _) (Mu.le_refl _) (λp C D=>by
  have u:gY μ H p.b:=⟨id,p,ob,h,D,C,rfl⟩;exact⟨fh o (λe=>G (e▸u)),fR s u⟩) (λJ=>by subst J;exact s.obs id _ h)
 inj:=s.inj
 gl:=s.gl
def SC(s:cO I μ H w){b:Nat}{o:Obj}(h:w.heap[b]?=some o)(a:∀c e f,o≠.cells c e f)(B:∀es c,o≠.map es c):I b=none:=by cases u:I b with|none=>rfl|some x=>have:=s.imm b x u;cases x with|cells c=>have⟨_,_,q⟩:=this;rw[h]at q;cases q;exact absurd rfl (a _ _ _)|map es=>have⟨_,q⟩:=this;rw[h]at q;cases q;exact absurd rfl (B _ _)
def Step.kept(c:∀b,b<w.heap.size->w'.heap[b]?=w.heap[b]?)(B:w.heap.size<=w'.heap.size)(d:w'.os=w.os)(G:uJ w w')(J:∀a:Addr,a.block<w.heap.size->w.frozen? a=false->w'.frozen? a=false):Step I μ H w I μ H w':=⟨cn.le_refl _,Mu.le_refl _,le_refl _,B,λb u _=>c b u,λ_ h=>h.elim .inl λh=>.inr (.inl h),d,G,J⟩
def Step.after(st:Step I μ H w I' μ' H' w'){b:Nat}(o:Obj)(B:w.heap.size<=b)(G:Obj.nf o:=by first|exact tg _ _|exact qV rfl):Step I μ H w I' μ' H' (fK w' b o):=⟨st.le,st.mu,st.len,by rw[rJ];exact st.size,λz u C=>by rw[fh o Za];exact st.frame z u C,st.terr,st.os,⟨st.out.out,st.out.tape,st.out.dr⟩,λa B D=>T5 G a (st.fz a B D)⟩
def jR.Ai{ds:aY Deferred}(h:jR B ds w){b:Nat}{o:Obj}(G:∀r,w.heap[r]?=some (.deferred (some []))->r≠b):jR B ds (fK w b o):=
 ⟨λd z=>by
  have⟨r,a,C,u⟩:=h.all d z;exact⟨r,a,C,by rw[fh o (G r u)];exact u⟩,h.apart⟩
def KY{step:Zo->bl->aZ (Out×Zo×bl)}{c:Code}{ro:aZ Nat}{o:Out}
 (G:∀I μ F H a w o F' H',step F H=some (o,F',H')->eE I μ n F a.tmps->cO I μ H w->jR B a.defers w->B<=w.heap.size->c.wpIn (fr ro) 0 P (Post B n I μ H w o F' H') a w)
 {k:Nat}(h:kz step k F H=some (o,F',H'))(r:eE I μ n F a.tmps)(s:cO I μ H w)(m:jR B a.defers w)(j:B<=w.heap.size):
 (Code.loop c).wpIn (fr ro) 0 P (Post B n I μ H w o F' H') a w:=by
 let b:Nat->Act->World->Prop:=λk u w'=>∃I1 J F1 H1,kz step k F1 H1=some (o,F',H')/\eE I1 J n F1 u.tmps/\cO I1 J H1 w'/\Step I μ H w I1 J H1 w'/\jR B u.defers w'/\B<=w'.heap.size
 let M:Act->World->Nat:=λu w'=>least (λk=>b k u w')
 have d:∀k u w',b k u w'->b (M u w') u w'/\M u w'<=k:=λk u w' T=>Lm (λk=>b k u w') T
 refine wpIn_loop (λu w'=>∃k,b k u w') M ⟨k,I,μ,F,H,h,r,s,.refl _ _ _ _,m,j⟩ ?_
 rintro a1 U ⟨k1,W⟩;have⟨T,_⟩:=d k1 a1 U W;generalize v:M a1 U=kk at T;have⟨I1,J,F1,H1,L,r1,O,C,m1,D⟩:=T
 cases kk with
 |zero=>simp[kz]at L|succ kk=>
  simp only[kz]at L;split at L
  next f H2 X=>refine wpIn_mono (G I1 J F1 H1 a1 U .norm f H2 X r1 O m1 D) ?_;rintro e Q S ⟨rfl,⟨I2,l,r2,p,st2⟩,q⟩;show(∃k,b k Q S)/\M Q S<kk+1;have z:b kk Q S:=⟨I2,l,f,H2,L,r2,p,Step.trans O C st2,q,le_trans D st2.size⟩;exact⟨⟨kk,z⟩,Nat.lt_succ_of_le (d kk Q S z).2⟩
  rename_i Y;refine wpIn_mono (G I1 J F1 H1 a1 U o F' H' L r1 O m1 D) ?_;intro e Q S t;have Z:o≠.norm:=by rintro rfl;exact Y F' H' L
  obtain⟨rfl,g,i⟩:=t
  cases o with
  |norm=>exact absurd rfl Z|exit id=>exact Post.mono O C ⟨rfl,g,i⟩|ret=>exact Post.mono O C ⟨rfl,g,i⟩
end
end Go.VE
