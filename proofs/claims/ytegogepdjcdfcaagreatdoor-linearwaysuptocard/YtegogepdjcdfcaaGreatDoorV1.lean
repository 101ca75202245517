/- Engine, values. -/
import Derived.RangeFuncLeaves
import Derived.Sort.Defs
import Derived.Lib.BitFns
import Derived.Laws.Sem
import Derived.Laws.World
import Derived.Laws.Append
import Derived.Laws.BytesString
import Derived.OrdersIn
import Derived.RangeFuncRecord
set_option linter.all false
open Option renaming some→M,some→_j,none→J,none→_p,bind→H,bind→_n
open Bool renaming true→U,true→_m,false→O,false→_o
open Decidable renaming decide→_r
open List renaming length→W,length→_l
open Go.IntKind renaming i64→N,i64→_q
open BitVec renaming ofInt→c5
open Go.IntKind renaming wrap→w?
open Go.Op renaming bytesLess→T!,equal→O!,equalIn→J!,intArith→v6,intBits→H5,intCmp→w0,operands→G?
open List renaming all_eq_true→O?,drop_drop→D!,drop_take→i5,eq_of_mem_replicate→X?,finRange→V!,flatten_append→Y!,getElem?_drop→L?,getElem?_set_ne→F?,getElem?_take→D?,mem_append→M!,mem_cons_of_mem→B?,mem_filter→Z!,mem_flatten→m9,mem_of_getElem?→s?,mem_of_mem_drop→x!,mem_of_mem_take→Q?,range→w!,set_comm→J0,take_append_drop→g!
open Go.Instr renaming checkKey→B!,findAsking→i8,findKey→o0,findNow→q8,indexAt→t8,sameBits→f9,sameNow→I0,sliceAt→l0,sliceBounds→n',sureAddr→w7
open Go.Sem renaming run_bind→z?,run_pure→N?
open Go.Result renaming andThen→m4,andThen_ok→x?
open Bool renaming false_eq_true→v?
open Option renaming getD_some→H!,map_some→A?
open Nat renaming add_assoc→m8,add_mul→p!,add_zero→g',le_refl→y?,le_succ→b5,le_trans→W?,mul_le_mul→x6,mul_le_mul_right→b!,one_mul→u0,zero_le→R?,zero_mul→z6
open Go.Builtin renaming append_→R!,firstCells→A!,nextslicecap→W!,zeroCells→y!
open Go.World renaming frozen?→v'
open Go.Question renaming appendCap→P!
theorem Y.{u}{α:Sort u}{a:α}:a=a:=rfl
theorem _k.{u}{α:Sort u}{a:α}:a=a:=rfl
def L':=@if_pos
def M':=@if_neg
def N':=@if_true
def _a:=@if_false
def _b:=@decide_eq_false
def _c:=@decide_eq_true
def _d:=@of_decide_eq_true
def _e:=@absurd
def _f:=@congrArg
def _g:=@decide_eq_true_eq
def _h:=@decide_eq_false_iff_not
def _i:=@beq_iff_eq
open Nat(le)
open Go.IntKind(i64)
open Nat(le)
open List(length mem_cons mem_map replicate)
open Go.Instr(fieldAt fill loadAt sliceBound storeAt)
open Go.Sem(run_ite)
open Nat(le)
open Nat(le)
open Option(isSome_iff_exists)
open Nat(mod_lt)
open Go.Builtin(cap_ clear_ lenOf len_ max2 max_ min2 min_)
open Go.World(cell?)
open Go.Question(forced)
namespace Go.VE
abbrev T2:=IntKind
abbrev UV:=Operand
abbrev U':=ByteArray
abbrev V':=Value
abbrev W':=TypeId
abbrev X':=Bool
abbrev Y':=FuncId
def c?{p:Prop}(h:p:=by omega):p:=h
def f?{p:Prop}(h:p:=by simp):p:=h
def h?{p:Prop}(h:p:=by grind):p:=h
def p?{p:Prop}(h:p:=by simp_all):p:=h
def ζa{α:Type _}(a b:α):(M a=M b)=(a=b):=Option.some.injEq a b
def ζb{α β:Type _}(a:α)(f:α->Option β):_n (M a) f=f a:=rfl
def ζc{α β:Type _}(a:α)(b:β)(c:α)(d:β):((a,b)=(c,d))=(a=c/\b=d):=Prod.mk.injEq a b c d
def ζd{α:Type _}{l:List α}{i:Nat}(h:i<W l):l[i]?=M l[i]:=List.getElem?_eq_getElem h
def ζe{α:Type _}{l:List α}{i:Nat}{a:α}:l[i]?=M a↔∃h:i<W l,l[i]=a:=List.getElem?_eq_some_iff
theorem ζf{α β:Type _}{b:β}{x:Option α}{f:α->β}:x.map f=M b↔∃a,x=M a/\f a=b:=Option.map_eq_some_iff
theorem ζg{α β:Type _}{b:β}{x:Option α}{f:α->Option β}:x.bind f=M b↔∃a,x=M a/\f a=M b:=Option.bind_eq_some_iff
def ζh(a b:X'):((a&&b)=U)=(a=U/\b=U):=Bool.and_eq_true a b
def ζi{α:Type _}{a b:List α}:W (a++b)=W a+W b:=List.length_append
abbrev aX:=@List
abbrev QP:=aX Oper
abbrev SW:=aX Int
abbrev ST:=aX Nat
abbrev aY:=@Option
abbrev PH:=aY Int
inductive V where
 |bool(b:Bool)|int(k:IntKind)(n:Int)|str(s:ByteArray)|dH|bN|fsl(es:Nat)(xs:List (List V))|hsl(id es off len:Nat)|jt|fptr(cs:List V)|hptr(id el off:Nat)|clo(f:FuncId)(first cap:List V)|yld(id:Nat)|iE|uO|fmap(kvs:List (V×V))|hmap(id:Nat)|agg(cs:List V)|tup(vs:List V)
 deriving Inhabited
abbrev So:=aX V
abbrev S':=aX (aX V)
def V.undef:V:=.tup []
def V.one:V->X'
 |.agg _|.tup _=>O|_=>U
def V.cells:V->So
 |.agg cs=>cs|v=>[v]
mutual
def V.scalar:V->X'
 |.bool _|.int ..|.str _|.jt|.iE|.uO|.dH|.bN=>U|.agg cs=>V.c7 cs|.tup cs=>V.c7 cs|_=>O
def V.c7:So->X'
 |[]=>U|v::r=>V.scalar v&&V.c7 r
end
mutual
def V.closed:V->X'
 |.hsl ..|.hptr ..|.yld ..|.hmap ..=>O|.clo _ a b=>V.jw a&&V.jw b|.agg cs=>V.jw cs|.tup cs=>V.jw cs|_=>U
def V.jw:So->X'
 |[]=>U|v::r=>V.closed v&&V.jw r
end
inductive TK where
 |bool|int (k:IntKind)|str|ptr (e:TypeId)|slice (e:TypeId)|struct(fs:List (Nat×TypeId))|array (n:Nat) (e:TypeId)|map (k e:TypeId)|other
 deriving Inhabited
structure TD where
 size:Nat
 bytes:Nat
 zero:List V
 kind:TK
 deriving Inhabited
def TD.agg(d:TD):X':=match d.kind with|.struct _|.array _ _=>U|_=>O
abbrev Frame:=aX V
abbrev WP:=Frame
def get:WP->Nat->V
 |[],_=>.undef|x::_,0=>x|_::r,i+1=>get r i
def set:WP->Nat->V->WP
 |[],0,v=>[v]|[],i+1,v=>.undef::set [] i v|_::r,0,v=>v::r|x::r,i+1,v=>x::set r i v
inductive Eu where
 |ready|busy|done
inductive Out where
 |norm|exit(id:Nat)|ret
 deriving DecidableEq,Inhabited
structure yZ where
 st:Eu
 pend:Option Out
 frame:Frame
 nt:Nat
 params:List Nat
 assign:Code
 body:Code
inductive Ob where
 |free|dead|row(es:Nat)(xs:List (List V))|frz(es:Nat)(xs:List (List V))|map(kvs:List (V×V))|loop(r:yZ)
def Ob.rows:Ob->aY (Nat×S')
 |.row es xs|.frz es xs=>M (es,xs)|_=>J
abbrev bl:=aX Ob
structure FI where
 ntmps:Nat
 results:List ResultVar
 body:Code
structure Env where
 tt:TypeId->Option TD
 ft:FuncId->Option FI
 keep:FuncId->Bool
 own:FuncId->Bool
 eqN:TypeId->Option Nat
 sort:FuncId->Bool
 known:FuncId->List V->Option V:=λ_ _=>none
 soft:FuncId->Bool:=λ_=>false
def Env.kindOf(E:Env)(t:W'):aY TK:=(E.tt t).map TD.kind
def ofValue:Nat->V'->aY V
 |0,_=>J|n+1,v=>
  match v with
  |.bool b=>M (.bool b)|.int k n=>M (.int k n)|.string s=>M (.str s)|.pointer J=>M .jt|.slice J 0 0=>M .bN|.map J=>M .iE|.nilFunc=>M .uO|.agg cs=>(cs.toList.mapM (ofValue n)).map .agg|_=>J
class bZ where
 gl:Nat->Option (List V)
 sc:∀g cs,gl g=some cs->∃(k:IntKind)(l:List Int),cs=l.map (V.int k)
variable[bZ]
def ev(F:WP):UV->aY V
 |.tmp t=>M (get F t)|.const v=>ofValue 4 v|.func f=>M (.clo f [] [])|.global g=>(bZ.gl g).map .fptr
def f_(F:WP):aX UV->aY So
 |[]=>M []|x::r=>match ev F x,f_ F r with
  |some v,M vs=>M (v::vs)|_,_=>J
def mk(agg:X')(cs:So):aY V:=if agg then M (.agg cs)else match cs with|[v]=>M v|_=>J
def cut(cs:So)(off n:Nat):aY So:=
 let r:=(cs.drop off).take n
 if W r=n then M r else J
def jH:So->aY SW
 |[]=>M []|.int N a::r=>(jH r).map (a::·)|_=>J
def mV(az B:So):aY X':=
 match jH az,jH B with
 |some a,M b=>if W a=W b then M (a==b)else J|_,_=>J
def uD(op:BinOp)(x y:Int):aY X':=
 match op with
 |.eql=>M (x==y)|.neq=>M (x != y)|.lss=>M (_r (x<y))|.leq=>M (_r (x<=y))|.gtr=>M (_r (x>y))|.geq=>M (_r (x>=y))|_=>J
def xS(k:TK)(x y:V):aY X':=
 match k,x,y with
 |.slice _,.bN,.bN=>M U|.slice _,.fsl ..,.bN=>M O|.slice _,.hsl ..,.bN=>M O|.ptr _,.jt,.jt=>M U|.ptr _,.fptr _,.jt=>M O|.ptr _,.hptr ..,.jt=>M O|.map ..,.iE,.iE=>M U|.map ..,.fmap _,.iE=>M O|.map ..,.hmap _,.iE=>M O|_,_,_=>J
def My(E:Env)(op:BinOp)(t:W')(x y:V):aY V:=
 match x,y with
 |.int k a,.int u b=>
  match op with
  |.shl=>if b<0 then J else M (.int k (k.wrap (a*2 ^ (min b.toNat k.bits))))|.shr=>if b<0 then J else M (.int k (a.fdiv (2 ^ (min b.toNat k.bits))))|_=>if k=u then
   match op with
   |.add=>M (.int k (k.wrap (a+b)))|.sub=>M (.int k (k.wrap (a-b)))|.mul=>M (.int k (k.wrap (a*b)))|.quo=>if b=0 then J else M (.int k (k.wrap (a.tdiv b)))|.rem=>if b=0 then J else M (.int k (a.tmod b))|.and=>M (.int k (k.wrap (c5 k.bits a &&& c5 k.bits b).toNat))|.or=>M (.int k (k.wrap (c5 k.bits a ||| c5 k.bits b).toNat))|.xor=>M (.int k (k.wrap (c5 k.bits a ^^^ c5 k.bits b).toNat))|.andNot=>M (.int k (k.wrap (c5 k.bits a &&& ~~~ c5 k.bits b).toNat))|op=>(uD op a b).map .bool
   else J
 |.str a,.str b=>
  match op with
  |.add=>if((a.size+b.size:Nat):Int)>i64.max then J else M (.str (a++b))|.eql=>M (.bool (a.toList==b.toList))|.neq=>M (.bool !(a.toList==b.toList))|.lss=>M (.bool (T! a.toList b.toList))|.leq=>M (.bool (T! a.toList b.toList||a.toList==b.toList))|.gtr=>M (.bool !(T! a.toList b.toList||a.toList==b.toList))|.geq=>M (.bool !(T! a.toList b.toList))|_=>J
 |.bool a,.bool b=>
  match E.kindOf t,op with
  |some .bool,.eql=>M (.bool (a==b))|some .bool,.neq=>M (.bool !(a==b))|_,_=>J
 |.agg a,.agg b=>
  match E.eqN t,op with
  |some n,.eql=>if W a=n then(mV a b).map .bool else J|some n,.neq=>if W a=n then(mV a b).map (λt=>.bool !t)else J|_,_=>J
 |x,y=>
  match E.kindOf t,op with
  |some k,.eql=>(xS k x y).map .bool|some k,.neq=>(xS k x y).map λt=>.bool !t|_,_=>J
def xk(place:Nat->aY (Nat×Nat))(cells:So):aX (Nat×V)->aY So
 |[]=>M cells|(i,v)::i?=>
  match place i with
  |none=>J|some (off,size)=>
   if W v.cells≠size||off+W v.cells>W cells then J
   else xk place (cells.take off++v.cells++cells.drop (off+W v.cells)) i?
def ow(F:WP):aX (Nat×UV)->aY (aX (Nat×V))
 |[]=>M []|(i,x)::r=>match ev F x,ow F r with
  |some v,M vs=>M ((i,v)::vs)|_,_=>J
def p8(E:Env):aX (Nat×W')->aY (aX (Nat×Nat))
 |[]=>M []|(off,t)::r=>match E.tt t,p8 E r with
  |some d,M ps=>M ((off,d.size)::ps)|_,_=>J
def lZ(F:WP):aY UV->aY PH
 |none=>M J|some x=>match ev F x with
  |some (.int _ n)=>M (M n)|_=>J
def ec(len:Nat)(a b:PH):aY (Nat×Nat):=
 let h:=b.getD len
 let l:=a.getD 0
 if 0<=h/\h<=len/\0<=l/\l<=h then M (l.toNat,h.toNat)else J
def Fs(a b:Int):Int:=if b>a then b else a
def bP(E:Env)(F:WP)(op:Op):aY V:=
 match op with
 |.move x|.assign x=>ev F x|.pick c a b=>match ev F c with
  |some (.bool t)=>if t then ev F a else ev F b|_=>J
 |.nilCheck x=>match ev F x with
  |some (.hptr id el off)=>M (.hptr id el off)|some (.fptr cs)=>M (.fptr cs)|some (.clo f a b)=>M (.clo f a b)|_=>J
 |.binOp op t x y _=>match ev F x,ev F y with
  |some a,M b=>My E op t a b|_,_=>J
 |.unOp op _ x=>match op,ev F x with
  |.not,M (.bool b)=>M (.bool !b)|.neg,M (.int k n)=>M (.int k (k.wrap (0-n)))|_,_=>J
 |.convert s d x=>match E.tt s,E.tt d,ev F x with
  |some _,M C,M (.int _ n)=>match C.kind with
   |.int k=>M (.int k (k.wrap n))|_=>J
  |_,_,_=>J
 |.fieldAddr s x f=>match E.kindOf s,ev F x with
  |some (.struct fs),M p=>match fs[f]?with
   |some (off,t)=>match E.tt t with
    |some d=>if d.size=0 then J else match p with
     |.fptr cs=>if off<=W cs then M (.fptr (cs.drop off))else J|.hptr id el o=>M (.hptr id el (o+off))|_=>J
    |none=>J
   |none=>J
  |_,_=>J
 |.field s x f=>match E.kindOf s,ev F x with
  |some (.struct fs),M (.agg cs)=>match fs[f]?with
   |some (off,t)=>match E.tt t with
    |some d=>_n (cut cs off d.size) (mk d.agg)|none=>J
   |none=>J
  |_,_=>J
 |.indexAddr t x i=>match E.kindOf t,ev F x,ev F i with
  |some (.slice e),M s,M (.int _ n)=>match E.tt e with
   |some d=>if n<0 then J else match s with
    |.fsl es u=>if es=d.size then(u[n.toNat]?).map .fptr else J|.hsl id es off len=>if es=d.size/\n.toNat<len then M (.hptr id (off+n.toNat) 0)else J|_=>J
   |none=>J
  |some (.array len e),M p,M (.int _ n)=>match E.tt e with
   |some d=>if 0<=n/\n<len then match p with
    |.fptr cs=>if n.toNat*d.size<=W cs then M (.fptr (cs.drop (n.toNat*d.size)))else J|.hptr id el o=>M (.hptr id el (o+n.toNat*d.size))|_=>J
    else J
   |none=>J
  |_,_,_=>J
 |.index t x i=>match E.kindOf t,ev F x,ev F i with
  |some .str,M (.str s),M (.int _ n)=>if 0<=n then(s[n.toNat]?).map (λb=>.int .u8 b.toNat)else J|some (.array len e),M (.agg cs),M (.int _ n)=>match E.tt e with
   |some d=>if 0<=n/\n<len then(cut cs (n.toNat*d.size) d.size).bind (mk d.agg)else J|none=>J
  |_,_,_=>J
 |.slice t x lo hi D=>match E.kindOf t,ev F x,lZ F lo,lZ F hi,lZ F D with
  |some .str,M (.str s),M l,M h,M J=>(ec s.size l h).map λ(l,h)=>.str (s.extract l h)|some (.slice e),M v,M l,M h,M J=>match E.tt e with
   |some d=>match v with
    |.fsl es u=>if es=d.size then(ec (W u) l h).map λ(l,h)=>.fsl es ((u.take h).drop l)else J|.hsl id es off len=>if es=d.size then(ec len l h).map λ(l,h)=>.hsl id es (off+l) (h-l)else J|.dH=>(ec 0 l h).map λ_=>.dH|.bN=>(ec 0 l h).map λ_=>.bN|_=>J
   |none=>J
  |some (.slice e),M v,M J,M (M 0),M (M 0)=>match E.tt e,v with
   |some _,.fsl ..|some _,.hsl ..|some _,.dH|some _,.bN=>M .dH|_,_=>J
  |_,_,_,_,_=>J
 |.build t ps=>match E.tt t,ow F ps.toList with
  |some d,M w=>match d.kind with
   |.struct fs=>match p8 E fs with
    |some pl=>(xk (λi=>pl[i]?) d.zero w).map .agg|none=>J
   |.array _ e=>match E.tt e with
    |some B=>(xk (λi=>M (i*B.size,B.size)) d.zero w).map .agg|none=>J
   |_=>J
  |_,_=>J
 |.makeFunc (.func f) a b=>match f_ F a.toList,f_ F b.toList with
  |some a,M b=>M (.clo f a b)|_,_=>J
 |.extract x i=>match ev F x with
  |some (.tup w)=>w[i]?|_=>J
 |.call {callee:=.builtin b,args,argTypes}=>match b,f_ F args.toList,argTypes[0]?with
  |.len,M [v],M t=>match E.kindOf t,v with
   |some .str,.str s=>M (.int N s.size)|some (.slice _),.fsl _ u=>M (.int N (W u))|some (.slice _),.hsl _ _ _ len=>M (.int N len)|some (.slice _),.dH=>M (.int N 0)|some (.slice _),.bN=>M (.int N 0)|_,_=>J
  |.cap,M [v],M t=>match E.kindOf t,v with
   |some (.slice _),.bN=>M (.int N 0)|some (.slice _),.dH=>M (.int N 0)|_,_=>J
  |.max,M [.int k a,.int z b],_=>if k=z then M (.int k (if b>a then b else a))else J|.max,M [.int k a,.int k1 b,.int k2 c,.int k3 d],_=>if k=k1/\k=k2/\k=k3 then M (.int k (Fs (Fs (Fs a b) c) d))else J|.min,M [.int k a,.int z b],_=>if k=z then M (.int k (if b<a then b else a))else J|_,_,_=>J
 |_=>J
def fh(H:bl)(p:V)(n:Nat):aY So:=
 match p with
 |.fptr cs=>cut cs 0 n|.hptr id el off=>match(H[id]?).bind Ob.rows with
  |some (_,u)=>match u[el]?with
   |some cs=>cut cs off n|none=>J
  |none=>J
 |_=>J
def zU:V->V->aY X'
 |.int k a,.int B b=>if k=B then M (a==b)else J|.str a,.str b=>M (a==b)|.agg a,.agg b=>mV a b|_,_=>J
def jB(k:V):aX (V×V)->Nat->aY (aY (Nat×V))
 |[],_=>M J|(B,v)::r,i=>match zU k B with
  |some U=>M (M (i,v))|some O=>jB k r (i+1)|none=>J
def DX(E:Env)(t:W')(k:V):X':=
 match E.kindOf t,k with
 |some (.int k),.int u _=>k==u|some .str,.str _=>U|some _,.agg cs=>match E.eqN t with|some n=>W cs==n&&(jH cs).isSome|none=>O
 |_,_=>O
def oJ(H:bl):V->aY (aX (V×V))
 |.iE=>M []|.fmap B=>M B|.hmap id=>match H[id]?with
  |some (.map B)=>M B|_=>J
 |_=>J
def eu(E:Env)(F:WP)(H:bl)(op:Op):aY V:=
 match op with
 |.load t a=>match E.tt t,ev F a with
  |some d,M p=>_n (fh H p d.size) (mk d.agg)|_,_=>J
 |.lookup t m k ok=>match E.kindOf t,ev F m,ev F k with
  |some (.map w B),M m,M k=>match E.tt B,oJ H m with
   |some d,M u=>if DX E w k then match jB k u 0,mk d.agg d.zero with
    |some (M (_,v)),_=>M (if ok then .tup [v,.bool U]else v)|some J,M z=>M (if ok then .tup [z,.bool O]else z)|_,_=>J
    else J
   |_,_=>J
  |_,_,_=>J
 |_=>J
inductive Mk where
 |ptr|sl (es len:Nat)|map
def Mk.val(id:Nat):Mk->V
 |.ptr=>.hptr id 0 0|.sl es len=>.hsl id es 0 len|.map=>.hmap id
def gB(es:Nat)(xs:S'):aX (Nat×V)->aY S'
 |[]=>M xs|(i,v)::r=>if W v.cells=es/\i<W xs/\v.cells.all V.one=U then gB es (xs.set i v.cells) r else J
def fG(E:Env)(F:WP)(op:Op):aY (Ob×Mk):=
 match op with
 |.alloc t=>(E.tt t).map λd=>(.row d.size [d.zero],.ptr)|.box _ x=>match ev F x with
  |some v=>if v.cells.all V.one then M (.row (W v.cells) [v.cells],.ptr)else J|none=>J
 |.makeSlice t l c=>match E.kindOf t,ev F l,ev F c with
  |some (.slice e),M (.int k n),M (.int u m)=>match E.tt e with
   |some d=>if k=N/\u=N/\0<=n/\n<=m/\m<=2147483648/\d.bytes<=4096 then M (.row d.size (replicate m.toNat d.zero),.sl d.size n.toNat)else J|none=>J
  |_,_,_=>J
 |.buildSlice t len ps=>match E.kindOf t,ow F ps.toList with
  |some (.slice e),M w=>match E.tt e with
   |some d=>if len*d.size<=16777216 then(gB d.size (replicate len d.zero) w).map λz=>(.row d.size z,.sl d.size len)else J|none=>J
  |_,_=>J
 |.makeMap _ J=>M (.map [],.map)|_=>J
def rS(E:Env)(F:WP)(op:Op):aY V:=
 match fG E F op with
 |some (.row es u,.sl w n)=>if w=es/\n=W u/\(u.all λx=>x.all V.scalar)=U then match op with
  |.buildSlice ..=>if u.isEmpty then(if es != 0 then M .dH else J)else M (.fsl es u)|_=>M (.fsl es u)
  else J
 |_=>J
def dO(H:bl)(es:Nat):V->aY S'
 |.dH=>M []|.bN=>M []|.fsl B xs=>if B=es then M xs else J|.hsl id B off len=>if B=es then match(H[id]?).bind Ob.rows with
  |some (_,xs)=>if off+len<=W xs then M ((xs.drop off).take len)else J|none=>J
  else J
 |_=>J
def sZ(k v:V)(B:aX (V×V)):aY (aX (V×V)):=
 match jB k B 0 with
 |some (M (j,_))=>M (B.set j (k,v))|some J=>M (B++[(k,v)])|none=>J
def iz(H:bl):V->aY bl
 |.dH=>M H|.bN=>M H|.hsl id _ _ _=>match H[id]?with
  |some (.row _ _)=>M (H.set id .dead)|_=>J
 |_=>J
def mkApp(H:bl)(size bytes:Nat)(zero:So)(s x:V):aY (V×bl):=
 match s,x with
 |.bN,.int _ n=>if n=0 then M (.bN,H)else if 0<n/\n<=2147483648/\bytes<=4096/\0<bytes then M (.hsl (W H) size 0 n.toNat,H++[.row size (replicate n.toNat zero)])else J|_,_=>J
def FG(H:bl)(size:Nat)(zero:So):V->aY (V×bl)
 |.bN|.dH=>M (.undef,H)|.hsl id es off len=>if es=size then match len with
  |0=>M (.undef,H)|len+1=>match H[id]?with
   |some (.row B xs)=>if off+(len+1)<=W xs then M (.undef,H.set id (.row B (xs.take off++replicate (len+1) zero++xs.drop (off+(len+1)))))else J|_=>J
  else J
 |_=>J
def cH(E:Env)(F:WP)(H:bl)(op:Op):aY (V×bl):=
 match op with
 |.store t a x=>match E.tt t,ev F a,ev F x with
  |some d,M (.hptr id el off),M v=>match H[id]?with
   |some (.row es w)=>match w[el]?with
    |some cs=>if W v.cells=d.size/\off+d.size<=W cs/\v.cells.all V.one=U then
     M (.undef,H.set id (.row es (w.set el (cs.take off++v.cells++cs.drop (off+W v.cells)))))else J
    |none=>J
   |_=>J
  |_,_,_=>J
 |.mapUpdate t m k x|.insert t m k x=>match E.kindOf t,ev F m,ev F k,ev F x with
  |some (.map B _),M (.hmap id),M k,M v=>match H[id]?with
   |some (.map u)=>if DX E B k then(sZ k v u).map λu=>(.undef,H.set id (.map u))else J|_=>J
  |_,_,_,_=>J
 |.call {callee:=.builtin .append,args,argTypes}=>match argTypes.toList,f_ F args.toList with
  |[t,C],M [s,x]=>match E.kindOf t,E.kindOf C with
   |some (.slice e),M (.slice _)=>match E.tt e with
    |some d=>match dO H d.size s,dO H d.size x with
     |some _,M []=>M (s,H)|some w,M z=>
      if W w+W z<=2147483648/\d.bytes<=4096/\0<d.bytes then
       (iz H s).map λH1=>(.hsl (W H) d.size 0 (W w+W z),H1++[.row d.size (w++z)])
      else J
     |_,_=>J
    |none=>J
   |some (.slice e),M (.int _)=>match E.tt e with
    |some d=>mkApp H d.size d.bytes d.zero s x|none=>J
   |_,_=>J
  |_,_=>J
 |.call {callee:=.builtin .clear,args,argTypes}=>match argTypes[0]?,f_ F args.toList with
  |some t,M [v]=>match E.kindOf t with
   |some (.slice e)=>match E.tt e with
    |some d=>FG H d.size d.zero v|none=>J
   |_=>J
  |_,_=>J
 |_=>J
def nK:S'->aY SW
 |[]=>M []|[.int .u8 n]::r=>(nK r).map (n::·)|_=>J
def oA(l:SW):U':=l.foldl (λr n=>r.push (UInt8.ofNat n.toNat)) ByteArray.empty
def evalConv(E:Env)(F:WP)(H:bl)(op:Op):aY V:=
 match op with
 |.convert s d x=>match E.kindOf s,E.kindOf d,ev F x with
  |some (.slice e),M .str,M v=>match E.kindOf e with
   |some (.int .u8)=>_n (dO H 1 v) λu=>(nK u).map λl=>.str (oA l)|_=>J
  |_,_,_=>J
 |_=>J
def vT(E:Env)(F:WP)(H:bl)(place:aY (Nat×Nat))(op:Op):aY V:=
 match bP E F op with
 |some v=>M v|none=>match place with
  |none=>evalConv E F H op|some _=>J
inductive Callee where
 |fn(f:FuncId)|yld(id:Nat)
def lS(F:WP)(op:Op):aY (Callee×So):=
 match op with
 |.call {callee:=.value f,args,..}=>match ev F f,f_ F args.toList with
  |some (.clo g a b),M u=>M (.fn g,a++u++b)|some (.yld id),M u=>M (.yld id,u)|_,_=>J
 |_=>J
inductive Y9 where
 |pure|read|alloc|loud|call
 deriving DecidableEq
def cO:Op->Y9
 |.load ..|.lookup ..=>.read|.alloc ..|.box ..|.makeSlice ..|.buildSlice ..|.makeMap ..=>.alloc|.store ..|.mapUpdate ..|.insert ..=>.loud|.call {callee:=.builtin .append,..}=>.loud|.call {callee:=.builtin .clear,..}=>.loud|.call {callee:=.value _,..}=>.call|_=>.pure
def jI(f:V->aY V):So->aY So
 |[]=>M []|x::r=>match f x,jI f r with
  |some y,M s=>M (y::s)|_,_=>J
def nP(f:V->aY V):S'->aY S'
 |[]=>M []|x::r=>match jI f x,nP f r with
  |some y,M s=>M (y::s)|_,_=>J
def nT(f:V->aY V):aX (V×V)->aY (aX (V×V))
 |[]=>M []|(k,x)::r=>match f k,f x,nT f r with
  |some k,M y,M s=>M ((k,y)::s)|_,_,_=>J
def borrow:Nat->bl->V->aY V
 |0,_,x=>if x.closed then M x else J|n+1,H,x=>
  if x.closed then M x else
  match x with
  |.hsl id es off len=>match(H[id]?).bind Ob.rows with
   |some (B,xs)=>if B=es/\off+len<=W xs then(nP (borrow n H) ((xs.drop off).take len)).map (.fsl es)else J|none=>J
  |.hptr id el off=>match(H[id]?).bind Ob.rows with
   |some (_,xs)=>match xs[el]?with
    |some cs=>if off<=W cs then(jI (borrow n H) (cs.drop off)).map .fptr else J|none=>J
   |none=>J
  |.hmap id=>match H[id]?with
   |some (.map D)=>(nT (borrow n H) D).map .fmap|_=>J
  |.clo f a b=>match jI (borrow n H) a,jI (borrow n H) b with
   |some a,M b=>M (.clo f a b)|_,_=>J
  |.agg cs=>(jI (borrow n H) cs).map .agg|.tup cs=>(jI (borrow n H) cs).map .tup|_=>J
def borrows(n:Nat)(H:bl)(l:So):aY So:=jI (borrow n H) l
def c_(f:V->ST):So->ST
 |[]=>[]|x::r=>f x++c_ f r
def cA:Nat->bl->V->ST
 |0,_,_=>[]|n+1,H,x=>
  if x.closed then[]else
  match x with
  |.hsl id _ off len=>id::(match(H[id]?).bind Ob.rows with|some (_,xs)=>c_ (cA n H) ((xs.drop off).take len).flatten|none=>[])|.hptr id el off=>id::(match(H[id]?).bind Ob.rows with|some (_,xs)=>c_ (cA n H) (((xs[el]?).getD []).drop off)|none=>[])|.hmap id=>id::(match H[id]?with|some (.map B)=>c_ (cA n H) (B.map (·.1))++c_ (cA n H) (B.map (·.2))|_=>[])|.clo _ a b=>c_ (cA n H) a++c_ (cA n H) b|.agg cs=>c_ (cA n H) cs|.tup cs=>c_ (cA n H) cs|_=>[]
def xQ(H:bl)(id:Nat):bl:=
 match H[id]?with
 |some (.row es u)=>H.set id (.frz es u)|some (.map _)=>H.set id .dead|_=>H
def cU(H:bl)(l:ST):bl:=l.foldl xQ H
structure dR where
 lv:Nat
 go:Callee->List V->bl->Option (V×bl)
instance:CoeFun dR λ_=>Callee->So->bl->aY (V×bl):=⟨dR.go⟩
def kg(H:bl)(T:ST):X':=T.all λid=>(_n (H[id]?) Ob.rows).isSome
def cq(call:dR)(f:Y')(args:So)(H:bl):aY V:=
 match borrows call.lv H args with
 |some az=>match call (.fn f) az []with
  |some (r,H1)=>match borrow call.lv H1 r with
   |some y=>if y.closed then M y else J|none=>J
  |none=>J
 |none=>J
def vA(k:Nat)(H1:bl)(id es off len:Nat):aY (V×Ob):=
 match H1[id]?with
 |some (.row u w)=>if u=es/\(w.all λx=>x.all V.scalar)=U then M (.hsl k es off len,.row es w)else J|_=>J
def om(call:dR)(f:Y')(args:So)(H:bl):aY (V×bl):=
 match borrows call.lv H args with
 |some az=>match call (.fn f) az []with
  |some (r,H1)=>
   if r.scalar then M (r,H)else
   match r with
   |.hsl id es off len=>(vA (W H) H1 id es off len).map λ(v,ob)=>(v,H++[ob])|.tup (.hsl id es off len::i?)=>if V.c7 i? then(vA (W H) H1 id es off len).map λ(v,ob)=>(.tup (v::i?),H++[ob])else J|_=>J
  |none=>J
 |none=>J
def iH(E:Env)(call:dR)(f:Y')(args:So)(H:bl):aY (V×bl):=if E.own f then om call f args H else call (.fn f) args H
def nC(e:Edge):X':=match e.ground with|.textOnly _|.gcOnly _=>O|_=>U
def HU(o:Oper)(i:Nat):X':=o.after.any λe=>e.on==i&&nC e
def LW(a:aX ST)(o:Oper):ST:=(o.after.toList.filter nC).foldl (λl e=>(e.on::(a[e.on]?).getD []).foldl (λl k=>if l.contains k then l else k::l) l) []
def Lr(ops:QP):aX ST:=ops.foldl (λa o=>a++[LW a o]) []
def before(ops:QP)(i k:Nat):X':=(((Lr ops)[i]?).getD []).contains k
def isApp:Op->X'
 |.call {callee:=.builtin .append,..}=>U|_=>O
def dY(ops:QP)(i:Nat):X':=
 match ops[i]?with
 |some o=>(w! (W ops)).all λk=>match ops[k]?with
  |some p=>k==i||cO p.op==.pure||(if k<i then before ops i k else before ops k i)||(isApp o.op&&cO p.op==.alloc&&_r (i<k))|none=>U
 |none=>O
def dstsOf(ops:QP):ST:=ops.filterMap (·.dst)
def uv(ops:QP)(i k:Nat):X':=if k<i then before ops i k else before ops k i
def Kc(g:X')(ops:QP)(i k:Nat):aY ST:=
 match ops[k]?with
 |some p=>
  if k==i||cO p.op==.pure||uv ops i k then M []else
  match p.op with
  |.load _ (.tmp a)=>if(dstsOf ops).contains a then M []else M [a]|o=>if g&&(cO o==.alloc||cO o==.call)then M []else J
 |none=>M []
def EO(g:X')(ops:QP)(i:Nat):ST->aY ST
 |[]=>M []|k::r=>match Kc g ops i k,EO g ops i r with
  |some a,M b=>M (a++b)|_,_=>J
def uA(g:X')(ops:QP)(i:Nat):aY (Nat×ST):=
 match(ops[i]?).map Oper.op with
 |some (.store _ (.tmp a) _)=>if(dstsOf ops).contains a then J else(EO g ops i (w! (W ops))).map λl=>(a,l)|_=>J
def qu(id:Nat):V->X'
 |.hptr B _ _=>B != id|.fptr _=>U|_=>O
def sM(ops:QP)(i:Nat)(F:WP):X':=
 match uA O ops i with
 |some (a,l)=>match get F a with
  |.hptr id _ _=>l.all λs=>qu id (get F s)|_=>O
 |none=>O
def uw(ops:QP)(b i:Nat)(F:WP):X':=
 match uA U ops i with
 |some (a,l)=>match get F a with
  |.hptr id _ _=>_r (id<b)&&l.all λs=>qu id (get F s)|_=>O
 |none=>O
def KK(ops:QP)(k:Nat):X':=(w! (W ops)).any λi=> !uv ops i k&&(uA U ops i).isSome
def zu(ops:QP)(place:aY (Nat×Nat))(args:So):X':=match place with|some (_,i)=> !KK ops i||V.jw args|none=>U
def rV(ops:QP)(k a':Nat):ST:=
 if(dstsOf ops).contains a' then(w! (W ops)).filterMap λi=>match(ops[i]?).map Oper.op with
  |some (.store _ (.tmp a) _)=>if uv ops i k||(dstsOf ops).contains a then J else M a|_=>J
 else[]
def qL(ops:QP)(k:Nat)(F:WP)(op:Op):X':=
 match op with
 |.load _ (.tmp u)=>(rV ops k u).all λa=>match get F a with
  |.hptr id _ _=>qu id (get F u)|_=>U
 |_=>U
def Dt(d:Nat)(op:Op):X':=op.operands.any λx=>match x with|.tmp t=>t==d|_=>O
def WE(d:Nat):Op->X'
 |.call {callee:=.builtin .append,args,..}=>match args.toList with
  |.tmp t::r=>t==d&&r.all λx=>match x with|.tmp t=>t != d|_=>U
  |_=>O
 |_=>O
def DI(ops:QP)(i:Nat):X':=
 match ops[i]?with
 |some o=>match o.op,o.dst with
  |.makeSlice ..,M d=>(ops.any λp=>Dt d p.op)&&ops.all λp=> !Dt d p.op||cO p.op==.call|.buildSlice _ len ps,M d=>len==0&&ps.size==0&&((w! (W ops)).any λk=>match ops[k]?with|some p=>Dt d p.op&& !dY ops k|none=>O)&&ops.all λp=> !Dt d p.op||WE d p.op|_,_=>O
 |none=>O
def Xx(E:Env)(ops:QP)(i:Nat):X':=
 match ops[i]?with
 |some o=>match o.op,o.dst with
  |.buildSlice t len _,M d=>_r (0<len)&&(match E.kindOf t with
   |some (.slice e)=>(match E.kindOf e with|some .bool|some (.int _)|some .str=>U|_=>O)|_=>O)&&(ops.any λp=>Dt d p.op)&&ops.all λp=> !Dt d p.op||cO p.op==.call
  |_,_=>O
 |none=>O
def Gw(E:Env)(ops:QP)(i:Nat):X':=DI ops i||Xx E ops i
def qf(E:Env)(ops:QP):aY (Nat×Nat)->X'
 |some (_,i)=>Gw E ops i|none=>O
def mR(E:Env)(ops:QP)(place:aY (Nat×Nat))(f:Y'):X':=E.keep f&&(match place with|none=>U|some (_,i)=>dY ops i|| !(E.own f||E.soft f))
def Ag(ops:QP)(i:Nat):X':=
 match ops[i]?with
 |some o=>isApp o.op&&(w! (W ops)).all λk=>match ops[k]?with
  |some p=>k==i||cO p.op==.pure||uv ops i k||cO p.op==.read||(cO p.op==.alloc&&(DI ops k||decide (i<k)))|none=>U
 |none=>O
def sF(F:WP):Op->X'
 |.call {callee:=.builtin .append,args,..}=>match args.toList with
  |x::_=>match ev F x with|some .dH|some .bN=>U|_=>O
  |_=>O
 |_=>O
def CQ(ops:QP)(i b:Nat)(F:WP)(H:bl)(op:Op):X':=Ag ops i&&(isApp op&&sF F op&&_r (b<=W H))
def eE(E:Env)(call:dR)(ops:QP)(place:aY (Nat×Nat))(f:Y')(args:So)(H:bl):aY (V×bl):=
 if mR E ops place f then
  match place with
  |none=>iH E call f args H|some (_,i)=>if dY ops i then iH E call f args H else J
 else match place with
  |none=>match cq call f args H with
   |some y=>M (y,if y.scalar then H else cU H (c_ (cA call.lv H) args))|none=>J
  |some (b,i)=>match cq call f args (H.take b)with
   |some y=>if y.scalar then M (y,H)else if kg (H.take b) (c_ (cA call.lv (H.take b)) args)then M (y,cU H (c_ (cA call.lv (H.take b)) args))else J|none=>if dY ops i then match cq call f args H with
    |some y=>M (y,if y.scalar then H else cU H (c_ (cA call.lv H) args))|none=>J
    else J
def cZ(E:Env)(call:dR)(ops:QP)(place:aY (Nat×Nat))(F:WP)(H:bl)(op:Op):aY (V×bl):=
 match cO op with
 |.pure=>(vT E F H place op).map λv=>(v,H)|.read=>match place with
  |none=>(eu E F H op).map λv=>(v,H)|some (b,i)=>if qL ops i F op then match eu E F (H.take b) op with
   |some v=>M (v,H)|none=>if dY ops i then(eu E F H op).map λv=>(v,H)else J
   else J
 |.alloc=>if qf E ops place then(rS E F op).map λv=>(v,H)else match fG E F op,place with
  |some (ob,m),J=>M (m.val (W H),H++[ob])|some (ob,m),M (b,i)=>match H[b+i]?with
   |some .free=>M (m.val (b+i),H.set (b+i) ob)|_=>J
  |none,_=>J
 |.loud=>match place with
  |none=>cH E F H op|some (b,i)=>if dY ops i||sM ops i F||uw ops b i F||CQ ops i b F H op then cH E F H op else J
 |.call=>match lS F op with
  |some (.fn f,args)=>if zu ops place args then eE E call ops place f args H else J|some (.yld id,args)=>match place with
   |none=>call (.yld id) args H|some (_,i)=>if dY ops i then call (.yld id) args H else J
  |none=>J
def lQ(n:Nat)(F:WP)(dst:aY Nat)(v:V):aY WP:=
 match dst with
 |none=>M F|some d=>if d<n then M (set F d v)else J
def gZ(ops:QP)(F:WP)(o:Oper):X':=
 match o.guard with
 |none=>U|some (j,b)=>match(ops[j]?).bind (·.dst)with
  |some d=>match get F d with
   |.bool c=>c==b|_=>O
  |none=>O
def iM(E:Env)(call:dR)(n:Nat)(ops:QP)(place:aY (Nat×Nat))(o:Oper)(F:WP)(H:bl):aY (WP×bl):=
 if gZ ops F o then
  match cZ E call ops place F H o.op with
  |some (v,H')=>(lQ n F o.dst v).map λF'=>(F',H')|none=>J
 else(lQ n F o.dst .undef).map λF'=>(F',H)
def oy(E:Env)(call:dR)(n:Nat)(ops:QP):QP->WP->bl->aY (WP×bl)
 |[],F,H=>M (F,H)|o::r,F,H=>match iM E call n ops J o F H with
  |some (F',H')=>oy E call n ops r F' H'|none=>J
def lV(E:Env)(call:dR)(n:Nat)(ops:QP)(j?:Nat):ST->WP->bl->aY (WP×bl)
 |[],F,H=>M (F,H)|i::r,F,H=>match ops[i]?with
  |some o=>match iM E call n ops (M (j?,i)) o F H with
   |some (F',H')=>lV E call n ops j? r F' H'|none=>J
  |none=>J
def tmpsOf(o:Oper)(ops:QP):ST:=
 (o.op.operands.toList.filterMap λ|.tmp t=>M t|_=>J)++
 (match o.guard with|some (g,_)=>(_n (ops[g]?) (·.dst)).toList|none=>[])
def A0(ops:QP)(a b:Oper):X':=
 (match a.dst with|some d=> !(tmpsOf b ops).contains d&&b.dst != M d|none=>U)&&
 (match b.dst with|some d=> !(tmpsOf a ops).contains d|none=>U)
def zD(ops:QP):X':=
 (w! (W ops)).all λj=>(w! j).all λi=>
  match ops[i]?,ops[j]?with
  |some a,M b=>HU b i||A0 ops a b|_,_=>O
def Cn(ops:QP):X':=
 (w! (W ops)).all λj=>match ops[j]?with
  |some o=>o.after.all λe=> !nC e||decide (e.on<j)|none=>U
def uH(ops:QP):X':=ops.any λo=>cO o.op==.alloc
def lF(E:Env)(call:dR)(n:Nat)(ops:QP)(B:X')(F:WP)(H:bl):aY (WP×bl):=if B then if zD ops&&Cn ops then lV E call n ops (W H) (w! (W ops)) F (if uH ops then H++replicate (W ops) .free else H)else J else oy E call n ops ops F H
def mG(step:WP->bl->aY (Out×WP×bl)):Nat->WP->bl->aY (Out×WP×bl)
 |0,_,_=>J|k+1,F,H=>match step F H with
  |some (.norm,F',H')=>mG step k F' H'|r=>r
def pe:Out->aY Code
 |.norm=>J|.ret=>M .ret|.exit id=>M (.exit id)
def exec(E:Env)(call:dR)(lf:Nat)(ro:X')(n:Nat):Code->WP->bl->aY (Out×WP×bl)
 |.skip,F,H=>M (.norm,F,H)|.label _,F,H=>M (.norm,F,H)|.region _ ops B,F,H=>(lF E call n ops.toList B F H).map λ(F',H')=>(.norm,F',H')|.seq a b,F,H=>match exec E call lf ro n a F H with
  |some (.norm,F',H')=>exec E call lf ro n b F' H'|r=>r
 |.cond c x y,F,H=>match ev F c with
  |some (.bool t)=>if t then exec E call lf ro n x F H else exec E call lf ro n y F H|_=>J
 |.block id c,F,H=>match exec E call lf ro n c F H with
  |some (.exit D,F',H')=>if D=id then M (.norm,F',H')else M (.exit D,F',H')|r=>r
 |.loop c,F,H=>mG (exec E call lf ro n c) lf F H|.rangeFunc g ps assign body,F,H=>match ro,ev F g with
  |false,M (.clo f a b)=>
   match call (.fn f) (a++.yld (W H)::b) (H++[.loop ⟨.ready,J,F,n,ps.toList,assign,body⟩])with
   |some (_,H')=>match H'[W H]?with
    |some (.loop r)=>match r.st with
     |.busy=>J|_=>M (r.pend.getD .norm,F,H'.set (W H) .dead)
    |_=>J
   |none=>J
  |_,_=>J
 |.exit id,F,H=>M (.exit id,F,H)|.ret,F,H=>M (.ret,F,H)|_,_,_=>J
def jm(E:Env)(F:WP)(H:bl):aX ResultVar->aY So
 |[]=>M []|.tmp t::r=>(jm E F H r).map (get F t::·)|.cell a t::r=>match E.tt t,jm E F H r with
  |some d,M vs=>(_n (fh H (get F a) d.size) (mk d.agg)).map (·::vs)|_,_=>J
def result:So->V
 |[v]=>v|vs=>.tup vs
def A6:ST->So->WP->WP
 |t::ts,v::vs,F=>A6 ts vs (set F t v)|_,_,F=>F
def K5{α:Type}[Inhabited α](lt:α->α->X'):Nat->Nat->Array α->Array α
 |0,_,d=>d|k+1,i,d=>K5 lt k (i+1) (Sort.insInner lt 0 i d)
def tD(n:Nat)(lt:Fin (n+1)->Fin (n+1)->X'):Array (Fin (n+1)):=if n<12 then K5 lt n 1 (V! (n+1)).toArray else Sort.pdq lt (V! (n+1)).toArray 0 (n+1) (Lib.bitLen (n+1)) U U
def kz(call:dR)(g:Y')(D B:So)(n:Nat)(i j:Fin (n+1)):PH:=
 match D[i.1]?,D[j.1]?with
 |some a,M b=>match cq call g (a::b::B) []with
  |some (.int N c)=>M c|_=>J
 |_,_=>J
def sw{n:Nat}(t:Fin (n+1)->Fin (n+1)->PH)(i j:Fin (n+1)):X':=_r ((t i j).getD 0<0)
def DL{n:Nat}(t:Fin (n+1)->Fin (n+1)->PH):X':=
 let l:=V! (n+1)
 l.all λi=> !sw t i i&&l.all λj=>(t i j).isSome&&l.all λk=>(!(sw t i j&&sw t j k)||sw t i k)&&((sw t i j||sw t j k)|| !sw t i k)
def tX(xs:S')(off n:Nat)(l:aX (Fin (n+1))):S':=xs.take off++l.map (λi=>(xs[off+i.1]?).getD [])++xs.drop (off+(n+1))
def tC(keep:Y'->X')(call:dR)(args:So)(H:bl):aY (V×bl):=
 match args with
 |[s,c]=>match s with
  |.bN|.dH=>M (.undef,H)|.hsl id es off len=>match len,c with
   |0,_=>M (.undef,H)|n+1,.clo g [] cb=>match H[id]?with
    |some (.row w z)=>if es=1/\w=1/\off+(n+1)<=W z/\n<2147483648/\keep g=O then
     match borrows call.lv (H.set id .dead) ((z.drop off).take (n+1)).flatten,borrows call.lv (H.set id .dead) cb with
     |some B,M u=>if DL (kz call g B u n)then M (.undef,H.set id (.row 1 (tX z off n (tD n (sw (kz call g B u n))).toList)))else J|_,_=>J
     else J
    |_=>J
   |_,_=>J
  |_=>J
 |_=>J
def lI(E:Env)(c:dR)(n:Nat):Callee->So->bl->aY (V×bl)
 |.fn f,args,H=>match E.ft f with
  |some fi=>if W args<=fi.ntmps then
   match exec E c n O fi.ntmps fi.body args H with
   |some (.exit _,_,_)=>J|some (_,F',H')=>(jm E F' H' fi.results).map λvs=>(result vs,H')|none=>J
   else J
  |none=>if E.sort f then tC E.keep c args H else(E.known f args).map λy=>(y,H)
 |.yld id,args,H=>match H[id]?with
  |some (.loop r)=>match r.st with
   |.ready=>if W args=W r.params/\r.params.all (·<r.nt)then
    match exec E c n U r.nt r.assign (A6 r.params args r.frame) H with
    |some (.norm,D,H2)=>match H2[id]?with
     |some (.loop r2)=>match r2.st with
      |.ready=>match exec E c n U r.nt r.body D (H2.set id (.loop {r2 with st:=.busy}))with
       |some (o,_,B)=>match B[id]?with
        |some (.loop r4)=>M (.bool (o==.norm),B.set id (.loop {r4 with st:=(if o==.norm then .ready else .done),pend:=(if o==.norm then J else M o)}))|_=>J
       |none=>J
      |_=>J
     |_=>J
    |_=>J
    else J
   |_=>J
  |_=>J
def run(E:Env):Nat->dR
 |0=>⟨0,λ_ _ _=>J⟩|n+1=>⟨n+1,lI E (run E n) n⟩
def Kd{E:Env}{n:Nat}{x:Callee}{a:So}{H:bl}:run E (n+1) x a H=lI E (run E n) n x a H:=rfl
end Go.VE
namespace Go.VE
variable[bZ]
@[simp] def get_nil(i:Nat):get [] i=.undef:=by cases i<;>rfl
@[simp] def vN(F:WP)(i:Nat)(v:V):get (set F i v) i=v:=by
 induction F generalizing i with
 |nil=>induction i with
  |zero=>rfl|succ i u=>grind[set,get]
 |cons x r u=>cases i with
  |zero=>rfl|succ i=>grind[set,get]
theorem kS(F:WP){i j:Nat}(v:V)(h:i≠j):get (set F i v) j=get F j:=by
 induction F generalizing i j with
 |nil=>
  induction i generalizing j with
  |zero=>cases j with
   |zero=>grind|succ j=>simp[set,get]
  |succ i u=>cases j with
   |zero=>simp[set,get]|succ j=>grind[set,get]
 |cons x r u=>cases i with
  |zero=>cases j with
   |zero=>grind|succ j=>simp[set,get]
  |succ i=>cases j with
   |zero=>simp[set,get]|succ j=>grind[set,get]
def M6(F:WP){i j:Nat}(u v:V)(h:i≠j):set (set F i u) j v=set (set F j v) i u:=by
 induction F generalizing i j with
 |nil=>
  induction i generalizing j with
  |zero=>cases j with
   |zero=>grind|succ j=>simp[set]
  |succ i w=>cases j with
   |zero=>simp[set]|succ j=>grind[set]
 |cons x r w=>cases i with
  |zero=>cases j with
   |zero=>grind|succ j=>simp[set]
  |succ i=>cases j with
   |zero=>simp[set]|succ j=>grind[set]
inductive IC where
 |cells(c:Array Value)|map(es:Array MapEntry)
abbrev cG:=Nat->aY IC
def IC.at(x:IC)(w:World)(b:Nat):Prop:=
 match x with
 |.cells c=>∃el fr,w.heap[b]?=M (.cells c el fr)|.map es=>∃a,w.heap[b]?=M (.map es a)
def cG.le(I I':cG):Prop:=∀b x,I b=M x->I' b=M x
def cG.le_refl(I:cG):cG.le I I:=λ_ _ h=>h
def cG.le_trans{I g K:cG}(h:cG.le I g)(B:cG.le g K):cG.le I K:=λb x e=>B b x (h b x e)
inductive e_(I:cG):V->Value->Prop
 |bool(b:Bool):e_ I (.bool b) (.bool b)|int(k:IntKind)(n:Int):e_ I (.int k n) (.int k n)|str(s:ByteArray):e_ I (.str s) (.string s)|dH(a:Option Addr):e_ I .dH (.slice a 0 0)|bN:e_ I .bN (.slice none 0 0)|fsl0(es:Nat)(a:Addr)(cap:Nat):e_ I (.fsl es []) (.slice (some a) 0 cap)|fsl(es:Nat)(xs:List (List V))(b o cap:Nat)(c:Array Value)(hI:I b=some (.cells c))(hc:xs.length<=cap)
  (hu:∀x∈xs,x.length=es) (ho:∀x∈xs,∀y∈x,V.one y=true) (hb:o+xs.length*es<=c.size)
  (hr:∀(i j:Nat)x y v,xs[i]?=some x->x[j]?=some y->c[o+i*es+j]?=some v->e_ I y v):
  e_ I (.fsl es xs) (.slice (some ⟨b,o,none⟩) xs.length cap)
 |jt:e_ I .jt (.pointer none)|fptr(cs:List V)(b o:Nat)(c:Array Value)(hI:I b=some (.cells c))(hb:o+cs.length<=c.size)
  (hr:∀(j:Nat)y v,cs[j]?=some y->c[o+j]?=some v->e_ I y v):e_ I (.fptr cs) (.pointer (some ⟨b,o,none⟩))
 |clo(f:FuncId)(x y:List V)(u v:Array Value)(hx:x.length=u.size)(hy:y.length=v.size)
  (h1:∀(j:Nat)a b,x[j]?=some a->u[j]?=some b->e_ I a b) (h2:∀(j:Nat)a b,y[j]?=some a->v[j]?=some b->e_ I a b):
  e_ I (.clo f x y) (.func (.func f) u v)
 |iE:e_ I .iE (.map none)|uO:e_ I .uO .nilFunc|fmap(kvs:List (V×V))(b:Nat)(es:Array MapEntry)(hI:I b=some (.map es))(hl:kvs.length=es.size)
  (hk:∀(j:Nat)p e,kvs[j]?=some p->es[j]?=some e->e_ I p.1 e.key)
  (hv:∀(j:Nat)p e,kvs[j]?=some p->es[j]?=some e->e_ I p.2 e.val):e_ I (.fmap kvs) (.map (some b))
 |agg(cs:List V)(vs:Array Value)(hl:cs.length=vs.size)(h:∀(j:Nat)a b,cs[j]?=some a->vs[j]?=some b->e_ I a b):
  e_ I (.agg cs) (.agg vs)
 |tup(cs:List V)(vs:Array Value)(hl:cs.length=vs.size)(h:∀(j:Nat)a b,cs[j]?=some a->vs[j]?=some b->e_ I a b):
  e_ I (.tup cs) (.tuple vs)
structure Pl where
 b:Nat
 o:Nat
 es:Nat
 sz:Nat
abbrev Mu:=Nat->aY Pl
inductive bM(I:cG)(μ:Mu):V->Value->Prop
 |c(x:V)(v:Value)(h:e_ I x v):bM I μ x v|hsl(id off len cap:Nat)(p:Pl)(hm:μ id=some p)(hc:len<=cap)(hb:p.o+(off+cap)*p.es<=p.sz):
  bM I μ (.hsl id p.es off len) (.slice (some ⟨p.b,p.o+off*p.es,none⟩) len cap)
 |hsl0(id es off:Nat)(a:Addr):bM I μ (.hsl id es off 0) (.slice (some a) 0 0)|hptr(id el off:Nat)(p:Pl)(hm:μ id=some p):bM I μ (.hptr id el off) (.pointer (some ⟨p.b,p.o+el*p.es+off,none⟩))|yld(id:Nat)(p:Pl)(hm:μ id=some p):bM I μ (.yld id) (.func (.yield p.b) #[] #[])|hmap(id:Nat)(p:Pl)(hm:μ id=some p):bM I μ (.hmap id) (.map (some p.b))|clo(f:FuncId)(x y:List V)(u v:Array Value)(hx:x.length=u.size)(hy:y.length=v.size)
  (h1:∀(j:Nat)a b,x[j]?=some a->u[j]?=some b->bM I μ a b) (h2:∀(j:Nat)a b,y[j]?=some a->v[j]?=some b->bM I μ a b):
  bM I μ (.clo f x y) (.func (.func f) u v)
 |agg(cs:List V)(vs:Array Value)(hl:cs.length=vs.size)(h:∀(j:Nat)a b,cs[j]?=some a->vs[j]?=some b->bM I μ a b):
  bM I μ (.agg cs) (.agg vs)
 |tup(cs:List V)(vs:Array Value)(hl:cs.length=vs.size)(h:∀(j:Nat)a b,cs[j]?=some a->vs[j]?=some b->bM I μ a b):
  bM I μ (.tup cs) (.tuple vs)
def Mu.le(μ μ':Mu):Prop:=∀id p,μ id=M p->μ' id=M p
def Mu.le_refl(μ:Mu):Mu.le μ μ:=λ_ _ h=>h
def e_.mono{I I':cG}(h:cG.le I I'){x:V}{v:V'}(r:e_ I x v):e_ I' x v:=by induction r with|bool b=>exact .bool b|int k n=>exact .int k n|str s=>exact .str s|dH a=>exact .dH a|bN=>exact .bN|fsl0 es a cap=>exact .fsl0 es a cap|fsl es i b o cap c C hc hu Q G _ w=>exact .fsl es i b o cap c (h _ _ C) hc hu Q G w|jt=>exact .jt|fptr cs b o c C G _ w=>exact .fptr cs b o c (h _ _ C) G w|clo f x y u v S T _ _ z B=>exact .clo f x y u v S T z B|iE=>exact .iE|uO=>exact .uO|fmap g b es C D _ _ z B=>exact .fmap g b es (h _ _ C) D z B|agg cs L D _ w=>exact .agg cs L D w|tup cs L D _ w=>exact .tup cs L D w
def bM.mono{I I':cG}{μ μ':Mu}(h:cG.le I I')(B:Mu.le μ μ'){x:V}{v:V'}(r:bM I μ x v):bM I' μ' x v:=by induction r with|c x v r=>exact .c _ _ (r.mono h)|hsl id off len cap p w hc L=>exact .hsl id off len cap p (B _ _ w) hc L|hsl0 id es off a=>exact .hsl0 id es off a|hptr id el off p w=>exact .hptr id el off p (B _ _ w)|yld id p w=>exact .yld id p (B _ _ w)|hmap id p w=>exact .hmap id p (B _ _ w)|clo f x y u v i Q _ _ z C=>exact .clo f x y u v i Q z C|agg cs D G _ g=>exact .agg cs D G g|tup cs D G _ g=>exact .tup cs D G g
def cN(I:cG)(μ:Mu)(xs:So)(vs:aX V'):Prop:=W xs=W vs/\∀(j:Nat)a b,xs[j]?=M a->vs[j]?=M b->bM I μ a b
def cN.nil{I:cG}{μ:Mu}:cN I μ [] []:=⟨Y,f?⟩
def cN.cons{I:cG}{μ:Mu}{x:V}{v:V'}{xs:So}{vs:aX V'}(h:bM I μ x v)(r:cN I μ xs vs):cN I μ (x::xs) (v::vs):=by refine⟨by simp[r.1],?_⟩;intro j a b c u;cases j with|zero=>grind|succ j=>exact r.2 j a b h? h?
def cN.cons_inv{I:cG}{μ:Mu}{x:V}{xs:So}{B:aX V'}(r:cN I μ (x::xs) B):∃v vs,B=v::vs/\bM I μ x v/\cN I μ xs vs:=by have⟨u,h⟩:=r;cases B with|nil=>simp_all|cons v vs=>refine⟨v,vs,Y,h 0 x v f? f?,h?,?_⟩;intro j a b c w;exact h (j+1) a b h? h?
def cN.zd{I:cG}{μ:Mu}{B:aX V'}(r:cN I μ [] B):B=[]:=by have:=r.1;grind
def cN.append{I:cG}{μ:Mu}{xs ys:So}{B vs:aX V'}(h:cN I μ xs B)(D:cN I μ ys vs):cN I μ (xs++ys) (B++vs):=by induction xs generalizing B with|nil=>rw[cN.zd h];exact D|cons x xs u=>obtain⟨v,B,rfl,a,b⟩:=h.cons_inv;exact .cons a (u b)
def cN.mono{I I':cG}{μ μ':Mu}(h:cG.le I I')(B:Mu.le μ μ'){xs:So}{vs:aX V'}(r:cN I μ xs vs):cN I' μ' xs vs:=⟨r.1,λj a b c u=>(r.2 j a b c u).mono h B⟩
def cN.take{I:cG}{μ:Mu}{xs:So}{vs:aX V'}(r:cN I μ xs vs)(n:Nat):cN I μ (xs.take n) (vs.take n):=by refine⟨by simp[r.1],λj a b c u=>?_⟩;rw[D?]at c u;split at c<;>simp_all;exact r.2 j a b c u
def cN.drop{I:cG}{μ:Mu}{xs:So}{vs:aX V'}(r:cN I μ xs vs)(n:Nat):cN I μ (xs.drop n) (vs.drop n):=by refine⟨by simp[r.1],λj a b c u=>?_⟩;rw[L?]at c u;exact r.2 _ a b c u
def bM.cells{I:cG}{μ:Mu}{x:V}{v:V'}(r:bM I μ x v):cN I μ x.cells v.cells.toList:=by
 cases r with
 |c x v h=>cases h with|agg cs B w h=>exact⟨by grind[V.cells,Value.cells],λj a b d C=>.c _ _ (h j a b d (by grind[Value.cells]))⟩|bool b=>exact .cons (.c _ _ (.bool b)) .nil|int k n=>exact .cons (.c _ _ (.int k n)) .nil|str s=>exact .cons (.c _ _ (.str s)) .nil|dH a=>exact .cons (.c _ _ (.dH a)) .nil|bN=>exact .cons (.c _ _ .bN) .nil|fsl0 es a cap=>exact .cons (.c _ _ (.fsl0 es a cap)) .nil|fsl es Q b o cap c D hc hu S G hr=>exact .cons (.c _ _ (.fsl es Q b o cap c D hc hu S G hr)) .nil|jt=>exact .cons (.c _ _ .jt) .nil|fptr cs b o c D G hr=>exact .cons (.c _ _ (.fptr cs b o c D G hr)) .nil|clo f x y u v g L d C=>exact .cons (.c _ _ (.clo f x y u v g L d C)) .nil|iE=>exact .cons (.c _ _ .iE) .nil|uO=>exact .cons (.c _ _ .uO) .nil|fmap i b es D w hk hv=>exact .cons (.c _ _ (.fmap i b es D w hk hv)) .nil|tup cs B w h=>exact .cons (.c _ _ (.tup cs B w h)) .nil
 |hsl id off len cap p z hc G=>exact .cons (.hsl id off len cap p z hc G) .nil|hsl0 id es off a=>exact .cons (.hsl0 id es off a) .nil|hptr id el off p z=>exact .cons (.hptr id el off p z) .nil|yld id p z=>exact .cons (.yld id p z) .nil|hmap id p z=>exact .cons (.hmap id p z) .nil|clo f x y u v g L d C=>exact .cons (.clo f x y u v g L d C) .nil|agg cs B w h=>exact⟨by grind[V.cells,Value.cells],λj a b d C=>h j a b d (by grind[Value.cells])⟩|tup cs B w h=>exact .cons (.tup cs B w h) .nil
def bM.Kg{I:cG}{μ:Mu}{cs:So}{vs:Array V'}(h:cN I μ cs vs.toList):bM I μ (.agg cs) (.agg vs):=.agg cs vs (by simpa using h.1) λj a b c u=>h.2 j a b c h?
def bM.XS{I:cG}{μ:Mu}{cs:So}{vs:Array V'}(h:cN I μ cs vs.toList):bM I μ (.tup cs) (.tuple vs):=.tup cs vs (by simpa using h.1) λj a b c u=>h.2 j a b c h?
section inv
variable{I:cG}{μ:Mu}
def bM.uo{b:X'}{v:V'}(h:bM I μ (.bool b) v):v=.bool b:=by cases h with|c _ _ h=>cases h;rfl
def bM.gE{k:T2}{n:Int}{v:V'}(h:bM I μ (.int k n) v):v=.int k n:=by cases h with|c _ _ h=>cases h;rfl
def bM.vZ{s:U'}{v:V'}(h:bM I μ (.str s) v):v=.string s:=by cases h with|c _ _ h=>cases h;rfl
def bM.uP{v:V'}(h:bM I μ .dH v):∃a,v=.slice a 0 0:=by cases h with|c _ _ h=>cases h;grind
def bM.ot{es:Nat}{xs:S'}{v:V'}(h:bM I μ (.fsl es xs) v):e_ I (.fsl es xs) v:=by cases h with|c _ _ h=>omega
def bM.oD{cs:So}{v:V'}(h:bM I μ (.fptr cs) v):∃b o c,v=.pointer (M ⟨b,o,J⟩)/\I b=M (.cells c)/\o+W cs<=c.size/\
 (∀(j:Nat)y u,cs[j]?=M y->c[o+j]?=M u->e_ I y u):=by
 cases h with|c _ _ h=>cases h with|fptr cs b o c w z hr=>grind
def bM.oq{v:V'}(h:bM I μ .bN v):v=.slice J 0 0:=by cases h with|c _ _ h=>cases h;rfl
def bM.Wn{v:V'}(h:bM I μ .iE v):v=.map J:=by cases h with|c _ _ h=>cases h;rfl
def bM.wh{id el off:Nat}{v:V'}(h:bM I μ (.hptr id el off) v):∃p,μ id=M p/\v=.pointer (M ⟨p.b,p.o+el*p.es+off,J⟩):=by cases h with|c _ _ h=>cases h|hptr _ _ _ p u=>grind
def bM.Zn{id:Nat}{v:V'}(h:bM I μ (.yld id) v):∃p,μ id=M p/\v=.func (.yield p.b) #[] #[]:=by cases h with|c _ _ h=>cases h|yld _ p u=>grind
def bM.EL{id:Nat}{v:V'}(h:bM I μ (.hmap id) v):∃p,μ id=M p/\v=.map (M p.b):=by cases h with|c _ _ h=>cases h|hmap _ p u=>grind
def bM.ou{id es off len:Nat}{v:V'}(h:bM I μ (.hsl id es off len) v):
 (∃p b,μ id=M p/\p.es=es/\len<=b/\p.o+(off+b)*es<=p.sz/\v=.slice (M ⟨p.b,p.o+off*es,J⟩) len b)\/(len=0/\∃a,v=.slice (M a) 0 0):=by
 cases h with
 |c _ _ h=>cases h|hsl _ _ _ b p u hc w=>simp_all|hsl0 _ _ _ a=>grind
def bM.jV{cs:So}{v:V'}(h:bM I μ (.agg cs) v):∃vs,v=.agg vs/\cN I μ cs vs.toList:=by
 cases h with
 |c _ _ h=>cases h with|agg _ vs u h=>exact⟨vs,rfl,h?,λj a b d w=>.c _ _ (h j a b d h?)⟩
 |agg _ vs u h=>exact⟨vs,Y,h?,λj a b d w=>h j a b d h?⟩
def bM.s6{cs:So}{v:V'}(h:bM I μ (.tup cs) v):∃vs,v=.tuple vs/\cN I μ cs vs.toList:=by
 cases h with
 |c _ _ h=>cases h with|tup _ vs u h=>exact⟨vs,rfl,h?,λj a b d w=>.c _ _ (h j a b d h?)⟩
 |tup _ vs u h=>exact⟨vs,Y,h?,λj a b d w=>h j a b d h?⟩
def bM.mc{f:Y'}{x y:So}{v:V'}(h:bM I μ (.clo f x y) v):∃a b,v=.func (.func f) a b/\cN I μ x a.toList/\cN I μ y b.toList:=by
 cases h with
 |c _ _ h=>cases h with
  |clo _ _ _ u v z B h1 w=>exact⟨u,v,rfl,⟨h?,λj a b p q=>.c _ _ (h1 j a b p h?)⟩,⟨h?,λj a b p q=>.c _ _ (w j a b p h?)⟩⟩
 |clo _ _ _ u v z B h1 w=>exact⟨u,v,Y,⟨h?,λj a b p q=>h1 j a b p h?⟩,⟨h?,λj a b p q=>w j a b p h?⟩⟩
def bM.of_bool{x:V}{b:X'}(h:bM I μ x (.bool b)):x=.bool b:=by cases h with|c _ _ h=>cases h;rfl
end inv
def xo(I:cG):Prop:=∀g cs,bZ.gl g=M cs->e_ I (.fptr cs) (.pointer (M ⟨g,0,J⟩))
def xo.mono{I I':cG}(h:cG.le I I')(r:xo I):xo I':=λg cs a=>(r g cs a).mono h
structure eU(I:cG)(μ:Mu)(n:Nat)(F:Frame)(tmps:Array Value):Prop where
 size:tmps.size=n
 rel:∀t,bM I μ (get F t) (tmps.getD t undef)
 gl:xo I
theorem bM.undef(I:cG)(μ:Mu):bM I μ .undef Go.undef:=.c _ _ (.tup [] #[] Y f?)
def eU.mono{I I':cG}{μ μ':Mu}{n:Nat}{F:WP}{tmps:Array V'}(h:cG.le I I')(B:Mu.le μ μ')(r:eU I μ n F tmps):eU I' μ' n F tmps:=⟨r.1,λt=>(r.2 t).mono h B,r.gl.mono h⟩
def eU.put{I:cG}{μ:Mu}{n:Nat}{F F':WP}{a:Act}{dst:aY Nat}{x:V}{v:V'}(r:eU I μ n F a.tmps)(h:bM I μ x v)
 (hp:lQ n F dst x=M F'):eU I μ n F' (a.put dst v).tmps:=by
 cases dst with
 |none=>simp[lQ]at hp;subst hp;exact r|some d=>
  simp only[lQ]at hp;split at hp
  .simp at hp;subst hp;refine⟨by simp[Act.put,r.1],λt=>?_,r.gl⟩
   by_cases u:d=t
   .subst u;have:d<a.tmps.size:=by rw[r.1];omega
    simp_all[Act.put]
   have:=r.2 t;rw[kS _ _ u];simp_all[Act.put]
  grind
def Ey{I:cG}:∀(n:Nat)(v:V')(x:V),ofValue n v=M x->e_ I x v:=by intro n;induction n with|zero=>grind[ofValue]|succ n B=>intro v x h;unfold ofValue at h;split at h<;>(try (simp at h;subst h;constructor))<;>(try grind);simp at h;obtain⟨C,w,rfl⟩:=h;have key:∀(l:aX V')(u:So),l.mapM (ofValue n)=M u->W u=W l/\∀(j:Nat)a b,u[j]?=M a->l[j]?=M b->e_ I a b:=(by intro l;induction l with|nil=>grind|cons v l z=>grind[ζg]);have⟨D,c⟩:=key _ _ w;exact .agg _ _ h? λj a b d G=>c j a b d h?
def dI{I:cG}{μ:Mu}{n:Nat}{F:WP}{a:Act}(r:eU I μ n F a.tmps){o:UV}{x:V}(h:ev F o=M x):bM I μ x (a.eval o):=by cases o with|tmp t=>simp[ev]at h;subst h;exact r.2 t|const v=>exact .c _ _ (Ey 4 _ _ h)|func f=>simp[ev]at h;subst h;exact .c _ _ (.clo f [] [] #[] #[] Y Y f? f?)|global g=>obtain⟨cs,b,rfl⟩:=ζf.1 h;exact .c _ _ (r.gl g cs b)
def qM{I:cG}{μ:Mu}{n:Nat}{F:WP}{a:Act}(r:eU I μ n F a.tmps):∀{l:aX UV}{xs:So},f_ F l=M xs->cN I μ xs (l.map a.eval):=by intro l;induction l with|nil=>intro xs h;simp[f_]at h;subst h;exact .nil|cons o l u=>intro xs h;simp[f_]at h;split at h;(next v z b w=>simp at h;subst h;exact .cons (dI r b) (u w));grind
def Q4{I:cG}{μ:Mu}{n:Nat}{F:WP}{a:Act}(r:eU I μ n F a.tmps):∀{l:aX (Nat×UV)}{xs:aX (Nat×V)},ow F l=M xs->
 W xs=W l/\∀(j:Nat)x y,xs[j]?=M x->l[j]?=M y->x.1=y.1/\bM I μ x.2 (a.eval y.2):=by
 intro l
 induction l with
 |nil=>grind[ow]|cons o l z=>
  intro xs h;simp[ow]at h;split at h
  .rename_i v D h1 B;simp at h;subst h;have⟨C,b⟩:=z B;refine⟨by simp[C],λj x y u w=>?_⟩
   cases j with
   |zero=>simp at u w;subst u;subst w;exact⟨rfl,dI r h1⟩|succ j=>grind
  grind
def ov:TypeDesc->TK
 |.bool=>.bool|.int k=>.int k|.string=>.str|.pointer e=>.ptr e|.slice e=>.slice e|.struct fs=>.struct (fs.toList.map λf=>(f.offset,f.type))|.array n e=>.array n e|.map k e=>.map k e|_=>.other
def Gb:V'->X'
 |.agg _=>U|_=>O
def zm(P:Program)(t:W'):aY TD:=
 match P.info? t,P.underlying t with
 |some i,M d=>match i.zero with
  |some z=>match z.cells.toList.mapM (ofValue 4)with
   |some cs=>if W cs=i.size/\cs.all V.one=U/\Gb z=(TD.mk i.size i.bytes cs (ov d)).agg then M ⟨i.size,i.bytes,cs,ov d⟩else J|none=>J
  |none=>J
 |_,_=>J
def ic(a:SW):Array V':=(a.map (Value.int N)).toArray
structure zG(P:Program)(t:TypeId)(n:Nat):Prop where
 eq:∀(w:World)(x y:Operand)(a b:List Int),a.length=n->b.length=n->
  (do eqGuard .eql t x y (.agg (ic a)) (.agg (ic b));binOp .eql t (.agg (ic a)) (.agg (ic b))).run P w=.ok (.bool (a==b)) w
 ne:∀(w:World)(x y:Operand)(a b:List Int),a.length=n->b.length=n->
  (do eqGuard .neq t x y (.agg (ic a)) (.agg (ic b));binOp .neq t (.agg (ic a)) (.agg (ic b))).run P w=.ok (.bool !(a==b)) w
 key:∀(w:World)(a b:List Int),a.length=n->b.length=n->(O! t (.agg (ic a)) (.agg (ic b))).run P w=.ok (a==b) w
 check:∀(w:World)(e:Bool)(a:List Int),a.length=n->(B! e 10000 t (.agg (ic a))).run P w=.ok () w
 kind:∃d,P.underlying t=some d/\((∃n e,d=.array n e)\/(∃fs,d=.struct fs))
structure eX(P:Program)(E:Env):Prop where
 tt:∀t d,E.tt t=some d->zm P t=some d
 ft:∀f fi,E.ft f=some fi->∃fn,P.funcs[f]?=some fn/\fn.body=some fi.body/\fn.ntmps=fi.ntmps/\fn.results.toList=fi.results/\(fn.name== "runtime.NumGoroutine")=false
 eqN:∀t n,E.eqN t=some n->zG P t n
structure sJ(P:Program)(t:TypeId)(d:TD):Prop where
 info:∃i z,P.info? t=some i/\i.size=d.size/\i.bytes=d.bytes/\i.zero=some z/\(∀I μ,cN I μ d.zero z.cells.toList)/\d.zero.length=d.size/\d.zero.all V.one=true/\Gb z=d.agg
 und:∃desc,P.underlying t=some desc/\ov desc=d.kind
def Wb{I:cG}{μ:Mu}:∀(l:aX V')(ys:So),l.mapM (ofValue 4)=M ys->cN I μ ys l:=by intro l;induction l with|nil=>intro ys h;simp at h;subst h;exact .nil|cons v l u=>intro ys h;simp only[List.mapM_cons,Option.pure_def,Option.bind_eq_bind,ζg,ζa]at h;obtain⟨y,w,z,B,rfl⟩:=h;exact .cons (.c _ _ (Ey 4 _ _ w)) (u z B)
def eX.ty{P:Program}{E:Env}(h:eX P E){t:W'}{d:TD}(B:E.tt t=M d):sJ P t d:=by
 have:=h.tt t d B;unfold zm at this;split at this;rename_i i a b hd;split at this;rename_i z u;split at this;rename_i cs c;split at this;next w=>simp only[ζa]at this;subst this;exact⟨⟨i,z,b,Y,Y,u,λI μ=>Wb _ _ c,w⟩,⟨a,hd,Y⟩⟩
 grind;grind;grind;grind
section runs
variable{P:Program}{w:World}{t:W'}{d:TD}
theorem dX{a:TypeDesc}(h:P.underlying t=M a):(underlying t).run P w=.ok a w:=by simp[underlying,h]
def rE{i:TypeInfo}(h:P.info? t=M i):(typeInfo t).run P w=.ok i w:=by simp[typeInfo,h]
def sJ.mw(h:sJ P t d):(sizeOf t).run P w=.ok d.size w:=by have⟨i,z,a,u,_⟩:=h.info;simp_all[sizeOf,rE]
def sJ.dX(h:sJ P t d):∃a,P.underlying t=M a/\ov a=d.kind/\∀w,(underlying t).run P w=.ok a w:=by have⟨a,b,u⟩:=h.und;grind[VE.dX]
def sJ.Qz(h:sJ P t d):(isAgg t).run P w=.ok d.agg w:=by have⟨a,b,u⟩:=h.und;unfold isAgg;simp only[z?,VE.dX b,x?];cases a<;>simp[TD.agg,<-u,ov]
def sJ.GY(h:sJ P t d):∃z,(∀w,(zeroValue t).run P w=.ok z w)/\(∀I μ,cN I μ d.zero z.cells.toList)/\W d.zero=d.size/\d.zero.all V.one=U:=by have⟨i,z,a,_,_,u,b,B,c,_⟩:=h.info;simp_all[zeroValue,rE]
end runs
def sJ.Yy{P:Program}{t:W'}{d:TD}(h:sJ P t d):∃z,(∀w,(zeroValue t).run P w=.ok z w)/\∀I μ x,VE.mk d.agg d.zero=M x->bM I μ x z:=by
 have⟨i,z,b,_,_,D,a,G,c,u⟩:=h.info;refine⟨z,λw=>by simp_all[zeroValue,rE],λI μ x C=>?_⟩;have B:=a I μ;cases hd:d.agg with|true=>rw[hd]at C u;cases z<;>simp[Gb]at u;simp only[VE.mk,N',ζa]at C;subst C;exact .Kg (by grind[Value.cells])|false=>
  rw[hd]at C u;simp only[VE.mk,v?,_a]at C;split at C
  .rename_i v hv;simp only[ζa]at C;subst C;rw[hv]at B;have e:z.cells.toList=[z]:=(by cases z<;>first|rfl|grind[Gb]);rw[e]at B;exact B.2 0 _ _ Y Y
  simp at C
def gH{E:Env}{t:W'}{k:TK}(h:E.kindOf t=M k):∃d,E.tt t=M d/\d.kind=k:=by grind[Env.kindOf,ζf]
def Gz{d:TypeDesc}{k:T2}(h:ov d=.int k):d=.int k:=by cases d<;>simp_all [ov]
def Pg{d:TypeDesc}(h:ov d=.bool):d=.bool:=by cases d<;>simp_all [ov]
def Cp{d:TypeDesc}(h:ov d=.str):d=.string:=by cases d<;>simp_all [ov]
def kZ{d:TypeDesc}{e:W'}(h:ov d=.slice e):d=.slice e:=by cases d<;>simp_all [ov]
def E7{d:TypeDesc}{n:Nat}{e:W'}(h:ov d=.array n e):d=.array n e:=by cases d<;>simp_all [ov]
def CA{d:TypeDesc}{k e:W'}(h:ov d=.map k e):d=.map k e:=by cases d<;>simp_all [ov]
def Dr{d:TypeDesc}{fs:aX (Nat×W')}(h:ov d=.struct fs):∃B,d=.struct B/\fs=B.toList.map λf=>(f.offset,f.type):=by cases d<;>simp_all [ov]
def DR{I:cG}{μ:Mu}{cs r:So}{vs:aX V'}{off n:Nat}(h:cN I μ cs vs)(a:cut cs off n=M r):
 cN I μ r ((vs.drop off).take n)/\W r=n/\off+n<=W cs\/(n=0/\r=[]):=by
 unfold cut at a;simp only at a;split at a
 .rename_i u;simp only[ζa]at a;subst a
  by_cases w:n=0
  .grind
  left;refine⟨(h.drop off).take n,u,?_⟩
  grind
 simp at a
def TT{I:cG}{μ:Mu}{cs:So}{x:V}{vs:Array V'}(h:mk U cs=M x)(r:cN I μ cs vs.toList):bM I μ x (.agg vs):=by simp only[mk,N',ζa]at h;subst h;exact .Kg r
def mk_one{I:cG}{μ:Mu}{cs:So}{x:V}{vs:aX V'}(h:mk O cs=M x)(r:cN I μ cs vs):∃v,vs=[v]/\bM I μ x v:=by simp only[mk,v?,_a]at h;split at h;simp only[ζa]at h;subst h;obtain⟨v,u,rfl,a,b⟩:=r.cons_inv;exact⟨v,by rw[b.zd],a⟩;simp at h
def Mn{P:Program}{w:World}{I:cG}{μ:Mu}{t:W'}{d:TD}{cs r:So}{vs:Array V'}{x:V}{off:Nat}(D:sJ P t d)(h:cN I μ cs vs.toList)
 (b:cut cs off d.size=M r)(B:mk d.agg r=M x):∃u,(part t vs off).run P w=.ok u w/\bM I μ x u:=by
 unfold part;simp only[z?,D.Qz,x?]
 cases z:d.agg with
 |true=>
  rw[z]at B;refine⟨.agg (vs.extract off (off+d.size)),by simp[D.mw],?_⟩
  refine TT B ?_;have e:(vs.extract off (off+d.size)).toList=(vs.toList.drop off).take d.size:=f?
  rw[e];rcases DR h b with⟨a,_⟩|⟨C,rfl⟩
  .exact a
  rw[C];exact .nil
 |false=>
  rw[z]at B;rcases DR h b with⟨a,g,_⟩|⟨C,rfl⟩
  .have⟨v,hv,G⟩:=mk_one B a;refine⟨v,?_,G⟩;have hd:d.size=1:=by
    have:=a.1;rw[hv]at this;grind
   rw[hd]at hv;have:vs[off]?=M v:=by have:=_f (·[0]?) hv;grind
   simp[this]
  grind[mk]
def QG{I:cG}{μ:Mu}:∀(az:So)(a:SW)(B:aX V'),jH az=M a->cN I μ az B->B=a.map (Value.int N)/\W a=W az:=by intro az;induction az with|nil=>intro a B h u;simp only[jH,ζa]at h;subst h;rw[u.zd];simp|cons x az w=>intro a B h u;obtain⟨v,B,rfl,c,d⟩:=u.cons_inv;have z:∃y,x=.int N y:=(by cases x with|int k y=>cases k<;>simp[jH]at h⊢|_=>simp[jH]at h);obtain⟨y,rfl⟩:=z;simp only[jH,ζf]at h;obtain⟨b,C,rfl⟩:=h;have⟨g1,g2⟩:=w _ _ C d;have:=c.gE;grind
def s_{I:cG}{μ:Mu}{az:So}{a:SW}{B:Array V'}(h:jH az=M a)(D:cN I μ az B.toList):B=ic a/\W a=W az:=by have⟨b,u⟩:=QG _ _ _ h D;refine⟨?_,u⟩;have:=_f List.toArray b;grind[ic]
def Ax{az B:So}{r:X'}(h:mV az B=M r):∃a b,jH az=M a/\jH B=M b/\W a=W b/\r=(a==b):=by grind[mV]
section
variable{P:Program}{E:Env}{I:cG}{μ:Mu}{n:Nat}{F:WP}{a:Act}{w:World}
def SK(f:BinOp)(t:W')(p q:UV)(k B:T2)(m m':Int):(eqGuard f t p q (.int k m) (.int B m')).run P w=.ok () w:=by simp_all[eqGuard]
def Ty(f:BinOp)(t:W')(p q:UV)(s B:U'):(eqGuard f t p q (.string s) (.string B)).run P w=.ok () w:=by simp_all[eqGuard]
def Qg(f:BinOp)(t:W')(p q:UV)(s B:X'):(eqGuard f t p q (.bool s) (.bool B)).run P w=.ok () w:=by simp_all[eqGuard]
def KE(d:Nat){t:W'}(x y:X')(h:P.underlying t=M .bool):(J! (d+1) t (.bool x) (.bool y)).run P w=.ok (x==y) w:=by simp_all[J!,dX]
theorem FO{t:W'}(x y:X')(h:P.underlying t=M .bool):(O! t (.bool x) (.bool y)).run P w=.ok (x==y) w:=KE 9999 x y h
def El(d:Nat){t:W'}{k:T2}(x y:Int)(h:P.underlying t=M (.int k)):(J! (d+1) t (.int k x) (.int k y)).run P w=.ok (x==y) w:=by simp_all[J!,dX]
def J7(d:Nat){t e:W'}(B:aY Addr)(l c:Nat)(h:P.underlying t=M (.slice e)):(J! (d+1) t (.slice B l c) (.slice J 0 0)).run P w=.ok B.isNone w:=by cases B<;>simp only[J!,z?,dX h,x?,N?]<;>rfl
def Ny(d:Nat){t e:W'}(B:aY Addr)(h:P.underlying t=M (.pointer e)):(J! (d+1) t (.pointer B) (.pointer J)).run P w=.ok B.isNone w:=by cases B<;>simp only[J!,z?,dX h,x?,N?]<;>rfl
def Nl(d:Nat){t e D:W'}(B:aY Nat)(h:P.underlying t=M (.map e D)):(J! (d+1) t (.map B) (.map J)).run P w=.ok B.isNone w:=by cases B<;>simp only[J!,z?,dX h,x?,N?]<;>rfl
def IQ(T:eX P E){t:W'}{k:TK}{x y:V}{u v:V'}{b:X'}(i:E.kindOf t=M k)(h:xS k x y=M b)(B:bM I μ x u)(D:bM I μ y v):
 (O! t u v).run P w=.ok b w/\(∀op p q,(eqGuard op t p q u v).run P w=.ok () w)/\binOp .eql t u v=(do pure (.bool (<-O! t u v)))/\binOp .neq t u v=(do pure (.bool (!(<-O! t u v)))):=by
 have⟨d,hd,o⟩:=gH i;have⟨a,m,C,_⟩:=(T.ty hd).dX;rw[o]at C;have j:∀(e:W')(z:aY Addr)(l c:Nat),P.underlying t=M (.slice e)->b=z.isNone->
  (O! t (.slice z l c) (.slice J 0 0)).run P w=.ok b w/\(∀op p q,(eqGuard op t p q (.slice z l c) (.slice J 0 0)).run P w=.ok () w)/\binOp .eql t (.slice z l c) (.slice J 0 0)=(do pure (.bool (<-O! t (.slice z l c) (.slice J 0 0))))/\binOp .neq t (.slice z l c) (.slice J 0 0)=(do pure (.bool (!(<-O! t (.slice z l c) (.slice J 0 0))))):=by
  intro e z l c f G;refine⟨?_,λop p q=>by simp_all[eqGuard],Y,Y⟩
  rw[G];exact J7 9999 z l c f
 have X:∀(e:W')(z:aY Addr),P.underlying t=M (.pointer e)->b=z.isNone->
  (O! t (.pointer z) (.pointer J)).run P w=.ok b w/\(∀op p q,(eqGuard op t p q (.pointer z) (.pointer J)).run P w=.ok () w)/\binOp .eql t (.pointer z) (.pointer J)=(do pure (.bool (<-O! t (.pointer z) (.pointer J))))/\binOp .neq t (.pointer z) (.pointer J)=(do pure (.bool (!(<-O! t (.pointer z) (.pointer J))))):=by
  intro e z f G;refine⟨?_,λop p q=>by simp_all[eqGuard],Y,Y⟩
  rw[G];exact Ny 9999 z f
 have Q:∀(e L:W')(z:aY Nat),P.underlying t=M (.map e L)->b=z.isNone->
  (O! t (.map z) (.map J)).run P w=.ok b w/\(∀op p q,(eqGuard op t p q (.map z) (.map J)).run P w=.ok () w)/\binOp .eql t (.map z) (.map J)=(do pure (.bool (<-O! t (.map z) (.map J))))/\binOp .neq t (.map z) (.map J)=(do pure (.bool (!(<-O! t (.map z) (.map J))))):=by
  intro e L z f G;refine⟨?_,λop p q=>by simp_all[eqGuard],Y,Y⟩
  rw[G];exact Nl 9999 z f
 unfold xS at h;split at h<;>(try (simp only[ζa]at h;subst h))
 .have:=kZ C;subst this;rw[B.oq,D.oq];grind
 .have:=kZ C;subst this;rw[D.oq];have S:=B.ot
  cases S with
  |fsl0 _ z g=>grind|fsl=>grind
 .have:=kZ C;subst this;rw[D.oq];rcases B.ou with⟨p,g,_,_,_,_,A⟩|⟨_,z,A⟩
  all_goals grind
 .obtain⟨e,rfl⟩:∃e,a=.pointer e:=by cases a<;>simp_all [ov]
  cases B with|c _ _ B=>cases B;cases D with|c _ _ D=>cases D;grind
 .obtain⟨e,rfl⟩:∃e,a=.pointer e:=by cases a<;>simp_all [ov]
  cases D with|c _ _ D=>cases D;cases B with|c _ _ B=>cases B;grind
 .obtain⟨e,rfl⟩:∃e,a=.pointer e:=by cases a<;>simp_all [ov]
  cases D with
  |c _ _ D=>
   cases D
   cases B with
   |c _ _ B=>cases B|hptr=>grind
 .have:=CA C;subst this;cases B with|c _ _ B=>cases B;cases D with|c _ _ D=>cases D;grind
 .have:=CA C;subst this;cases D with|c _ _ D=>cases D;cases B with|c _ _ B=>cases B;grind
 .have:=CA C;subst this
  cases D with
  |c _ _ D=>
   cases D
   cases B with
   |c _ _ B=>cases B|hmap=>grind
 cases h
def YA(A:eX P E){op:BinOp}{t:W'}{x y z:V}{u v:V'}(p q:UV)(h:My E op t x y=M z)(T:bM I μ x u)(a__:bM I μ y v):
 ∃r,(do eqGuard op t p q u v;binOp op t u v).run P w=.ok r w/\bM I μ z r:=by
 unfold My at h;split at h
 .
  rename_i k m g m';rw[T.gE,a__.gE];simp only[z?,SK,x?];split at h
  .
   split at h
   .simp at h
   rename_i C;simp only[ζa]at h;subst h;exact⟨_,by simp[binOp,Op.shift,C],.c _ _ (.int _ _)⟩
  .split at h
   .simp at h
   rename_i C;simp only[ζa]at h;subst h;exact⟨_,by simp[binOp,Op.shift,C],.c _ _ (.int _ _)⟩
  split at h
  .rename_i X Y a;subst a
   cases op with
   |shl=>grind|shr=>grind|add=>simp only[ζa]at h;subst h;exact⟨_,by simp[binOp,v6],.c _ _ (.int _ _)⟩|sub=>simp only[ζa]at h;subst h;exact⟨_,by simp[binOp,v6],.c _ _ (.int _ _)⟩|mul=>simp only[ζa]at h;subst h;exact⟨_,by simp[binOp,v6],.c _ _ (.int _ _)⟩|quo=>
    simp only at h;split at h
    .simp at h
    rename_i C;simp only[ζa]at h;subst h;exact⟨_,by simp[binOp,Op.intDiv,C],.c _ _ (.int _ _)⟩
   |rem=>
    simp only at h;split at h
    .simp at h
    rename_i C;simp only[ζa]at h;subst h;exact⟨_,by simp[binOp,Op.intDiv,C],.c _ _ (.int _ _)⟩
   |and=>simp only[ζa]at h;subst h;exact⟨_,by simp[binOp,H5],.c _ _ (.int _ _)⟩|or=>simp only[ζa]at h;subst h;exact⟨_,by simp[binOp,H5],.c _ _ (.int _ _)⟩|xor=>simp only[ζa]at h;subst h;exact⟨_,by simp[binOp,H5],.c _ _ (.int _ _)⟩|andNot=>simp only[ζa]at h;subst h;exact⟨_,by simp[binOp,H5],.c _ _ (.int _ _)⟩|eql=>simp only[uD,A?,ζa]at h;subst h;exact⟨_,by simp[binOp,w0],.c _ _ (.bool _)⟩|neq=>simp only[uD,A?,ζa]at h;subst h;exact⟨_,by simp[binOp,w0],.c _ _ (.bool _)⟩|lss=>simp only[uD,A?,ζa]at h;subst h;exact⟨_,by simp[binOp,w0],.c _ _ (.bool _)⟩|leq=>simp only[uD,A?,ζa]at h;subst h;exact⟨_,by simp[binOp,w0],.c _ _ (.bool _)⟩|gtr=>simp only[uD,A?,ζa]at h;subst h;exact⟨_,by simp[binOp,w0],.c _ _ (.bool _)⟩|geq=>simp only[uD,A?,ζa]at h;subst h;exact⟨_,by simp[binOp,w0],.c _ _ (.bool _)⟩
  simp at h
 .
  rename_i s i;rw[T.vZ,a__.vZ];simp only[z?,Ty,x?];split at h
  .split at h
   .simp at h
   rename_i C;simp only[ζa]at h;subst h;exact⟨_,by simp_all[binOp,Op.stringOp],.c _ _ (.str _)⟩
  all_goals first
   |(simp only[ζa]at h;subst h;exact⟨_,by simp[binOp,Op.stringOp],.c _ _ (.bool _)⟩)|simp at h
 .
  rename_i b j;rw[T.uo,a__.uo];simp only[z?,Qg,x?];split at h
  next a=>have⟨d,hd,D⟩:=gH a;have⟨e,c,B,_⟩:=(A.ty hd).dX;rw[D]at B;have:=Pg B;subst this;simp only[ζa]at h;subst h;exact⟨_,by grind[binOp,z?,FO,x?,N?],.c _ _ (.bool _)⟩
  next a=>have⟨d,hd,D⟩:=gH a;have⟨e,c,B,_⟩:=(A.ty hd).dX;rw[D]at B;have:=Pg B;subst this;simp only[ζa]at h;subst h;exact⟨_,by grind[binOp,z?,FO,x?,N?],.c _ _ (.bool _)⟩
  simp at h
 .
  rename_i az l;obtain⟨n,rfl,L⟩:=T.jV;obtain⟨o,rfl,b__⟩:=a__.jV;split at h
  .rename_i m G;split at h
   next Z=>simp only[ζf]at h;obtain⟨r,f,rfl⟩:=h;obtain⟨S,W,c,B,Q,rfl⟩:=Ax f;obtain⟨rfl,e1⟩:=s_ c L;obtain⟨rfl,e2⟩:=s_ B b__;exact⟨_,(A.eqN _ _ G).eq w p q S W c? c?,.c _ _ (.bool _)⟩
   simp at h
  .rename_i m G;split at h
   next Z=>simp only[ζf]at h;obtain⟨r,f,rfl⟩:=h;obtain⟨S,W,c,B,Q,rfl⟩:=Ax f;obtain⟨rfl,e1⟩:=s_ c L;obtain⟨rfl,e2⟩:=s_ B b__;exact⟨_,(A.eqN _ _ G).ne w p q S W c? c?,.c _ _ (.bool _)⟩
   simp at h
  simp at h

 split at h
 next k a=>simp only[ζf]at h;obtain⟨b,C,rfl⟩:=h;have⟨c,B,Q,_⟩:=IQ (w:=w) A a C T a__;exact⟨.bool b,by rw[z?,B,Q];simp[m4,c],.c _ _ (.bool _)⟩
 next k a=>simp only[ζf]at h;obtain⟨b,C,rfl⟩:=h;have⟨c,B,_,Q⟩:=IQ (w:=w) A a C T a__;exact⟨.bool !b,by rw[z?,B,Q];simp[m4,c],.c _ _ (.bool _)⟩
 simp at h
def NA(off:Nat):∀(l:aX V')(k:Nat)(cells:Array V'),off+k+W l<=cells.size->
 ((l.zipIdx k).foldl (λcs(p:V'×Nat)=>cs.setIfInBounds (off+p.2) p.1) cells).toList=cells.toList.take (off+k)++l++cells.toList.drop (off+k+W l):=by
 intro l
 induction l with
 |nil=>simp_all|cons v l u=>
  intro k cells h;simp at h;simp;rw[u (k+1) _ (by simp;omega)]
  grind[List.take_succ_eq_append_getElem,List.take_set_of_le,List.drop_set_of_lt]
def Ra{cs xs:So}{cells:Array V'}{v:V'}{off:Nat}(h:cN I μ cs cells.toList)(B:cN I μ xs v.cells.toList)(D:off+W xs<=W cs):
 cN I μ (cs.take off++xs++cs.drop (off+W xs)) (v.cells.zipIdx.foldl (λcs(p:V'×Nat)=>cs.setIfInBounds (off+p.2) p.1) cells).toList:=by
 have e:v.cells.zipIdx.foldl (λcs p=>cs.setIfInBounds (off+p.2) p.1) cells=(v.cells.toList.zipIdx 0).foldl (λcs p=>cs.setIfInBounds (off+p.2) p.1) cells:=by rw[<-Array.foldl_toList];simp
 have a:=h.1;have u:=B.1;rw[e,NA off _ 0 _ h?]
 rw[<-u];exact((h.take off).append B).append (h.drop _)
def E8{place place':Nat->aY (Nat×Nat)}(hp:∀i p,place i=M p->place' i=M p):∀(vs:aX (Nat×V))(B:aX (Nat×V'))(cs r:So)(cells:Array V'),
 W vs=W B->(∀(j:Nat)x y,vs[j]?=M x->B[j]?=M y->x.1=y.1/\bM I μ x.2 y.2)->cN I μ cs cells.toList->xk place cs vs=M r->
 ∃D,fill place' cells B=M D/\cN I μ r D.toList:=by
 intro vs
 induction vs with
 |nil=>
  intro B cs r cells g _ c w
  cases B with
  |nil=>simp[xk]at w;subst w;exact⟨cells,rfl,c⟩|cons _ _=>simp_all
 |cons x vs L=>
  intro B cs r cells g d c w
  cases B with
  |nil=>simp_all|cons y B=>
   have⟨i,x⟩:=x;have⟨m,y⟩:=y;have⟨C,z⟩:=d 0 (i,x) (m,y) Y Y;subst C;simp only at z;simp only[xk]at w;split at w
   .simp at w
   rename_i off size Q;split at w
   .simp at w
   rename_i S;have u:=z.cells;have G:W x.cells=y.cells.size:=by simpa using u.1
   have T:W cs=cells.size:=by simpa using c.1
   have h:¬(_r (y.cells.size≠size)||decide (off+y.cells.size>cells.size))=U:=by grind
   simp at S;have⟨D,e,o⟩:=L B _ r _ h? (λj a b p q=>d (j+1) a b (by simpa using p) (by simpa using q)) (Ra c u c?) w
   grind[fill]
def R7(ps:Array (Nat×UV))(f:UV->V'):(ps.map λ(i,x)=>(i,f x)).toList=ps.toList.map λp=>(p.1,f p.2):=f?
def IK{ps:Array (Nat×UV)}{vs:aX (Nat×V)}(r:eU I μ n F a.tmps)(h:ow F ps.toList=M vs):
 W vs=W (ps.map λ(i,x)=>(i,a.eval x)).toList/\∀(j:Nat)x y,vs[j]?=M x->(ps.map λ(i,x)=>(i,a.eval x)).toList[j]?=M y->x.1=y.1/\bM I μ x.2 y.2:=by
 have⟨u,b⟩:=Q4 r h;rw[R7]
 grind
def RJ(D:eX P E):∀(B:aX Field)(pl:aX (Nat×Nat)),p8 E (B.map λf=>(f.offset,f.type))=M pl->
 ((B.mapM λf=>do pure (f.offset,<-sizeOf f.type)):Sem (aX (Nat×Nat))).run P w=.ok pl w:=by
 intro B
 induction B with
 |nil=>simp_all[p8]|cons f B z=>
  intro pl h;simp[p8]at h;split at h
  next d ps hd u=>simp at h;subst h;have:=z _ u;simp only[List.mapM_cons,z?,(D.ty hd).mw,x?,N?,this]
  grind
def PK(D:eX P E)(B:Array Field)(pl:aX (Nat×Nat))(h:p8 E (B.toList.map λf=>(f.offset,f.type))=M pl):
 ((B.mapM λf=>do pure (f.offset,<-sizeOf f.type)):Sem (Array (Nat×Nat))).run P w=.ok pl.toArray w:=by
 rw[Array.mapM_eq_mapM_toList];simp only[Sem.run_map,RJ D _ _ h,x?]
def U9(B:eX P E)(r:eU I μ n F a.tmps){t:W'}{ps:Array (Nat×UV)}{x:V}(h:bP E F (.build t ps)=M x):
 ∃v,(Instr.build t (ps.map λ(i,x)=>(i,a.eval x))).run P w=.ok v w/\bM I μ x v:=by
 simp[bP]at h;split at h
 .rename_i d Q hd D;have⟨S,b⟩:=IK r D;have⟨z,j,u,_⟩:=(B.ty hd).GY;have⟨c,f,C,o⟩:=(B.ty hd).dX;unfold Instr.build;simp[z?,j,o,x?];split at h
  .rename_i fs hk;rw[hk]at C;obtain⟨X,rfl,rfl⟩:=Dr C;split at h
   .rename_i pl G;simp at h;obtain⟨cs,g,rfl⟩:=h;have⟨L,g1,g2⟩:=E8 (place':=λi=>pl.toArray[i]?) h? Q _ d.zero cs z.cells S b (u I μ) g
    refine⟨.agg L,?_,.Kg g2⟩;have:=PK (w:=w) B X pl G;simp_all
   grind
  .rename_i e hk;rw[hk]at C;have:=E7 C;subst this;split at h
   .rename_i T m;simp at h;obtain⟨cs,g,rfl⟩:=h;have⟨L,g1,g2⟩:=E8 (place':=λi=>M (i*T.size,T.size)) h? Q _ d.zero cs z.cells S b (u I μ) g
    refine⟨.agg L,?_,.Kg g2⟩;simp[z?,(B.ty m).mw,x?];simp_all
   grind
  grind
 grind
def sL(b o k:Nat):(⟨b,o,J⟩:Addr).add k=⟨b,o+k,J⟩:=by grind[Addr.add]
theorem JN{cs:So}{b o:Nat}{c:Array V'}(k:Nat)(B:I b=M (.cells c))(D:o+W cs<=c.size)
 (a:∀(j:Nat)y u,cs[j]?=M y->c[o+j]?=M u->e_ I y u)(d:k<=W cs):bM I μ (.fptr (cs.drop k)) (.pointer (M ⟨b,o+k,J⟩)):=
 .c _ _ (.fptr _ b (o+k) c B (by simp;omega) λj y u e w=>a (k+j) y u h? h?)
def QJ(G:eX P E)(r:eU I μ n F a.tmps){s:W'}{o:UV}{f:Nat}{x:V}(h:bP E F (.fieldAddr s o f)=M x):
 ∃v,(fieldAt s (a.eval o) f).run P w=.ok v w/\bM I μ x v:=by
 simp[bP]at h;split at h
 .rename_i fs p hk Q;have⟨d,hd,B⟩:=gH hk;have⟨i,k,q,S⟩:=(G.ty hd).dX;rw[B]at q;obtain⟨T,rfl,rfl⟩:=Dr q;have j:=dI r Q;split at h
  .rename_i off t L;simp at L;obtain⟨g,y,rfl,rfl⟩:=L;have z:T[f]?=M g:=by grind
   split at h
   .rename_i Y C;split at h
    .simp_all
    rename_i D;have A:∀(b u:Nat),(fieldAt s (.pointer (M ⟨b,u,J⟩)) f).run P w=.ok (.pointer (M ⟨b,u+g.offset,J⟩)) w:=by intro b u;unfold fieldAt;simp[z?,S,x?,z,w7,N?,fieldPlace,(G.ty C).mw,M' D,sL]
    split at h
    .split at h
     .rename_i W;simp at h;subst h;have⟨b,u,c,e,Z,l,m⟩:=j.oD;rw[e]
      grind[JN]
     grind
    .rename_i id el u;simp at h;have⟨p,X,e⟩:=j.wh;rw[e];have:=bM.hptr (I:=I) id el (u+g.offset) p X
     grind
    grind
   grind
  grind
 grind
def UT(D:eX P E)(r:eU I μ n F a.tmps){s:W'}{o:UV}{f:Nat}{x:V}(h:bP E F (.field s o f)=M x):
 ∃v,(Instr.field s (a.eval o) f).run P w=.ok v w/\bM I μ x v:=by
 simp[bP]at h;split at h
 .rename_i fs cs hk y;have⟨d,hd,z⟩:=gH hk;have⟨b,g,G,W⟩:=(D.ty hd).dX;rw[z]at G;obtain⟨Q,rfl,rfl⟩:=Dr G;have⟨X,e,B⟩:=(dI r y).jV;rw[e];split at h
  .rename_i off t j;simp at j;obtain⟨c,S,rfl,rfl⟩:=j;have L:Q[f]?=M c:=by grind
   split at h
   .rename_i A C;simp[ζg]at h;have⟨q,T,m⟩:=h;have⟨u,i,Z⟩:=Mn (w:=w) (D.ty C) B T m
    grind[Instr.field,z?,x?,asAgg]
   grind
  grind
 grind
def n9(k:T2)(m:Int):(asIntOf (.int k m)).run P w=.ok (k,m) w:=rfl
def Qj(T:eX P E)(r:eU I μ n F a.tmps){t:W'}{o i:UV}{x:V}(h:bP E F (.indexAddr t o i)=M x):
 ∃v,(t8 t (a.eval o) (a.eval i)).run P w=.ok v w/\bM I μ x v:=by
 simp[bP]at h;split at h
 .
  rename_i e s k m K W a__;have⟨d,hd,G⟩:=gH K;have⟨l,h1,Q,X⟩:=(T.ty hd).dX;rw[G]at Q;have:=kZ Q;subst this;have A:=dI r W;have b__:=(dI r a__).gE;rw[b__];split at h
  .rename_i c__ L;split at h
   .simp_all
   have D:∀(b z len f:Nat),m.toNat<len->(t8 t (.slice (M ⟨b,z,J⟩) len f) (.int k m)).run P w=.ok (.pointer (M ⟨b,z+m.toNat*c__.size,J⟩)) w:=by intro b z len f B;unfold t8;have H:0<=m/\m<(len):=c?;simp[z?,n9,X,x?,N?,(T.ty L).mw,run_ite,L' H,sL]
   split at h
   .rename_i es Y;split at h
    .rename_i C;simp only[ζf]at h;obtain⟨cs,d__,rfl⟩:=h;have B:m.toNat<_l Y:=(ζe.1 d__).1;have R:=A.ot;generalize hg:a.eval o=g at R
     cases R with
     |fsl0=>simp_all|fsl _ _ b z f c hI H hu ho hb hr=>refine⟨_,D b z _ _ B,?_⟩;have S:cs∈Y:=s? d__;have aa:=hu cs S;have Z:(m.toNat+1)*es<=_l Y*es:=b! _ B;rw[p!]at Z;rw[<-C];exact .c _ _ (.fptr cs b _ c hI c? λj y u p q=>hr m.toNat j cs y u d__ p q)
    grind
   .rename_i id es off len;split at h
    .rename_i C;simp only[ζa]at h;have⟨C,B⟩:=C;rcases A.ou with⟨p,f,e__,he,H,hb,e⟩|⟨h0,_⟩
     .rw[e];have:=bM.hptr (I:=I) (μ:=μ) id (off+m.toNat) 0 p e__
      grind
     omega
    grind
   grind
  grind
 .
  rename_i len e p k m K W a__;have⟨d,hd,G⟩:=gH K;have⟨l,h1,Q,X⟩:=(T.ty hd).dX;rw[G]at Q;have:=E7 Q;subst this;have A:=dI r W;have b__:=(dI r a__).gE;rw[b__];split at h
  .rename_i c__ L;split at h
   .rename_i H;have D:∀(b z:Nat),(t8 t (.pointer (M ⟨b,z,J⟩)) (.int k m)).run P w=.ok (.pointer (M ⟨b,z+m.toNat*c__.size,J⟩)) w:=by
     intro b z;unfold t8;simp only[z?,n9,X,x?,N?,w7,(T.ty L).mw,run_ite,L' H,sL]
    split at h
    .split at h
     .rename_i ab;simp only[ζa]at h;subst h;have⟨b,z,c,e,hI,hb,hr⟩:=A.oD;rw[e]
      grind[JN]
     grind
    .rename_i id el z;simp only[ζa]at h;have⟨p,e__,e⟩:=A.wh;rw[e];have:=bM.hptr (I:=I) (μ:=μ) id el (z+m.toNat*c__.size) p e__
     grind
    grind
   grind
  grind
 grind
def Vh(D:eX P E)(r:eU I μ n F a.tmps){t:W'}{o i:UV}{x:V}(h:bP E F (.index t o i)=M x):
 ∃v,(Instr.index t (a.eval o) (a.eval i)).run P w=.ok v w/\bM I μ x v:=by
 simp[bP]at h;split at h
 .rename_i s k m hk G hi;have⟨d,hd,z⟩:=gH hk;have⟨c,g,B,L⟩:=(D.ty hd).dX;rw[z]at B;have:=Cp B;subst this;rw[(dI r hi).gE,(dI r G).vZ];split at h
  next f=>simp at h;obtain⟨b,T,rfl⟩:=h;refine⟨.int .u8 b.toNat,?_,.c _ _ (.int _ _)⟩;simp_all[Instr.index,n9]
  grind
 .rename_i len e cs k m hk G hi;have⟨d,hd,z⟩:=gH hk;have⟨c,g,B,L⟩:=(D.ty hd).dX;rw[z]at B;have:=E7 B;subst this;have⟨A,ev,y⟩:=(dI r G).jV;rw[(dI r hi).gE,ev];split at h
  .rename_i Z C;split at h
   next f=>simp[ζg]at h;have⟨q,X,Q⟩:=h;have⟨u,j,S⟩:=Mn (w:=w) (D.ty C) y X Q;refine⟨u,?_,S⟩;unfold Instr.index;simp[z?,n9,L,x?,run_ite,L' f,(D.ty C).mw,j]
   grind
  grind
 grind
def Pq(B:eX P E)(r:eU I μ n F a.tmps){s d:W'}{o:UV}{x:V}(h:bP E F (.convert s d o)=M x):
 ∃v,(convert s d (a.eval o)).run P w=.ok v w/\bM I μ x v:=by
 simp[bP]at h;split at h
 .rename_i ts D k m z hd C;split at h
  next G b=>simp at h;subst h;have⟨c,g1,_,g3⟩:=(B.ty z).dX;have⟨e,f,u,g⟩:=(B.ty hd).dX;rw[b]at u;have:=Gz u;subst this;rw[(dI r C).gE];refine⟨_,?_,.c _ _ (.int _ _)⟩;simp_all[convert,Conv.intToInt]
  grind
 grind
theorem sS(r:eU I μ n F a.tmps){o:aY UV}{m:PH}(h:lZ F o=M m):
 (m=J/\o.map a.eval=J)\/∃k z,m=M z/\o.map a.eval=M (.int k z):=by
 cases o with
 |none=>grind[lZ]|some x=>
  simp[lZ]at h;split at h
  next k z u=>simp at h;subst h;exact .inr ⟨k,z,Y,by simp[(dI r u).gE]⟩
  grind
theorem yq(k:T2)(z:Int)(y:Nat)(code:BoundsCode)(B:0<=z)(a:z<=y):(sliceBound (.int k z) y code).run P w=.ok z.toNat w:=by simp_all[sliceBound,n9]
def oh(r:eU I μ n F a.tmps){c d:aY UV}{l h:PH}(e1:lZ F c=M l)(e2:lZ F d=M h)(D:X')(len b L H:Nat)(e:len<=b)
 (B:ec len l h=M (L,H)):(n' D len b (c.map a.eval) (d.map a.eval) J).run P w=.ok (L,H,b) w/\L<=H/\H<=len:=by
 unfold ec at B;simp only at B;split at B
 .rename_i u;obtain⟨rfl,rfl⟩:=B;have⟨G,g,i,Q⟩:=u;refine⟨?_,c?,c?⟩
  unfold n';rcases sS r e1 with⟨rfl,z⟩|⟨k1,S,rfl,z⟩<;>rcases sS r e2 with⟨rfl,C⟩|⟨k2,T,rfl,C⟩<;>
   simp only[z,C,H!]at G g i Q⊢
  all_goals grind[N?,x?,z?,yq]
 grind
def HX{es:Nat}{xs:S'}{v:V'}{L H:Nat}(h:e_ I (.fsl es xs) v)(d:L<=H)(D:H<=W xs):
 ∃B len a,v=.slice B len a/\len=W xs/\len<=a/\e_ I (.fsl es ((xs.take H).drop L)) (.slice (if a=L then B else B.map (·.add (L*es))) (H-L) (a-L)):=by
 cases h with
 |fsl0 _ B a=>
  simp at D;have z:L=0:=c?
  subst D;subst z;refine⟨M B,0,a,Y,Y,R? _,?_⟩;have:=e_.fsl0 (I:=I) es B a
  grind[Addr.add]
 |fsl _ _ b o a c C hc hu G i hr=>
  refine⟨_,_,a,Y,Y,hc,?_⟩;have u:W ((xs.take H).drop L)=H-L:=p?
  by_cases g:H-L=0
  .have:(xs.take H).drop L=[]:=List.eq_nil_of_length_eq_zero h?
   rw[this,g];split
   .exact .fsl0 es _ _
   exact .fsl0 es _ _
  simp[sL];have e:e_ I (.fsl es ((xs.take H).drop L)) (.slice (M ⟨b,o+L*es,J⟩) (W ((xs.take H).drop L)) (a-L)):=by refine .fsl es _ b (o+L*es) (a-L) c C h? (λx w=>hu x (Q? (x! w))) (λx w=>G x (Q? (x! w))) ?_ ?_;rw[u];have:L*es+(H-L)*es<=W xs*es:=(by rw[<-p!];simp_all[b!]);omega;grind
  grind
def U5(i:eX P E)(r:eU I μ n F a.tmps){t:W'}{o:UV}{j m Y:aY UV}{x:V}(h:bP E F (.slice t o j m Y)=M x):
 ∃v,(l0 t (a.eval o) (j.map a.eval) (m.map a.eval) (Y.map a.eval)).run P w=.ok v w/\bM I μ x v:=by
 simp[bP]at h;split at h
 .
  rename_i s l e__ y A W C R;obtain⟨d,hd,S⟩:=gH y;obtain⟨f,h1,X,K⟩:=(i.ty hd).dX;rw[S]at X;have:=Cp X;rw[(dI r A).vZ];simp only[ζf]at h;obtain⟨⟨L,H⟩,b__,rfl⟩:=h;obtain⟨g,_,_⟩:=oh (P:=P) (w:=w) r W C O s.size s.size L H (y? _) b__;have hm:Y.map a.eval=J:=by grind[sS]
  refine⟨.string (s.extract L H),?_,.c _ _ (.str _)⟩;simp_all[l0,Instr.slice]
 .rename_i e v l e__ y A W C R;obtain⟨d,hd,S⟩:=gH y;obtain⟨f,h1,X,K⟩:=(i.ty hd).dX;rw[S]at X;have:=kZ X;subst this;have c:=dI r A;have hm:Y.map a.eval=J:=by grind[sS]
  have B:∀(D:aY Addr)(len b L H:Nat)(d__:TD),E.tt e=M d__->len<=b->ec len l e__=M (L,H)->
   (l0 t (.slice D len b) (j.map a.eval) (m.map a.eval) (Y.map a.eval)).run P w=.ok (.slice (if b=L then D else D.map (·.add (L*d__.size))) (H-L) (b-L)) w:=by
   intro D len b L H d__ u a__ b__;obtain⟨g,_,_⟩:=oh (P:=P) (w:=w) r W C U len b L H a__ b__;unfold l0 Instr.slice;simp[z?,K,x?,hm,g,(i.ty u).mw,N?]
  split at h
  .rename_i d__ u;split at h
   .rename_i es xs;split at h
    next Z=>simp only[ζf]at h;obtain⟨⟨L,H⟩,b__,rfl⟩:=h;obtain⟨_,T,c__⟩:=oh (P:=P) (w:=w) r W C U xs.length xs.length L H (y? _) b__;obtain⟨D,len,b,e1,e2,e3,e4⟩:=HX c.ot T c__;rw[e1];subst e2;refine⟨_,B D _ b L H d__ u e3 b__,?_⟩;rw[<-Z];exact .c _ _ e4
    grind
   .rename_i id es off len;split at h
    .rename_i Z;simp only[ζf]at h;obtain⟨⟨L,H⟩,b__,rfl⟩:=h;obtain⟨_,T,c__⟩:=oh (P:=P) (w:=w) r W C U len len L H (y? _) b__;rcases c.ou with⟨p,b,ab,he,a__,ae,G⟩|⟨h0,D,G⟩
     .rw[G];refine⟨_,B _ _ b L H d__ u a__ b__,?_⟩
      by_cases hz:b=L
      .have:H-L=0:=by omega
       rw[L' hz,this,show b-L=0 by omega]
       exact .hsl0 id es (off+L) _
      rw[M' hz];simp only[A?,sL];rw[<-Z];subst he;have:=bM.hsl (I:=I) (μ:=μ) id (off+L) (H-L) (b-L) p ab c? (by
       grind)
      rwa [p!,<-m8]at this
     grind
    grind
   .simp only[ζf]at h;obtain⟨⟨L,H⟩,b__,rfl⟩:=h;obtain⟨_,T,c__⟩:=oh (P:=P) (w:=w) r W C U 0 0 L H (y? _) b__;obtain⟨D,G⟩:=c.uP;rw[G]
    grind
   .simp only[ζf]at h;obtain⟨⟨L,H⟩,b__,rfl⟩:=h;obtain⟨_,T,c__⟩:=oh (P:=P) (w:=w) r W C U 0 0 L H (y? _) b__;have G:=c.oq;rw[G]
    grind
   grind
  grind
 .rename_i e v y A W C R;obtain⟨d,hd,S⟩:=gH y;obtain⟨f,h1,X,K⟩:=(i.ty hd).dX;rw[S]at X;have:=kZ X;subst this;have c:=dI r A;have q1:j.map a.eval=J:=by grind[sS]
  obtain⟨k2,q2⟩:∃k,m.map a.eval=M (.int k 0):=by rcases sS r C with⟨q,_⟩|⟨k,z,e,q⟩;all_goals grind
  obtain⟨k3,q3⟩:∃k,Y.map a.eval=M (.int k 0):=by grind[sS]
  have B:∀(D:aY Addr)(len b:Nat)(d__:TD),E.tt e=M d__->∃Q,(l0 t (.slice D len b) (j.map a.eval) (m.map a.eval) (Y.map a.eval)).run P w=.ok (.slice Q 0 0) w:=by intro D len b d__ u;refine⟨D,?_⟩;unfold l0 Instr.slice n';simp only[z?,K,x?,q1,q2,q3,yq k3 0 b _ (Int.le_refl _) c?,yq k2 0 _ _ (Int.le_refl _) f?,(i.ty u).mw];simp
  split at h
  next d__ es xs u=>simp at h;subst h;obtain⟨D,len,b,e1,_⟩:=HX c.ot (y? _) (R? _);rw[e1];obtain⟨Q,g⟩:=B D len b _ u;exact⟨_,g,.c _ _ (.dH _)⟩
  .rename_i d__ id es off len u;simp at h;subst h;rcases c.ou with⟨p,b,_,_,_,_,G⟩|⟨_,D,G⟩
   .rw[G];obtain⟨Q,g⟩:=B _ _ _ _ u;exact⟨_,g,.c _ _ (.dH _)⟩
   rw[G];obtain⟨Q,g⟩:=B _ _ _ _ u;exact⟨_,g,.c _ _ (.dH _)⟩
  next d__ u=>simp at h;subst h;obtain⟨D,G⟩:=c.uP;rw[G];obtain⟨Q,g⟩:=B _ _ _ _ u;exact⟨_,g,.c _ _ (.dH _)⟩
  next d__ u=>simp only[ζa]at h;subst h;have G:=c.oq;rw[G];obtain⟨Q,g⟩:=B _ _ _ _ u;exact⟨_,g,.c _ _ (.dH _)⟩
  simp at h
 grind
def cN.one{x:V}{vs:aX V'}(h:cN I μ [x] vs):∃v,vs=[v]/\bM I μ x v:=by obtain⟨v,r,rfl,a,b⟩:=h.cons_inv;exact⟨v,by rw[b.zd],a⟩
def cN.two{x y:V}{vs:aX V'}(h:cN I μ [x,y] vs):∃u v,vs=[u,v]/\bM I μ x u/\bM I μ y v:=by obtain⟨u,r,rfl,b,a⟩:=h.cons_inv;obtain⟨v,rfl,c⟩:=a.one;grind
def cN.four{x y z t:V}{vs:aX V'}(h:cN I μ [x,y,z,t] vs):∃u v p q,vs=[u,v,p,q]/\bM I μ x u/\bM I μ y v/\bM I μ z p/\bM I μ t q:=by obtain⟨u,r,rfl,b,a⟩:=h.cons_inv;obtain⟨v,r2,rfl,c,a⟩:=a.cons_inv;obtain⟨p,q,rfl,w,B⟩:=a.two;grind
theorem uU{args:Array UV}{l:aX V'}(h:args.toList.map a.eval=l):args.map a.eval=l.toArray:=by grind
def AI:aY TK->V->aY V
 |some .str,.str s=>M (.int N s.size)|some (.slice _),.fsl _ xs=>M (.int N (W xs))|some (.slice _),.hsl _ _ _ len=>M (.int N len)|some (.slice _),.dH=>M (.int N 0)|some (.slice _),.bN=>M (.int N 0)|_,_=>J
def abc(T:eX P E){t:W'}{x z:V}{v:V'}{ty:W'}{D:Array W'}(i:D[0]?=M t)(G:bM I μ x v)
 (h:AI (E.kindOf t) x=M z):∃u,(len_ D ty #[v]).run P w=.ok u w/\bM I μ z u:=by
 cases b:E.kindOf t with
 |none=>rw[b]at h;grind[AI]|some k=>
  rw[b]at h;have⟨d,hd,j⟩:=gH b;have⟨c,f,Q,m⟩:=(T.ty hd).dX;rw[j]at Q
  cases k with
  |str=>
   have:=Cp Q;subst this
   cases x with
   |str s=>simp only[AI,ζa]at h;subst h;rw[G.vZ];refine⟨_,?_,.c _ _ (.int _ _)⟩;simp_all[len_,goInt]|_=>simp[AI]at h
  |slice e=>
   have:=kZ Q;subst this;have B:∀g(len a:Nat),(len_ D ty #[.slice g len a]).run P w=.ok (.int N len) w:=by simp_all[len_,goInt]
   cases x with
   |fsl es X=>simp only[AI,ζa]at h;subst h;have⟨g,len,a,e1,e2,_⟩:=HX (L:=0) (H:=0) G.ot (y? _) (R? _);rw[e1,<-e2];exact⟨_,B _ _ _,.c _ _ (.int _ _)⟩|hsl id es off len=>
    simp only[AI,ζa]at h;subst h;rcases G.ou with⟨p,a,_,_,_,_,C⟩|⟨S,g,C⟩
    .rw[C];exact⟨_,B _ _ _,.c _ _ (.int _ _)⟩
    rw[C,S];exact⟨_,B _ _ _,.c _ _ (.int _ _)⟩
   |dH=>simp only[AI,ζa]at h;subst h;have⟨g,C⟩:=G.uP;rw[C];exact⟨_,B _ _ _,.c _ _ (.int _ _)⟩|bN=>simp only[AI,ζa]at h;subst h;rw[G.oq];exact⟨_,B _ _ _,.c _ _ (.int _ _)⟩|_=>simp[AI]at h
  |_=>simp[AI]at h
def aa8:aY TK->V->aY V
 |some (.slice _),.bN=>M (.int N 0)|some (.slice _),.dH=>M (.int N 0)|_,_=>J
def abn(T:eX P E){t:W'}{x z:V}{v:V'}{ty:W'}{B:Array W'}(i:B[0]?=M t)(G:bM I μ x v)
 (h:aa8 (E.kindOf t) x=M z):∃u,(cap_ B ty #[v]).run P w=.ok u w/\bM I μ z u:=by
 have key:∀e C,E.kindOf t=M (.slice e)->v=.slice C 0 0->(cap_ B ty #[v]).run P w=.ok (.int N 0) w:=λe C a c=>by have⟨d,hd,D⟩:=gH a;have⟨b,f,g,L⟩:=(T.ty hd).dX;rw[D]at g;have:=kZ g;simp_all[cap_,goInt]
 unfold aa8 at h;split at h
 next _ _ e a=>cases h;exact⟨_,key _ _ a G.oq,.c _ _ (.int _ _)⟩
 next _ _ e a=>cases h;have⟨C,q⟩:=G.uP;exact⟨_,key _ _ a q,.c _ _ (.int _ _)⟩
 cases h
theorem h_{s:Sem V'}{v:V'}{w':World}(h:s.run P w=.ok v w'):(do pure (Next.value (<-s)):Sem Next).run P w=.ok (.value v) w':=by rw[z?,h];rfl
def Zr(G:eX P E)(r:eU I μ n F a.tmps)(o:Oper){x:V}(h:bP E F o.op=M x):
 ∃v,(execOp a.eval o).run P w=.ok (.value v) w/\bM I μ x v:=by
 obtain⟨dst,op,ty,pos,after,a__⟩:=o;simp only at h
 cases op with
 |move y=>exact⟨_,rfl,dI r (by simp_all[bP])⟩|assign y=>exact⟨_,rfl,dI r (by simp_all[bP])⟩|pick c y z=>
  simp only[bP]at h;simp only[execOp];split at h
  .rename_i t hc;have e:=(dI r hc).uo;simp only[e,asBool,z?,N?,x?]
   cases t with
   |true=>simp only[N']at h⊢;exact⟨_,rfl,dI r h⟩|false=>simp only[v?,_a]at h⊢;exact⟨_,rfl,dI r h⟩
  simp at h
 |nilCheck y=>
  simp only[bP]at h;simp only[execOp];split at h
  next id el off D=>simp only[ζa]at h;subst h;have l:=dI r D;obtain⟨p,_,e⟩:=l.wh;rw[e]at l⊢;simp_all
  next cs D=>simp only[ζa]at h;subst h;have l:=dI r D;obtain⟨b,o,c,e,_⟩:=l.oD;rw[e]at l⊢;simp_all
  next f u v D=>simp only[ζa]at h;subst h;have l:=dI r D;obtain⟨b,c,e,_⟩:=l.mc;rw[e]at l⊢;simp_all
  simp at h
 |binOp op t y z Z=>
  simp only[bP]at h;split at h
  next u v A l=>obtain⟨q,d__,H⟩:=YA (w:=w) G y z h (dI r A) (dI r l);exact⟨q,h_ d__,H⟩
  simp at h
 |unOp op t y=>
  simp only[bP]at h;simp only[execOp];split at h
  next b D=>simp only[ζa]at h;subst h;rw[(dI r D).uo];exact⟨_,h_ (by simp_all[Op.unary]),.c _ _ (.bool _)⟩
  next k m D=>simp only[ζa]at h;subst h;rw[(dI r D).gE];exact⟨_,h_ (by simp only[Op.unary,v6];rfl),by simpa using bM.c _ _ (.int k _)⟩
  simp at h
 |convert s d y=>obtain⟨v,g,C⟩:=Pq (w:=w) G r h;exact⟨v,h_ g,C⟩|fieldAddr s y f=>obtain⟨v,g,C⟩:=QJ (w:=w) G r h;exact⟨v,h_ g,C⟩|field s y f=>obtain⟨v,g,C⟩:=UT (w:=w) G r h;exact⟨v,h_ g,C⟩|indexAddr t y i=>obtain⟨v,g,C⟩:=Qj (w:=w) G r h;exact⟨v,h_ g,C⟩|index t y i=>obtain⟨v,g,C⟩:=Vh (w:=w) G r h;exact⟨v,h_ g,C⟩|slice t y lo hi mx=>obtain⟨v,g,C⟩:=U5 (w:=w) G r h;exact⟨v,h_ g,C⟩|build t ps=>obtain⟨v,g,C⟩:=U9 (w:=w) G r h;exact⟨v,h_ g,C⟩|makeFunc f u v=>
  cases f with
  |func f=>
   simp only[bP]at h;split at h
   next Q x2 g C=>simp only[ζa]at h;subst h;have r1:=qM r g;have r2:=qM r C;refine⟨.func (.func f) (u.map a.eval) (v.map a.eval),rfl,?_⟩;refine .clo f _ _ _ _ (by simpa using r1.1) (by simpa using r2.1) (λj p q s t=>r1.2 j p q s (by simpa using t)) (λj p q s t=>r2.2 j p q s (by simpa using t))
   simp at h
  |_=>simp[bP]at h
 |extract y i=>
  simp only[bP]at h;simp only[execOp];split at h
  .rename_i vs D;obtain⟨S,e,T⟩:=(dI r D).s6;rw[e];have c__:=(ζe.1 h).1;have L:i<S.size:=by have:=T.1;grind
   refine⟨S[i],h_ (by simp_all[Instr.extract]),T.2 i x _ h (by simp[L])⟩
  simp at h
 |call c=>
  obtain⟨callee,args,W⟩:=c
  cases callee with
  |builtin b=>
   simp only[bP]at h;simp only[execOp,resolve,z?,N?,x?,invoke];split at h
   .rename_i v t B b__;obtain⟨u,A,H⟩:=(qM r B).one;rw[uU A];obtain⟨q,g,C⟩:=abc (w:=w) (ty:=ty) G b__ H (by rw[<-h];rfl)
    grind[builtin,h_]
   .rename_i v t B b__;obtain⟨u,A,H⟩:=(qM r B).one;rw[uU A];obtain⟨q,g,C⟩:=abn (w:=w) (ty:=ty) G b__ H (by rw[<-h];rfl)
    grind[builtin,h_]
   .rename_i k Q X x2 B;split at h
    next K=>simp only[ζa]at h;subst h;subst K;obtain⟨u,v,e,A,l⟩:=(qM r B).two;rw[uU e,A.gE,l.gE];exact⟨_,by simp_all[builtin,max_,max2],.c _ _ (.int _ _)⟩
    simp at h
   .rename_i k Q k1 x2 k2 x3 k3 x4 B;split at h
    next K=>simp only[ζa]at h;subst h;obtain⟨rfl,rfl,rfl⟩:=K;obtain⟨u,v,p,q,e,A,l,Y,d__⟩:=(qM r B).four;rw[uU e,A.gE,l.gE,Y.gE,d__.gE];exact⟨_,by simp_all[builtin,max_,max2,Fs],.c _ _ (.int _ _)⟩
    simp at h
   .rename_i k Q X x2 B;split at h
    next K=>simp only[ζa]at h;subst h;subst K;obtain⟨u,v,e,A,l⟩:=(qM r B).two;rw[uU e,A.gE,l.gE];exact⟨_,by simp_all[builtin,min_,min2],.c _ _ (.int _ _)⟩
    simp at h
   simp at h
  |_=>simp[bP]at h
 |_=>simp[bP]at h
end
structure iJ(I:cG)(μ:Mu)(p:Pl)(c:Array Value)(es:Nat)(xs:List (List V)):Prop where
 es_eq:p.es=es
 sz:c.size=p.sz
 sq:∀x∈xs,x.length=es
 one:∀x∈xs,∀y∈x,V.one y=true
 room:p.o+xs.length*es<=c.size
 rel:cN I μ xs.flatten ((c.toList.drop p.o).take (xs.length*es))
def yL(I:cG)(μ:Mu)(B:aX (V×V))(es:Array MapEntry):Prop:=W B=es.size/\∀(j:Nat)q e,B[j]?=M q->es[j]?=M e->bM I μ q.1 e.key/\bM I μ q.2 e.val
def Eu.is:Eu->LoopState->Prop
 |.ready,.ready|.busy,.busy|.done,.done=>True|_,_=>False
structure ze(I:cG)(μ:Mu)(r:yZ)(l:Loop):Prop where
 st:r.st.is l.state
 pend:l.pending=r.pend.bind pe
 pendOk:r.pend≠some .norm
 frame:eU I μ r.nt r.frame l.tmps
 params:l.params.toList=r.params
 assign:l.assign=r.assign
 body:l.body=r.body
def Ob.live:Ob->X'
 |.row ..|.map _|.loop _=>U|_=>O
def vz(I:cG)(μ:Mu)(w:World)(id:Nat):Ob->Prop
 |.free=>μ id=J|.dead=>True|.row es xs=>∃p c el,μ id=M p/\I p.b=J/\w.heap[p.b]?=M (.cells c el)/\iJ I μ p c es xs|.frz es xs=>∃p c,μ id=M p/\I p.b=M (.cells c)/\iJ I μ p c es xs|.map B=>∃p es a,μ id=M p/\I p.b=J/\w.heap[p.b]?=M (.map es a)/\yL I μ B es|.loop r=>∃p l,μ id=M p/\I p.b=J/\w.heap[p.b]?=M (.loop l)/\ze I μ r l
structure di(I:cG)(μ:Mu)(H:bl)(w:World):Prop where
 dom:∀id,H.length<=id->μ id=none
 imm:∀b x,I b=some x->x.at w b
 obs:∀id ob,H[id]?=some ob->vz I μ w id ob
 inj:∀id id' ob l? p p',H[id]?=some ob->H[id']?=some l?->ob.live=true->l?.live=true->μ id=some p->μ id'=some p'->p.b=p'.b->id=id'
 gl:xo I
def jy(μ:Mu)(H:bl)(b:Nat):Prop:=∃id p ob,H[id]?=M ob/\ob.live=U/\μ id=M p/\p.b=b
def Obj.nf(o:Obj):Prop:=∀c t fr,o=.cells c t fr->fr=(0,0)
def wE(c:Array V')(t:W'):Obj.nf (.cells c t):=λ_ _ _ h=>h?
def uK{o:Obj}(h:(match o with|.cells ..=>O|_=>U)=U):Obj.nf o:=λc t fr e=>h?
theorem Gn{w w':World}{o:Obj}{b:Nat}(B:Obj.nf o)(d:w'.heap[b]?=M o)(D:∀k,k≠b->w'.heap[k]?=w.heap[k]?)(a:Addr)(h:w.frozen? a=O):w'.frozen? a=O:=by by_cases e:a.block=b;unfold v';rw[e,d];split;rename_i c t f g u;cases u;have:=B _ _ _ Y;grind;rfl;grind[v']
structure yQ(w w':World):Prop where
 out:w'.output=w.output
 tape:w'.tape=w.tape
 dr:w.drawn<=w'.drawn
def yQ.refl(w:World):yQ w w:=⟨Y,Y,y? _⟩
def yQ.trans{w w' w'':World}(h:yQ w w')(B:yQ w' w''):yQ w w'':=⟨B.out.trans h.out,B.tape.trans h.tape,W? h.dr B.dr⟩
structure Step(I:cG)(μ:Mu)(H:bl)(w:World)(I':cG)(μ':Mu)(H':bl)(w':World):Prop where
 le:cG.le I I'
 mu:Mu.le μ μ'
 len:H.length<=H'.length
 size:w.heap.size<=w'.heap.size
 frame:∀b,b<w.heap.size->¬jy μ H b->w'.heap[b]?=w.heap[b]?
 terr:∀b,((I' b).isSome=true\/jy μ' H' b)->(I b).isSome=true\/jy μ H b\/w.heap.size<=b
 os:w'.os=w.os
 out:yQ w w'
 fz:∀a:Addr,a.block<w.heap.size->w.frozen? a=false->w'.frozen? a=false
section
variable{I I' I'':cG}{μ μ' μ'':Mu}{H H' H'':bl}{w w' w'':World}{P:Program}{E:Env}{n:Nat}{F:WP}{a:Act}
def IC.yW{x:IC}{b:Nat}(h:x.at w b):b<w.heap.size:=by cases x with|cells c=>have⟨_,_,h⟩:=h;grind|map es=>have⟨_,h⟩:=h;grind
def IC.u9{x:IC}{b:Nat}(h:x.at w b)(e:w'.heap[b]?=w.heap[b]?):x.at w' b:=by cases x with|cells c=>have⟨el,fr,h⟩:=h;exact⟨el,fr,h?⟩|map es=>have⟨a,h⟩:=h;exact⟨a,h?⟩
def Step.refl(I:cG)(μ:Mu)(H:bl)(w:World):Step I μ H w I μ H w:=⟨cG.le_refl _,Mu.le_refl _,y? _,y? _,λ_ _ _=>rfl,λ_ h=>h.elim .inl λh=>.inr (.inl h),Y,.refl _,λ_ _ h=>h⟩
theorem ir(s:di I μ H w){b:Nat}(h:jy μ H b):I b=J:=by obtain⟨id,p,ob,h1,C,D,rfl⟩:=h;have:=s.obs id ob h1;cases ob with|row es G=>have⟨q,c,el,u,z,_⟩:=this;grind|map B=>have⟨q,c,el,u,z,_⟩:=this;grind|loop r=>have⟨q,c,u,z,_⟩:=this;grind|_=>grind[Ob.live]
theorem p9(s:di I μ H w){b:Nat}(h:jy μ H b):b<w.heap.size:=by obtain⟨id,p,ob,h1,D,G,rfl⟩:=h;have:=s.obs id ob h1;cases ob with|row es g=>have⟨q,c,el,u,z,B,_⟩:=this;grind|map C=>have⟨q,c,el,u,z,B,_⟩:=this;grind|loop r=>have⟨q,c,u,z,B,_⟩:=this;grind|_=>grind[Ob.live]
theorem Step.trans(D:di I' μ' H' w')(c:Step I μ H w I' μ' H' w')(B:Step I' μ' H' w' I'' μ'' H'' w''):Step I μ H w I'' μ'' H'' w'' where
 fz:=λa u h=>B.fz a (Nat.lt_of_lt_of_le u c.size) (c.fz a u h)
 le:=cG.le_trans c.le B.le
 mu:=λid p h=>B.mu id p (c.mu id p h)
 len:=W? c.len B.len
 size:=W? c.size B.size
 frame:=by intro b u C;rw[B.frame b (Nat.lt_of_lt_of_le u c.size) ?_,c.frame b u C];intro z;rcases c.terr b (.inr z)with h|h|h;have:=ir D z;have⟨x,G⟩:=isSome_iff_exists.1 h;rw[c.le _ _ G]at this;simp_all;all_goals grind
 terr:=by intro b h;rcases B.terr b h with h|h|h;exact c.terr b (.inl h);exact c.terr b (.inr h);exact .inr (.inr (W? c.size h))
 os:=B.os.trans c.os
 out:=c.out.trans B.out
def iJ.mono(h:cG.le I I')(B:Mu.le μ μ'){p:Pl}{c:Array V'}{es:Nat}{xs:S'}(r:iJ I μ p c es xs):iJ I' μ' p c es xs:=⟨r.es_eq,r.sz,r.sq,r.one,r.room,r.rel.mono h B⟩
def yL.mono(h:cG.le I I')(D:Mu.le μ μ'){B:aX (V×V)}{es:Array MapEntry}(r:yL I μ B es):yL I' μ' B es:=⟨r.1,λj q e a b=>⟨(r.2 j q e a b).1.mono h D,(r.2 j q e a b).2.mono h D⟩⟩
def ze.mono(h:cG.le I I')(B:Mu.le μ μ'){r:yZ}{l:Loop}(x:ze I μ r l):ze I' μ' r l:=⟨x.st,x.pend,x.pendOk,x.frame.mono h B,x.params,x.assign,x.body⟩
def vz.mono(h:cG.le I I')(B:Mu.le μ μ'){id:Nat}{ob:Ob}(r:vz I μ w id ob)
 (D:∀p,μ id=M p->ob.live=U->w'.heap[p.b]?=w.heap[p.b]?/\I' p.b=J)(G:ob=.free->μ' id=J):vz I' μ' w' id ob:=by
 cases ob with
 |free=>exact G Y|dead=>trivial|row es g=>have⟨p,c,el,a,z,C,u⟩:=r;have⟨g1,g2⟩:=D p a Y;exact⟨p,c,el,B _ _ a,g2,h?,u.mono h B⟩|frz es g=>have⟨p,c,a,z,u⟩:=r;exact⟨p,c,B _ _ a,h _ _ z,u.mono h B⟩|map L=>have⟨p,es,b,a,z,C,u⟩:=r;have⟨g1,g2⟩:=D p a Y;exact⟨p,es,b,B _ _ a,g2,h?,u.mono h B⟩|loop x=>have⟨p,l,a,z,C,u⟩:=r;have⟨g1,g2⟩:=D p a Y;exact⟨p,l,B _ _ a,g2,h?,u.mono h B⟩
def di.rO(s:di I μ H w)(e:w'.heap=w.heap):di I μ H w' where
 dom:=s.dom
 imm:=λb x h=>IC.u9 (s.imm b x h) (by rw[e])
 obs:=λid ob h=>(s.obs id ob h).mono (cG.le_refl _) (Mu.le_refl _) (λp u z=>⟨by rw[e],ir s ⟨id,p,ob,h,z,u,Y⟩⟩) (λB=>by subst B;exact s.obs id _ h)
 inj:=s.inj
 gl:=s.gl
def Step.rO(e:w'.heap=w.heap)(c:w'.os=w.os)(B:yQ w w'):Step I μ H w I μ H w':=⟨cG.le_refl _,Mu.le_refl _,y? _,h?,λ_ _ _=>by rw[e],λb h=>h.elim .inl λh=>.inr (.inl h),c,B,λa _ h=>by grind[v']⟩
def Mu.gD(μ:Mu)(k:Nat)(p:Pl):Mu:=λid=>if id=k then M p else μ id
theorem Mu.iD(μ:Mu)(k:Nat)(p:Pl):μ.gD k p k=M p:=by simp[Mu.gD]
theorem Mu.j8(μ:Mu){k id:Nat}(p:Pl)(h:id≠k):μ.gD k p id=μ id:=by grind[Mu.gD]
def Mu.tO{k:Nat}{p:Pl}(h:μ k=J):Mu.le μ (μ.gD k p):=by intro id q u;grind[Mu.j8]
theorem pN(o:Obj)(b:Nat)(h:b<w.heap.size):(w.alloc o).heap[b]?=w.heap[b]?:=by show(w.heap.push o)[b]?=_;grind
def pQ(o:Obj):(w.alloc o).heap[w.heap.size]?=M o:=by show(w.heap.push o)[w.heap.size]?=_;simp
def TQ{o:Obj}(B:Obj.nf o)(a:Addr)(h:w.frozen? a=O):(w.alloc o).frozen? a=O:=
 Gn B (pQ o) (λk b=>by
  by_cases u:k<w.heap.size
  .grind[pN]
  show(w.heap.push o)[k]?=_
  grind) a h
def di.place(s:di I μ H w){k:Nat}{ob:Ob}{o:Obj}{p:Pl}(c:μ k=J)(G:_l H<=_l H')(j:k<_l H')
 (l:∀id,id≠k->H'[id]?=M .free\/H'[id]?=H[id]?)(T:∀id,id≠k->H'[id]?=M .free->μ id=J)(m:H'[k]?=M ob)(hp:p.b=w.heap.size)
 (n:vz I (μ.gD k p) (w.alloc o) k ob)(d:Obj.nf o):di I (μ.gD k p) H' (w.alloc o)/\Step I μ H w I (μ.gD k p) H' (w.alloc o):=by
 have f:∀b x,I b=M x->b<w.heap.size:=λb x h=>IC.yW (s.imm b x h)
 have z:∀id u,id≠k->H'[id]?=M u->u≠.free->H[id]?=M u:=by grind
 have L:∀b,jy (μ.gD k p) H' b->jy μ H b\/b=w.heap.size:=by rintro b ⟨id,q,u,h1,a__,S,rfl⟩;by_cases e:id=k;grind[Mu.iD];rw[Mu.j8 _ _ e]at S;exact .inl ⟨id,q,u,z id u e h1 h?,a__,S,_k⟩
 refine⟨⟨?_,?_,?_,?_,s.gl⟩,⟨cG.le_refl _,Mu.tO c,G,f?,?_,?_,_k,⟨_k,_k,y? _⟩,λa _=>Gn (b:=w.heap.size) d (pQ o) (λk c=>?_) a⟩⟩
 .intro id h;rw[Mu.j8 _ _ c?]
  exact s.dom id c?
 .intro b x h;exact IC.u9 (s.imm b x h) (pN o b (f b x h))
 .intro id u h
  by_cases e:id=k
  .grind
  by_cases Q:u=.free
  .subst Q;show(μ.gD k p) id=J;rw[Mu.j8 _ _ e];grind
  have A:=z id u e h Q;refine(s.obs id u A).mono (cG.le_refl _) (Mu.tO c) (λq g W=>?_) (λi=>_e i Q)
  have r:jy μ H q.b:=⟨id,q,u,A,W,g,_k⟩
  grind[pN,p9,ir]
 .intro id B o1 o2 q X h1 a__ Y Z C D hb
  by_cases e:id=k<;>by_cases y:B=k
  .simp_all
  .subst e;rw[Mu.iD]at C;cases C;rw[Mu.j8 _ _ y]at D;have:=p9 s ⟨B,X,o2,z B o2 y a__ h?,Z,D,_k⟩
   omega
  .subst y;rw[Mu.iD]at D;cases D;rw[Mu.j8 _ _ e]at C;have:=p9 s ⟨id,q,o1,z id o1 e h1 h?,Y,C,_k⟩
   omega
  rw[Mu.j8 _ _ e]at C;rw[Mu.j8 _ _ y]at D;exact s.inj id B o1 o2 q X (z id o1 e h1 h?) (z B o2 y a__ h?) Y Z C D hb
 .grind[pN]
 .grind
 by_cases W:k<w.heap.size
 .grind[pN]
 show(w.heap.push o)[k]?=_;rw[Array.getElem?_eq_none (by simp;omega),Array.getElem?_eq_none c?]
def di.push(s:di I μ H w){ob:Ob}{o:Obj}{p:Pl}(hp:p.b=w.heap.size)(B:vz I (μ.gD (W H) p) (w.alloc o) (W H) ob)(D:Obj.nf o:=by first|exact wE _ _|exact uK rfl):
 di I (μ.gD (W H) p) (H++[ob]) (w.alloc o)/\Step I μ H w I (μ.gD (W H) p) (H++[ob]) (w.alloc o):=by
 refine s.place (s.dom _ (y? _)) f? f? (λid h=>.inr ?_) (λid h z=>?_) f? hp B D
 .grind
 by_cases u:id<(W H)
 .rw[List.getElem?_append_left u]at z;exact s.obs id _ z
 grind
theorem di.fill(s:di I μ H w){k:Nat}{ob:Ob}{o:Obj}{p:Pl}(a:H[k]?=M .free)(hp:p.b=w.heap.size)(B:vz I (μ.gD k p) (w.alloc o) k ob)(D:Obj.nf o:=by first|exact wE _ _|exact uK rfl):
 di I (μ.gD k p) (H.set k ob) (w.alloc o)/\Step I μ H w I (μ.gD k p) (H.set k ob) (w.alloc o):=by
 have z:=(ζe.1 a).1;refine s.place (s.obs k _ a) f? h? (λid h=>.inr ?_) (λid h u=>?_) p? hp B D
 .grind
 rw[F? (Ne.symm h)]at u;exact s.obs id _ u
def iF(w:World)(b:Nat)(o:Obj):World:={w with heap:=w.heap.setIfInBounds b o}
theorem je(o:Obj){b B:Nat}(h:B≠b):(iF w b o).heap[B]?=w.heap[B]?:=by grind[iF]
def kB(o:Obj){b:Nat}(h:b<w.heap.size):(iF w b o).heap[b]?=M o:=by grind[iF]
def zR(b:Nat)(o:Obj):(iF w b o).heap.size=w.heap.size:=by simp[iF]
def S5(b:Nat)(o B:Obj):iF (iF w b o) b B=iF w b B:=by simp[iF]
def acd{o:Obj}{b:Nat}(B:Obj.nf o)(a:Addr)(h:w.frozen? a=O):(iF w b o).frozen? a=O:=by grind[Gn,iF,v']
def di.write(s:di I μ H w){id:Nat}{ob l?:Ob}{o:Obj}{p:Pl}(B:H[id]?=M ob)(T:ob.live=U)(hp:μ id=M p)
 (A:vz I μ (iF w p.b o) id l?)(d:Obj.nf o:=by first|exact wE _ _|exact uK rfl):di I μ (H.set id l?) (iF w p.b o)/\Step I μ H w I μ (H.set id l?) (iF w p.b o):=by
 have C:jy μ H p.b:=⟨id,p,ob,B,T,hp,Y⟩;have u:∀k x,(H.set id l?)[k]?=M x->∃y,H[k]?=M y/\(x.live=U->y.live=U)/\(k≠id->y=x):=by grind
 have i:∀b,jy μ (H.set id l?) b->jy μ H b:=by rintro b ⟨k,q,x,c,L,X,rfl⟩;have⟨y,m,z,_⟩:=u k x c;exact⟨k,q,y,m,z L,X,Y⟩
 refine⟨⟨?_,?_,?_,?_,s.gl⟩,⟨cG.le_refl _,Mu.le_refl _,f?,by rw[zR];grind,?_,?_,Y,⟨Y,Y,y? _⟩,λa _=>Gn d (kB o (p9 s C)) (λk f=>je o f) a⟩⟩
 .intro k h;exact s.dom k h?
 .intro b x h;refine IC.u9 (s.imm b x h) (je o ?_)
  grind[ir]
 .intro k x h
  by_cases e:k=id
  .grind
  rw[F? (Ne.symm e)]at h;refine(s.obs k x h).mono (cG.le_refl _) (Mu.le_refl _) (λq j D=>⟨je o ?_,ir s ⟨k,q,x,h,D,j,Y⟩⟩) (λZ=>by subst Z;exact s.obs k _ h)
  intro Q;exact e (s.inj k id x ob q p h B D T j hp Q)
 .intro k W x x' q q' c L l1 l2 m1 m2 Q;have⟨y,m,z,_⟩:=u k x c;have⟨g,S,G,_⟩:=u W x' L;exact s.inj k W y g q q' m S (z l1) (G l2) m1 m2 Q
 all_goals grind[je]
def di.kill(s:di I μ H w){id:Nat}{ob:Ob}(B:H[id]?=M ob):di I μ (H.set id .dead) w/\Step I μ H w I μ (H.set id .dead) w:=by
 have C:=(ζe.1 B).1;have u:∀k x,(H.set id .dead)[k]?=M x->x.live=U->H[k]?=M x/\k≠id:=by grind[Ob.live]
 refine⟨⟨?_,s.imm,?_,?_,s.gl⟩,⟨cG.le_refl _,Mu.le_refl _,f?,y? _,λ_ _ _=>rfl,?_,Y,.refl _,λ_ _ h=>h⟩⟩;intro k h;exact s.dom k h?;intro k x h;by_cases e:k=id;subst e;rw[List.getElem?_set_self C]at h;cases h;trivial;rw[F? (Ne.symm e)]at h;exact s.obs k x h;intro k D x G q j a z g L Q S T;exact s.inj k D x G q j (u k x a g).1 (u D G z L).1 g L Q S T;rintro b (h|⟨k,q,x,a,z,i,rfl⟩);grind;exact .inr (.inl ⟨k,q,x,(u k x a z).1,z,i,Y⟩)
end
section
variable{P:Program}{E:Env}{I:cG}{μ:Mu}{H:bl}{n:Nat}{F:WP}{a:Act}{w:World}
theorem y8{b:Nat}{c:Array V'}{el:W'}{fr:Nat×Nat}(h:w.heap[b]?=M (.cells c el fr))(k:Nat):w.cell? ⟨b,k,J⟩=c[k]?:=by grind[cell?]
def Nx{b o:Nat}{c:Array V'}(d:∀k,w.cell? ⟨b,k,J⟩=c[k]?):∀(m i:Nat)(a:Array V'),o+i+m<=c.size->
 (loadCellsFrom ⟨b,o,J⟩ i m a).run P w=.ok (a++((c.toList.drop (o+i)).take m).toArray) w:=by
 intro m
 induction m with
 |zero=>simp_all[loadCellsFrom]|succ m z=>
  intro i a h;have u:o+i<c.size:=c?
  have e:w.cell? ⟨b,o+i,J⟩=M c[o+i]:=by rw[d];simp[u]
  simp only[loadCellsFrom,z?,sL,run_load,e,x?];rw[z (i+1) _ c?]
  simp_all[List.drop_eq_getElem_cons,m8]
theorem HZ{b o m:Nat}{c:Array V'}(a:∀k,w.cell? ⟨b,k,J⟩=c[k]?)(h:o+m<=c.size\/m=0):
 (loadCells ⟨b,o,J⟩ m).run P w=.ok ((c.toList.drop o).take m).toArray w:=by
 rcases h with h|h
 .have:=Nx (P:=P) a m 0 #[] (o:=o) c?
  grind[loadCells]
 simp_all[loadCells,loadCellsFrom]
theorem gX{es:Nat}{xs:S'}(a:∀x∈xs,W x=es):W xs.flatten=W xs*es:=by induction xs with|nil=>simp|cons x xs u=>grind
def H8{es:Nat}:∀{xs:S'}(_:∀x∈xs,W x=es){el:Nat}{cs:So},xs[el]?=M cs->(xs.flatten.drop (el*es)).take es=cs:=by intro xs;induction xs with|nil=>grind|cons x xs u=>intro a el cs h;have w:W x=es:=a x f?;cases el with|zero=>grind|succ el=>have:=u (λy z=>a y (B? _ z)) (el:=el) (cs:=cs) (by simpa using h);rw[List.flatten_cons,show(el+1)*es=W x+el*es by rw[w,p!];omega,<-D!];grind
def KD{es:Nat}:∀{xs:S'}(_:∀x∈xs,W x=es){el:Nat}(cs:So),el<W xs->W cs=es->
 (xs.set el cs).flatten=xs.flatten.take (el*es)++cs++xs.flatten.drop (el*es+es):=by
 intro xs
 induction xs with
 |nil=>grind|cons x xs u=>
  intro a el cs h b;have w:W x=es:=a x f?
  cases el with
  |zero=>simp[w]|succ el=>
   have:=u (λy z=>a y (B? _ z)) (el:=el) cs (by simpa using h) b
   grind[p!,List.take_append,List.drop_append,List.drop_eq_nil_of_le,Nat.add_sub_cancel_left]
def zA{es:Nat}{xs:S'}(a:∀x∈xs,W x=es){i j:Nat}{x:So}{y:V}(b:xs[i]?=M x)(B:x[j]?=M y):xs.flatten[i*es+j]?=M y:=by have:=H8 a b;grind
def iJ.elem{p:Pl}{c:Array V'}{es:Nat}{xs:S'}(r:iJ I μ p c es xs){el:Nat}{cs:So}(h:xs[el]?=M cs):
 cN I μ cs ((c.toList.drop (p.o+el*es)).take es)/\W cs=es/\p.o+el*es+es<=c.size:=by
 have u:=(ζe.1 h).1;have z:=r.sq cs (s? h);have a:=(r.rel.drop (el*es)).take es;rw[H8 r.sq h]at a;have B:el*es+es<=W xs*es:=by have:=b! es (show el+1<=W xs from u);rwa [p!,u0]at this
 have w:=r.room
 grind[i5,D!]
def iJ.span{p:Pl}{c:Array V'}{es:Nat}{xs:S'}(r:iJ I μ p c es xs){off len:Nat}(h:off+len<=W xs):
 cN I μ ((xs.drop off).take len).flatten ((c.toList.drop (p.o+off*es)).take (len*es))/\p.o+off*es+len*es<=c.size:=by
 have w:=r.room;have z:off*es+len*es<=W xs*es:=by rw[<-p!];exact b! _ h
 have e1:((xs.drop off).take len).flatten=(xs.flatten.drop (off*es)).take (len*es):=by have u:xs=xs.take off++((xs.drop off).take len++(xs.drop off).drop len):=(by rw[g!,g!]);have g1:W (xs.take off).flatten=off*es:=(by rw[gX (λx u=>r.sq x (Q? u))];rw[List.length_take,Nat.min_eq_left c?]);have g2:W ((xs.drop off).take len).flatten=len*es:=(by rw[gX (λx u=>r.sq x (x! (Q? u))),List.length_take,List.length_drop,Nat.min_eq_left c?]);have B:=_f List.flatten u;grind
 have a:=(r.rel.drop (off*es)).take (len*es);rw[e1]
 grind[i5,D!]
def K7{ob:Ob}{es:Nat}{xs:S'}(h:ob.rows=M (es,xs)):ob=.row es xs\/ob=.frz es xs:=by cases ob<;>simp_all [Ob.rows]
def di.rows(s:di I μ H w){id es:Nat}{xs:S'}(h:_n (H[id]?) Ob.rows=M (es,xs)):
 ∃p c,μ id=M p/\(∀k,w.cell? ⟨p.b,k,J⟩=c[k]?)/\iJ I μ p c es xs:=by
 have⟨ob,a,u⟩:=ζg.1 h;have:=s.obs id ob a;rcases K7 u with rfl|rfl
 .have⟨p,c,el,g1,_,g3,g4⟩:=this
  grind[y8]
 have⟨p,c,g1,g2,g4⟩:=this;have⟨el,fr,g3⟩:=s.imm _ _ g2
 grind[y8]
def UL(s:di I μ H w){p:V}{v:V'}(d:bM I μ p v){m:Nat}{cs:So}(h:fh H p m=M cs):
 ∃(b o:Nat)(c:Array V'),v=.pointer (M ⟨b,o,J⟩)/\(∀k,w.cell? ⟨b,k,J⟩=c[k]?)/\(o+m<=c.size\/m=0)/\cN I μ cs ((c.toList.drop o).take m):=by
 unfold fh at h;split at h
 .rename_i z;have⟨b,o,c,e,G,S,i⟩:=d.oD;have⟨el,fr,g⟩:=s.imm _ _ G;refine⟨b,o,c,e,y8 g,?_⟩;have A:cN I μ z ((c.toList.drop o).take (W z)):=by
   refine⟨by simp;omega,λj x y f L=>?_⟩
   have X:=(ζe.1 f).1;rw[D?,L' X,L?]at L;exact .c _ _ (i j x y f h?)
  rcases DR A h with⟨g1,g2,g3⟩|⟨g1,g2⟩
  .grind
  refine⟨.inr g1,?_⟩;rw[g2,g1];exact .nil
 .rename_i id el off;split at h
  .rename_i es z u;split at h
   .rename_i Q B;have⟨p,c,g1,g2,g3⟩:=s.rows u;have⟨q,C,e⟩:=d.wh;rw[g1]at C;cases C;refine⟨_,_,c,e,g2,?_⟩;have⟨k1,k2,k3⟩:=g3.elem B;rw[g3.es_eq];rcases DR k1 h with⟨a,D,T⟩|⟨a,D⟩
    .grind[i5,D!]
    refine⟨.inr a,?_⟩;rw[D,a];exact .nil
   simp at h
  simp at h
 simp at h
def Gu(D:eX P E)(s:di I μ H w){t:W'}{d:TD}(hd:E.tt t=M d){p x:V}{v:V'}(a:bM I μ p v)(h:_n (fh H p d.size) (mk d.agg)=M x):
 ∃u,(loadAt t v).run P w=.ok u w/\bM I μ x u/\∃G,v=.pointer (M G)/\(loadVar t G).run P w=.ok u w:=by
 have⟨cs,f,B⟩:=ζg.1 h;have⟨b,o,c,e,g1,g2,g3⟩:=UL s a f;have key:∃u,(loadVar t ⟨b,o,J⟩).run P w=.ok u w/\bM I μ x u:=by unfold loadVar;simp only[z?,(D.ty hd).Qz,x?];cases z:d.agg with|true=>rw[z]at B;refine⟨.agg ((c.toList.drop o).take d.size).toArray,?_,TT B h?⟩;simp only[N',z?,(D.ty hd).mw,x?,HZ g1 g2,N?]|false=>rw[z]at B;have⟨u,g,i⟩:=mk_one B g3;refine⟨u,?_,i⟩;have L:d.size≠0:=(by grind);have C:c[o]?=M u:=(by have:=_f (·[0]?) g;grind);simp_all
 grind[loadAt,w7]
def di.Lq(s:di I μ H w){b:Nat}{x:IC}(h:I b=M x):b<w.heap.size:=IC.yW (s.imm b x h)
def Y2{b es:Nat}{c:Array V'}{xs:S'}(h:cN I μ xs.flatten c.toList)(a:∀x∈xs,W x=es)(B:∀x∈xs,∀y∈x,V.one y=U):
 iJ I μ ⟨b,0,es,c.size⟩ c es xs:=by
 have u:W xs*es=c.size:=by rw[<-gX a,h.1];simp
 exact⟨Y,Y,a,B,by simp[u],by grind[List.take_of_length_le]⟩
structure XE(I:cG)(μ:Mu)(w:World)(ob:Ob)(m:Mk)(o:Obj)(p:Pl)(u:Value):Prop where
 b:p.b=w.heap.size
 live:ob.live=true
 nf:Obj.nf o
 len:∀es xs,ob=.row es xs->p.sz=xs.length*es
 rel:∀k,μ k=none->vz I (μ.gD k p) (w.alloc o) k ob/\bM I (μ.gD k p) (m.val k) u
def di.Bi(s:di I μ H w):I w.heap.size=J:=by cases h:I w.heap.size with|none=>rfl|some x=>have:=s.Lq h;omega
def Ac(s:di I μ H w){es:Nat}{xs:S'}{c:Array V'}{el:W'}{m:Mk}{u:V'}(h:cN I μ xs.flatten c.toList)(a:∀x∈xs,W x=es)
 (B:∀x∈xs,∀y∈x,V.one y=U)(d:∀k,bM I (μ.gD k ⟨w.heap.size,0,es,c.size⟩) (m.val k) u):XE I μ w (.row es xs) m (.cells c el) ⟨w.heap.size,0,es,c.size⟩ u where
 nf:=wE _ _
 b:=rfl
 live:=rfl
 len:=λz C e=>by cases e;rw[<-gX a,h.1];simp
 rel:=λk f=>⟨⟨_,c,el,Mu.iD _ _ _,s.Bi,pQ _,(Y2 h a B).mono (cG.le_refl _) (Mu.tO f)⟩,d k⟩
def ON(t:W')(v:V'):(newVar t v).run P w=.ok ⟨w.heap.size,0,J⟩ (w.alloc (.cells v.cells t)):=by simp[newVar,newRow]
def z8{z:So}{B:Array V'}(h:cN I μ z B.toList)(m:Nat):
 cN I μ (replicate m z).flatten (((Array.range (m*B.size)).map (λi=>B[i % B.size]!)).toList):=by
 have C:W z=B.size:=by simpa using h.1
 have c:∀x∈replicate m z,W x=W z:=λx g=>by rw[X? g]
 have w:=gX c;simp only[List.length_replicate]at w;refine⟨by rw[w,C];simp,λj x y a L=>?_⟩
 have G:=(ζe.1 a).1;rw[w]at G;have u:0<W z:=by grind
 have d:j / W z<m:=(Nat.div_lt_iff_lt_mul u).2 G;have b:j % W z<W z:=mod_lt _ u;have e1:=zA c (i:=j / W z) (j:=j % W z) (x:=z) (y:=z[j % W z]) (by simp[d]) (by simp[b])
 rw[Nat.mul_comm,Nat.div_add_mod]at e1;rw[e1]at a;cases a;have D:j % B.size<B.size:=by rw[<-C];exact b
 have e2:y=B[j % B.size]:=by grind
 rw[e2];exact h.2 (j % W z) _ _ (by simp[b]) (by rw[C];simp[D])
def JY{es:Nat}:∀(vs:aX (Nat×V))(xs ys:S'),(∀x∈xs,W x=es)->(∀x∈xs,∀y∈x,V.one y=U)->gB es xs vs=M ys->
 xk (λi=>M (i*es,es)) xs.flatten vs=M ys.flatten/\(∀x∈ys,W x=es)/\(∀x∈ys,∀y∈x,V.one y=U)/\W ys=W xs:=by
 intro vs
 induction vs with
 |nil=>intro xs ys a z h;simp only[gB,ζa]at h;subst h;exact⟨rfl,a,z,rfl⟩|cons v vs C=>
  intro xs ys a z h;have⟨i,v⟩:=v;simp only[gB]at h;split at h
  .rename_i hc;have⟨b,B,I⟩:=hc;have u:∀x∈xs.set i v.cells,W x=es:=λx D=>by
    grind
   have w:∀x∈xs.set i v.cells,∀y∈x,V.one y=U:=λx D=>by grind
   have⟨g1,g2,g3,g4⟩:=C _ ys u w h;refine⟨?_,g2,g3,h?⟩
   rw[KD a _ B b]at g1;have g:i*es+es<=W xs*es:=by have:=b! es (show i+1<=W xs from B);rwa [p!,u0]at this
   have G:=gX a
   grind[xk]
  simp at h
def ET(b__:eX P E)(r:eU I μ n F a.tmps)(s:di I μ H w)(o:Oper){ob:Ob}{m:Mk}(h:fG E F o.op=M (ob,m)):
 ∃x p u,(execOp a.eval o).run P w=.ok (.value u) (w.alloc x)/\XE I μ w ob m x p u:=by
 have⟨dst,op,ty,pos,after,j⟩:=o;simp only at h
 cases op with
 |alloc t=>
  simp only[fG,ζf,ζc]at h;obtain⟨d,hd,rfl,rfl⟩:=h;have⟨z,a__,b,T,Z⟩:=(b__.ty hd).GY;refine⟨.cells z.cells t,_,.pointer (M ⟨w.heap.size,0,J⟩),?_,Ac s h? (by simp[T]) h? (λk=>?_)⟩
  .simp_all[execOp,Instr.alloc,ON]
  have:=bM.hptr (I:=I) k 0 0 _ (Mu.iD μ k ⟨w.heap.size,0,d.size,z.cells.size⟩);simp only[z6,g']at this;exact this
 |box t x=>
  simp only[fG]at h;split at h
  .rename_i v hv;split at h
   .rename_i Z;simp only[ζa,ζc]at h;obtain⟨rfl,rfl⟩:=h;have b:=dI r hv;refine⟨.cells (a.eval x).cells t,_,.pointer (M ⟨w.heap.size,0,J⟩),?_,Ac s (by simpa using b.cells) f? h? (λk=>?_)⟩
    .simp_all[execOp,Instr.box,ON]
    have:=bM.hptr (I:=I) k 0 0 _ (Mu.iD μ k ⟨w.heap.size,0,_l v.cells,(a.eval x).cells.size⟩);simp only[z6,g']at this;exact this
   simp at h
  simp at h
 |makeSlice t l c=>
  simp only[fG]at h;split at h
  .rename_i e k1 ln k2 B g T hc;have⟨d,hd,L⟩:=gH g;have⟨f,V,c__,q⟩:=(b__.ty hd).dX;rw[L]at c__;have:=kZ c__;subst this;split at h
   .rename_i D C;split at h
    .rename_i d__;obtain⟨rfl,rfl,am,an,hm,ao⟩:=d__;simp only[ζa,ζc]at h;obtain⟨rfl,rfl⟩:=h;have⟨z,a__,b,Q,Z⟩:=(b__.ty C).GY;have⟨i,_,hi,aj,ap,_⟩:=(b__.ty C).info;have G:z.cells.size=D.size:=by have:=(b I μ).1;grind
     have ak:(0:Int)<=B:=c?
     have w1:i64.wrap ln=ln:=by grind[w?,IntKind.bits]
     have w2:i64.wrap B=B:=by grind[w?,IntKind.bits]
     have al:∀y:Int,0<=y->y<=2147483648->((i.bytes:Int)*y>2 ^ 48)=False:=by
      intro y aa hy;simp only[eq_iff_iff,iff_false,Int.not_lt,gt_iff_lt];have ab:(i.bytes:Int)<=4096:=c?
      calc (i.bytes:Int)*y<=4096*2147483648:=Int.mul_le_mul ab hy aa c?
       _<=2 ^ 48:=by decide
     have W:(Instr.makeSlice t (.int N ln) (.int N B)).run P w=
      .ok (.slice (M ⟨w.heap.size,0,J⟩) ln.toNat B.toNat) (w.alloc (.cells ((Array.range (B.toNat*z.cells.size)).map (λi=>z.cells[i % z.cells.size]!)) e)):=by
      unfold Instr.makeSlice;have t1:(_r (B<0)||decide ((i.bytes:Int)*B>2 ^ 48))=O:=by
       rw[Bool.or_eq_false_iff]
       grind
      have q1:(((_r (B<0)||decide ((i.bytes:Int)*B>2 ^ 48))||decide (ln<0))||decide (ln>B))=O:=by rw[t1];simp;omega
      simp only[z?,q,x?,asInt,n9,N?,rE hi,w1,w2,q1,v?,_a,run_askRoom,(b__.ty C).mw];rw[G]
      by_cases Y:B.toNat*D.size=0
      .have K:Array.range 0=(#[]:Array Nat):=rfl;simp[Y,newRow,K]
      simp_all[newRow]
     refine⟨.cells ((Array.range (B.toNat*z.cells.size)).map (λi=>z.cells[i % z.cells.size]!)) e,_,.slice (M ⟨w.heap.size,0,J⟩) ln.toNat B.toNat,?_,Ac s (z8 (b I μ) B.toNat) (λx S=>by rw[X? S,Q]) (λx S=>by rw[X? S];grind) (λk=>?_)⟩
     .simp only[execOp];refine h_ ?_;rw[(dI r T).gE,(dI r hc).gE];exact W
     have:=bM.hsl (I:=I) (μ:=μ.gD k ⟨w.heap.size,0,D.size,((Array.range (B.toNat*z.cells.size)).map (λi=>z.cells[i % z.cells.size]!)).size⟩) k 0 ln.toNat B.toNat _ (Mu.iD _ _ _) c? (by simp[G])
     grind[Mk.val]
    simp at h
   simp at h
  simp at h
 |buildSlice t len ps=>
  simp only[fG]at h;split at h
  .rename_i e vs g ad;have⟨d,hd,L⟩:=gH g;have⟨f,V,c__,q⟩:=(b__.ty hd).dX;rw[L]at c__;have:=kZ c__;subst this;split at h
   .rename_i D C;split at h
    .rename_i ae;simp only[ζf,ζc]at h;obtain⟨ys,af,rfl,rfl⟩:=h;have⟨z,a__,b,Q,Z⟩:=(b__.ty C).GY;have G:z.cells.size=D.size:=by have:=(b I μ).1;grind
     have⟨T,ah⟩:=IK r ad;have⟨g1,g2,g3,g4⟩:=JY vs _ ys (λx S=>by rw[X? S,Q]) (λx S=>by rw[X? S];grind) af
     have⟨A,e__,R⟩:=E8 (place':=λi=>M (i*D.size,D.size)) (λi p hp=>hp) vs _ _ _ ((Array.range (len*z.cells.size)).map (λi=>z.cells[i % z.cells.size]!)) T ah (z8 (b I μ) len) g1
     have X:A.size=len*D.size:=by
      have e1:=R.1;rw[gX g2,g4]at e1
      grind
     refine⟨.cells A e,_,.slice (M ⟨w.heap.size,0,J⟩) len len,?_,Ac s R g2 g3 (λk=>?_)⟩
     .simp only[execOp];refine h_ ?_;unfold Instr.buildSlice;have ai:¬(len*D.size>2 ^ 24):=by omega
      simp only[z?,q,x?,(b__.ty C).mw,M' ai]
      by_cases Y:len*D.size=0
      .have e0:(Array.range (len*z.cells.size)).map (λi=>z.cells[i % z.cells.size]!)=#[]:=by rw[G,Y];simp
       rw[e0]at e__;have K:Array.range 0=(#[]:Array Nat):=rfl;simp only[Y,N',N?,x?,K,Array.map_empty];rw[e__];simp[newRow]
      simp_all[newRow]
     have:=bM.hsl (I:=I) (μ:=μ.gD k ⟨w.heap.size,0,D.size,A.size⟩) k 0 len len _ (Mu.iD _ _ _) (y? _) (by simp[X])
     grind[Mk.val]
    simp at h
   simp at h
  simp at h
 |makeMap t r=>
  cases r with
  |none=>
   simp only[fG,ζa,ζc]at h;obtain⟨rfl,rfl⟩:=h;refine⟨.map #[] 0,⟨w.heap.size,0,0,0⟩,.map (M w.heap.size),?_,⟨_k,_k,uK _k,λ_ _ e=>(nomatch e),λk g=>⟨⟨_,#[],0,Mu.iD _ _ _,s.Bi,pQ _,_k,f?⟩,?_⟩⟩⟩
   .simp_all[execOp,Instr.makeMap]
   exact bM.hmap (I:=I) k ⟨w.heap.size,0,0,0⟩ (Mu.iD _ _ _)
  |some x=>grind[fG]
 |_=>simp[fG]at h
end
section
variable{P:Program}{E:Env}{I:cG}{μ:Mu}{H H':bl}{n:Nat}{F:WP}{a:Act}{w:World}
def bM.one{x:V}{v:V'}(h:bM I μ x v)(B:x.one=U):v.oneCell'=U:=by
 cases h with
 |c _ _ h=>cases h<;>first|rfl|grind[V.one]
 |agg=>grind[V.one]|tup=>grind[V.one]|_=>rfl
def cN.WK{xs:So}{vs:aX V'}(h:cN I μ xs vs)(B:∀x∈xs,V.one x=U):∀v∈vs,v.oneCell'=U:=by
 intro v a;obtain⟨j,w,rfl⟩:=List.mem_iff_getElem.1 a;have u:j<W xs:=by rw[h.1];exact w
 exact(h.2 j xs[j] vs[j] (by simp[u]) (by simp[w])).one (B _ (List.getElem_mem u))
def TR{b:Nat}{o:Obj}(h:w.heap[b]?=M o):iF w b o=w:=by
 unfold iF;have:w.heap.setIfInBounds b o=w.heap:=by grind
 rw[this]
def Mf{b o:Nat}{c:Array V'}{el:W'}{v:V'}(h:w.heap[b]?=M (.cells c el)):
 w.setCell ⟨b,o,J⟩ v=iF w b (.cells (c.setIfInBounds o v) el):=by
 unfold World.setCell iF
 congr 1
 grind
def yz{b o:Nat}{el:W'}:∀(vs:aX V')(i:Nat)(w:World)(c:Array V'),w.heap[b]?=M (.cells c el)->(∀v∈vs,v.oneCell'=U)->o+i+W vs<=c.size->
 ∃c',(storeCells ⟨b,o,J⟩ vs i).run P w=.ok () (iF w b (.cells c' el))/\c'.toList=c.toList.take (o+i)++vs++c.toList.drop (o+i+W vs):=by
 intro vs
 induction vs with
 |nil=>simp_all[storeCells,TR]|cons v vs D=>
  intro i w c h C G;simp only[List.length_cons]at G;have z:o+i<c.size:=c?
  have u:w.cell? ⟨b,o+i,J⟩=M c[o+i]:=by rw[y8 h];simp[z]
  have B:w.frozen? ⟨b,o+i,J⟩=O:=by grind[v']
  have I:=(Array.getElem?_eq_some_iff.1 h).1;have⟨c',g1,g2⟩:=D (i+1) (iF w b (.cells (c.setIfInBounds (o+i) v) el)) (c.setIfInBounds (o+i) v) (kB _ I) (λx g=>C x (B? _ g)) (by simp;omega)
  refine⟨c',?_,?_⟩
  .simp only[storeCells,z?,sL,run_store P w _ v _ (C v f?),u,B,v?,_a,x?,Mf h]
   rw[g1,S5]
  grind[List.take_succ_eq_append_getElem,List.take_set_of_le,List.drop_set_of_lt]
structure E4(P:Program)(I:cG)(μ:Mu)(H:bl)(w:World)(s:Sem Next)(x:V)(H':bl):Prop where
 run:∃nx u w' μ',s.run P w=.ok nx w'/\(nx=.value u\/(nx=.skip/\u=undef))/\bM I μ' x u/\di I μ' H' w'/\Step I μ H w I μ' H' w'
def EB{α:Type}(L vs:aX α)(o m k:Nat)(D:o+m<=W L)(a:k+W vs<=m):
 ((L.take (o+k)++vs++L.drop (o+k+W vs)).drop o).take m=((L.drop o).take m).take k++vs++((L.drop o).take m).drop (k+W vs):=by
 obtain⟨A,B,C,rfl,u,w⟩:∃A B C:aX α,L=A++(B++C)/\W A=o/\W B=m:=⟨L.take o,(L.drop o).take m,(L.drop o).drop m,by rw[g!,g!],by simp;omega,by simp;omega⟩
 subst u;subst w;have e1:(A++(B++C)).take (W A+k)=A++B.take k:=by rw[List.take_append,List.take_of_length_le c?,Nat.add_sub_cancel_left,List.take_append_of_le_length c?]
 have e2:(A++(B++C)).drop (W A+k+W vs)=B.drop (k+W vs)++C:=by rw[List.drop_append,List.drop_eq_nil_of_le c?,List.nil_append,List.drop_append_of_le_length c?];grind
 have e3:((A++(B++C)).drop (W A)).take (W B)=B:=f?
 rw[e1,e2,e3];simp only[List.append_assoc,List.drop_left];have z:W (B.take k++(vs++B.drop (k+W vs)))=W B:=by simp;omega
 grind
def iJ.splice{p:Pl}{c c':Array V'}{es el off:Nat}{xs:S'}{cs ys:So}{vs:aX V'}(r:iJ I μ p c es xs)(B:xs[el]?=M cs)(T:cN I μ ys vs)
 (m:∀y∈ys,V.one y=U)(o:off+W ys<=W cs)(a:c'.toList=c.toList.take (p.o+el*es+off)++vs++c.toList.drop (p.o+el*es+off+W vs)):
 iJ I μ p c' es (xs.set el (cs.take off++ys++cs.drop (off+W ys))):=by
 have⟨k1,k2,k3⟩:=r.elem B;have z:=(ζe.1 B).1;have g:=T.1;have L:=r.room;have X:el*es+es<=W xs*es:=by have:=b! es (show el+1<=W xs from z);rwa [p!,u0]at this
 have C:c'.size=c.size:=by have:=_f length a;grind
 have j:W (cs.take off++ys++cs.drop (off+W ys))=es:=by simp;omega
 have u:∀x∈xs.set el (cs.take off++ys++cs.drop (off+W ys)),x∈xs\/x=cs.take off++ys++cs.drop (off+W ys):=λx D=>List.mem_or_eq_of_mem_set D
 refine⟨r.es_eq,by rw[C];exact r.sz,?_,?_,by rw[C];grind,?_⟩
 .intro x D;rcases u x D with h|h
  .exact r.sq x h
  grind
 .intro x D y G;rcases u x D with h|h
  .exact r.one x h y G
  rw[h]at G;have S:=r.one cs (s? B)
  grind
 rw[KD r.sq _ z j,a,List.length_set];have w:=r.rel;have Q:=H8 r.sq B;have e:List.take (W xs*es) (List.drop p.o (List.take (p.o+el*es+off) c.toList++vs++List.drop (p.o+el*es+off+W vs) c.toList))=
  (((c.toList.drop p.o).take (W xs*es)).take (el*es+off))++vs++(((c.toList.drop p.o).take (W xs*es)).drop (el*es+off+W vs)):=by
  have:=EB c.toList vs p.o (W xs*es) (el*es+off) h? c?
  grind
 rw[e];have e2:xs.flatten.take (el*es)++(cs.take off++ys++cs.drop (off+W ys))++xs.flatten.drop (el*es+es)=
  xs.flatten.take (el*es+off)++ys++xs.flatten.drop (el*es+off+W ys):=by
  have i:=gX r.sq;have b:xs.flatten.take (el*es+off)=xs.flatten.take (el*es)++cs.take off:=by rw[<-Q,List.take_add,List.take_take,Nat.min_eq_left c?]
  grind[i5,D!,g!]
 rw[e2,<-g];exact((w.take _).append T).append (w.drop _)
def V4(T:eX P E)(r:eU I μ n F a.tmps)(s:di I μ H w){t:W'}{p q:UV}{x:V}(h:cH E F H (.store t p q)=M (x,H')):
 E4 P I μ H w (do storeAt t (a.eval p) (a.eval q);pure .skip) x H':=by
 simp only[cH]at h;split at h
 .rename_i d id el off v hd Q S;split at h
  .rename_i es m z;split at h
   .rename_i cs B;split at h
    .rename_i hc;have⟨A,W,X⟩:=hc;simp only[ζa,ζc]at h;obtain⟨rfl,rfl⟩:=h;have⟨pl,c,ty,g1,g2,g3,g4⟩:=s.obs id _ z;have⟨Y,L,e⟩:=(dI r Q).wh;rw[g1]at L;cases L;have u:=(dI r S).cells;have a__:∀y∈v.cells,V.one y=U:=by grind
     have⟨k1,k2,k3⟩:=g4.elem B;have Z:=u.1;have b:pl.o+el*es+off+0+_l (a.eval q).cells.toList<=c.size:=c?
     have⟨c',f,j⟩:=yz (P:=P) (o:=pl.o+el*es+off) (a.eval q).cells.toList 0 w c g3 (u.WK a__) b;have C:iJ I μ pl c' es (m.set el (cs.take off++v.cells++cs.drop (off+_l v.cells))):=g4.splice B u a__ c? h?
     have D:=(Array.getElem?_eq_some_iff.1 g3).1;have⟨g,i⟩:=s.write (l?:=.row es (m.set el (cs.take off++v.cells++cs.drop (off+_l v.cells)))) (o:=.cells c' ty) z _k g1
      ⟨pl,c',ty,g1,g2,kB _ D,C⟩
     refine⟨.skip,undef,_,μ,?_,.inr ⟨_k,_k⟩,.undef I μ,g,i⟩;rw[e];have G:¬((a.eval q).cells.size≠d.size):=h?
     rw[g4.es_eq];unfold storeAt storeVar;simp only[z?,w7,N?,x?,(T.ty hd).mw,M' G,f]
    simp at h
   simp at h
  simp at h
 simp at h
def Cw(s:di I μ H w){x:V}{v:V'}(T:bM I μ x v){es:Nat}{ys:S'}(h:dO H es x=M ys):
 ∃B a arr,v=.slice B (_l ys) a/\_l ys<=a/\(∀G:World,G.heap=w.heap->(A! es (_l ys) v).run P G=.ok arr G)/\cN I μ ys.flatten arr.toList/\(∀y∈ys,_l y=es)/\
  (∀y∈ys,∀z∈y,V.one z=U):=by
 have C:∀(B:aY Addr)(a:Nat)(G:World),G.heap=w.heap->(A! es 0 (.slice B 0 a)).run P G=.ok #[] G:=by intro B a G _;cases B with|none=>rfl|some B=>simp[A!,loadCells,loadCellsFrom]
 cases x with
 |dH=>simp only[dO,ζa]at h;subst h;obtain⟨B,rfl⟩:=T.uP;exact⟨B,0,#[],rfl,y? _,C B 0,.nil,f?,f?⟩|bN=>simp only[dO,ζa]at h;subst h;rw[T.oq];exact⟨J,0,#[],rfl,y? _,C J 0,.nil,f?,f?⟩|fsl u L=>
  simp only[dO]at h;split at h
  .rename_i S;simp only[ζa]at h;subst h;subst S;have l:=T.ot
   cases l with
   |fsl0 _ B a=>exact⟨M B,a,#[],rfl,R? _,C (M B) a,.nil,f?,f?⟩|fsl _ _ b o a c hI k hu ho r hr=>
    have⟨el,fr,A⟩:=s.imm _ _ hI;refine⟨_,a,((c.toList.drop o).take (_l L*u)).toArray,_k,k,?_,?_,hu,ho⟩
    .grind[A!,HZ,y8]
    have b__:=gX hu;refine⟨h?,λj p q f m=>?_⟩
    have W:=(ζe.1 f).1;rw[b__]at W;have D:0<u:=by grind
    have d:j / u<_l L:=(Nat.div_lt_iff_lt_mul D).2 W;have X:j % u<u:=mod_lt _ D;have E:=hu _ (List.getElem_mem d);have e1:=zA hu (i:=j / u) (j:=j % u) (x:=L[j / u]) (y:=(L[j / u])[j % u]) (by simp[d]) h?
    have g:j / u*u+j % u=j:=by rw[Nat.mul_comm,Nat.div_add_mod]
    rw[g,f]at e1;cases e1;simp only[D?,L' W,L?]at m;refine .c _ _ (hr (j / u) (j % u) L[j / u] _ q (by simp[d]) h? ?_)
    rw[m8,g]
    grind
  simp at h
 |hsl id u off len=>
  simp only[dO]at h;split at h
  .rename_i S;subst S;split at h
   .rename_i c__ L Q;split at h
    .rename_i Y;simp only[ζa]at h;subst h;have⟨p,c,g1,g2,g3⟩:=s.rows Q;have a__:_l ((L.drop off).take len)=len:=by simp;omega
     rcases T.ou with⟨q,a,X,n,k,r,e⟩|⟨t,B,e⟩
     .rw[g1]at X;cases X;have D:c__=u:=by rw[<-g3.es_eq,n]
      subst D;have⟨k1,k2⟩:=g3.span Y;refine⟨_,a,((c.toList.drop (p.o+off*c__)).take (len*c__)).toArray,by rw[e,a__],c?,?_,h?,?_,?_⟩
      .grind[A!,HZ,cell?]
      .exact λy Z=>g3.sq y (x! (Q? Z))
      exactλy Z=>g3.one y (x! (Q? Z))
     subst t;simp only[List.take_zero]at a__⊢;exact⟨_,0,#[],by rw[e];rfl,y? _,by rw[e];grind,.nil,f?,f?⟩
    simp at h
   simp at h
  simp at h
 |_=>simp[dO]at h
def tG(z:Array V')(k:Nat):(y! z k).size=k*z.size:=by simp[y!]
def di.drew(s:di I μ H w):di I μ H w.drew:=s.rO Y
def D3(s:di I μ H w){es B:Nat}{xs ys:S'}{old new i?:Array V'}{el:W'}(h:cN I μ xs.flatten old.toList)(j:cN I μ ys.flatten new.toList)
 (g:∀x∈xs,W x=es)(T:∀x∈ys,W x=es)(m:∀x∈xs,∀y∈x,V.one y=U)(b:∀x∈ys,∀y∈x,V.one y=U)
 (D:W xs+W ys<=B)(a:i?.size=(B-(W xs+W ys))*es):
 ∃μ',bM I μ' (.hsl (W H) es 0 (W xs+W ys)) (.slice (M ⟨w.heap.size,0,J⟩) (W xs+W ys) B)/\di I μ' (H++[.row es (xs++ys)]) (w.alloc (.cells (old++new++i?) el))/\
  Step I μ H w I μ' (H++[.row es (xs++ys)]) (w.alloc (.cells (old++new++i?) el)):=by
 have L:=gX g;have i:=gX T;have u:=h.1;have z:=j.1;simp only[Array.length_toList]at u z;have Q:(old++new++i?).size=B*es:=by simp only[Array.size_append];rw[<-u,<-z,L,i,a,<-p!,<-p!];grind
 have C:(W xs+W ys)*es<=B*es:=b! _ D;rw[p!]at C;have G:iJ I μ ⟨w.heap.size,0,es,(old++new++i?).size⟩ (old++new++i?) es (xs++ys):=by refine⟨Y,Y,?_,?_,?_,?_⟩;grind;grind;rw[Q];simp_all[p!];have e:((old++new++i?).toList.drop 0).take (W (xs++ys)*es)=old.toList++new.toList:=(by grind[p!]);rw[e,Y!];exact h.append j
 have⟨S,X⟩:=s.push (ob:=.row es (xs++ys)) (o:=.cells (old++new++i?) el) (p:=⟨w.heap.size,0,es,(old++new++i?).size⟩) Y
  ⟨_,_,el,Mu.iD _ _ _,s.Bi,pQ _,G.mono (cG.le_refl _) (Mu.tO (s.dom _ (y? _)))⟩
 refine⟨_,?_,S,X⟩;have:=bM.hsl (I:=I) (W H) 0 (W xs+W ys) B _ (Mu.iD μ (W H) ⟨w.heap.size,0,es,(old++new++i?).size⟩) D h?
 grind
def QL(s:di I μ H w){id:Nat}{ob l?:Ob}{p p':Pl}{o:Obj}(B:H[id]?=M ob)(T:ob.live=U)(hp:μ id=M p)(i:p'.b=p.b)
 (W:vz I (μ.gD (_l H) p') (iF w p.b o) (_l H) l?)(l:Obj.nf o:=by first|exact wE _ _|exact uK rfl):di I (μ.gD (_l H) p') (H.set id .dead++[l?]) (iF w p.b o)/\Step I μ H w I (μ.gD (_l H) p') (H.set id .dead++[l?]) (iF w p.b o):=by
 have n:=(ζe.1 B).1;have G:jy μ H p.b:=⟨id,p,ob,B,T,hp,_k⟩;have c:=s.dom (_l H) (y? _);have u:∀k x,(H.set id .dead++[l?])[k]?=M x->(k=_l H/\x=l?)\/(k≠_l H/\k=id/\x=.dead)\/(k≠_l H/\k≠id/\H[k]?=M x):=by grind
 have L:∀b,jy (μ.gD (_l H) p') (H.set id .dead++[l?]) b->jy μ H b:=by rintro b ⟨k,q,x,d,a__,X,rfl⟩;rcases u k x d with⟨rfl,rfl⟩|⟨_,_,rfl⟩|⟨e,Q,h⟩;rw[Mu.iD]at X;grind;grind[Ob.live];rw[Mu.j8 _ _ e]at X;exact⟨k,q,x,h,a__,X,_k⟩
 refine⟨⟨?_,?_,?_,?_,s.gl⟩,⟨cG.le_refl _,Mu.tO c,f?,by rw[zR];grind,?_,?_,_k,⟨_k,_k,y? _⟩,λa _=>Gn (b:=p.b) l (kB o (p9 s G)) (λk c=>je o c) a⟩⟩
 .intro k h;simp at h;rw[Mu.j8 _ _ c?]
  exact s.dom k c?
 .intro b x h;refine IC.u9 (s.imm b x h) (je o ?_)
  grind[ir]
 .intro k x h;rcases u k x h with⟨rfl,rfl⟩|⟨_,_,rfl⟩|⟨e,Q,h⟩
  .exact W
  .trivial
  refine(s.obs k x h).mono (cG.le_refl _) (Mu.tO c) (λq Z y=>⟨je o ?_,ir s ⟨k,q,x,h,y,Z,_k⟩⟩) (λm=>?_)
  .intro Y;exact Q (s.inj k id x ob q p h B y T Z hp Y)
  subst m;rw[Mu.j8 _ _ e];exact s.obs k _ h
 .intro k S x A q q' d a__ l1 l2 C D z;rcases u k x d with⟨rfl,rfl⟩|⟨_,_,rfl⟩|⟨e,Q,h⟩
  .rcases u S A a__ with⟨rfl,rfl⟩|⟨_,_,rfl⟩|⟨f,j,g⟩
   .rfl
   .grind[Ob.live]
   rw[Mu.iD]at C;cases C;rw[Mu.j8 _ _ f]at D;exact _e (s.inj S id A ob q' p g B l2 T D hp (by rw[<-z,i])) j
  .grind[Ob.live]
  rcases u S A a__ with⟨rfl,rfl⟩|⟨_,_,rfl⟩|⟨f,j,g⟩
  .rw[Mu.iD]at D;cases D;rw[Mu.j8 _ _ e]at C;exact _e (s.inj k id x ob q p h B l1 T C hp (by rw[z,i])) Q
  .grind[Ob.live]
  rw[Mu.j8 _ _ e]at C;rw[Mu.j8 _ _ f]at D;exact s.inj k S x A q q' h g l1 l2 C D z
 .intro b _ hn;refine je o ?_
  grind
 grind
def FC(f:eX P E){t g e:W'}{d:TD}{D:TypeDesc}(h:P.underlying t=M (.slice e))(W:P.underlying g=M D)(Y:∃j,D=.slice j)(hd:E.tt e=M d)
 (A y:aY Addr)(sl sc B c:Nat)(new:Array V')(l:(A! d.size B (.slice y B c)).run P w=.ok new w)(ty:W'):
 (sl+B<=sc->∀w',(match A with|some b=>(storeCells (b.add (sl*d.size)) new.toList).run P w=.ok () w'|none=>w'=w)->
  (R! #[t,g] ty #[.slice A sl sc,.slice y B c]).run P w=.ok (.slice A (sl+B) sc) w')/\
 (sc<sl+B->sl+B<=2147483648->d.bytes<=4096->0<d.bytes->∀old,(∀T,T.heap=w.heap->(A! d.size sl (.slice A sl sc)).run P T=.ok old T)->
  (∀T,T.heap=w.heap->(A! d.size B (.slice y B c)).run P T=.ok new T)->
  ∃G i?,sl+B<=G/\i?.size=(G-(sl+B))*d.size/\
   (R! #[t,g] ty #[.slice A sl sc,.slice y B c]).run P w=.ok (.slice (M ⟨w.heap.size,0,J⟩) (sl+B) G) (w.drew.alloc (.cells (old++new++i?) e))):=by
 have⟨i,z,k,Z,n,o,L,p,_⟩:=(f.ty hd).info;have u:∀w,(zeroValue e).run P w=.ok z w:=λw=>by simp_all[zeroValue,rE]
 have a__:z.cells.size=d.size:=by have:=(L (λ_=>J) (λ_=>J)).1;grind
 obtain⟨j,rfl⟩:=Y;constructor
 .intro Q w' ai;unfold R!;simp only[z?,List.getElem?_toArray,List.getElem?_cons_zero,List.getElem?_cons_succ,dX h,dX W,x?,(f.ty hd).mw,N?,lenOf,v?,_a,Bool.not_false,N',L' Q,l]
  cases A with
  |none=>simp_all|some b=>simp_all
 intro S q r s old a C;have X:=nextslicecap_le S;have m:¬(W! (sl+B) sc*i.bytes>2 ^ 48):=by have:W! (sl+B) sc*i.bytes<=(2*2147483648)*4096:=x6 c? c?;omega
 have I:¬(sl+B<=sc):=c?
 refine⟨(P! (sl+B) sc e).cut (w.tape w.drawn (P! (sl+B) sc e)),y! z.cells (((P! (sl+B) sc e).cut (w.tape w.drawn (P! (sl+B) sc e)))-(sl+B)),?_,?_,?_⟩
 .simp[Question.cut]
 .rw[tG,a__]
 unfold R!;simp only[z?,List.getElem?_toArray,List.getElem?_cons_zero,List.getElem?_cons_succ,dX h,dX W,x?,(f.ty hd).mw,N?,lenOf,v?,_a,Bool.not_false,N',M' I,rE k];rw[M' h?]
 simp only[z?,rE k,M' m,run_choose,forced,v?,_a,x?,run_askRoom,u,newRow,run_newObj,N?];rw[a {w with drawn:=w.drawn+1} rfl];simp only[x?];rw[C {w with drawn:=w.drawn+1} rfl];rfl
def wrap_small{m:Nat}(h:m<=2147483648):i64.wrap (m:Int)=m:=by grind[w?,IntKind.bits]
def Ju(T:eX P E){t A e:W'}{d:TD}{kk k:T2}(Y:P.underlying t=M (.slice e))(G:P.underlying A=M (.int kk))(hd:E.tt e=M d)(ty:W')(m:Nat)(D:m<=2147483648):
 (m=0->(R! #[t,A] ty #[.slice J 0 0,.int k m]).run P w=.ok (.slice J 0 0) w)/\
 (0<m->d.bytes<=4096->0<d.bytes->∃B z i?,m<=B/\i?.size=(B-m)*d.size/\cN I μ d.zero z.toList/\
  (R! #[t,A] ty #[.slice J 0 0,.int k m]).run P w=.ok (.slice (M ⟨w.heap.size,0,J⟩) m B) (w.drew.alloc (.cells (#[]++y! z m++i?) e))):=by
 have⟨i,z,a,X,g,j,C,l,_⟩:=(T.ty hd).info;have u:∀w,(zeroValue e).run P w=.ok z w:=λw=>by simp_all[zeroValue,rE]
 have a__:z.cells.size=d.size:=by have:=(C (λ_=>J) (λ_=>J)).1;grind
 have b:=wrap_small D;constructor
 .rintro rfl;unfold R!;have Q:i64.wrap 0=0:=by omega
  simp[dX Y,dX G,(T.ty hd).mw,asInt,rE a,n9,Q]
 intro Z n o;have S:W! (0+m) 0<=2*(0+m):=nextslicecap_le c?
 have c:¬(W! (0+m) 0*i.bytes>2 ^ 48):=by have:W! (0+m) 0*i.bytes<=(2*2147483648)*4096:=x6 c? c?;omega
 have c0:¬(m*(i.bytes:Int)>2 ^ 48):=by have p:m*i.bytes<=2147483648*4096:=x6 D c?;grind
 have f:¬((0+m:Nat)>i64.max):=by have:i64.max=9223372036854775807:=(by rfl);omega
 have y:¬(0+m<=0):=c?
 have L:¬((m:Int)<0):=c?
 refine⟨(P! (0+m) 0 e).cut (w.tape w.drawn (P! (0+m) 0 e)),z.cells,y! z.cells (((P! (0+m) 0 e).cut (w.tape w.drawn (P! (0+m) 0 e)))-(0+m)),?_,?_,C _ _,?_⟩
 .simp[Question.cut]
 .rw[tG,a__,Nat.zero_add]
 unfold R!;have W:(if m*d.size=0 then pure #[]else do pure (y! (<-zeroValue e).cells m))=(do pure (y! (<-zeroValue e).cells m))\/(m*d.size=0/\y! z.cells m=#[]):=by by_cases h:m*d.size=0;all_goals simp_all[Array.eq_empty_of_size_eq_zero,tG]
 simp only[z?,List.getElem?_toArray,List.getElem?_cons_zero,List.getElem?_cons_succ,dX Y,dX G,x?,(T.ty hd).mw,N?,N',asInt,n9,b,M' L,rE a,M' c0,Int.toNat_natCast,M' y,_a];rw[M' (λh=>f h.1)]
 simp only[z?,rE a,M' c,run_choose,forced,x?,u,newRow,A!];rcases W with h|⟨h,q⟩
 all_goals simp_all
def RQ(g:eX P E)(r:eU I μ n F a.tmps)(s:di I μ H w){args:Array UV}{T:Array W'}{x:V}{ty:W'}
 (h:cH E F H (.call {callee:=.builtin .append,args,argTypes:=T})=M (x,H')):
 E4 P I μ H w (do let d<-resolve a.eval {callee:=.builtin .append,args,argTypes:=T} ty;invoke d.target d.args) x H':=by
 simp[cH]at h;split at h
 .rename_i t t' vs vx aQ ae;obtain⟨us,ux,Q,i,j⟩:=(qM r ae).two;split at h
  .rename_i e e' hk af;obtain⟨d0,ah,ai⟩:=gH hk;obtain⟨e__,R,h2,h3⟩:=(g.ty ah).dX;rw[ai]at h2;have:=kZ h2;subst this;obtain⟨d1,kE,S⟩:=gH af;obtain⟨aj,g1,g2,g3⟩:=(g.ty kE).dX;rw[S]at g2;have:=kZ g2;subst this;have C:∀v w',(R! #[t,t'] ty #[us,ux]).run P w=.ok v w'->
    (do let d<-resolve a.eval {callee:=.builtin .append,args,argTypes:=T} ty;invoke d.target d.args).run P w=.ok (.value v) w':=by
    simp[resolve,z?,N?,x?,invoke,builtin];rw[uU Q];have ea:T=#[t,t']:=h?
    simp_all
   split at h
   .rename_i d hd;split at h
    .
     rename_i xs B ak;obtain⟨ad,f,arr,e1,e2,e3,e4,_⟩:=Cw (P:=P) s i B;obtain⟨al,c__,D,a__,f2,A,l,_⟩:=Cw s j ak;simp at a__ A;have aR:D=#[]:=by have:=l.1;grind
     have A:=A w rfl;rw[a__]at A;have key:=(FC g R g1 ⟨_,rfl⟩ hd ad al xs.length f 0 c__ D A ty).1 c? w
      (by
       cases ad with
       |none=>rfl|some b=>simp_all[storeCells])
     rw[<-a__,<-e1,g',<-e1]at key;have am:x=vs/\H'=H:=by grind
     obtain⟨rfl,rfl⟩:=am;exact⟨_,us,w,μ,C _ _ key,.inl rfl,i,s,.refl _ _ _ _⟩
    .rename_i xs ys aT B ak;obtain⟨ad,f,arr,e1,e2,e3,e4,e5,e6⟩:=Cw s i B;obtain⟨al,c__,D,a__,f2,A,l,f5,f6⟩:=Cw s j ak;split at h
     .rename_i hc;obtain⟨av,an,ao⟩:=hc;have aD:0<ys.length:=by
       grind
      have key:=FC g R g1 ⟨_,rfl⟩ hd ad al xs.length f ys.length c__ D (by rw[<-a__];exact A w rfl) ty
      rw[<-a__,<-e1]at key;have L:f<xs.length+ys.length->∃G i?,xs.length+ys.length<=G/\i?.size=(G-(xs.length+ys.length))*d.size/\
       (R! #[t,t'] ty #[us,ux]).run P w=.ok (.slice (M ⟨w.heap.size,0,J⟩) (xs.length+ys.length) G) (w.drew.alloc (.cells (arr++D++i?) e)):=by
       intro ap;refine key.2 ap av an ao arr ?_ ?_
       .intro w2 aE;exact e3 w2 aE
       grind
      simp at h;obtain⟨H1,b__,rfl,rfl⟩:=h
      cases vs with
      |dH=>
       simp[iz]at b__;subst b__;simp[dO]at B;subst B;obtain⟨aF,q⟩:=i.uP;have aw:f=0:=by rw[q]at e1;cases e1;rfl
       obtain⟨G,i?,k1,k2,k3⟩:=L (by simp;omega)
       obtain⟨μ',m1,o,K⟩:=D3 s.drew e4 l e5 f5 e6 f6 k1 k2;refine⟨_,_,_,μ',C _ _ k3,.inl rfl,m1,o,?_⟩;exact Step.trans s.drew (Step.rO rfl rfl ⟨rfl,rfl,b5 _⟩) K
      |bN=>
       simp[iz]at b__;subst b__;simp[dO]at B;subst B;have q:=i.oq;have aw:f=0:=by rw[q]at e1;cases e1;rfl
       obtain⟨G,i?,k1,k2,k3⟩:=L (by simp;omega)
       obtain⟨μ',m1,o,K⟩:=D3 s.drew e4 l e5 f5 e6 f6 k1 k2;refine⟨_,_,_,μ',C _ _ k3,.inl rfl,m1,o,?_⟩;exact Step.trans s.drew (Step.rO rfl rfl ⟨rfl,rfl,b5 _⟩) K
      |hsl id es off len=>
       simp[iz]at b__;split at b__
       .rename_i u aG Z;simp at b__;subst b__;have ax:(H[id]?).bind Ob.rows=M (u,aG):=by rw[Z];rfl
        have aS:=B;simp only[dO]at B;split at B
        .rename_i aH;rw[ax]at B;simp only at B;split at B
         .rename_i aI;simp at B;obtain⟨p,c,ay,q1,q2,q3,q4⟩:=s.obs id _ Z;have W:xs.length=len:=by rw[<-B];simp;omega
          have aq:f<xs.length+ys.length->E4 P I μ H w (do let d<-resolve a.eval {callee:=.builtin .append,args,argTypes:=T} ty;invoke d.target d.args)
           (.hsl H.length d.size 0 (xs.length+ys.length)) (H.set id .dead++[.row d.size (xs++ys)]):=by
           intro ap;obtain⟨G,i?,k1,k2,k3⟩:=L ap;obtain⟨s1,s2⟩:=s.drew.kill Z;obtain⟨μ',m1,o,K⟩:=D3 s1 e4 l e5 f5 e6 f6 k1 k2;rw[List.length_set]at m1;exact⟨_,_,_,μ',C _ _ k3,.inl rfl,m1,o,Step.trans s.drew (Step.rO rfl rfl ⟨rfl,rfl,b5 _⟩) (Step.trans s1 s2 K)⟩
          rcases i.ou with⟨p',d__,hm,aJ,aU,aK,ee⟩|⟨h0,aF,ee⟩
          .rw[q1]at hm;cases hm;have ar:d__=f/\ad=M ⟨p.b,p.o+off*es,J⟩:=by rw[ee]at e1;grind
           obtain⟨rfl,rfl⟩:=ar
           by_cases ab:xs.length+ys.length<=d__
           .have aA:u=es:=by rw[<-q4.es_eq,aJ]
            subst aA;have X:=aH;obtain⟨r1,r2⟩:=q4.span aI;rw[B]at r1;have aa:=l.1;simp only[Array.length_toList]at aa;rw[gX f5]at aa;have aL:(len+ys.length)*u<=d__*u:=b! _ c?
            rw[p!]at aL;rw[p!]at aK;have aM:=q4.sz;rw[<-X]at aa;have au:p.o+off*u+len*u+0+D.toList.length<=c.size:=by simp;omega
            obtain⟨c',u1,u2⟩:=yz D.toList 0 w c q3 (l.WK (λx j=>by
             grind[m9])) au
            have aB:c'.size=c.size:=by have:=_f length u2;grind
            have aC:=key.1 ab (iF w p.b (.cells c' ay)) (by
             simp[sL,W];rw[<-X];exact u1)
            have Y:iJ I μ ⟨p.b,p.o+off*u,u,p.sz⟩ c' u (xs++ys):=by refine⟨rfl,by rw[aB];exact aM,?_,?_,?_,?_⟩;grind;grind;rw[aB,ζi,W,p!];grind;have e:(c'.toList.drop (p.o+off*u)).take ((xs++ys).length*u)=(c.toList.drop (p.o+off*u)).take (len*u)++D.toList:=(by rw[u2,ζi,W,p!,aa];simp only[g'];have aN:(List.take (p.o+off*u+len*u) c.toList).length=p.o+off*u+len*u:=(by simp;omega);rw[List.append_assoc,List.drop_append_of_le_length (by rw[aN];omega),i5,show p.o+off*u+len*u-(p.o+off*u)=len*u by omega];grind[List.take_left']);rw[e,Y!];exact r1.append l
            obtain⟨s1,s2⟩:=QL (l?:=.row u (xs++ys)) (p':=⟨p.b,p.o+off*u,u,p.sz⟩) s Z rfl q1 rfl
             ⟨_,c',ay,Mu.iD _ _ _,q2,kB _ (Array.getElem?_eq_some_iff.1 q3).1,Y.mono (cG.le_refl _) (Mu.tO (s.dom _ (y? _)))⟩
            rw[<-X];refine⟨_,_,_,_,C _ _ aC,.inl rfl,?_,s1,s2⟩;have:=bM.hsl (I:=I) H.length 0 (xs.length+ys.length) d__ _ (Mu.iD μ H.length ⟨p.b,p.o+off*u,u,p.sz⟩) ab (by simp;omega)
            grind
           grind
          grind
         grind
        grind
       grind
      |_=>simp[iz]at b__
     grind
    grind
   grind
  .
   rename_i e kk hk af;obtain⟨d0,ah,ai⟩:=gH hk;obtain⟨e__,R,h2,h3⟩:=(g.ty ah).dX;rw[ai]at h2;have:=kZ h2;subst this;obtain⟨d1,kE,S⟩:=gH af;obtain⟨aj,g1,g2,g3⟩:=(g.ty kE).dX;rw[S]at g2;have:=Gz g2;subst this;have C:∀v w',(R! #[t,t'] ty #[us,ux]).run P w=.ok v w'->
    (do let d<-resolve a.eval {callee:=.builtin .append,args,argTypes:=T} ty;invoke d.target d.args).run P w=.ok (.value v) w':=by
    intro v w' hv;simp[resolve,z?,N?,x?,invoke,builtin];rw[uU Q];have ea:T=#[t,t']:=h?
    rw[ea,hv];rfl
   split at h
   .rename_i d hd;unfold mkApp at h;split at h
    .rename_i k m;have q:=i.oq;subst q;have q:=j.gE;subst q;split at h
     .rename_i h0;subst h0;cases h;have key:=(Ju (μ:=μ) (I:=I) (w:=w) (k:=k) g R g1 hd ty 0 c?).1 rfl
      exact⟨_,_,w,μ,C _ _ key,.inl rfl,i,s,.refl _ _ _ _⟩
     split at h
     .rename_i hc;obtain⟨aO,av,an,ao⟩:=hc;cases h;obtain⟨m,rfl⟩:=Int.eq_ofNat_of_zero_le (Int.le_of_lt aO);obtain⟨G,z,i?,k1,k2,k3,k4⟩:=(Ju g R g1 hd ty m c?).2 c? an ao
      have aP:=(g.ty hd).info.choose_spec.choose_spec.2.2.2.2.2.1;have aV:=(g.ty hd).info.choose_spec.choose_spec.2.2.2.2.2.2.1;have hu:∀x∈replicate m d.zero,x.length=d.size:=λx j=>by rw[X? j];exact aP
      have ho:∀x∈replicate m d.zero,∀y∈x,V.one y=U:=λx j y hy=>by rw[X? j]at hy;grind
      obtain⟨μ',m1,o,K⟩:=D3 (xs:=[]) (ys:=replicate m d.zero) (old:=#[]) (new:=y! z m) (i?:=i?) s.drew .nil (z8 k3 m) f? hu f? ho (by simpa using k1) h?
      simp at m1 o K;refine⟨_,_,_,μ',C _ _ k4,.inl rfl,h?,by simpa using o,?_⟩
      exact Step.trans s.drew (Step.rO rfl rfl ⟨rfl,rfl,b5 _⟩) h?
     cases h
    cases h
   cases h
  grind
 grind
def C7{es:Nat}{xs:S'}(a:∀x∈xs,W x=es)(k:Nat)(b:k<=W xs):(xs.take k).flatten=xs.flatten.take (k*es)/\(xs.drop k).flatten=xs.flatten.drop (k*es):=by grind[g!,gX]
theorem Vo (hE:eX P E) (r:eU I μ n F a.tmps) (s:di I μ H w) {args:Array Operand} {D:Array TypeId} {x:V} {ty:TypeId}
 (h:cH E F H (.call { callee:=.builtin .clear,args,argTypes:=D })=some (x,H')) :
 E4 P I μ H w (do let d <-resolve a.eval { callee:=.builtin .clear,args,argTypes:=D } ty;invoke d.target d.args) x H':=by
 simp[cH]at h;split at h
 .rename_i t v ab L;obtain⟨u,hu,hr⟩:=(qM r L).one;split at h
  .rename_i e hk;obtain⟨d0,ae,af⟩:=gH hk;obtain⟨desc,h1,h2,h3⟩:=(hE.ty ae).dX;rw[af]at h2;have:=kZ h2;split at h
   .rename_i d hd;obtain⟨i,z,hi,an,ap,hz,S,ah,aq,_⟩:=(hE.ty hd).info;have ai:∀w,(zeroValue e).run P w=.ok z w:=λw=>by simp_all[zeroValue,rE]
    have aj:z.cells.size=d.size:=by have:=(S (λ_=>none) (λ_=>none)).1;grind
    have g:∀v w',(Builtin.clear_ D ty #[u]).run P w=.ok v w' ->
     (do let d <-resolve a.eval { callee:=.builtin .clear,args,argTypes:=D } ty;invoke d.target d.args).run P w=.ok (.value v) w':=by
     grind[resolve,Sem.run_bind,Sem.run_pure,Result.andThen_ok,invoke,builtin,uU]
    have T:∀j cap,u=.slice j 0 cap->E4 P I μ H w (do let d <-resolve a.eval { callee:=.builtin .clear,args,argTypes:=D } ty;invoke d.target d.args) .undef H:=λj cap q=>by
     subst q;refine⟨_,.tuple #[],w,μ,g (.tuple #[]) w ?_,.inl rfl,bM.undef _ _,s,.refl _ _ _ _⟩;unfold Builtin.clear_;cases j <;> simp[ab,h3]
    unfold FG at h;split at h
    .cases h;exact T _ _ hr.oq
    .obtain⟨j,q⟩:=hr.uP;grind
    .rename_i id es off len;split at h
     .rename_i m;subst m;split at h
      .rcases hr.ou with⟨p,cap,_,_,_,_,q⟩|⟨_,j,q⟩
       all_goals grind
      rename_i len;split at h
      .rename_i ak Q W;split at h
       .rename_i X;cases h;obtain⟨p,c,el,hp,hI,C,B⟩:=s.obs id _ W;rcases hr.ou with⟨q,cap,hq,al,ao,am,rfl⟩|⟨h0,_⟩
        .rw[hp]at hq;cases hq;have m:ak=d.size:=by rw[<-B.es_eq,al]
         subst m;have ar:(Builtin.zeroCells z.cells (len+1)).size=(len+1)*d.size:=by rw[tG,aj]
         have au:=B.room;have Y:(off+(len+1))*d.size<=Q.length*d.size:=Nat.mul_le_mul_right _ X;rw[Nat.add_mul]at Y;have G:=z8   (S I μ) (len+1);have av:∀x∈List.replicate (len+1) d.zero,x.length=d.size:=λx hx=>by rw[List.eq_of_mem_replicate hx];exact ah
         have aw:∀x∈List.replicate (len+1) d.zero,∀y∈x,V.one y=true:=λx hx y hy=>by rw[List.eq_of_mem_replicate hx]at hy;grind
         obtain⟨c',u1,u2⟩:=yz (P:=P) (o:=p.o+off*d.size) (Builtin.zeroCells z.cells (len+1)).toList 0 w c C (cN.WK G (λx hx=>by
          grind[List.mem_flatten])) h?
         rw[Nat.add_zero]at u2;have Z:c'.size=c.size:=by
          have:=_f List.length u2
          grind
         obtain⟨s2,st2⟩:=s.write  (l?:=.row d.size (Q.take off++List.replicate (len+1) d.zero++Q.drop (off+(len+1)))) W rfl hp
          ⟨p,c',el,hp,hI,kB _ (Array.getElem?_eq_some_iff.1 C).1,by
           have aa:(Q.take off++List.replicate (len+1) d.zero++Q.drop (off+(len+1))).length=Q.length:=by simp;omega
           refine⟨B.es_eq,by rw[Z];exact B.sz,?_,?_,by rw[aa,Z];grind,?_⟩
           .intro x hx;rcases List.mem_append.1 hx with hx|hx
            .rcases List.mem_append.1 hx with hx|hx
             .exact B.sq x (List.mem_of_mem_take hx)
             grind
            exact B.sq x (List.mem_of_mem_drop hx)
           .intro x hx;rcases List.mem_append.1 hx with hx|hx
            .rcases List.mem_append.1 hx with hx|hx
             .exact B.one x (List.mem_of_mem_take hx)
             grind
            exact B.one x (List.mem_of_mem_drop hx)
           rw[aa,u2];have hL:=EB c.toList (Builtin.zeroCells z.cells (len+1)).toList p.o (Q.length*d.size) (off*d.size) (by simp;omega) h?
           rw[hL,List.flatten_append,List.flatten_append,(C7 B.sq off c?).1,(C7 B.sq _ X).2]
           have e:off*d.size+(Builtin.zeroCells z.cells (len+1)).toList.length=(off+(len+1))*d.size:=by grind
           rw[e];exact((B.rel.take _).append G).append (B.rel.drop _)⟩
         refine⟨_,.tuple #[],_,μ,g (.tuple #[]) (iF w p.b (.cells c' el)) ?_,.inl rfl,bM.undef _ _,s2,st2⟩;simp_all[Builtin.clear_]
        simp_all
       simp_all
      simp_all
     simp_all
    simp_all
   simp_all
  simp_all
 simp_all
theorem acR(s t:U')(h:(s==t)=U):s=t:=by
 cases s with|mk a=>cases t with|mk b=>
 have u:(a==b)=U:=h;grind
inductive BB(P:Program)(E:Env)(t:TypeId):V->Value->Prop
 |int(k:IntKind)(m:Int)(h:P.underlying t=some (.int k)):BB P E t (.int k m) (.int k m)|str(s:ByteArray)(h:P.underlying t=some .string):BB P E t (.str s) (.string s)|agg(m:Nat)(cs:List V)(l:List Int)(h:zG P t m)(hl:l.length=m)(hi:jH cs=some l):BB P E t (.agg cs) (.agg (ic l))
def S8(B:eX P E){t:W'}{k:V}{v:V'}(h:DX E t k=U)(b:bM I μ k v):BB P E t k v:=by
 unfold DX at h;split at h;rename_i k1 k2 m c;have⟨d,hd,u⟩:=gH c;have⟨a,f,w,D⟩:=(B.ty hd).dX;rw[u]at w;have:=Gz w;subst this;have e:k1=k2:=by grind
 subst e;rw[b.gE];exact .int _ _ f;next s c=>have⟨d,hd,u⟩:=gH c;have⟨a,f,w,D⟩:=(B.ty hd).dX;rw[u]at w;have:=Cp w;subst this;rw[b.vZ];exact .str _ f
 rename_i cs _;split at h;next m z=>simp[isSome_iff_exists]at h;have⟨G,l,g⟩:=h;obtain⟨i,rfl,C⟩:=b.jV;obtain⟨rfl,e⟩:=s_ g C;exact .agg m cs l (B.eqN _ _ z) c? g
 grind;grind
theorem Tp(d:Nat)(e:X'){t:W'}{k:T2}{m:Int}(h:P.underlying t=M (.int k)):(B! e (d+1) t (.int k m)).run P w=.ok () w:=by simp[B!,z?,dX h,x?,N?]
theorem SQ(d:Nat)(e:X'){t:W'}{m:U'}(h:P.underlying t=M .string):(B! e (d+1) t (.string m)).run P w=.ok () w:=by simp[B!,z?,dX h,x?,N?]
def BV{t:W'}{k:V}{v:V'}(h:BB P E t k v)(e:X'):(B! e 10000 t v).run P w=.ok () w:=by cases h with|int k m h=>grind[Tp]|str s h=>grind[SQ]|agg m cs l h u hi=>exact h.check w e l u
def oe(I:cG)(μ:Mu)(es:aX MapEntry)(i:Nat):aY (Nat×V)->aY (Nat×V')->Prop
 |none,J=>True|some (j,x),M (B,v)=>j=B/\bM I μ x v/\i<=j/\∃e,es[j-i]?=M e/\e.val=v|_,_=>False
def FQ{d:TypeDesc}{k:V}{v:V'}(hd:(∃kk m,d=.int kk/\k=.int kk m/\v=.int kk m)\/(∃s,d=.string/\k=.str s/\v=.string s)):
 ∀(B:aX (V×V))(es:aX MapEntry)(i:Nat)(r:aY (Nat×V)),_l B=_l es->(∀(j:Nat)q e,B[j]?=M q->es[j]?=M e->bM I μ q.1 e.key/\bM I μ q.2 e.val)->
 jB k B i=M r->∃D,q8 d v es i=M D/\oe I μ es i r D/\∀j x,r=M (j,x)->∃e,es[j-i]?=M e/\e.key=v:=by
 intro B
 induction B with
 |nil=>
  intro es i r b__ _ h
  cases es with
  |nil=>simp only[jB,ζa]at h;subst h;exact⟨J,rfl,trivial,f?⟩|cons _ _=>simp_all
 |cons q B Q=>
  intro es i r b__ c h
  cases es with
  |nil=>simp_all|cons e es=>
   have⟨C,S⟩:=q;have⟨g1,g2⟩:=c 0 (C,S) e _k _k;simp only[jB]at h;have u:∀b,zU k C=M b->I0 d v e.key=M b/\(b=U->e.key=v):=by
    intro b w;rcases hd with⟨kk,m,rfl,rfl,rfl⟩|⟨s,rfl,rfl,rfl⟩
    .cases C<;>simp only[zU]at w<;>(try grind);rename_i k2 Y;split at w;rename_i G;simp only[ζa]at w;subst w;subst G;rw[g1.gE];grind[I0];grind
    cases C<;>simp only[zU]at w<;>(try (simp at w;done));simp only[ζa]at w;subst w;rw[g1.vZ];grind[I0,acR]
   split at h
   .rename_i hk;have⟨f,Z⟩:=u U hk;simp only[ζa]at h;subst h;refine⟨M (i,e.val),by grind[q8],⟨_k,g2,y? _,e,f?,_k⟩,?_⟩
    grind
   .rename_i hk;have⟨f,_⟩:=u O hk;have⟨D,p1,p2,p3⟩:=Q es (i+1) r h? (λj a b x y=>c (j+1) a b (by simpa using x) (by simpa using y)) h
    refine⟨D,by grind[q8],?_,?_⟩
    .cases r with
     |none=>all_goals grind[oe]|some z=>
      cases D with
      |none=>grind[oe]|some T=>have⟨a__,W,g,A,l,X⟩:=p2;exact⟨a__,W,c?,A,by rw[show z.1-i=(z.1-(i+1))+1 by omega];grind,X⟩
    intro j x L;have⟨A,n,o⟩:=p3 j x L;subst L;have:i+1<=j:=by cases D with|none=>grind[oe]|some T=>exact p2.2.2.1
    grind
   grind
def Pp{t:W'}{m:Nat}(T:zG P t m){cs:So}{l:SW}(b__:_l l=m)(f:jH cs=M l):
 ∀(B:aX (V×V))(es:aX MapEntry)(i:Nat)(r:aY (Nat×V)),_l B=_l es->(∀(j:Nat)q e,B[j]?=M q->es[j]?=M e->bM I μ q.1 e.key/\bM I μ q.2 e.val)->
 jB (.agg cs) B i=M r->∃D,(i8 t (.agg (ic l)) es i).run P w=.ok D w/\oe I μ es i r D/\∀j x,r=M (j,x)->∃e,es[j-i]?=M e/\e.key=.agg (ic l):=by
 intro B
 induction B with
 |nil=>
  intro es i r C _ h
  cases es with
  |nil=>simp[jB]at h;subst h;exact⟨J,rfl,trivial,f?⟩|cons _ _=>simp_all
 |cons q B W=>
  intro es i r C c h
  cases es with
  |nil=>simp_all|cons e es=>
   have⟨G,X⟩:=q;have⟨g1,g2⟩:=c 0 (G,X) e _k _k;simp[jB]at h;have u:∀b,zU (.agg cs) G=M b->(O! t (.agg (ic l)) e.key).run P w=.ok b w/\(b=U->e.key=.agg (ic l)):=by intro b a__;cases G<;>simp[zU]at a__<;>(try (simp at a__));obtain⟨o,Y,c__,x2,p,rfl⟩:=Ax a__;rw[f]at c__;cases c__;have⟨s,ev,L⟩:=g1.jV;obtain⟨rfl,e2⟩:=s_ x2 L;rw[ev];refine⟨T.key w l Y b__ c?,?_⟩;grind
   split at h
   .rename_i hk;have⟨d,v⟩:=u U hk;simp at h;subst h;refine⟨M (i,e.val),by simp[i8,d],⟨_k,g2,y? _,e,f?,_k⟩,?_⟩
    grind
   .rename_i hk;have⟨d,_⟩:=u O hk;have⟨D,p1,p2,p3⟩:=W es (i+1) r h? (λj a b x y=>c (j+1) a b h? (by simpa using y)) h
    refine⟨D,by simp_all[i8],?_,?_⟩
    .cases r with
     |none=>all_goals grind[oe]|some z=>
      cases D with
      |none=>grind[oe]|some Z=>have⟨g,k,A,Q,E,n⟩:=p2;exact⟨g,k,c?,Q,by rw[show z.1-i=(z.1-(i+1))+1 by omega];grind,n⟩
    intro j x S;have⟨Q,F,H⟩:=p3 j x S;subst S;have:=by cases D with|none=>grind[oe]|some Z=>exact p2.2.2.1
    grind
   grind
def yT{t:W'}{k:V}{v:V'}(h:BB P E t k v){B:aX (V×V)}{es:Array MapEntry}(a:yL I μ B es){r:aY (Nat×V)}(G:jB k B 0=M r):
 ∃D,(o0 t v es.toList).run P w=.ok D w/\oe I μ es.toList 0 r D/\∀j x,r=M (j,x)->∃e,es[j]?=M e/\e.key=v:=by
 have u:=by simpa using a.1
 have z:∀(j:Nat)q e,B[j]?=M q->es.toList[j]?=M e->bM I μ q.1 e.key/\bM I μ q.2 e.val:=λj q e x y=>a.2 j q e x h?
 have fin:∀(D:aY (Nat×V')),(∀j x,r=M (j,x)->∃e,es.toList[j-0]?=M e/\e.key=v)->∀j x,r=M (j,x)->∃e,es[j]?=M e/\e.key=v:=by grind
 cases h with
 |int kk m h=>have⟨D,g1,g2,g3⟩:=FQ (.inl ⟨kk,m,Y,Y,Y⟩) B es.toList 0 r u z G;simp_all[o0,dX]|str s h=>have⟨D,g1,g2,g3⟩:=FQ (.inr ⟨s,Y,Y,Y⟩) B es.toList 0 r u z G;simp_all[o0,dX]|agg m cs l h g hi=>
  have⟨D,g1,g2,g3⟩:=Pp (w:=w) h g hi B es.toList 0 r u z G;have⟨d,hd,L⟩:=h.kind;refine⟨D,?_,g2,fin D g3⟩;simp[o0,z?,dX hd,x?]
  cases C:es.toList with
  |nil=>
   rw[C]at g1
   grind[q8,i8]
  |cons e i?=>simp_all[q8,I0]
def C8{b:Nat}{o:Obj}(h:w.heap[b]?=M o)(B:∀c e f,o≠.cells c e f):(getObj b).run P w=.ok o w:=by grind[getObj,Sem.run]
def WD(s:di I μ H w){m:V}{v:V'}(d:bM I μ m v){B:aX (V×V)}(h:oJ H m=M B):
 (v=.map J/\B=[])\/∃b es a,v=.map (M b)/\w.heap[b]?=M (.map es a)/\yL I μ B es:=by
 cases m with
 |iE=>simp only[oJ,ζa]at h;exact .inl ⟨d.Wn,h.symm⟩|fmap k=>
  simp[oJ]at h;subst h
  cases d with
  |c _ _ d=>cases d with
   |fmap _ b es C D hk u=>have⟨f,g⟩:=s.imm _ _ C;exact .inr ⟨b,es,f,rfl,g,D,λj q e x y=>⟨.c _ _ (hk j q e x y),.c _ _ (u j q e x y)⟩⟩
 |hmap id=>
  simp[oJ]at h;split at h
  .rename_i G z;simp at h;have⟨p,es,f,g1,g2,g3,g4⟩:=s.obs id _ z;have⟨q,i,e⟩:=d.EL
   grind
  grind
 |_=>simp[oJ]at h
def SG(T:eX P E)(r:eU I μ n F a.tmps)(s:di I μ H w){t:W'}{m k:UV}{ok:X'}{x:V}(h:eu E F H (.lookup t m k ok)=M x):
 ∃v,(Instr.lookup t (a.eval m) (a.eval k) ok).run P w=.ok v w/\bM I μ x v:=by
 simp[eu]at h;split at h
 .rename_i kt et mv kv hk hm b__;obtain⟨d,hd,Q⟩:=gH hk;obtain⟨c,l,Z,e⟩:=(T.ty hd).dX;rw[Q]at Z;have:=CA Z;subst this;split at h
  .rename_i de S a__ A;split at h
   .rename_i W;have D:=S8 T W (dI r b__);obtain⟨z,f,X⟩:=(T.ty a__).Yy;obtain⟨es,L,G⟩:∃es:Array MapEntry,yL I μ S es/\∀u,(o0 kt (a.eval k) es.toList).run P w=.ok u w->(Instr.lookup t (a.eval m) (a.eval k) ok).run P w=
     .ok (if ok then .tuple #[(u.map (·.2)).getD z,.bool u.isSome]else(u.map (·.2)).getD z) w:=by
     rcases WD s (dI r hm) A with⟨e1,rfl⟩|⟨b,es,o,e1,e2,e3⟩
     .refine⟨#[],⟨rfl,f?⟩,λu C=>?_⟩
      unfold Instr.lookup;rw[e1];simp[z?,e,x?,N?,BV D,C];cases u<;>cases ok<;>simp[f]
     refine⟨es,e3,λu C=>?_⟩
     unfold Instr.lookup;rw[e1];simp[z?,e,x?,N?,C8 e2 f?,BV D,C]
     cases u<;>cases ok<;>simp[f]
    split at h
    .rename_i j y _ B;simp at h;obtain⟨u,Y,g,_⟩:=yT D L B
     cases u with
     |none=>grind[oe]|some q=>
      obtain⟨_,i,_⟩:=g;refine⟨_,G _ Y,?_⟩;subst h
      cases ok with
      |true=>exact .XS (.cons i (.cons (.c _ _ (.bool _)) .nil))|false=>exact i
    .rename_i y B hy;simp at h;obtain⟨u,Y,g,_⟩:=yT D L B
     cases u with
     |some q=>grind[oe]|none=>
      refine⟨_,G _ Y,?_⟩;subst h
      cases ok with
      |true=>exact .XS (.cons (X _ _ _ hy) (.cons (.c _ _ (.bool _)) .nil))|false=>grind
    grind
   grind
  grind
 grind
theorem NQ(l:SW)(d:Nat):f9 (d+2) (.agg (ic l)) (.agg (ic l))=U:=by simp only[f9,beq_self_eq_true,Bool.true_and,O?];intro p u;obtain⟨j,w,rfl⟩:=List.mem_iff_getElem.1 u;simp[ic,f9]
def V1{t:W'}{k:V}{v:V'}(h:BB P E t k v):(Instr.keyThatStays v v).run P w=.ok v w:=by
 have:f9 10000 v v=U:=by cases h with|int k m h=>simp[f9]|str s h=>simp[f9];exact(by cases s;exact beq_self_eq_true (α:=Array UInt8) _)|agg m cs l h u hi=>grind[NQ]
 simp_all[Instr.keyThatStays]
def JE{b:Nat}{es:Array MapEntry}{a:Nat}(o:Obj)(h:w.heap[b]?=M (.map es a)):(setObj b o).run P w=.ok () (iF w b o):=by simp only[setObj,Sem.run,h];rfl
def Dm(A:eX P E)(r:eU I μ n F a.tmps)(s:di I μ H w){t:W'}{m k y:UV}{x:V}(h:cH E F H (.mapUpdate t m k y)=M (x,H')):
 E4 P I μ H w (do Instr.mapUpdate t (a.eval m) (a.eval k) (a.eval y);pure .skip) x H':=by
 simp only[cH]at h;split at h
 .rename_i kt et id X Y hk hm T hy;have⟨d,hd,Z⟩:=gH hk;have⟨K,b,D,a__⟩:=(A.ty hd).dX;rw[Z]at D;have:=CA D;subst this;split at h
  .rename_i C S;split at h
   .rename_i aa;simp only[ζf,ζc]at h;obtain⟨af,u,rfl,rfl⟩:=h;have G:=S8 A aa (dI r T);have⟨p,es,c,g1,g2,g3,g4⟩:=s.obs id _ S;have⟨q,e__,R⟩:=(dI r hm).EL;rw[g1]at e__;cases e__;have Q:=(Array.getElem?_eq_some_iff.1 g3).1;have ah:∀(f:Unit->Sem Next),True:=λ_=>trivial
    unfold sZ at u;have ab:=dI r T;have ad:=dI r hy;split at u
    .rename_i j z B;simp only[ζa]at u;subst u;have⟨b__,g,q2,q3⟩:=yT (w:=w) G g4 B
     cases b__ with
     |none=>grind[oe]|some b__=>
      have⟨j',zv⟩:=b__;obtain⟨rfl,_,_,e',ai,_⟩:=q2;have⟨e2,c__,aj⟩:=q3 j z _k;have hj:=(Array.getElem?_eq_some_iff.1 c__).1;have L:yL I μ (C.set j (X,Y)) (es.modify j λe=>{e with key:=a.eval k,val:=a.eval y}):=by refine⟨by simpa using g4.1,λi q e b D=>?_⟩;by_cases d__:i=j;grind;rw[F? (Ne.symm d__)]at b;rw[Array.getElem?_modify]at D;rw[M' (Ne.symm d__)]at D;exact g4.2 i q e b D
      have⟨l,v⟩:=s.write (l?:=.map (C.set j (X,Y))) (o:=.map (es.modify j λe=>{e with key:=a.eval k,val:=a.eval y}) c) S _k g1
       ⟨p,_,c,g1,g2,kB _ Q,L⟩
      refine⟨.skip,undef,_,μ,?_,.inr ⟨_k,_k⟩,.undef I μ,l,v⟩;unfold Instr.mapUpdate;rw[R];have W:((es[j]?).map (·.key)).getD (a.eval k)=a.eval k:=by rw[c__];grind
      simp only[z?,a__,x?,C8 g3 f?,BV G,g,W,V1 G,JE _ g3,N?]
    .rename_i B;simp only[ζa]at u;subst u;have⟨b__,g,q2,q3⟩:=yT (w:=w) G g4 B
     cases b__ with
     |some q=>grind[oe]|none=>
      have L:yL I μ (C++[(X,Y)]) (es.push {key:=a.eval k,val:=a.eval y,born:=c}):=by refine⟨by simp[g4.1],λi q e b D=>?_⟩;by_cases d__:i<_l C;rw[List.getElem?_append_left d__]at b;rw[Array.getElem?_push]at D;rw[M' (by rw[<-g4.1];omega)]at D;exact g4.2 i q e b D;have ae:=(ζe.1 b).1;simp at ae;have:i=_l C:=c?;subst this;simp at b;subst b;rw[Array.getElem?_push,L' g4.1]at D;grind
      have⟨l,v⟩:=s.write (l?:=.map (C++[(X,Y)])) (o:=.map (es.push {key:=a.eval k,val:=a.eval y,born:=c}) (c+1)) S _k g1
       ⟨p,_,_,g1,g2,kB _ Q,L⟩
      refine⟨.skip,undef,_,μ,?_,.inr ⟨_k,_k⟩,.undef I μ,l,v⟩;unfold Instr.mapUpdate;rw[R];simp only[z?,a__,x?,C8 g3 f?,BV G,g,JE _ g3,N?]
    grind
   simp at h
  simp at h
 simp at h
theorem Y5(B:eX P E)(r:eU I μ n F a.tmps)(s:di I μ H w)(o:Oper){x:V}(h:eu E F H o.op=M x):
 ∃v,(execOp a.eval o).run P w=.ok (.value v) w/\bM I μ x v:=by
 have⟨dst,op,ty,pos,after,b⟩:=o;simp only at h
 cases op with
 |load t p=>
  simp only[eu]at h;split at h
  next d D hd C=>have⟨u,c,z,_⟩:=Gu B s hd (dI r C) h;exact⟨u,h_ c,z⟩
  simp at h
 |lookup t m k ok=>have⟨u,c,z⟩:=SG B r s h;exact⟨u,h_ c,z⟩|_=>simp[eu]at h
def Y1(B:eX P E)(r:eU I μ n F a.tmps)(s:di I μ H w)(o:Oper){x:V}(h:cH E F H o.op=M (x,H')):E4 P I μ H w (execOp a.eval o) x H':=by
 have⟨dst,op,ty,pos,after,d⟩:=o;simp only at h
 cases op with
 |store t p q=>exact V4 B r s h|mapUpdate t m k y=>exact Dm B r s h|insert t m k y=>exact Dm (t:=t) (m:=m) (k:=k) (y:=y) B r s h|call c=>
  have⟨callee,args,u⟩:=c
  cases callee with
  |builtin b=>cases b with|append=>exact RQ B r s h|clear=>exact Vo B r s h|_=>simp[cH]at h
  |_=>grind[cH]
 |_=>simp[cH]at h
end
def xh{xs:So}(h:V.jw xs=U):∀x∈xs,V.closed x=U:=by induction xs with|nil=>simp|cons x r u=>grind[V.jw]
def xx{xs:So}(h:V.c7 xs=U):∀x∈xs,V.scalar x=U:=by induction xs with|nil=>simp|cons x r u=>grind[V.c7]
section
variable{I I':cG}{μ:Mu}{H H':bl}{w:World}
def bM.closed{x:V}{v:V'}(h:bM I μ x v)(d:x.closed=U):e_ I x v:=by induction h with|c x v h=>omega|hsl id off len cap p w h1 i=>grind[V.closed]|hsl0 id es off a=>grind[V.closed]|hptr id el off p w=>grind[V.closed]|yld id p w=>grind[V.closed]|hmap id p w=>grind[V.closed]|clo f x y u v g L _ _ z B=>simp[V.closed]at d;exact .clo f x y u v g L (λj a b p q=>z j a b p q (xh d.1 a (s? p))) (λj a b p q=>B j a b p q (xh d.2 a (s? p)))|agg cs C D _ G=>exact .agg cs C D λj a b p q=>G j a b p q (xh d a (s? p))|tup cs C D _ G=>exact .tup cs C D λj a b p q=>G j a b p q (xh d a (s? p))
def e_.scalar{x:V}{v:V'}(h:e_ I x v)(B:x.scalar=U):e_ I' x v:=by induction h with|bool b=>exact .bool b|int k n=>exact .int k n|str s=>exact .str s|dH a=>exact .dH a|bN=>exact .bN|jt=>exact .jt|iE=>exact .iE|uO=>exact .uO|agg cs u w _ z=>exact .agg cs u w λj a b p q=>z j a b p q (xx B a (s? p))|tup cs u w _ z=>exact .tup cs u w λj a b p q=>z j a b p q (xx B a (s? p))|_=>grind[V.scalar]
def kn{f:V->aY V}:∀{xs ys:So},jI f xs=M ys->W ys=W xs/\∀(j:Nat)y,ys[j]?=M y->∃x,xs[j]?=M x/\f x=M y:=by intro xs;induction xs with|nil=>grind[jI]|cons x xs u=>grind[jI]
def Qy{f:V->aY V}:∀{xs ys:S'},nP f xs=M ys->W ys=W xs/\∀(j:Nat)y,ys[j]?=M y->∃x,xs[j]?=M x/\jI f x=M y:=by intro xs;induction xs with|nil=>grind[nP]|cons x xs u=>grind[nP]
def PS{f:V->aY V}:∀{xs ys:aX (V×V)},nT f xs=M ys->W ys=W xs/\∀(j:Nat)y,ys[j]?=M y->∃x,xs[j]?=M x/\f x.1=M y.1/\f x.2=M y.2:=by intro xs;induction xs with|nil=>grind[nT]|cons x xs u=>grind[nT]
def Obj.ic:Obj->aY IC
 |.cells c _ _=>M (.cells c)|.map es _=>M (.map es)|_=>J
def DO(μ:Mu)(H:bl)(T:ST)(b:Nat):Prop:=∃id p ob,id∈T/\H[id]?=M ob/\ob.live=U/\μ id=M p/\p.b=b
open Classical in
noncomputable def plus(I:cG)(μ:Mu)(H:bl)(w:World)(T:ST):cG:=λb=>
 match I b with
 |some x=>M x|none=>if DO μ H T b then(w.heap[b]?).bind Obj.ic else J
def rH(I:cG)(μ:Mu)(H:bl)(w:World)(T:ST):cG.le I (plus I μ H w T):=by intro b x h;grind[plus]
theorem v8(s:di I μ H w)(T:ST):∀b x,plus I μ H w T b=M x->x.at w b:=by
 intro b x h;unfold plus at h;split at h;next y B=>cases h;exact s.imm b _ B
 split at h;have⟨o,z,u⟩:=ζg.1 h;cases o<;>simp[Obj.ic]at u;subst u;exact⟨_,_,z⟩;subst u;exact⟨_,z⟩;grind
theorem Bs{T:ST}{b:Nat}(h:(plus I μ H w T b).isSome=U):(I b).isSome=U\/DO μ H T b:=by grind[plus]
theorem Ew{T:ST}{b:Nat}(h:DO μ H T b):jy μ H b:=by have⟨id,p,ob,_,h1,u,w,z⟩:=h;exact⟨id,p,ob,h1,u,w,z⟩
def FA(s:di I μ H w){T:ST}{id es:Nat}{xs:S'}(B:id∈T)(h:_n (H[id]?) Ob.rows=M (es,xs)):
 ∃p c,μ id=M p/\plus I μ H w T p.b=M (.cells c)/\iJ I μ p c es xs:=by
 have⟨ob,a,z⟩:=ζg.1 h;have u:=s.obs id ob a;rcases K7 z with rfl|rfl
 .have⟨p,c,el,g1,g2,g3,g4⟩:=u;refine⟨p,c,g1,?_,g4⟩;have C:DO μ H T p.b:=⟨id,p,_,B,a,Y,g1,Y⟩
  grind[plus,Obj.ic]
 have⟨p,c,g1,g2,g4⟩:=u;exact⟨p,c,g1,rH _ _ _ _ _ _ _ g2,g4⟩
theorem iJ.idx{p:Pl}{c:Array V'}{es:Nat}{xs:S'}(r:iJ I μ p c es xs){i j:Nat}{x:So}{y:V}{v:V'}(a:xs[i]?=M x)(B:x[j]?=M y)
 (D:c[p.o+i*es+j]?=M v):bM I μ y v:=by
 have w:=zA r.sq a B;refine r.rel.2 (i*es+j) y v w ?_;have u:=(ζe.1 w).1;rw[gX r.sq]at u
 grind
def me{f:V->ST}{xs:So}{x:V}{k:Nat}(B:x∈xs)(a:k∈f x):k∈c_ f xs:=by induction xs with|nil=>simp_all|cons y r u=>grind[c_]
theorem kT(n:Nat)(H:bl){x:V}(h:x.closed=U):borrow n H x=M x:=by cases n<;>simp[borrow,h]
theorem xT (s:di I μ H w) (T:aX Nat):∀(n:Nat) (x y:V) (v:Value),borrow n H x=some y->(∀k∈cA n H x,k∈T)->bM I μ x v ->
 e_ (plus I μ H w T) y v/\(x.one=true->y.one=true):=by
 intro n
 induction n with
 | zero=>
  intro x y v h _ hv;simp only[borrow]at h;split at h
  next hc=>simp  at h;subst h;exact⟨(hv.closed hc).mono (rH _ _ _ _ _),id⟩
  grind
 | succ n ih=>
  intro x y v h o hv;simp[borrow]at h;split at h
  next hc=>simp  at h;subst h;exact⟨(hv.closed hc).mono (rH _ _ _ _ _),id⟩
  rename_i al;simp[cA,M' al]at o;split at h
  .
   rename_i id es off len;split at h
   .rename_i B xs g;split at h
    .rename_i hc;obtain⟨rfl,am⟩:=hc;simp only[g]at o;simp  at h;obtain⟨m,hz,rfl⟩:=h;obtain⟨ab,W⟩:=Qy hz;refine⟨?_,λ_=>rfl⟩
     have aj:m.length=len:=by grind
     rcases hv.ou with⟨p,cap,hm,hp,ar,hb,rfl⟩|⟨h0,a,rfl⟩
     .obtain⟨p',c,g1,g2,g3⟩:=FA s  (o id f?) g
      rw[hm]at g1;cases g1;have X:∀i z,m[i]? = some z->∃Q,xs[off+i]? = some Q/\jI (borrow n H) Q=some z:=by
       grind
      have ak:∀i Q,i<len->xs[off+i]? = some Q->∀q∈Q,∀k∈cA n H q,k∈T:=by
       intro i Q hi an q hq k hk;refine o k ?_;refine List.mem_cons_of_mem _ (me (List.mem_flatten.2 ⟨Q,List.mem_of_getElem? (i:=i) ?_,hq⟩) hk);rw[List.getElem?_take,L' hi,List.getElem?_drop];exact an
      have au:e_ (plus I μ H w T) (.fsl B m) (.slice (some ⟨p.b,p.o+off*B,none⟩) m.length cap):=by
       refine .fsl B m p.b (p.o+off*B) cap c g2 c? ?_ ?_ ?_ ?_
       .intro z af;obtain⟨i,hi⟩:=List.mem_iff_getElem?.1 af;obtain⟨Q,G,Y⟩:=X i z hi;rw[(kn Y).1];exact g3.sq Q (List.mem_of_getElem? G)
       .intro z af q hq;obtain⟨i,hi⟩:=List.mem_iff_getElem?.1 af;obtain⟨Q,G,Y⟩:=X i z hi;obtain⟨j,hj⟩:=List.mem_iff_getElem?.1 hq;obtain⟨L,D,Z⟩:=(kn Y).2 j q hj;have ad:=List.mem_of_getElem? G;have ae:=List.mem_of_getElem? D;have ao:=g3.room;have aw:=g3.sq Q ad;have ax:=(ζe.1 D).1;have ap:=(ζe.1 G).1;have av:(off+i)*B+B<=xs.length*B:=by
         have:=Nat.mul_le_mul_right B (ap)
         grind
        have aq  := by omega
        have aa:=g3.idx G D (v:=c[p.o+(off+i)*B+j]) (by simp[aq])
        exact(ih L q _ Z (ak i Q (by have:=(ζe.1 hi).1;omega) G L ae) aa).2 (g3.one Q ad L ae)
       .have h1:=(g3.span am).2
        grind
       intro i j z q u hi hj hu;obtain⟨Q,G,Y⟩:=X i z hi;obtain⟨L,D,Z⟩:=(kn Y).2 j q hj;have aa:=g3.idx G D (v:=u) h?
       exact(ih L q u Z (ak i Q (by have:=(ζe.1 hi).1;omega) G L (List.mem_of_getElem? D)) aa).1
      grind
     subst h0;have  := List.eq_nil_of_length_eq_zero aj;subst this;exact .fsl0 B _ _
    grind
   grind
  .
   rename_i id el off;split at h
   .rename_i B xs g;split at h
    .rename_i cs ah;split at h
     .simp only[g]at o;simp  at h;obtain⟨m,hz,rfl⟩:=h;obtain⟨ab,W⟩:=kn hz;refine⟨?_,λ_=>rfl⟩
      obtain⟨p,hm,rfl⟩:=hv.wh;obtain⟨p',c,g1,g2,g3⟩:=FA s  (o id f?) g
      rw[hm]at g1;cases g1;obtain⟨k1,k2,k3⟩:=g3.elem ah;rw[g3.es_eq];refine .fptr m p.b _ c g2 ?_ ?_
      .rw[ab,List.length_drop];omega
      intro j q u hj hu;obtain⟨L,D,Z⟩:=W j q hj;rw[List.getElem?_drop]at D;have aa:=g3.idx ah D  (by rw[<-Nat.add_assoc];exact hu)
      refine(ih L q u Z (λk hk=>o k ?_) aa).1
      exact List.mem_cons_of_mem _ (me (List.mem_of_getElem? (i:=j) (by rw[ah,Option.getD_some,List.getElem?_drop];exact D)) hk)
     simp at h
    simp at h
   simp at h
  .
   rename_i id;split at h
   .rename_i ay ai;simp  at h;obtain⟨m,hz,rfl⟩:=h;simp only[ai]at o;obtain⟨ab,W⟩:=PS hz;refine⟨?_,λ_=>rfl⟩
    obtain⟨p,hm,rfl⟩:=hv.EL;obtain⟨p',es,cl,g1,g2,g3,g4⟩:=s.obs id _ ai;rw[hm]at g1;cases g1;have ht:DO μ H T p.b:=⟨id,p,_,o id f?,ai,rfl,hm,rfl⟩
    have hI:plus I μ H w T p.b=some (.map es):=by
     grind[plus,Obj.ic]
    refine .fmap m p.b es hI (by rw[ab];exact g4.1) ?_ ?_
    .intro j q e hj he;obtain⟨L,h1,h2,h3⟩:=W j q hj;refine(ih L.1 q.1 e.key h2 (λk hk=>o k ?_) (g4.2 j L e h1 he).1).1
     exact List.mem_cons_of_mem _ (List.mem_append.2 (.inl (me (List.mem_map.2 ⟨L,List.mem_of_getElem? h1,rfl⟩) hk)))
    intro j q e hj he;obtain⟨L,h1,h2,h3⟩:=W j q hj;refine(ih L.2 q.2 e.val h3 (λk hk=>o k ?_) (g4.2 j L e h1 he).2).1
    exact List.mem_cons_of_mem _ (List.mem_append.2 (.inr (me (List.mem_map.2 ⟨L,List.mem_of_getElem? h1,rfl⟩) hk)))
   simp at h
  .rename_i f p q;split at h
   .rename_i p' q' hp hq;simp  at h;subst h;obtain⟨u1,u2,rfl,r1,r2⟩:=hv.mc;obtain⟨l1,m1⟩:=kn hp;obtain⟨l2,m2⟩:=kn hq;refine⟨.clo f p' q' u1 u2 (by rw[l1];simpa using r1.1) (by rw[l2];simpa using r2.1) ?_ ?_,λ_=>rfl⟩
    .intro j a b ha hb;obtain⟨a0,C,S⟩:=m1 j a ha;exact(ih a0 a b S (λk hk=>o k (List.mem_append.2 (.inl (me (List.mem_of_getElem? C) hk)))) (r1.2 j a0 b C h?)).1
    intro j a b ha hb;obtain⟨a0,C,S⟩:=m2 j a ha;exact(ih a0 a b S (λk hk=>o k (List.mem_append.2 (.inr (me (List.mem_of_getElem? C) hk)))) (r2.2 j a0 b C h?)).1
   simp at h
  .rename_i cs;simp  at h;obtain⟨m,hz,rfl⟩:=h;obtain⟨l1,m1⟩:=kn hz;obtain⟨u1,rfl,r1⟩:=hv.jV;refine⟨.agg m u1 (by rw[l1];simpa using r1.1) ?_,λh=>by grind[V.one]⟩
   intro j a b ha hb;obtain⟨a0,C,S⟩:=m1 j a ha;exact(ih a0 a b S (λk hk=>o k (me (List.mem_of_getElem? C) hk)) (r1.2 j a0 b C h?)).1
  .rename_i cs;simp  at h;obtain⟨m,hz,rfl⟩:=h;obtain⟨l1,m1⟩:=kn hz;obtain⟨u1,rfl,r1⟩:=hv.s6;refine⟨.tup m u1 (by rw[l1];simpa using r1.1) ?_,λh=>by grind[V.one]⟩
   intro j a b ha hb;obtain⟨a0,C,S⟩:=m1 j a ha;exact(ih a0 a b S (λk hk=>o k (me (List.mem_of_getElem? C) hk)) (r1.2 j a0 b C h?)).1
  grind
end
def fr(ro:aY Nat):Fence:={fn:=λ_=>True,depth:=J,alive:=O,round:=ro}
def Bf(I:cG)(μ:Mu)(H:bl)(w:World)(r:V)(H':bl):Ending->World->Prop:=λe w'=>∃u I' μ',e=.returned u/\bM I' μ' r u/\di I' μ' H' w'/\Step I μ H w I' μ' H' w'
def Bk(P:Program)(f:Y'):Prop:=∃fn,P.funcs[f]?=M fn/\fn.body.isSome=U/\(fn.name== "runtime.NumGoroutine")=O
structure mI(P:Program)(call:dR):Prop where
 fn:∀f args H r H',call (.fn f) args H=some (r,H')->Bk P f/\∀I μ w vs,di I μ H w->cN I μ args vs->CallsIn (fr none) 0 P f vs.toArray w (Bf I μ H w r H')
 yld:∀id args H r H',call (.yld id) args H=some (r,H')->∀I μ w vs p,di I μ H w->cN I μ args vs->μ id=some p->
  ∃l f tmps assign body,(Instr.yield p.b vs.toArray).run P w=.ok (.round l f tmps assign body) w/\RoundIn (fr none) 0 P l f tmps assign body w (Bf I μ H w r H')
def vh:Ob->Ob
 |.row es xs=>.frz es xs|.map _=>.dead|o=>o
theorem JW(H:bl)(k id:Nat):(xQ H k)[id]?=(H[id]?).map λob=>if id=k then vh ob else ob:=by
 unfold xQ;by_cases e:id=k;subst e;cases h:H[id]?with|none=>simp[h]|some ob=>have u:=(ζe.1 h).1;cases ob<;>simp[vh,u]<;>exact(ζe.1 h).2
 grind
theorem N2(o:Ob):vh (vh o)=vh o:=by cases o<;>rfl
theorem jZ:∀(T:ST)(H:bl)(id:Nat),(cU H T)[id]?=(H[id]?).map λob=>if id∈T then vh ob else ob:=by intro T;induction T with|nil=>simp[cU]|cons k T u=>intro H id;have:=u (xQ H k) id;grind[cU,JW,N2]
theorem nG(T:ST)(H:bl):W (cU H T)=W H:=by induction T generalizing H with|nil=>rfl|cons k T u=>simp[cU]at u⊢;rw[u];grind[xQ]
section
variable{P:Program}{I I':cG}{μ μ':Mu}{H H':bl}{w w':World}
def di.kept(s:di I μ H w)(a:∀b,b<w.heap.size->w'.heap[b]?=w.heap[b]?):di I μ H w' where
 dom:=s.dom
 imm:=λb x h=>IC.u9 (s.imm b x h) (a b (s.Lq h))
 obs:=λid ob h=>(s.obs id ob h).mono (cG.le_refl _) (Mu.le_refl _) (λp u z=>by
  have C:jy μ H p.b:=⟨id,p,ob,h,z,u,Y⟩
  grind[p9,ir]) (λB=>by subst B;exact s.obs id _ h)
 inj:=s.inj
 gl:=s.gl
theorem uh(μ:Mu)(b:Nat):¬jy μ [] b:=by rintro⟨id,p,ob,h,_⟩;simp_all
def GV{call:dR}(M:mI P call){f:Y'}{args:So}{y:V}(h:cq call f args H=_j y)(s:di I μ H w){vs:aX V'}(n:cN I μ args vs):
 Bk P f/\CallsIn (fr J) 0 P f vs.toArray w (Bf I μ H w y (if y.scalar then H else cU H (c_ (cA call.lv H) args))):=by
 unfold cq at h;split at h
 .rename_i az has;split at h
  .rename_i r H1 S;split at h
   .rename_i y' hy;split at h
    .rename_i aa;simp at h;subst h;generalize d__:c_ (cA call.lv H) args=T;obtain⟨R,D⟩:=kn has;have s0:di (plus I μ H w T) (λ_=>J) [] w:=⟨λ_ _=>rfl,v8 s T,f?,f?,s.gl.mono (rH I μ H w T)⟩
     have b__:cN (plus I μ H w T) (λ_=>J) az vs:=by refine⟨R.trans n.1,λj a b d z=>?_⟩;obtain⟨x,Y,af⟩:=D j a d;refine .c _ _ (xT s T call.lv x a b af (λk o=>?_) (n.2 j x b Y z)).1;rw[<-d__];exact me (s? Y) o
     obtain⟨hf,L⟩:=M.fn f az [] r H1 S;refine⟨hf,(L _ _ w vs s0 b__).mono ?_⟩;rintro e w' ⟨u,I1,t,rfl,hr,v,st⟩;have B:=λb D=>st.frame b D (uh _ _)
     generalize ak:cA call.lv H1 r=T1;have A:=(xT v T1 call.lv r y' u hy (λk o=>h?) hr).1
     cases ah:y'.scalar with
     |true=>exact⟨u,I,μ,rfl,.c _ _ (A.scalar ah),s.kept B,⟨cG.le_refl _,Mu.le_refl _,y? _,st.size,λb D _=>B b D,λ_ h=>h.elim .inl λh=>.inr (.inl h),st.os,st.out,st.fz⟩⟩|false=>
      simp only[v?,_a]
      let I2:=plus I1 t H1 w' T1
      have G:cG.le I I2:=cG.le_trans (rH I μ H w T) (cG.le_trans st.le (rH _ _ _ _ _));have W:∀b,(I2 b).isSome=U->(I b).isSome=U\/DO μ H T b\/w.heap.size<=b:=by intro b D;have d:(I1 b).isSome=U\/jy t H1 b:=(by rcases Bs D with h|h;all_goals grind[Ew]);rcases st.terr b d with h|h|h;all_goals grind[Bs,uh]
      have X:∀id ob p,H[id]?=_j ob->ob.live=U->id∉T->μ id=_j p->I2 p.b=J:=by intro id ob p d z h3 h4;cases E:I2 p.b with|none=>rfl|some x=>have F:jy μ H p.b:=⟨id,p,ob,d,z,h4,rfl⟩;rcases W p.b h? with h|⟨c__,p',ai,g0,g1,g2,g3,g4⟩|h;rw[ir s F]at h;cases h;have:=s.inj c__ id ai ob p' p g1 d g2 z g3 h4 g4;simp_all;have:=p9 s F;omega
      have Q:∀id x,(cU H T)[id]?=_j x->∃ob,H[id]?=_j ob/\x=(if id∈T then vh ob else ob):=by grind[jZ]
      have C:∀id x,(cU H T)[id]?=_j x->x.live=U->H[id]?=_j x/\(id∉T\/∃r,x=.loop r):=by intro id x Y g;obtain⟨ob,d,z⟩:=Q id x Y;by_cases Z:id∈T;rw[L' Z]at z;cases ob<;>simp[vh]at z<;>subst z<;>simp[Ob.live]at g;grind;grind
      refine⟨u,I2,μ,rfl,.c _ _ A,⟨?_,?_,?_,?_,s.gl.mono G⟩,⟨G,Mu.le_refl _,by rw[nG];grind,st.size,λb D _=>B b D,?_,st.os,st.out,st.fz⟩⟩
      .intro id h;rw[nG]at h;exact s.dom id h
      .grind[v8]
      .intro id x Y;obtain⟨ob,d,z⟩:=Q id x Y;have a__:=s.obs id ob d
       by_cases Z:id∈T
       .rw[L' Z]at z
        cases ob with
        |row es xs=>
         subst z;obtain⟨p,c,g1,g2,g3⟩:=FA s Z (by rw[d];rfl)
         exact⟨p,c,g1,rH _ _ _ _ _ _ _ (st.le _ _ g2),g3.mono G (Mu.le_refl _)⟩
        |frz es xs=>subst z;exact a__.mono G (Mu.le_refl _) (λp _ g=>by grind[Ob.live]) (λi=>by cases i)|map al=>subst z;trivial|free=>simp[vh]at z;subst z;exact a__|dead=>subst z;trivial|loop r=>
         simp[vh]at z;subst z;obtain⟨p,l,g1,g2,g3,g4⟩:=a__;refine⟨p,l,g1,?_,?_,g4.mono G (Mu.le_refl _)⟩
         .
          cases E:I2 p.b with
          |none=>rfl|some x=>
           have K:=v8 v T1 p.b x E;have aj:=(Array.getElem?_eq_some_iff.1 g3).1;have m:=B p.b aj;rw[g3]at m
           cases x with
           |cells c=>obtain⟨_,_,q⟩:=K;rw[m]at q;cases q|map es=>obtain⟨_,q⟩:=K;rw[m]at q;cases q
         grind
       rw[M' Z]at z;subst z;refine a__.mono G (Mu.le_refl _) (λp hp g=>⟨B _ (p9 s ⟨id,p,x,d,g,hp,rfl⟩),X id x p d g Z hp⟩) (λi=>by subst i;exact a__)
      .intro id c__ o1 o2 p p' d z l1 l2 m1 m2 D;exact s.inj id c__ o1 o2 p p' (C id o1 d l1).1 (C c__ o2 z l2).1 l1 l2 m1 m2 D
      intro b D;rcases D with h|⟨id,p,x,d,z,h3,rfl⟩
      .grind[Ew]
      exact .inr (.inl ⟨id,p,x,(C id x d z).1,z,h3,rfl⟩)
    grind
   grind
  grind
 grind
def bM.scalar{x:V}{v:V'}(h:bM I μ x v)(B:x.scalar=U):bM I' μ' x v:=by
 have key:∀(l:So)(u:aX V'),(∀x∈l,∀v,bM I μ x v->x.scalar=U->bM I' μ' x v)->V.c7 l=U->(∀(j:Nat)a b,l[j]?=M a->u[j]?=M b->bM I μ a b)->
  ∀(j:Nat)a b,l[j]?=M a->u[j]?=M b->bM I' μ' a b:=by
  intro l
  induction l with
  |nil=>grind|cons x l z=>
   intro u f i L j a b C D;simp only[V.c7,ζh]at i
   cases j with
   |zero=>grind|succ j=>
    cases u with
    |nil=>simp at D|cons v u=>exact z u (λy w=>f y (B? _ w)) i.2 (λj a b p q=>L (j+1) a b h? h?) j a b h? h?
 have d:∀(k:Nat)(x:V)(v:V'),SizeOf.sizeOf x<k->bM I μ x v->x.scalar=U->bM I' μ' x v:=by intro k;induction k with|zero=>grind|succ k z=>intro x v g h B;cases h with|c _ _ h=>exact .c _ _ (h.scalar B)|agg cs u G h=>refine .agg cs u G (λj a b C D=>key cs u.toList (λy w v e B=>z y v ?_ e B) B (λj a b p q=>h j a b p (by simpa using q)) j a b C h?);have:=List.sizeOf_lt_of_mem w;grind|tup cs u G h=>refine .tup cs u G (λj a b C D=>key cs u.toList (λy w v e B=>z y v ?_ e B) B (λj a b p q=>h j a b p (by simpa using q)) j a b C h?);have:=List.sizeOf_lt_of_mem w;grind|_=>grind[V.scalar]
 exact d (SizeOf.sizeOf x+1) x v c? h B
def di.QL(s:di I μ H w){ob:Ob}{p:Pl}(T:ob≠.free)(o:I p.b=J)(G:¬jy μ H p.b)(i:vz I (μ.gD (W H) p) w (W H) ob):
 di I (μ.gD (W H) p) (H++[ob]) w:=by
 have a:=s.dom _ (y? _);have u:∀id x,(H++[ob])[id]?=M x->(id≠W H/\H[id]?=M x)\/(id=W H/\x=ob):=by grind
 refine⟨?_,s.imm,?_,?_,s.gl⟩
 .intro id h;simp at h;rw[Mu.j8 _ _ c?];exact s.dom id c?
 .intro id x h;rcases u id x h with⟨e,h⟩|⟨rfl,rfl⟩
  .refine(s.obs id x h).mono (cG.le_refl _) (Mu.tO a) (λq Q S=>?_) (λm=>by subst m;rw[Mu.j8 _ _ e];exact s.obs id _ h)
   exact⟨Y,ir s ⟨id,q,x,h,S,Q,Y⟩⟩
  grind
 intro id z o1 o2 q g h1 X L j B C D;rcases u id o1 h1 with⟨e1,k1⟩|⟨a1,Z⟩<;>rcases u z o2 X with⟨e2,k2⟩|⟨a2,b⟩
 .rw[Mu.j8 _ _ e1]at B;rw[Mu.j8 _ _ e2]at C;exact s.inj id z o1 o2 q g k1 k2 L j B C D
 .subst a2;rw[Mu.j8 _ _ e1]at B;rw[Mu.iD]at C;cases C;exact _e ⟨id,q,o1,k1,L,B,D⟩ G
 .subst a1;rw[Mu.j8 _ _ e2]at C;rw[Mu.iD]at B;cases B;exact _e ⟨z,g,o2,k2,j,C,D.symm⟩ G
 grind
theorem aa6{call:dR}(hc:mI P call){f:Y'}{args:So}{y:V}(h:om call f args H=M (y,H'))(s:di I μ H w){vs:aX V'}(F:cN I μ args vs):
 Bk P f/\CallsIn (fr J) 0 P f vs.toArray w (Bf I μ H w y H'):=by
 unfold om at h;split at h
 .rename_i az has;split at h
  .rename_i r H1 L;generalize hT:c_ (cA call.lv H) args=T;have⟨W,D⟩:=kn has;have s0:di (plus I μ H w T) (λ_=>J) [] w:=⟨λ_ _=>rfl,v8 s T,f?,f?,s.gl.mono (rH I μ H w T)⟩
   have d__:cN (plus I μ H w T) (λ_=>J) az vs:=by refine⟨W.trans F.1,λj a b d m=>?_⟩;have⟨x,c__,aa⟩:=D j a d;refine .c _ _ (xT s T call.lv x a b aa (λk hk=>?_) (F.2 j x b c__ m)).1;rw[<-hT];exact me (s? c__) hk
   have⟨hf,G⟩:=hc.fn f az [] r H1 L;refine⟨hf,(G _ _ w vs s0 d__).mono ?_⟩;rintro e w' ⟨u,I1,μ1,rfl,n,s1,st⟩;have z:∀b,b<w.heap.size->w'.heap[b]?=w.heap[b]?:=λb D=>st.frame b D (uh _ _)
   have K:di I μ H w':=s.kept z;have ab:Step I μ H w I μ H w':=⟨cG.le_refl _,Mu.le_refl _,y? _,st.size,λb D _=>z b D,λ_ h=>h.elim .inl λh=>.inr (.inl h),st.os,st.out,st.fz⟩
   split at h
   next ae=>simp only[ζa,ζc]at h;obtain⟨rfl,rfl⟩:=h;exact⟨u,I,μ,_k,n.scalar ae,K,ab⟩

   have key:∀(id es off len:Nat)(v:V)(ob:Ob)(u:V'),vA (_l H) H1 id es off len=M (v,ob)->bM I1 μ1 (.hsl id es off len) u->
    ∃p,bM I (μ.gD (_l H) p) v u/\di I (μ.gD (_l H) p) (H++[ob]) w'/\Step I μ H w I (μ.gD (_l H) p) (H++[ob]) w':=by
    intro id es off len v ob u B hu;unfold vA at B;split at B
    .rename_i X xs b__;split at B
     .rename_i Q;obtain⟨rfl,am⟩:=Q;obtain⟨rfl,rfl⟩:=B;have⟨p,c,el,g1,g2,g3,g4⟩:=s1.obs id _ b__;have an:w.heap.size<=p.b:=by
       rcases st.terr p.b (.inr ⟨id,p,_,b__,rfl,g1,rfl⟩)with h|h|h
       .have⟨x,c__⟩:=isSome_iff_exists.1 h;have:=st.le _ _ c__
        grind
       all_goals grind[uh]
      have a__:I p.b=J:=by cases c__:I p.b with|none=>rfl|some x=>have:=s.Lq c__;omega
      have hn:¬jy μ H p.b:=λho=>by have:=p9 s ho;omega
      have af:iJ I (μ.gD (_l H) p) p c X xs:=by refine⟨g4.es_eq,g4.sz,g4.sq,g4.one,g4.room,g4.rel.1,λj a b B D=>(g4.rel.2 j a b B D).scalar ?_⟩;have g:=s? B;rw[m9]at g;grind
      have sa:=K.QL (ob:=.row X xs) f? a__ hn ⟨p,c,el,Mu.iD _ _ _,a__,g3,af⟩
      refine⟨p,?_,sa,⟨cG.le_refl _,Mu.tO (s.dom _ (y? _)),f?,st.size,λb D _=>z b D,?_,st.os,st.out,st.fz⟩⟩
      .rcases hu.ou with⟨p',o,g,ah,ai,aj,t⟩|⟨h0,ad,t⟩
       .rw[g1]at g;cases g;rw[t];subst ah;exact .hsl _ off len o p (Mu.iD _ _ _) ai aj
       rw[t,h0];exact .hsl0 _ _ _ _
      rintro b (h|⟨k,q,x,d,m,e__,rfl⟩)
      .exact .inl h
      by_cases e:k=(_l H)
      .grind[Mu.iD]
      rw[Mu.j8 _ _ e]at e__;have ak:k<_l H:=by have:=(ζe.1 d).1;grind
      rw[List.getElem?_append_left ak]at d;exact .inr (.inl ⟨k,q,x,d,m,e__,_k⟩)
     grind
    grind
   split at h
   next id es off len _=>simp only[ζf]at h;obtain⟨⟨v,ob⟩,B,rfl,rfl⟩:=h;have⟨p,k1,k2,k3⟩:=key id es off len v ob u B n;exact⟨u,I,_,_k,k1,k2,k3⟩
   .rename_i id es off len i? _;split at h
    .rename_i S;simp only[ζf,ζc]at h;obtain⟨⟨v,ob⟩,B,rfl,rfl⟩:=h;obtain⟨A,rfl,C⟩:=n.s6;have Y:0<_l A.toList:=by have:=C.1;grind
     obtain⟨i,E,Z⟩:∃i E,A.toList=i::E:=by cases hl:A.toList with|nil=>rw[hl]at Y;simp at Y|cons a b=>grind
     rw[Z]at C;have⟨p,k1,k2,k3⟩:=key id es off len v ob i B (C.2 0 _ _ _k _k);refine⟨_,I,_,_k,.tup _ _ ?_ ?_,k2,k3⟩
     .have:=C.1;grind
     intro j a b R D;have al:(i::E)[j]?=M b:=by rw[<-Z];grind
     cases j with
     |zero=>grind|succ j=>
      simp at R al;refine(C.2 (j+1) a b h? h?).scalar ?_
      have:∀(l:So),V.c7 l=U->∀x∈l,x.scalar=U:=by intro l;induction l with|nil=>grind|cons y l ih=>simp_all[V.c7]
      exact this i? S a (s? R)
    simp at h
   grind
  grind
 grind
def aa7{E:Env}{call:dR}(a:mI P call){f:Y'}{args:So}{y:V}(h:iH E call f args H=M (y,H'))(s:di I μ H w){vs:aX V'}(b:cN I μ args vs):
 Bk P f/\CallsIn (fr J) 0 P f vs.toArray w (Bf I μ H w y H'):=by
 unfold iH at h;split at h
 .grind[aa6]
 have⟨k1,k2⟩:=a.fn f args H y H' h
 grind
end
def Ob.mp:Ob->aY (aX (V×V))
 |.map B=>M B|_=>J
def pg(H H2:bl):Prop:=∀id:Nat,_n (H[id]?) Ob.rows=_n (H2[id]?) Ob.rows/\_n (H[id]?) Ob.mp=_n (H2[id]?) Ob.mp
def pg.refl(H:bl):pg H H:=λ_=>⟨Y,Y⟩
def pg.symm{H H2:bl}(h:pg H H2):pg H2 H:=λid=>⟨(h id).1.symm,(h id).2.symm⟩
def pg.trans{H H2 B:bl}(h:pg H H2)(k:pg H2 B):pg H B:=λid=>⟨(h id).1.trans (k id).1,(h id).2.trans (k id).2⟩
theorem pg.of_eq{H H2:bl}(h:H=H2):pg H H2:=by subst h;exact .refl _
theorem NS{H H2:bl}(h:pg H H2):∀n,borrow n H=borrow n H2:=by
 intro n
 induction n with
 |zero=>funext x;rfl|succ n u=>
  funext x
  cases x with
  |hsl id es off len=>simp only[borrow,(h id).1,u]|hptr id el off=>simp only[borrow,(h id).1,u]|hmap id=>have:=(h id).2;simp only[borrow,u];split;rfl;cases a:H[id]?with|none=>grind[Ob.mp]|some o=>cases w:H2[id]?with|none=>rw[a,w]at this;all_goals grind[Ob.mp]|some o2=>rw[a,w]at this;cases o<;>cases o2<;>simp[Ob.mp]at this<;>first|rfl|grind
  |_=>simp only[borrow,u]
theorem PI{H H2:bl}(h:pg H H2):∀n,cA n H=cA n H2:=by
 intro n
 induction n with
 |zero=>funext x;rfl|succ n u=>
  funext x
  cases x with
  |hsl id es off len=>simp only[cA,(h id).1,u]|hptr id el off=>simp only[cA,(h id).1,u]|hmap id=>have:=(h id).2;simp only[cA,u];split;rfl;cases a:H[id]?with|none=>grind[Ob.mp]|some o=>cases w:H2[id]?with|none=>rw[a,w]at this;all_goals grind[Ob.mp]|some o2=>rw[a,w]at this;cases o<;>cases o2<;>simp[Ob.mp]at this<;>first|rfl|grind
  |_=>simp only[cA,u]
theorem Cx{H H2:bl}(h:pg H H2)(call:dR)(f:Y')(args:So):cq call f args H=cq call f args H2:=by grind[cq,borrows,NS]
def Mt{H H2:bl}(h:pg H H2)(p:V)(n:Nat):fh H p n=fh H2 p n:=by cases p with|hptr id el off=>simp only[fh,(h id).1]|_=>rfl
def PE{H H2:bl}(h:pg H H2)(p:V):oJ H p=oJ H2 p:=by
 cases p with
 |hmap id=>have:=(h id).2;simp only[oJ];cases a:H[id]?with|none=>grind[Ob.mp]|some o=>cases u:H2[id]?with|none=>rw[a,u]at this;all_goals grind[Ob.mp]|some o2=>rw[a,u]at this;cases o<;>cases o2<;>simp[Ob.mp]at this<;>first|rfl|grind
 |_=>rfl
theorem Cd{E:Env}{F:WP}{H H2:bl}(h:pg H H2)(op:Op):eu E F H op=eu E F H2 op:=by cases op<;>simp only[eu,Mt h,PE h]
theorem yA{H H2:bl}(h:pg H H2)(T:ST):kg H T=kg H2 T:=by unfold kg;congr 1;funext id;rw[(h id).1]
def CE{H:bl}{T:ST}(h:kg H T=U){id:Nat}(b:id∈T):∃es xs,H[id]?=M (.row es xs)\/H[id]?=M (.frz es xs):=by unfold kg at h;rw[O?]at h;have:=h id b;cases a:H[id]?with|none=>rw[a]at this;simp at this|some o=>rw[a]at this;cases o<;>simp[Ob.rows]at this<;>exact⟨_,_,by first|exact .inl Y|exact .inr Y⟩
def zW{H:bl}{b id:Nat}:(H.take b)[id]?=if id<b then H[id]?else J:=by rw[D?]
def tU{H:bl}{T:ST}{b:Nat}(h:kg (H.take b) T=U):pg (cU H T) H:=by intro id;rw[jZ];by_cases a:id∈T;have⟨es,w,u⟩:=CE h a;rw[zW]at u;grind[vh,Ob.rows,Ob.mp];grind
def pg.take{H H2:bl}(h:pg H H2)(b:Nat):pg (H.take b) (H2.take b):=by intro id;rw[zW,zW];by_cases u:id<b;rw[L' u,L' u];exact h id;grind
def CI{H:bl}{T:ST}{b:Nat}(h:kg (H.take b) T=U){id:Nat}(a:id∈T):id<b:=by have⟨es,w,u⟩:=CE h a;rw[zW]at u;grind
def G4{H:bl}{T:ST}{k:Nat}{ob:Ob}(h:k∉T):cU (H.set k ob) T=(cU H T).set k ob:=by apply List.ext_getElem?;intro i;rw[jZ];by_cases e:i=k;grind[nG];simp_all[Ne.symm,jZ]
def Np(H:bl)(T B:ST):cU (cU H T) B=cU (cU H B) T:=by apply List.ext_getElem?;grind[jZ]
def Rf{H:bl}{b:Nat}:∀(n:Nat)(x:V),(∀id∈cA n (H.take b) x,id<b)->cA n H x=cA n (H.take b) x:=by intro n;induction n with|zero=>intro x _;rfl|succ n z=>have u:∀l:So,(∀id∈c_ (cA n (H.take b)) l,id<b)->c_ (cA n H) l=c_ (cA n (H.take b)) l:=(by intro l;induction l with|nil=>intro _;rfl|cons x r w=>grind[c_]);intro x h;simp only[cA]at h⊢;split;all_goals grind
def xC{H:bl}{b n:Nat}:∀(l:So),(∀id∈c_ (cA n (H.take b)) l,id<b)->c_ (cA n H) l=c_ (cA n (H.take b)) l
 |[],_=>rfl|x::r,h=>by simp only[c_,M!]at h⊢;rw[Rf n x λid hi=>h id (.inl hi),xC r λid hi=>h id (.inr hi)]
def Js{H:bl}{b id es:Nat}{xs:S'}(h:_n ((H.take b)[id]?) Ob.rows=M (es,xs)):_n (H[id]?) Ob.rows=M (es,xs):=by grind
theorem Mj{H:bl}{b:Nat}{p:V}{n:Nat}{cs:So}(h:fh (H.take b) p n=M cs):fh H p n=M cs:=by unfold fh at h⊢;grind
theorem Q0{H:bl}{b:Nat}{m:V}{B:aX (V×V)}(h:oJ (H.take b) m=M B):oJ H m=M B:=by unfold oJ at h⊢;grind
def Cb{E:Env}{F:WP}{H:bl}{b:Nat}{op:Op}{x:V}(h:eu E F (H.take b) op=M x):eu E F H op=M x:=by cases op with|load t a=>grind[eu,ζg,Mj]|lookup t m k ok=>grind[eu,Q0]|_=>simp[eu]at h
theorem vB{f g:V->aY V}(B:∀x y,f x=M y->g x=M y):∀{xs ys:So},jI f xs=M ys->jI g xs=M ys:=by intro xs;induction xs with|nil=>intro ys h;exact h|cons x xs u=>grind[jI]
theorem NZ{f g:V->aY V}(B:∀x y,f x=M y->g x=M y):∀{xs ys:S'},nP f xs=M ys->nP g xs=M ys:=by intro xs;induction xs with|nil=>intro ys h;exact h|cons x xs u=>grind[nP,vB]
theorem NO{f g:V->aY V}(B:∀x y,f x=M y->g x=M y):∀{xs ys:aX (V×V)},nT f xs=M ys->nT g xs=M ys:=by intro xs;induction xs with|nil=>intro ys h;exact h|cons x xs u=>grind[nT]
theorem Ec{H:bl}{b:Nat}:∀(n:Nat)(x y:V),borrow n (H.take b) x=M y->borrow n H x=M y:=by intro n;induction n with|zero=>intro x y h;exact h|succ n z=>intro x y h;simp[borrow]at h⊢;split at h;grind;rename_i c;rw[M' c];split at h;split at h;rename_i a;simp only[Js a];split at h;rename_i u;rw[L' u];grind[ζf,NZ];grind;grind;split at h;rename_i a;simp[Js a];split at h;split at h;rename_i w;rw[L' w];grind[ζf,vB];grind;grind;grind;all_goals grind[ζf,NO,vB]
theorem sR{call:dR}{f:Y'}{args:So}{H:bl}{b:Nat}{y:V}(h:cq call f args (H.take b)=M y):cq call f args H=M y:=by grind[cq,borrows,vB,Ec]
theorem De(n:Nat)(H:bl){x:V}(h:x.closed=U):cA n H x=[]:=by cases n with|zero=>rfl|succ n=>simp[cA,h]
def JZ(n:Nat)(H:bl){xs:So}(h:V.jw xs=U):c_ (cA n H) xs=[]:=by induction xs with|nil=>rfl|cons x r u=>grind[V.jw,c_,De]
section
variable{P:Program}{E:Env}{I I':cG}{μ μ':Mu}{H H':bl}{n:Nat}{F:WP}{a:Act}{w w':World}
def AK{f:Y'}(h:Bk P f)(args:Array V'):(callFunc f args).run P w=.ok (.enter f args) w:=by have⟨fn,a,B,u⟩:=h;unfold callFunc;have z:fn.body.isNone=O:=p?;simp only[z?,run_program,x?,a,u,z,v?,_a,N?]
theorem Gg{o:Oper}{ro:aY Nat}{K:Act->World->Prop}{Q:Exit->Act->World->Prop}{f:Y'}{args:Array V'}{r:V}
 (B:CallsIn (fr J) 0 P f args w (Bf I μ H w r H'))(D:∀u I' μ' w',bM I' μ' r u->di I' μ' H' w'->Step I μ H w I' μ' H' w'->K (a.put o.dst u) w'):
 o.uponIn (fr ro) 0 P a K Q (.ok (.enter f args) w):=by
 refine⟨λh=>by grind[fr],?_⟩
 have z:=B;refine z.mono ?_;rintro e w' ⟨u,I',μ',rfl,b,z,C⟩
 grind
def J6{x:V}(h:x.scalar=U){I:cG}{μ:Mu}{v:V'}(r:bM I μ x v):e_ I x v:=by induction r with|c x v B=>omega|agg cs u w _ z=>exact .agg cs u w λj a b p q=>z j a b p q (xx h a (s? p))|tup cs u w _ z=>exact .tup cs u w λj a b p q=>z j a b p q (xx h a (s? p))|_=>grind[V.scalar]
theorem Y6 (hE:eX P E) (r:eU I μ n F a.tmps) (s:di I μ H w) (o:Oper) {x:V} (h:rS E F o.op=some x) :
 ∃u I' w',(execOp a.eval o).run P w=.ok (.value u) w'/\bM I' μ x u/\di I' μ H w'/\Step I μ H w I' μ H w':=by
 unfold rS at h;split at h
 rotate_left
 .cases h
 rename_i es C B n Y;split at h
 rotate_left
 .cases h
 rename_i hc;obtain⟨rfl,rfl,Z⟩:=hc;obtain⟨obj,p,u,h1,W⟩:=ET hE r s o Y;have aa:=W.len _ _ rfl;obtain⟨⟨q,c,el,g1,g2,g3,g4⟩,gv⟩:=W.rel _ (s.dom _ (Nat.le_refl _));rw[Mu.iD]at g1;cases g1;have A:=W.b;have Q:obj=.cells c el:=by
  rw[A,pQ]at g3;cases g3;rfl
 subst Q
 let I':cG:=λb=>if b=w.heap.size then some (.cells c)else I b
 have D:cG.le I I':=λb y L=>by
  grind
 have G:I' p.b=some (.cells c):=by grind
 have ab:∀y∈C,∀z∈y,z.scalar=true:=λy L z hz=>List.all_eq_true.1 (List.all_eq_true.1 Z y L) z hz
 have hw:∀b,b<w.heap.size->(w.alloc (.cells c el)).heap[b]? = w.heap[b]? := λb S=>pN _ b S
 have af:∀b,b<w.heap.size->I' b=I b:=λb S=>by grind
 refine⟨u,I',_,h1,?_,⟨s.dom,?_,?_,s.inj,s.gl.mono D⟩,⟨D,Mu.le_refl _,Nat.le_refl _,by simp,λb S _=>hw b S,?_,rfl,⟨rfl,rfl,Nat.le_refl _⟩,λa S=>TQ W.nf a⟩⟩
 .refine .c _ _ ?_;have ah:∀cap,C.length<=cap->p.o+(0+cap)*B<=p.sz->u=.slice (some ⟨p.b,p.o+0*B,none⟩) C.length cap->e_ I' x u:=by
   rintro cap k1 k2 rfl;rw[Nat.zero_mul,Nat.add_zero];have hf:e_ I' (.fsl B C) (.slice (some ⟨p.b,p.o,none⟩) C.length cap):=.fsl B C p.b p.o cap c G k1 g4.sq g4.one g4.room λi j y z v m1 m2 m3=>
    e_.mono D (J6 (ab y (List.mem_of_getElem? m1) z (List.mem_of_getElem? m2)) (g4.idx m1 m2 m3))
   split at h
   .split at h
    .rename_i X;split at h
     rotate_left
     .cases h
     rename_i T;simp only[ζa]at h;subst h;simp only[List.isEmpty_iff,bne_iff_ne,ne_eq]at X T;subst X;have:cap=0:=by
      simp only[List.length_nil,Nat.zero_mul]at aa;rcases Nat.eq_zero_or_pos cap with k|k
      .exact k
      have:=Nat.mul_pos k (Nat.pos_of_ne_zero T);rw[Nat.zero_add]at k2;omega
     subst this;exact .dH _
    grind
   grind
  have hp:p.es=B:=g4.es_eq;change bM I _ (.hsl H.length B 0 C.length) u at gv;generalize ad:C.length=ln at gv
  cases gv with
  | c _ _ ae=>cases ae
  | hsl id off len cap p' hm k1 k2=>
   rw[Mu.iD]at hm;grind
  | hsl0 id es off a=>
   have X:C=[]:=List.length_eq_zero_iff.1 ad;subst X;split at h
   .split at h
    .split at h
     .simp only[ζa]at h;subst h;exact .dH _
     cases h
    grind
   simp only[ζa]at h;subst h;exact .fsl0 _ _ _
 .intro b y L
  by_cases e:b=w.heap.size
  .subst e;have:y=.cells c:=by have:=G;rw[A]at this;rw[this]at L;cases L;rfl
   subst this;exact⟨el,_,pQ _⟩
  have m:I b=some y:=by have:(if b=w.heap.size then some (IC.cells c)else I b)=some y:=L;rw[M' e]at this;exact this
  exact IC.u9 (s.imm b y m) (hw b (IC.yW (s.imm b y m)))
 .intro id ob g;refine(s.obs id ob g).mono D (Mu.le_refl _) (λq hq hl=>?_) (λe=>by subst e;exact s.obs id _ g)
  have ho:jy μ H q.b:=⟨id,q,ob,g,hl,hq,rfl⟩;have ai:=p9 s ho
  grind[ir]
 grind
def I4:∀{ys:S'}{l:SW},nK ys=M l->ys.flatten=l.map (V.int .u8)/\W l=W ys
 |[],l,h=>by cases h;grind|x::r,l,h=>by unfold nK at h;split at h;grind;rename_i n B e;cases e;obtain⟨k,a,rfl⟩:=ζf.1 h;have⟨u,w⟩:=I4 a;grind;cases h
def aae(T:eX P E)(r:eU I μ n F a.tmps)(s:di I μ H w)(o:Oper){x:V}(h:evalConv E F H o.op=M x):∃u,(execOp a.eval o).run P w=.ok (.value u) w/\bM I μ x u:=by
 unfold evalConv at h;split at h;rename_i st c__ y B;split at h;rename_i e v Q hd f;split at h;rename_i S;obtain⟨D,g,b__⟩:=ζg.1 h;obtain⟨l,W,rfl⟩:=ζf.1 b__;obtain⟨X,i⟩:=I4 W;have C:∀{t:W'}{k:TK},E.kindOf t=M k->∃d b,E.tt t=M d/\P.underlying t=M b/\ov b=k:=λ{t k}hk=>by unfold Env.kindOf at hk;obtain⟨d,g1,g2⟩:=ζf.1 hk;obtain⟨b,G,a__,_⟩:=(T.ty g1).dX;grind
 obtain⟨_,m,_,p1,G⟩:=C Q;obtain⟨_,p,_,p2,a__⟩:=C hd;obtain⟨_,A,_,p3,Y⟩:=C S;rw[kZ G]at p1;rw[Cp a__]at p2;rw[Gz Y]at p3;obtain⟨L,c,arr,e1,_,e2,e3,_⟩:=Cw s (dI r f) g;have z:arr=(l.map (Value.int .u8)).toArray:=by apply Array.ext';rw[X]at e3;refine List.ext_getElem (by simpa using e3.1.symm) λj g1 g2=>?_;have g3:j<l.length:=h?;have:=e3.2 j (V.int .u8 l[j]) arr.toList[j] (by simp[g3]) (ζd g1);rw[this.gE];simp
 refine⟨.string (oA l),?_,.c _ _ (.str _)⟩;rw[show execOp a.eval o=_ from by unfold execOp;rw[B]];refine h_ ?_;rw[e1];rw[run_convert_bytes_string w st c__ e L D.length c p1 p3 p2];cases L with|none=>have:=e2 w rfl;rw[e1]at this;simp only[A!,N?]at this;cases this;have Z:l=[]:=(by have:=_f Array.size z;grind);subst Z;rfl|some q=>have:=e2 w rfl;rw[e1]at this;simp only[A!,Nat.mul_one]at this;rw[z]at this;exact run_bytesToString w q D.length c l this
 cases h;cases h;cases h
def WQ(Y:eX P E){call:dR}(k:mI P call){ops:QP}{place:aY (Nat×Nat)}{o:Oper}{x:V}(h:cZ E call ops place F H o.op=M (x,H'))
 (r:eU I μ n F a.tmps)(s:di I μ H w)(ro:aY Nat){K:Act->World->Prop}{Q:Exit->Act->World->Prop}
 (t:∀u I' μ' w',bM I' μ' x u->di I' μ' H' w'->Step I μ H w I' μ' H' w'->K (a.put o.dst u) w'):o.wpIn (fr ro) 0 P a w K Q:=by
 refine⟨λ_ _=>trivial,?_⟩
 have aa:∀c,o.op≠.defer c:=by intro c ab;rw[ab]at h;simp[cZ,cO,vT,bP]at h;all_goals grind[evalConv]
 show o.uponIn (fr ro) 0 P a K Q ((o.semAt ro a.eval).run P w);rw[Oper.semAt_eq ro a.eval o aa];have ae:∀v,(execOp a.eval o).run P w=.ok (.value v) w->bM I μ x v->H'=H->o.uponIn (fr ro) 0 P a K Q ((execOp a.eval o).run P w):=by intro v e j hH;rw[e,Oper.uponIn_value];subst hH;exact t v I μ w j s (.refl _ _ _ _)
 unfold cZ at h;split at h
 .
  simp at h;obtain⟨v,j,rfl,rfl⟩:=h;unfold vT at j;split at j
  .rename_i hp;cases j;have⟨u,d,B⟩:=Zr (w:=w) Y r o hp
   grind
  split at j
  .have⟨u,d,B⟩:=aae Y r s o j
   grind
  cases j
 .
  have hr:eu E F H o.op=M x/\H'=H:=by split at h;simp at h;grind;split at h;split at h;(next v j=>obtain⟨rfl,rfl⟩:=h;exact⟨Cb j,_k⟩);split at h;simp at h;grind;grind;grind
  grind[Y5]
 .
  by_cases G:qf E ops place=U
  .rw[L' G]at h
   grind[ζf,Y6,Oper.uponIn_value]
  rw[M' G]at h;split at h
  .rename_i ob m T;have⟨obj,p,u,d,B⟩:=ET Y r s o T;rw[d,Oper.uponIn_value];have⟨g1,g2⟩:=B.rel _ (s.dom _ (y? _));have⟨s1,s2⟩:=s.push B.b g1 B.nf
   grind
  .rename_i ob m b i T;split at h
   .rename_i b__;have⟨obj,p,u,d,B⟩:=ET Y r s o T;rw[d,Oper.uponIn_value];have⟨g1,g2⟩:=B.rel _ (s.obs _ _ b__);have⟨s1,s2⟩:=s.fill b__ B.b g1 B.nf
    grind
   grind
  grind
 .
  have hl:cH E F H o.op=M (x,H'):=by grind
  have⟨nx,u,w',μ',d,B,Z,A,R⟩:=(Y1 Y r s o hl).run;rw[d];rcases B with rfl|⟨rfl,rfl⟩
  .exact t u I μ' w' Z A R
  exact t _ I μ' w' Z A R

 have z:∀c args,lS F o.op=M (c,args)->∃d__:aX V',cN I μ args d__/\
  (∀f,c=.fn f->Bk P f->(execOp a.eval o).run P w=.ok (.enter f d__.toArray) w)/\
  (∀id,c=.yld id->∃p,μ id=M p/\(execOp a.eval o).run P w=(Instr.yield p.b d__.toArray).run P w):=by
  intro c args C;have⟨dst,op,ty,pos,after,a__⟩:=o
  cases op with
  |call cl=>
   have⟨callee,L,ai⟩:=cl
   cases callee with
   |value f=>
    simp only[lS]at C;split at C
    .rename_i g p q d__ hf c__;obtain⟨rfl,rfl⟩:=C;have⟨u,v,ef,hu,j⟩:=(dI r hf).mc;have D:=qM r c__;refine⟨u.toList++L.toList.map a.eval++v.toList,(hu.append D).append j,?_,f?⟩
     simp_all[execOp,resolve,Deferred.ofValue,invoke,AK]
    .rename_i id d__ hf c__;simp at C;obtain⟨rfl,rfl⟩:=C;have⟨p,e__,ef⟩:=(dI r hf).Zn;have D:=qM r c__;refine⟨L.toList.map a.eval,D,f?,?_⟩
     intro aj X;cases X;refine⟨p,e__,?_⟩;simp[execOp,resolve,z?];rw[ef];simp[Deferred.ofValue,N?,x?,invoke]
     congr 1
     congr 1
     grind
    grind
   |_=>grind[lS]
  |_=>simp[lS]at C
 have S:∀f args y,lS F o.op=M (.fn f,args)->cq call f args H=M y->x=y->H'=(if y.scalar then H else cU H (c_ (cA call.lv H) args))->
  o.uponIn (fr ro) 0 P a K Q ((execOp a.eval o).run P w):=by
  intro f args y d B Z A;have⟨d__,g1,g2,_⟩:=z _ _ d;have⟨k1,k2⟩:=GV k B s g1;rw[g2 f _k k1]
  grind[Gg]
 have af:∀f args,lS F o.op=M (.fn f,args)->iH E call f args H=M (x,H')->o.uponIn (fr ro) 0 P a K Q ((execOp a.eval o).run P w):=by intro f args d B;have⟨d__,g1,g2,_⟩:=z _ _ d;have⟨k1,k2⟩:=aa7 k B s g1;rw[g2 f _k k1];grind[Gg]
 have ah:∀id args,lS F o.op=M (.yld id,args)->call (.yld id) args H=M (x,H')->o.uponIn (fr ro) 0 P a K Q ((execOp a.eval o).run P w):=by intro id args d B;have⟨d__,g1,_,g3⟩:=z _ _ d;have⟨p,e__,e⟩:=g3 id _k;have⟨l,f,tmps,assign,body,k1,k2⟩:=k.yld id args H x H' B I μ w d__ p s g1 e__;rw[e,k1,Oper.uponIn_round];refine⟨λh=>by grind[fr],?_⟩;have B:=k2;refine B.mono ?_;rintro e w' ⟨u,I',μ',rfl,d,B,Z⟩;grind
 split at h
 .rename_i f args C;split at h
  rotate_left
  .cases h
  unfold eE at h;split at h
  .grind
  split at h
  .grind
  split at h
  .rename_i y hy;split at h
   next W=>simp at h;refine S f args y C (sR hy) h.1.symm ?_;rw[<-h.2,L' W]
   rename_i W;split at h
   next ad=>simp at h;refine S f args y C (sR hy) h.1.symm ?_;rw[<-h.2,M' W,xC _ λid hi=>CI ad hi]
   simp at h
  grind
 all_goals grind
end
structure l_(B:Nat)(ds:List Deferred)(w:World):Prop where
 all:∀d∈ds,∃r,d.target=.collected r/\B<=r/\w.heap[r]?=some (.deferred (some []))
 apart:ds.Pairwise λd d'=>∀r,d.target=.collected r->d'.target≠.collected r
section
variable{P:Program}{E:Env}{I I' I'':cG}{μ μ' μ'':Mu}{H H' H'':bl}{n B:Nat}{F F':WP}{a:Act}{w w' w'':World}
def xF(s:di I μ H w){r:Nat}{c:aY (aX Deferred)}(h:w.heap[r]?=M (.deferred c)):¬jy μ H r:=by rintro⟨id,p,ob,h1,D,z,rfl⟩;have:=s.obs id ob h1;cases ob with|row es G=>have⟨q,c,el,u,_,B,_⟩:=this;rw[z]at u;grind|map C=>have⟨q,c,el,u,_,B,_⟩:=this;rw[z]at u;grind|loop x=>have⟨q,c,u,_,B,_⟩:=this;rw[z]at u;grind|_=>grind[Ob.live]
def l_.step{ds:aX Deferred}(h:l_ B ds w)(s:di I μ H w)(st:Step I μ H w I' μ' H' w'):l_ B ds w' where
 all:=by intro d hd;have⟨r,a,z,u⟩:=h.all d hd;refine⟨r,a,z,?_⟩;rw[st.frame r (Array.getElem?_eq_some_iff.1 u).1 (xF s u)];exact u
 apart:=h.apart
def Tw(r:eU I μ n F a.tmps)(ops:Array Oper)(o:Oper):gZ ops.toList F o=Region.wanted o (yielded ops a.tmps):=by
 unfold gZ Region.wanted;cases i:o.guard with|none=>rfl|some g=>
  have⟨j,b⟩:=g;simp only;unfold yielded;have e:ops.toList[j]?=ops[j]?:=f?;rw[e];cases hd:_n (ops[j]?) (·.dst)with|none=>simp|some d=>
   simp only[ζb];have f:=r.2 d;by_cases w:d<a.tmps.size
   .have u:a.tmps[d]?=M a.tmps[d]:=(by simp[w]);have z:a.tmps.getD d undef=a.tmps[d]:=(by simp[w]);rw[z]at f;rw[u];cases B:get F d with|bool c=>rw[B]at f;rw[f.uo];all_goals grind|_=>cases h:a.tmps[d]with|bool c=>rw[h]at f;have:=f.of_bool;rw[B]at this;cases this|_=>rfl
   have u:a.tmps[d]?=J:=Array.getElem?_eq_none (Nat.le_of_not_lt w);have z:a.tmps.getD d undef=undef:=by simp[w]
   rw[z]at f;rw[u];cases B:get F d with|bool c=>rw[B]at f;have:=f.uo;grind[undef]|_=>rfl
def FZ(T:eX P E){call:dR}(b:mI P call){ops:Array Oper}{place:aY (Nat×Nat)}{o:Oper}(h:iM E call n ops.toList place o F H=M (F',H'))
 (r:eU I μ n F a.tmps)(s:di I μ H w)(ro:aY Nat){K:Act->World->Prop}{Q:Exit->Act->World->Prop}
 (g:∀a' I' μ' w',eU I' μ' n F' a'.tmps->a'.defers=a.defers->di I' μ' H' w'->Step I μ H w I' μ' H' w'->K a' w'):
 if Region.wanted o (yielded ops a.tmps)then o.wpIn (fr ro) 0 P a w K Q else(∀f,o.about P w a.eval=M f->(fr ro).fn f)/\K (a.put o.dst undef) w:=by
 unfold iM at h;rw[<-Tw r];have z:∀v,(a.put o.dst v).defers=a.defers:=λv=>by cases o.dst<;>rfl
 split at h
 .rename_i C;rw[L' C];split at h
  .rename_i x H2 D;simp only[ζf,ζc]at h;obtain⟨L,G,rfl,rfl⟩:=h;refine WQ T b D r s ro (λu I' μ' w' i S B=>?_)
   exact g _ I' μ' w' ((r.mono B.le B.mu).put i G) (z u) S B
  simp at h
 rename_i C;rw[M' C];simp only[ζf,ζc]at h;obtain⟨L,G,rfl,rfl⟩:=h;exact⟨λ_ _=>trivial,g _ I μ w (r.put (.undef I μ) G) (z _) s (.refl _ _ _ _)⟩
def S0(D:eX P E){call:dR}(b:mI P call){ops:Array Oper}(ro:aY Nat){Q:Exit->Act->World->Prop}:∀(i?:QP)(k:Nat)(I:cG)(μ:Mu)(F:WP)(H:bl)(a:Act)(w:World),
 (∀j,i?[j]?=ops[k+j]?)->oy E call n ops.toList i? F H=M (F',H')->eU I μ n F a.tmps->di I μ H w->
 (∀a' I' μ' w',eU I' μ' n F' a'.tmps->a'.defers=a.defers->di I' μ' H' w'->Step I μ H w I' μ' H' w'->Q .normal a' w')->
 wpOpsIn (fr ro) 0 P ops Q (List.range' k (W i?)) a w:=by
 intro i?
 induction i? with
 |nil=>intro k I μ F H a w _ h r s B;simp only[oy,ζa,ζc]at h;obtain⟨rfl,rfl⟩:=h;exact B a I μ w r Y s (.refl _ _ _ _)|cons o i? C=>
  intro k I μ F H a w u h r s B;simp only[oy]at h;split at h
  .rename_i F1 H1 z;have G:ops[k]?=M o:=by simpa using(u 0).symm
   simp only[List.length_cons,List.range'_succ,wpOpsIn,G];refine FZ D b z r s ro (λa' I' μ' w' c hd g L=>?_)
   refine C (k+1) I' μ' F1 H1 a' w' (λj=>by have:=u (j+1);grind) h c g ?_
   grind[Step.trans]
  simp at h
end
def qD(F F':WP)(op:Op):Prop:=∀x∈op.operands,ev F x=ev F' x
def uX{F F':WP}:∀{l:aX UV},(∀x∈l,ev F x=ev F' x)->f_ F l=f_ F' l:=by intro l;induction l with|nil=>intro _;rfl|cons x l u=>grind[f_]
def C0{F F':WP}:∀{l:aX (Nat×UV)},(∀x∈l,ev F x.2=ev F' x.2)->ow F l=ow F' l:=by intro l;induction l with|nil=>intro _;rfl|cons x l u=>grind[ow]
def As{F F':WP}{o:aY UV}(h:∀x∈o.toArray,ev F x=ev F' x):lZ F o=lZ F' o:=by cases o with|none=>rfl|some x=>grind[lZ]
def HG{E:Env}{F F':WP}{op:Op}(h:qD F F' op):bP E F op=bP E F' op:=by
 cases op with
 |move x=>exact h x (by simp[G?])|assign x=>exact h x (by simp[G?])|pick c a b=>simp[bP];rw[h c (by simp[G?]),h a (by simp[G?]),h b (by simp[G?])]|nilCheck x=>simp[bP];rw[h x (by simp[G?])]|binOp op t x y B=>simp[bP];rw[h x (by simp[G?]),h y (by simp[G?])]|unOp op t x=>simp[bP];rw[h x (by simp[G?])]|convert s d x=>simp[bP];rw[h x (by simp[G?])]|fieldAddr s x f=>simp[bP];rw[h x (by simp[G?])]|field s x f=>simp[bP];rw[h x (by simp[G?])]|indexAddr t x i=>simp[bP];rw[h x (by simp[G?]),h i (by simp[G?])]|index t x i=>simp[bP];rw[h x (by simp[G?]),h i (by simp[G?])]|slice t x lo hi C=>
  simp[bP];rw[h x (by simp[G?]),As (λy w=>h y (by grind[G?])),As (λy w=>h y (by grind[G?])),
   As (λy w=>h y (by grind[G?]))]
 |build t ps=>simp[bP];rw[C0 (λx u=>h x.2 (by grind[G?]))]|makeFunc f a b=>cases f with|func f=>simp[bP];rw[uX (λx u=>h x (by grind[G?])),uX (λx u=>h x (by grind[G?]))]|_=>rfl
 |extract x i=>simp[bP];rw[h x (by simp[G?])]|call c=>have⟨callee,args,z⟩:=c;cases callee with|builtin b=>simp[bP];rw[uX (λx u=>h x (by grind[G?,Call.operands]))]|_=>rfl
 |_=>rfl
def A_{E:Env}{F F':WP}{H:bl}{op:Op}(h:qD F F' op):eu E F H op=eu E F' H op:=by cases op with|load t x=>simp[eu];rw[h x (by simp[G?])]|lookup t m k ok=>simp[eu];rw[h m (by simp[G?]),h k (by simp[G?])]|_=>rfl
theorem Ai{E:Env}{F F':WP}{op:Op}(h:qD F F' op):fG E F op=fG E F' op:=by cases op with|alloc t=>rfl|box t x=>simp[fG];rw[h x (by simp[G?])]|makeSlice t l c=>simp[fG];rw[h l (by simp[G?]),h c (by simp[G?])]|buildSlice t len ps=>simp[fG];rw[C0 (λx u=>h x.2 (by grind[G?]))]|makeMap t r=>cases r<;>rfl|_=>rfl
def HB{E:Env}{F F':WP}{H:bl}{op:Op}(h:qD F F' op):cH E F H op=cH E F' H op:=by
 cases op with
 |store t p x=>simp[cH];rw[h p (by simp[G?]),h x (by simp[G?])]|mapUpdate t m k x=>simp[cH];rw[h m (by simp[G?]),h k (by simp[G?]),h x (by simp[G?])]|insert t m k x=>simp[cH];rw[h m (by simp[G?]),h k (by simp[G?]),h x (by simp[G?])]|call c=>
  have⟨callee,args,u⟩:=c
  cases callee with
  |builtin b=>cases b with|append=>simp[cH];rw[uX (λx w=>h x (by grind[G?,Call.operands]))]|clear=>simp[cH];rw[uX (λx w=>h x (by grind[G?,Call.operands]))]|_=>rfl
  |_=>rfl
 |_=>rfl
def HS{F F':WP}{op:Op}(h:qD F F' op):lS F op=lS F' op:=by
 cases op with
 |call c=>have⟨callee,args,u⟩:=c;cases callee with|value f=>simp[lS];rw[h f (by simp[G?,Call.operands]),uX (λx w=>h x (by grind[G?,Call.operands]))]|_=>rfl
 |_=>rfl
def NR{E:Env}{F F':WP}{op:Op}(h:qD F F' op):rS E F op=rS E F' op:=by grind[rS,Ai]
def Qh{F F':WP}{ops:QP}{i b:Nat}{H:bl}{op:Op}(h:qD F F' op):CQ ops i b F H op=CQ ops i b F' H op:=by
 have:sF F op=sF F' op:=by
  unfold sF;split;rename_i args _;split;rename_i x r u;rw[h x (by
   have:x∈args.toList:=by rw[u];simp
   grind[G?,Call.operands])]
  rfl;rfl
 grind[CQ]
def Nz{E:Env}{place:aY (Nat×Nat)}{F F':WP}{H:bl}{op:Op}(h:qD F F' op):vT E F H place op=vT E F' H place op:=by
 unfold vT;rw[HG h];have:evalConv E F H op=evalConv E F' H op:=by unfold evalConv;split;rw[h _ (by simp[G?])];rfl
 rw[this]
def Gs{E:Env}{b:Nat×Nat}{F:WP}{H:bl}{op:Op}:vT E F H (M b) op=bP E F op:=by grind[vT]
def Gp{E:Env}{call:dR}{ops:QP}{place:aY (Nat×Nat)}{F F':WP}{H:bl}{op:Op}(h:qD F F' op)(B:∀b i,place=M (b,i)->sM ops i F=sM ops i F'/\uw ops b i F=uw ops b i F'/\qL ops i F op=qL ops i F' op):cZ E call ops place F H op=cZ E call ops place F' H op:=by
 unfold cZ;rw[Nz h,Ai h,HB h,HS h,A_ (H:=H) h,NR h];split<;>(try rfl)
 .split<;>(try rfl);rename_i i;rw[A_ h,(B _ i Y).2.2]
 split<;>(try rfl);rename_i b i;rw[(B _ i Y).1,(B _ i Y).2.1,Qh h]
section
variable{E:Env}{call:dR}{n:Nat}{ops:QP}{j?:Nat}
theorem QC {o:Oper} {t:Nat} (h:.tmp t∈o.op.operands):t∈tmpsOf o ops:=by
 refine List.mem_append.2 (.inl (List.mem_filterMap.2 ⟨.tmp t,by grind,rfl⟩))
def IT{F F':WP}{o:Oper}{dst:aY Nat}{v:V}(hp:lQ n F dst v=M F')(h:∀d,dst=M d->d∉tmpsOf o ops):qD F' F o.op:=by
 intro x u
 cases x with
 |tmp t=>cases dst with|none=>grind[lQ]|some d=>simp only[lQ]at hp;split at hp;simp at hp;subst hp;have w:d≠t:=λe=>h d Y (by rw[e];exact QC u);grind[ev,kS];grind
 |const v=>rfl|func f=>rfl|global g=>rfl
def Ez{F F':WP}{o:Oper}{dst:aY Nat}{v:V}(hp:lQ n F dst v=M F')(h:∀d,dst=M d->d∉tmpsOf o ops):gZ ops F' o=gZ ops F o:=by unfold gZ;cases a:o.guard with|none=>rfl|some g=>have⟨j,b⟩:=g;simp only;cases hd:_n (ops[j]?) (·.dst)with|none=>rfl|some t=>simp only;cases dst with|none=>grind[lQ]|some d=>simp only[lQ]at hp;split at hp;simp at hp;subst hp;have u:d≠t:=λe=>h d Y (by grind[tmpsOf]);rw[kS _ _ u];grind
def S4{F F1 G:WP}{d D:aY Nat}{u v:V}(a:lQ n F d u=M F1)(T:lQ n F1 D v=M G)(g:∀x,d=M x->D≠M x):
 ∃B,lQ n F D v=M B/\lQ n B d u=M G:=by
 cases d with
 |none=>simp_all[lQ]|some x=>
  cases D with
  |none=>simp_all[lQ]|some y=>simp_all[lQ,M6]
def NB{i k:Nat}{B ok:Oper}(h:dY ops i=U)(a:ops[i]?=M B)(b:ops[k]?=M ok)(D:k≠i):cO ok.op=.pure\/(if k<i then before ops i k else before ops k i)=U\/(isApp B.op=U/\cO ok.op=.alloc/\i<k):=by grind[dY]
theorem JC{H:bl}{j es:Nat}{ob:Ob}{x:V}{xs:S'}(B:H[j]?=M .free)(h:dO H es x=M xs):dO (H.set j ob) es x=M xs:=by unfold dO at h⊢;all_goals grind[Ob.rows]
def WU{H H1:bl}{j:Nat}{ob:Ob}{x:V}(h:iz H x=M H1):W H1=W H/\(H1[j]?=M .free->H[j]?=M .free)/\(H[j]?=M .free->iz (H.set j ob) x=M (H1.set j ob)):=by unfold iz at h⊢;split at h;grind;grind;rename_i id a b c;split at h;rename_i d;cases h;refine⟨f?,λh=>?_,λh=>?_⟩;grind;have e:id≠j:=λe=>h?;rw[F? (Ne.symm e),d];rw[J0 _ _ e];simp_all;simp_all
def UM{H:bl}{o:Ob}{j:Nat}(B:o≠.free)(h:(H++[o])[j]?=M .free):j<W H/\H[j]?=M .free:=by grind
def X6{F:WP}{H H1:bl}{op:Op}{v:V}{j:Nat}{ob:Ob}(B:isApp op=U)(h:cH E F H op=M (v,H1))(D:H1[j]?=M .free):H[j]?=M .free/\cH E F (H.set j ob) op=M (v,H1.set j ob):=by unfold isApp at B;split at B;simp only[cH]at h⊢;split at h;split at h;rename_i e _ u w;split at h;rename_i d hd;split at h;simp_all[JC];rename_i L i C Q S;split at h;obtain⟨H0,a,G⟩:=ζf.1 h;obtain⟨rfl,rfl⟩:=G;obtain⟨I,z⟩:=UM f? D;obtain⟨g1,g2,g3⟩:=WU (ob:=ob) a;have g:=g2 z;grind[JC];simp_all;simp_all;simp_all;rename_i e _ u w;split at h;rename_i d hd;unfold mkApp at h;split at h;split at h;simp_all[mkApp];split at h;obtain⟨rfl,rfl⟩:=h;grind[mkApp];simp_all;simp_all;simp_all;simp_all;simp_all;simp_all
def w8{i:Nat}{F:WP}{H H':bl}{op:Op}{v:V}(h:cZ E call ops (M (j?,i)) F H op=M (v,H'))(j:dY ops i=O)(B:cO op≠.loud):
 (H'=H/\∀H2:bl,pg (H2.take j?) (H.take j?)->cZ E call ops (M (j?,i)) F H2 op=M (v,H2))\/
 (∃ob,H[j?+i]?=M .free/\H'=H.set (j?+i) ob/\∀H2:bl,H2[j?+i]?=M .free->cZ E call ops (M (j?,i)) F H2 op=M (v,H2.set (j?+i) ob))\/
 (∃T,kg (H.take j?) T=U/\H'=cU H T/\∀H2:bl,pg (H2.take j?) (H.take j?)->cZ E call ops (M (j?,i)) F H2 op=M (v,cU H2 T)):=by
 unfold cZ at h;split at h
 next o=>simp at h;obtain⟨x,L,rfl,rfl⟩:=h;simp_all[Gs,cZ]
 .rename_i B;simp only at h;split at h
  .rename_i Q;split at h
   .rename_i x L;obtain⟨rfl,rfl⟩:=h;refine .inl ⟨Y,λH2 D=>?_⟩
    grind[cZ,Cd]
   grind
  grind
 .split at h
  .have⟨x,L,e⟩:=ζf.1 h;simp_all[cZ]
  split at h
  .grind
  .rename_i ob m A X S G;obtain⟨rfl,rfl⟩:=G;split at h
   .rename_i w;obtain⟨rfl,rfl⟩:=h;refine .inr (.inl ⟨ob,w,Y,λH2 D=>?_⟩)
    grind[cZ]
   grind
  grind
 .grind
 rename_i B;split at h
 .rename_i f args z;split at h
  rotate_left
  .cases h
  rename_i C;unfold eE at h;split at h
  .grind
  rename_i u;simp only at h;split at h
  .rename_i y q;split at h
   .rename_i I;obtain⟨rfl,rfl⟩:=h;refine .inl ⟨Y,λH2 D=>?_⟩
    unfold cZ eE;rw[B];simp only[z,L' C];rw[M' u]
    grind[Cx]
   split at h
   .rename_i g;obtain⟨rfl,rfl⟩:=h;refine .inr (.inr ⟨_,g,Y,λH2 D=>?_⟩)
    unfold cZ eE;rw[B];simp only[z,L' C];rw[M' u]
    grind[Cx,PI,yA]
   grind
  grind
 all_goals grind
def IL{g:X'}{i:Nat}:∀{r l:ST},EO g ops i r=M l->∀k∈r,∃a,Kc g ops i k=M a/\∀s∈a,s∈l
 |[],l,h,k,c=>p?|q::r,l,h,k,c=>by simp[EO]at h;split at h;rename_i a b d B;simp at h;rcases mem_cons.1 c with rfl|c;grind;have⟨a',g1,g2⟩:=IL B k c;exact⟨a',g1,λs u=>h?⟩;grind
theorem L0 {g:Bool} {i:Nat}:∀{r l:aX Nat},EO g ops i r=some l->∀s∈l,s∉dstsOf ops
 | [],l,h,s,hs=>by grind[EO]
 | q::r,l,h,s,hs=>by
  simp[EO]at h;split at h
  .rename_i a b h1 B;simp  at h;subst h;rcases List.mem_append.1 hs with hs|hs
   .grind[Kc]
   exact L0 B s hs
  grind
def sD{g:X'}{i a:Nat}{l:ST}{B:Oper}(f:ops[i]?=M B)(h:uA g ops i=M (a,l)):(∃t x,B.op=.store t (.tmp a) x)/\a∉dstsOf ops/\(∀s∈l,s∉dstsOf ops)/\
 ∀k ok,ops[k]?=M ok->k≠i->cO ok.op=.pure\/(if k<i then before ops i k else before ops k i)=U\/(∃D a',ok.op=.load D (.tmp a')/\(a'∈l\/a'∈dstsOf ops))\/(g=U/\(cO ok.op=.alloc\/cO ok.op=.call)):=by
 unfold uA at h;rw[f]at h;simp at h;split at h
 .rename_i t a0 x w;simp at w;split at h
  .simp_all
  have⟨G,z,e⟩:=ζf.1 h;obtain⟨rfl,rfl⟩:=e;refine⟨⟨t,x,w⟩,h?,L0 z,λk ok d C=>?_⟩
  have⟨b,c,I⟩:=IL z k (List.mem_range.2 (ζe.1 d).1);unfold Kc at c;rw[d]at c;simp only at c;split at c
  .rename_i u;simp at u;rcases u with(u|u)|u
   .grind
   .grind
   exact .inr (.inl u)
  grind
 grind
def Li{F F':WP}{dst:aY Nat}{v:V}{s:Nat}(hp:lQ n F dst v=M F')(h:∀d,dst=M d->s≠d):get F' s=get F s:=by unfold lQ at hp;split at hp;grind;rename_i d;split at hp;simp at hp;subst hp;simp_all[kS,Ne.symm];grind
def M4{k d:Nat}{ok:Oper}(a:ops[k]?=M ok)(hd:ok.dst=M d):d∈dstsOf ops:=List.mem_filterMap.2 ⟨ok,s? a,hd⟩
def Bq{F F':WP}{k i:Nat}{ok B:Oper}{v:V}(f:ops[k]?=M ok)(c:ops[i]?=M B)(hp:lQ n F ok.dst v=M F'):sM ops i F'=sM ops i F/\∀b,uw ops b i F'=uw ops b i F:=by
 have g:∀s,s∉dstsOf ops->get F' s=get F s:=λs z=>Li hp λd hd e=>z (e▸M4 f hd);refine⟨?_,λb=>?_⟩;unfold sM;cases u:uA O ops i with|none=>rfl|some w=>have⟨a,l⟩:=w;have⟨_,C,D,_⟩:=sD c u;grind
 unfold uw;cases u:uA U ops i with|none=>rfl|some w=>have⟨a,l⟩:=w;have⟨_,C,D,_⟩:=sD c u;grind
def SY{i k a a':Nat}{t:W'}{x:UV}{B:Oper}(b:ops[i]?=M B)(e1:B.op=.store t (.tmp a) x)(c:a'∈dstsOf ops)(D:a∉dstsOf ops)(G:uv ops i k=O):a∈rV ops k a':=by grind[rV]
theorem Gr{k a' s:Nat}(h:s∈rV ops k a'):s∉dstsOf ops/\∃i B t x,ops[i]?=M B/\B.op=.store t (.tmp s) x/\uv ops i k=O:=by grind[rV]
def IW{F F':WP}{k i:Nat}{ok:Oper}{op:Op}{v:V}(a:ops[k]?=M ok)(hp:lQ n F ok.dst v=M F')(B:qD F' F op):qL ops i F' op=qL ops i F op:=by
 have b:∀s,s∉dstsOf ops->get F' s=get F s:=λs h=>Li hp λd hd e=>h (e▸M4 a hd);unfold qL;split;rename_i t u;have w:=by have:=B (.tmp u) (by simp[G?]);simpa[ev]using this
 rw[w,Bool.eq_iff_iff];grind[Gr];rfl
def Gd{k a':Nat}{ok:Oper}{t:W'}(a:ops[k]?=M ok)(e:ok.op=.load t (.tmp a'))(h:dY ops k=U):rV ops k a'=[]:=by refine List.eq_nil_iff_forall_not_mem.2 λs w=>?_;have⟨_,i,B,C,x,b,z,D⟩:=Gr w;have u:i≠k:=λe2=>h?;rcases NB h a b u with g|g|g;rw[z]at g;cases g;all_goals grind[uv,isApp]
def Ar{F:WP}{H H':bl}{t:W'}{a:Nat}{x:UV}{id el off:Nat}{u:V}(B:get F a=.hptr id el off)(h:cH E F H (.store t (.tmp a) x)=M (u,H')):∃r,H'=H.set id r:=by grind[cH,ev]
theorem Q8{F:WP}{H:bl}{t:W'}{a id b:Nat}{r:Ob}(B:qu id (get F a)=U):eu E F ((H.set id r).take b) (.load t (.tmp a))=eu E F (H.take b) (.load t (.tmp a)):=by
 have:∀m,fh ((H.set id r).take b) (get F a) m=fh (H.take b) (get F a) m:=λm=>by unfold qu at B;grind[fh]
 grind[eu,ev]
theorem Jk {i:Nat} {B:Oper} (hi:ops[i]? = some B) (m:cO B.op=.loud) (W:dY ops i=false) (j:isApp B.op=false) {F:Frame} {T G:bl} {u:V} (D:cZ E call ops (some (j?,i)) F T B.op=some (u,G)) :
 ∃g a l id el off t x,uA g ops i=some (a,l)/\B.op=.store t (.tmp a) x/\get F a=.hptr id el off/\(∀s∈l,qu id (get F s)=true)/\(g=true->id<j?)/\cH E F T B.op=some (u,G)/\∀H,cZ E call ops (some (j?,i)) F H B.op=cH E F H B.op:=by
 have key:(sM ops i F||uw ops j? i F)=true/\cH E F T B.op=some (u,G)/\∀H,cZ E call ops (some (j?,i)) F H B.op=cH E F H B.op:=by
  have j:∀F b H,CQ ops i b F H B.op=false:=λF b H=>by grind[CQ]
  have e:∀H,cZ E call ops (some (j?,i)) F H B.op=if sM ops i F||uw ops j? i F then cH E F H B.op else none:=λH=>by
   unfold cZ;rw[m];simp only[W,Bool.false_or,j,Bool.or_false]
  rw[e]at D;split at D
  next hc=>exact⟨hc,D,λH=>by rw[e,L' hc]⟩
  cases D
 obtain⟨h1,C,I⟩:=key;rcases Bool.or_eq_true_iff.1 h1 with hf|hf
 .unfold sM at hf;split at hf
  .rename_i a l w;split at hf
   next id el off hg=>obtain⟨⟨t,x,z⟩,-⟩:=sD hi w;exact⟨false,a,l,id,el,off,t,x,w,z,hg,λs D=>List.all_eq_true.1 hf s D,λh=>(by cases h),C,I⟩
   cases hf
  cases hf
 unfold uw at hf;split at hf
 .rename_i a l w;split at hf
  next id el off hg=>obtain⟨⟨t,x,z⟩,-⟩:=sD hi w;simp only[ζh,_g]at hf;exact⟨true,a,l,id,el,off,t,x,w,z,hg,λs D=>List.all_eq_true.1 hf.2 s D,λ_=>hf.1,C,I⟩
  cases hf
 cases hf
def K9{g:X'}{k i a a' id el off:Nat}{l:ST}{ok T:Oper}{t j:W'}{x:UV}(e:ops[k]?=M ok)(c:ops[i]?=M T)(m:(if k<i then before ops i k else before ops k i)=O)(lk:dY ops k=O)
 (G:uA g ops i=M (a,l))(h:T.op=.store t (.tmp a) x){F:WP}(f:get F a=.hptr id el off)(o:∀s∈l,qu id (get F s)=U)(D:ok.op=.load j (.tmp a'))(b:a'∈l\/a'∈dstsOf ops)
 {H0 H1:bl}{v:V}(B:cZ E call ops (M (j?,k)) F H0 ok.op=M (v,H1)):
 H1=H0/\(∀(H:bl)(r:Ob),eu E F ((H.set id r).take j?) ok.op=eu E F (H.take j?) ok.op)/\cO ok.op=.read/\eu E F (H0.take j?) ok.op=M v/\qL ops k F ok.op=U:=by
 obtain⟨-,z,-,-⟩:=sD c G;unfold cZ at B;rw[D]at B;simp only[cO]at B;split at B
 rotate_left
 .simp at B
 rename_i u;have C:qu id (get F a')=U:=by rcases b with b|b;exact o a' b;have w:uv ops i k=O:=(by grind[uv]);have I:=SY c h b z w;grind[qL]
 split at B
 next L d=>simp only[ζa,ζc]at B;obtain⟨rfl,rfl⟩:=B;exact⟨Y,λH r=>by rw[D];grind[Q8],by rw[D];rfl,by rw[D];exact d,by rw[D];exact u⟩
 grind
def IG{F:WP}{H:bl}{t:W'}{a:Nat}{x:UV}{id el off j:Nat}{ob:Ob}(D:get F a=.hptr id el off)(B:id≠j):cH E F (H.set j ob) (.store t (.tmp a) x)=(cH E F H (.store t (.tmp a) x)).map λp=>(p.1,p.2.set j ob):=by
 have b:(H.set j ob)[id]?=H[id]?:=F? (Ne.symm B);have c:∀r,(H.set j ob).set id r=(H.set id r).set j ob:=λr=>J0 _ _ (Ne.symm B);simp only[cH,ev,D];split
 .rename_i h1 u w;cases u;rw[b];(repeat' split)<;>first|rfl|simp only[c,A?]
 rfl
def Ei{i:Nat}{F:WP}{H H':bl}{op:Op}{v:V}(B:cO op=.alloc)(D:qf E ops (M (j?,i))=O)(h:cZ E call ops (M (j?,i)) F H op=M (v,H')):
 ∃ob,H[j?+i]?=M .free/\H'=H.set (j?+i) ob/\∀H2:bl,H2[j?+i]?=M .free->cZ E call ops (M (j?,i)) F H2 op=M (v,H2.set (j?+i) ob):=by
 unfold cZ at h;rw[B]at h;simp only[D,v?,_a]at h;split at h
 .grind
 .rename_i ob m G I w z;obtain⟨rfl,rfl⟩:=z;split at h
  .rename_i u;obtain⟨rfl,rfl⟩:=h;refine⟨ob,u,Y,λH2 C=>?_⟩
   unfold cZ;rw[B];simp only[D,v?,_a,w,C]
  cases h
 cases h
def wz(n:Nat)(H:bl):∀{l:So},V.jw l=U->borrows n H l=M l
 |[],_=>rfl|x::r,h=>by simp only[V.jw,ζh]at h;have:=wz n H h.2;unfold borrows at this⊢;simp only[jI,kT n H h.1,this]
def Ho{k i:Nat}{a:Nat}{l:ST}{F:WP}{H H':bl}{op:Op}{v:V}(B:cO op=.call)(lk:dY ops k=O)(D:uA U ops i=M (a,l))(G:i<W ops)(T:uv ops i k=O)(h:cZ E call ops (M (j?,k)) F H op=M (v,H')):
 H'=H/\∀H2:bl,cZ E call ops (M (j?,k)) F H2 op=M (v,H2):=by
 have z:KK ops k=U:=by unfold KK;rw[List.any_eq_true];exact⟨i,List.mem_range.2 G,by simp[T,D]⟩
 unfold cZ at h;rw[B]at h;simp only at h;split at h
 .rename_i f args C;split at h
  .rename_i u;have b:V.jw args=U:=by
    unfold zu at u;simpa[z]using u
   have w:∀H2,cq call f args H2=cq call f args []:=λH2=>by unfold cq;rw[wz _ _ b,wz _ _ b]
   have I:∀n H2,c_ (cA n H2) args=[]:=λn H2=>JZ n H2 b
   have e:∀H2,cZ E call ops (M (j?,k)) F H2 op=eE E call ops (M (j?,k)) f args H2:=λH2=>by unfold cZ;rw[B];simp only[C,L' u]
   have g:∀H2:bl,cU H2 []=H2:=λ_=>rfl
   have L:mR E ops (M (j?,k)) f=O:=by cases c:mR E ops (M (j?,k)) f with|false=>rfl|true=>unfold eE at h;rw[L' c]at h;simp only[lk,v?,_a]at h;cases h
   have e2:∀H2,eE E call ops (M (j?,k)) f args H2=(cq call f args []).map λy=>(y,H2):=λH2=>by unfold eE;simp only[L,v?,_a,w,I,g,lk];cases cq call f args []with|none=>rfl|some y=>simp[kg]
   rw[e2]at h;have⟨y,j,e3⟩:=ζf.1 h;cases e3;exact⟨Y,λH2=>by rw[e,e2,j];rfl⟩
  cases h
 .simp only[lk,v?,_a]at h;cases h
 cases h
def Gc{place:Nat×Nat}{F:WP}{H H':bl}{op:Op}{v:V}(B:cO op=.pure\/cO op=.alloc/\qf E ops (M place)=U)(h:cZ E call ops (M place) F H op=M (v,H')):
 H'=H/\∀H2:bl,cZ E call ops (M place) F H2 op=M (v,H2):=by
 rcases B with B|⟨B,u⟩
 rotate_left
 .unfold cZ at h;rw[B]at h;simp only[u]at h;have⟨x,w,e⟩:=ζf.1 h;simp_all[cZ]
 unfold cZ at h;rw[B]at h;simp at h;obtain⟨x,w,rfl,rfl⟩:=h;simp_all[Gs,cZ]
theorem take_set_of_le{H:bl}{b k:Nat}{x:Ob}(h:b<=k):(H.set k x).take b=H.take b:=List.take_set_of_le h
def apart_spec{a b:Oper}(h:A0 ops a b=U):(∀d,a.dst=M d->d∉tmpsOf b ops/\b.dst≠M d)/\(∀d,b.dst=M d->d∉tmpsOf a ops):=by grind[A0]
def FK{i k:Nat}{ok:Oper}(h:Ag ops i=U)(a:ops[k]?=M ok)(B:k≠i)(D:uv ops i k=O):cO ok.op=.pure\/cO ok.op=.read\/cO ok.op=.alloc/\(DI ops k=U\/i<k):=by grind[Ag]
def CY{op:Op}(h:isApp op=U):cO op=.loud:=by unfold isApp at h;split at h;rfl;cases h
theorem Mi{F:WP}{H H1:bl}{op:Op}{v:V}{b:Nat}(B:isApp op=U)(D:sF F op=U)(G:b<=W H)(h:cH E F H op=M (v,H1)):H1.take b=H.take b:=by
 unfold isApp at B;split at B;rotate_left;cases B;rename_i args u;simp only[cH]at h;split at h;rotate_left;cases h;rename_i t I s x w z;have C:s=.dH\/s=.bN:=by grind[sF,f_]
 have a:∀H2,iz H s=M H2->H2=H:=λH2 h=>by rcases C with rfl|rfl<;>(grind[iz])
 split at h;grind[ζf];split at h;unfold mkApp at h;grind;cases h;cases h
def Hq{i:Nat}{F:WP}{H H':bl}{op:Op}{u:V}(D:isApp op=U)(G:dY ops i=O)(a:(ops[i]?).map Oper.op=M op)(h:cZ E call ops (M (j?,i)) F H op=M (u,H')):
 Ag ops i=U/\sF F op=U/\j?<=W H/\cH E F H op=M (u,H'):=by
 unfold cZ at h;rw[CY D]at h;have w:∀g,uA g ops i=J:=λg=>by unfold uA;rw[a];grind[isApp]
 have z:sM ops i F=O:=by unfold sM;rw[w]
 have B:uw ops j? i F=O:=by unfold uw;rw[w]
 simp only[G,z,B,Bool.false_or]at h
 grind[CQ]
theorem TA{i:Nat}{F:WP}{H H':bl}{op:Op}{u:V}(B:isApp op=U)(h:cH E F H op=M (u,H'))(a:dY ops i=U\/Ag ops i=U/\sF F op=U/\j?<=W H):cZ E call ops (M (j?,i)) F H op=M (u,H'):=by unfold cZ;rw[CY B];grind[CQ]
def Gl{i:Nat}{F:WP}{H H':bl}{op:Op}{v:V}(B:cO op=.read)(D:dY ops i=O)(h:cZ E call ops (M (j?,i)) F H op=M (v,H')):
 H'=H/\∀H2:bl,pg (H2.take j?) (H.take j?)->cZ E call ops (M (j?,i)) F H2 op=M (v,H2):=by
 unfold cZ at h;rw[B]at h;simp only at h;split at h
 .rename_i u;split at h
  .rename_i x w;simp only[ζa,ζc]at h;obtain⟨rfl,rfl⟩:=h;refine⟨Y,λH2 z=>?_⟩
   unfold cZ;rw[B];simp only[Cd z,w,u,N']
  grind
 simp at h
def swap{k i:Nat}{ok G:Oper}(p:ops[k]?=M ok)(s:ops[i]?=M G)(ae:k<i)(c__:before ops i k=O)(b__:A0 ops ok G=U){F F1 V:WP}{H H1 H2:bl}
 (P:iM E call n ops (M (j?,k)) ok F H=M (F1,H1))(A:iM E call n ops (M (j?,i)) G F1 H1=M (V,H2)):
 ∃B D,iM E call n ops (M (j?,i)) G F H=M (B,D)/\iM E call n ops (M (j?,k)) ok B D=M (V,H2):=by
 obtain⟨a1,a2⟩:=apart_spec b__;have af:∃v,lQ n F ok.dst v=M F1/\((gZ ops F ok=U/\cZ E call ops (M (j?,k)) F H ok.op=M (v,H1))\/(gZ ops F ok=O/\v=.undef/\H1=H)):=by unfold iM at P;split at P;rename_i hw;split at P;rename_i v H' hd;simp only[ζf,ζc]at P;grind;simp at P;rename_i hw;simp only[ζf,ζc]at P;grind
 have ah:∃v,lQ n F1 G.dst v=M V/\((gZ ops F1 G=U/\cZ E call ops (M (j?,i)) F1 H1 G.op=M (v,H2))\/(gZ ops F1 G=O/\v=.undef/\H2=H1)):=by unfold iM at A;split at A;rename_i hw;split at A;rename_i v H' hd;simp only[ζf,ζc]at A;grind;simp at A;rename_i hw;simp only[ζf,ζc]at A;grind
 obtain⟨v,Q,kE⟩:=af;obtain⟨u,ax,an⟩:=ah;have ay:gZ ops F1 G=gZ ops F G:=Ez Q λd hd=>(a1 d hd).1
 have ao:qD F1 F G.op:=IT Q λd hd=>(a1 d hd).1
 have aA:∀(b j:Nat),(M (j?,i):aY (Nat×Nat))=M (b,j)->sM ops j F1=sM ops j F/\uw ops b j F1=uw ops b j F/\qL ops j F1 G.op=qL ops j F G.op:=λb j e=>by cases e;exact⟨(Bq p s Q).1,(Bq p s Q).2 _,IW p Q ao⟩
 rw[ay,Gp ao aA]at an;obtain⟨B,S,aB⟩:=S4 Q ax λx hx=>(a1 x hx).2
 have aC:gZ ops B ok=gZ ops F ok:=Ez S λd hd=>a2 d hd
 have ap:qD B F ok.op:=IT S λd hd=>a2 d hd
 have aD:∀(b j:Nat),(M (j?,k):aY (Nat×Nat))=M (b,j)->sM ops j B=sM ops j F/\uw ops b j B=uw ops b j F/\qL ops j B ok.op=qL ops j F ok.op:=λb j e=>by cases e;exact⟨(Bq s p S).1,(Bq s p S).2 _,IW s S ap⟩
 have fin:∀D,((gZ ops F G=U/\cZ E call ops (M (j?,i)) F H G.op=M (u,D))\/(gZ ops F G=O/\u=.undef/\D=H))->
  ((gZ ops F ok=U/\cZ E call ops (M (j?,k)) F D ok.op=M (v,H2))\/(gZ ops F ok=O/\v=.undef/\H2=D))->
  ∃B D,iM E call n ops (M (j?,i)) G F H=M (B,D)/\iM E call n ops (M (j?,k)) ok B D=M (V,H2):=by
  intro D e1 e2;refine⟨B,D,?_,?_⟩
  .grind[iM]
  unfold iM;rw[aC];rcases e2 with⟨x1,x2⟩|⟨x1,x2,x3⟩
  .rw[L' x1,Gp ap aD,x2];simp[aB]
  grind
 rcases kE with⟨I,y⟩|⟨I,rfl,rfl⟩
 .rcases an with⟨L,f⟩|⟨L,rfl,rfl⟩
  .by_cases pk:cO ok.op=.pure\/cO ok.op=.alloc/\qf E ops (M (j?,k))=U
   .obtain⟨rfl,q⟩:=Gc pk y
    grind
   by_cases pi:cO G.op=.pure\/cO G.op=.alloc/\qf E ops (M (j?,i))=U
   .obtain⟨rfl,q⟩:=Gc pi f
    grind
   by_cases b__:isApp ok.op=U/\cO G.op=.alloc
   .
    obtain⟨b__,aE⟩:=b__;have aH:=CY b__;have aq:(dY ops k=U\/Ag ops k=U/\sF F ok.op=U/\j?<=H.length)/\cH E F H ok.op=M (v,H1):=by cases hl:dY ops k with|true=>simp_all[cZ]|false=>obtain⟨a,b,c,d⟩:=Hq b__ hl (by rw[p];rfl) y;grind
    obtain⟨aq,e1⟩:=aq;have ab:qf E ops (M (j?,i))=O:=by grind
    have e2:∃ob m,fG E F G.op=M (ob,m)/\H1[j?+i]?=M .free/\u=m.val (j?+i)/\H2=H1.set (j?+i) ob:=by unfold cZ at f;rw[aE]at f;grind
    obtain⟨ob,m,aI,ai,rfl,rfl⟩:=e2;obtain⟨f0,R⟩:=X6 (ob:=ob) b__ e1 ai;refine fin (H.set (j?+i) ob) (.inl ⟨L,?_⟩) (.inl ⟨I,?_⟩)
    .grind[cZ]
    grind[TA]
   have lk:dY ops k=O:=by grind[dY]
   have a__:dY ops i=O:=by grind[dY]
   by_cases ar:isApp G.op=U
   .obtain⟨g1,g2,g3,g4⟩:=Hq ar a__ (by rw[s];rfl) f
    rcases FK g1 p c? (by grind[uv])with h|h|⟨h,A⟩
    .grind
    .obtain⟨rfl,q⟩:=Gl h lk y
     grind[pg.of_eq,Mi]
    rcases A with A|A
    .exact _e (.inr ⟨h,show(DI ops k||Xx E ops k)=U by rw[A];rfl⟩) pk
    omega
   by_cases au:isApp ok.op=U
   .obtain⟨g1,g2,g3,g4⟩:=Hq au lk (by rw[p];rfl) y
    rcases FK g1 s c? (by grind[uv])with h|h|⟨h,A⟩
    .grind
    .obtain⟨rfl,q⟩:=Gl h a__ f
     grind[pg.of_eq,Mi]
    grind
   by_cases d__:cO G.op=.loud
   .obtain⟨g,a,l,id,el,off,t,x,C,w,hg,W,aj,he,ak⟩:=Jk s d__ a__ (by simpa using ar) f
    obtain⟨r,hr⟩:=Ar hg (by rw[<-w];exact he)
    obtain⟨-,-,-,h4⟩:=sD s C;rcases h4 k ok p c? with h|h|⟨t',a',al,Y⟩|⟨rfl,h|h⟩
    .exact _e (.inl h) pk
    .rw[L' ae,c__]at h;cases h
    .obtain⟨rfl,q1,q3,q4,q5⟩:=K9 p s (by rw[L' ae];exact c__) lk C w hg W al Y y
     refine fin H2 (.inl ⟨L,f⟩) (.inl ⟨I,?_⟩);unfold cZ;rw[q3];subst hr;simp only[q1,q4,q5,N']
    .have ab:qf E ops (M (j?,k))=O:=by
      cases hc:qf E ops (M (j?,k))with
      |false=>rfl|true=>exact _e (.inr ⟨h,hc⟩) pk
     obtain⟨ob,R,rfl,K⟩:=Ei h ab y;have aF:=aj rfl;rw[w,IG hg (show id≠j?+k by omega)]at he
     obtain⟨⟨u',H'⟩,e1,e2⟩:=ζf.1 he;cases e2;obtain⟨r',rfl⟩:=Ar hg e1;exact fin (H.set id r') (.inl ⟨L,by rw[ak,w];exact e1⟩) (.inl ⟨I,K _ (by rw[F? c?];exact R)⟩)
    obtain⟨rfl,K⟩:=Ho h lk C (ζe.1 s).1 (by unfold uv;rw[L' ae];exact c__) y
    exact fin H2 (.inl ⟨L,f⟩) (.inl ⟨I,K H2⟩)
   by_cases ad:cO ok.op=.loud
   .obtain⟨g,a,l,id,el,off,t,x,C,w,hg,W,aj,he,ak⟩:=Jk p ad lk (by simpa using au) y
    obtain⟨r,hr⟩:=Ar hg (by rw[<-w];exact he)
    obtain⟨-,-,-,h4⟩:=sD p C;rcases h4 i G s c? with h|h|⟨t',a',al,Y⟩|⟨rfl,h|h⟩
    .exact _e (.inl h) pi
    .rw[M' c?,c__]at h;cases h
    .obtain⟨rfl,q1,q3,q4,q5⟩:=K9 s p (by rw[M' c?];exact c__) a__ C w hg W al Y f
     refine fin H (.inl ⟨L,?_⟩) (.inl ⟨I,y⟩);unfold cZ;rw[q3];subst hr;rw[q1]at q4;simp only[q4,q5,N']
    .have ab:qf E ops (M (j?,i))=O:=by
      cases hc:qf E ops (M (j?,i))with
      |false=>rfl|true=>exact _e (.inr ⟨h,hc⟩) pi
     obtain⟨ob,R,rfl,z⟩:=Ei h ab f;have aF:=aj rfl;subst hr;rw[F? c?]at R
     refine fin (H.set (j?+i) ob) (.inl ⟨L,z H R⟩) (.inl ⟨I,?_⟩);rw[ak,w,IG hg (show id≠j?+i by omega),<-w,he];rfl
    obtain⟨rfl,z⟩:=Ho h a__ C (ζe.1 p).1 (by unfold uv;rw[M' c?];exact c__) f
    exact fin H (.inl ⟨L,z H⟩) (.inl ⟨I,y⟩)
   have tk:∀(X:bl)(k:Nat)(o:Ob),pg ((X.set (j?+k) o).take j?) (X.take j?):=λX k o=>pg.of_eq (take_set_of_le c?)
   rcases w8 y lk ad with⟨rfl,K⟩|⟨ob,fk,rfl,K⟩|⟨T,tr,rfl,K⟩
   .rcases w8 f a__ d__ with⟨rfl,z⟩|⟨am,fi,rfl,z⟩|⟨e__,Z,rfl,z⟩
    .grind
    .grind
    exact fin _ (.inl ⟨L,f⟩) (.inl ⟨I,K _ ((tU Z).take j?)⟩)
   .rcases w8 f a__ d__ with⟨rfl,z⟩|⟨am,fi,rfl,z⟩|⟨e__,Z,rfl,z⟩
    .refine fin H (.inl ⟨L,z H (tk _ _ _).symm⟩) (.inl ⟨I,y⟩)
    .grind[J0]
    have aa:kg (H.take j?) e__=U:=by rw[<-yA (tk H k ob)];exact Z
    have av:j?+k∉e__:=λhm=>_e (CI aa hm) c?
    refine fin (cU H e__) (.inl ⟨L,z H (tk _ _ _).symm⟩) (.inl ⟨I,?_⟩);rw[K _ (by rw[jZ,fk];simp[av]),G4 av]
   rcases w8 f a__ d__ with⟨rfl,z⟩|⟨am,fi,rfl,z⟩|⟨e__,Z,rfl,z⟩
   .refine fin H (.inl ⟨L,z H ((tU tr).take j?).symm⟩) (.inl ⟨I,y⟩)
   .have aw:j?+i∉T:=λhm=>_e (CI tr hm) c?
    have aG:H[j?+i]?=M .free:=by rw[jZ]at fi;obtain⟨o,ho,hf⟩:=ζf.1 fi;rw[M' aw]at hf;rw[ho,hf]
    refine fin (H.set (j?+i) am) (.inl ⟨L,z H aG⟩) (.inl ⟨I,?_⟩);rw[K _ (tk _ _ _),G4 aw]
   have aa:kg (H.take j?) e__=U:=by rw[<-yA ((tU tr).take j?)];exact Z
   refine fin (cU H e__) (.inl ⟨L,z H ((tU tr).take j?).symm⟩) (.inl ⟨I,?_⟩);rw[K _ ((tU aa).take j?),Np]
  grind
 grind
theorem NK(h:zD ops=U){k i:Nat}{ok B:Oper}(a:ops[k]?=M ok)(b:ops[i]?=M B)(D:k<i):HU B k=U\/A0 ops ok B=U:=by unfold zD at h;simp at h;grind
def VA(hd:zD ops=U){i:Nat}{B:Oper}(a:ops[i]?=M B):∀(l r:ST),(∀k∈l,k<i/\HU B k=O/\before ops i k=O)->∀{F F':WP}{H H':bl},
 lV E call n ops j? (l++i::r) F H=M (F',H')->lV E call n ops j? (i::(l++r)) F H=M (F',H'):=by
 intro l
 induction l with
 |nil=>grind|cons k l D=>
  intro r C F F' H H' h;have⟨u,G,w⟩:=C k f?
  simp[lV]at h;split at h
  .rename_i ok hk;split at h
   .rename_i F1 H1 h1;have:=D r (λx I=>C x (B? _ I)) h
    simp[lV,a]at this;split at this
    .rename_i Q H2 g;have z:A0 ops ok B=U:=by
      grind[NK]
     have⟨L,j,g1,g2⟩:=swap hk a u w z h1 g
     grind[lV]
    grind
   grind
  grind
inductive Reach(ops:List Oper):Nat->Nat->Prop
 |one(i k:Nat)(o:Oper)(e:Edge)(hi:ops[i]?=some o)(he:e∈o.after)(hb:nC e=true)(hk:e.on=k):Reach ops i k|more(i j k:Nat)(o:Oper)(e:Edge)(hi:ops[i]?=some o)(he:e∈o.after)(hb:nC e=true)(hk:e.on=j)(h:Reach ops j k):Reach ops i k
def G8:∀(B l:ST)(k:Nat),k∈B.foldl (λl k=>if l.contains k then l else k::l) l->k∈B\/k∈l
 |[],_,_,h=>.inr h|x::B,l,k,h=>by rcases G8 B _ k h with h|h;all_goals grind
def PV{a:aX ST}{o:Oper}{k:Nat}(h:k∈LW a o):∃e∈o.after,nC e=U/\(k=e.on\/∃S,a[e.on]?=M S/\k∈S):=by
 have key:∀(es:aX Edge)(l:ST),k∈es.foldl (λl e=>(e.on::(a[e.on]?).getD []).foldl (λl k=>if l.contains k then l else k::l) l) l->k∈l\/∃e∈es,k=e.on\/∃S,a[e.on]?=M S/\k∈S:=by
  intro es;induction es with|nil=>grind|cons e es u=>
   intro l h;rcases u _ h with h|⟨z,b,w⟩
   .rcases G8 _ _ _ h with h|h;all_goals grind
   grind
 rcases key _ _ h with h|⟨e,b,w⟩;all_goals grind
def Bd(ops:QP):∀(l:QP)(a:aX ST)(pre:QP),ops=pre++l->W a=W pre->(∀(i:Nat)S,a[i]?=M S->∀k∈S,Reach ops i k)->
 ∀(i:Nat)S,(l.foldl (λa o=>a++[LW a o]) a)[i]?=M S->∀k∈S,Reach ops i k
 |[],_,_,_,_,h=>h|o::l,a,pre,D,G,h=>by refine Bd ops l _ (pre++[o]) p? p? ?_;intro i S c k b;by_cases d:i<W a;grind;rw[List.getElem?_append_right c?]at c;have B:i=W a:=(by grind);subst B;simp at c;subst c;have u:ops[W a]?=M o:=h?;have⟨e,w,z,b⟩:=PV b;rcases b with b|⟨S,c,b⟩;exact .one _ _ o e u w z b.symm;exact .more _ e.on _ o e u w z Y (h _ S c k b)
def Lv{i k:Nat}(h:before ops i k=U):Reach ops i k:=by unfold before at h;cases a:(Lr ops)[i]?with|none=>grind|some S=>exact Bd ops ops [] [] Y Y f? i S a k h?
end
section
variable{P:Program}{E:Env}{I I':cG}{μ μ':Mu}{H H':bl}{n B:Nat}{F F':WP}{a:Act}{w w':World}
def I6(e:Edge):Region.binds .any e=nC e:=by unfold Region.binds nC;grind
def todo(ops:Array Oper)(a:Array X'):ST:=(w! ops.size).filter λi=> !a.getD i U
def AJ(ops:Array Oper)(a:Array X'):(todo ops a).Pairwise (·<·):=List.pairwise_lt_range.filter _
def Vz{ops:Array Oper}{a:Array X'}{i:Nat}(G:a.size=ops.size)(b:i<ops.size){B D:ST}(h:todo ops a=B++i::D):
 todo ops (a.setIfInBounds i U)=B++D:=by
 have I:∀j∈w! ops.size,(!(a.setIfInBounds i U).getD j U)=((!a.getD j U)&&(j != i)):=by intro j _;by_cases e:j=i;simp_all;have:(a.setIfInBounds i U).getD j U=a.getD j U:=(by simp[Array.getElem?_setIfInBounds_ne (Ne.symm e)]);grind
 have:todo ops (a.setIfInBounds i U)=(todo ops a).filter (· != i):=by unfold todo;rw[List.filter_filter];grind
 rw[this,h];have u:=AJ ops a;rw[h]at u;rw[List.pairwise_append]at u;have⟨_,z,C⟩:=u;rw[List.pairwise_cons]at z;rw[List.filter_append,List.filter_cons];simp;rw[List.filter_eq_self.2 (λx w=>by have:=C x w i f?;simp;omega),List.filter_eq_self.2 (λx w=>h?)]
def Down(ops:Array Oper)(a:Array X'):Prop:=∀j o,a.getD j O=U->ops[j]?=M o->∀e∈o.after,nC e=U->a.getD e.on O=U
def Q_{ops:Array Oper}{a:Array X'}(hd:Down ops a){i k:Nat}(h:Reach ops.toList i k)(b:∀o,ops[i]?=M o->∀e∈o.after,nC e=U->a.getD e.on O=U):a.getD k O=U:=by induction h with|one i k o e B w z hk=>grind|more i j k o e B w z hk _ C=>subst hk;exact C λD u=>hd _ _ (b o h? e w z) u
def JL(hE:eX P E){call:dR}(hc:mI P call){ops:Array Oper}(hd:zD ops.toList=U)(q:Cn ops.toList=U)(ro:aY Nat){Q:Exit->Act->World->Prop}(j?:Nat):
 ∀(D:Nat)(b:Array X')(I:cG)(μ:Mu)(F:WP)(H:bl)(a:Act)(w:World),b.size=ops.size->Down ops b->_l (todo ops b)=D->
 lV E call n ops.toList j? (todo ops b) F H=M (F',H')->eU I μ n F a.tmps->di I μ H w->
 (∀a' I' μ' w',eU I' μ' n F' a'.tmps->a'.defers=a.defers->di I' μ' H' w'->Step I μ H w I' μ' H' w'->Q .normal a' w')->
 wpAnyIn (fr ro) 0 P .any ops Q D b a w:=by
 intro D
 induction D with
 |zero=>
  intro b I μ F H a w d__ L c h r s t;have S:todo ops b=[]:=List.eq_nil_of_length_eq_zero c;rw[S]at h;obtain⟨rfl,rfl⟩:=h;refine⟨?_,t a I μ w r _k s (.refl _ _ _ _)⟩;unfold Region.ready;rw[List.filter_eq_nil_iff];intro i d;have:i∉todo ops b:=h?
  unfold todo at this
  grind
 |succ D ih=>
  intro b I μ F H a w d__ L c h r s t;have W:∀i,i∈Region.ready .any ops b->i<ops.size/\i∈todo ops b/\∃o,ops[i]?=M o/\∀e∈o.after,nC e=U->b.getD e.on O=U:=by intro i d;unfold Region.ready at d;rw[Z!]at d;have⟨v,h2⟩:=d;simp only[ζh]at h2;have G:i<ops.size:=h?;refine⟨G,by unfold todo;grind,ops[i],p?,?_⟩;have a__:(ops[i].after.all λe=> !Region.binds .any e||b.getD e.on O)=U:=(by grind);rw[Array.all_eq_true_iff_forall_mem]at a__;intro e c__ X;have:=a__ e c__;rw[I6,X]at this;grind
  refine⟨?_,?_⟩
  .
   intro S
   cases Y:todo ops b with
   |nil=>rw[Y]at c;simp at c|cons Z i?=>
    have z:Z∈todo ops b:=by rw[Y];simp
    have g:=AJ ops b;rw[Y,List.pairwise_cons]at g;unfold todo at z;rw[Z!]at z;have G:Z<ops.size:=by simpa using z.1
    have:Z∈Region.ready .any ops b:=by unfold Region.ready;rw[Z!];refine⟨z.1,?_⟩;simp only[ζh];refine⟨z.2,?_⟩;have e0:ops[Z]?=M ops[Z]:=(by simp[G]);rw[e0];simp only[A?,H!];rw[Array.all_eq_true_iff_forall_mem];intro e c__;rw[I6];cases am:nC e with|false=>simp|true=>simp only[Bool.not_true];have an:e.on<Z:=(by unfold Cn at q;simp only[O?]at q;have:=q Z (by simpa using G);have e1:ops.toList[Z]?=M ops[Z]:=(by simp[G]);rw[e1]at this;simp only[Array.all_eq_true_iff_forall_mem]at this;have:=this e c__;rw[am]at this;simpa using this);cases ao:b.getD e.on O with|true=>rfl|false=>exfalso;have e__:e.on∈todo ops b:=(by unfold todo;rw[Z!];refine⟨by simp;omega,?_⟩;have aj:e.on<b.size:=c?;have:b.getD e.on U=b.getD e.on O:=(by simp[aj]);rw[this,ao];rfl);rw[Y]at e__;rcases mem_cons.1 e__ with h|h;omega;have:=g.1 _ h;omega
    rw[S]at this;simp at this
  intro i d;have⟨G,z,o,l,C⟩:=W i d;have⟨R,l2,u⟩:=List.append_of_mem z;have b__:=AJ ops b;rw[u,List.pairwise_append]at b__;have aa:∀k∈R,k<i/\HU o k=O/\before ops.toList i k=O:=by intro k x;have ap:b.getD k O=O:=(by have B:k∈todo ops b:=(by rw[u];simp[x]);unfold todo at B;rw[Z!]at B;have y:k<b.size:=(by rw[d__];simpa using B.1);have:b.getD k U=b.getD k O:=(by simp[y]);rw[this]at B;simpa using B.2);refine⟨b__.2.2 k x i f?,?_,?_⟩;rotate_left;(cases aq:before ops.toList i k with|false=>rfl|true=>have:=Q_ L (Lv aq) (λo' m=>by rw[l]at m;cases m;exact C);rw[ap]at this;cases this);cases c__:HU o k with|false=>rfl|true=>exfalso;unfold HU at c__;rw[Array.any_eq_true]at c__;have⟨ix,ar,p⟩:=c__;have V:o.after[ix]∈o.after:=Array.getElem_mem ar;generalize o.after[ix]=e at V p;simp only[ζh,_i]at p;have v:=C e V p.2;rw[p.1]at v;have B:k∈todo ops b:=(by rw[u];simp[x]);unfold todo at B;rw[Z!]at B;have y:k<b.size:=(by rw[d__];simpa using B.1);have:b.getD k U=b.getD k O:=(by simp[y]);rw[this,v]at B;simp at B
  rw[u]at h;have f:=VA hd (by simpa using l) R l2 aa h
  simp only[lV]at f;have m:ops.toList[i]?=M o:=by simpa using l
  rw[m]at f;simp only at f;split at f
  .rename_i F1 H1 af;unfold wpOpIn;rw[l];simp only;refine FZ hE hc af r s ro (λa' I' μ' w' hr au g av=>?_)
   have ht:=Vz d__ G u;refine ih (b.setIfInBounds i U) I' μ' F1 H1 a' w' (by simpa using d__) ?_ ?_ (by rw[ht];exact f) hr g ?_
   .have T:∀j,b.getD j O=U->(b.setIfInBounds i U).getD j O=U:=by
     intro j A
     by_cases e:i=j
     .subst e;simp[d__,G]
     simpa[Array.getD_eq_getD_getElem?,Array.getElem?_setIfInBounds_ne e]using A
    intro j oj A K e c__ X
    by_cases e':i=j
    .subst e';rw[l]at K;cases K;exact T _ (C e c__ X)
    refine T _ (L j oj ?_ K e c__ X);simpa[Array.getD_eq_getD_getElem?,Array.getElem?_setIfInBounds_ne e']using A
   .rw[ht];rw[u]at c;simp at c⊢;omega
   intro a2 I2 μ2 w2 aw ax ay al;exact t a2 I2 μ2 w2 aw (ax.trans au) ay (Step.trans g av al)
  simp at f
def di.Ke(s:di I μ H w)(k:Nat):di I μ (H++replicate k .free) w:=by
 have u:∀id ob,(H++replicate k Ob.free)[id]?=M ob->H[id]?=M ob\/(ob=.free/\W H<=id):=by grind
 refine⟨λid h=>s.dom id h?,s.imm,?_,?_,s.gl⟩;intro id ob h;rcases u id ob h with h|⟨rfl,z⟩;exact s.obs id ob h;exact s.dom id z;intro id B ob C p g a z D G;rcases u id ob a with a|⟨rfl,_⟩;rcases u B C z with z|⟨rfl,_⟩;exact s.inj id B ob C p g a z D G;simp[Ob.live]at G;simp[Ob.live]at D
def No(k:Nat)(b:Nat):jy μ (H++replicate k .free) b↔jy μ H b:=by constructor;rintro⟨id,p,ob,h1,u,w,z⟩;by_cases B:id<W H;rw[List.getElem?_append_left B]at h1;exact⟨id,p,ob,h1,u,w,z⟩;rw[List.getElem?_append_right c?,List.getElem?_replicate]at h1;split at h1;simp at h1;subst h1;simp[Ob.live]at u;grind;rintro⟨id,p,ob,h1,u,w,z⟩;exact⟨id,p,ob,h?,u,w,z⟩
def Step.Ke(k:Nat):Step I μ H w I μ (H++replicate k .free) w:=⟨cG.le_refl _,Mu.le_refl _,f?,y? _,λ_ _ _=>rfl,λb h=>h.elim .inl λh=>.inr (.inl ((No k b).1 h)),Y,.refl _,λ_ _ h=>h⟩
def Kz(D:eX P E)(T:P.follows .mixedOrders=U){call:dR}(b:mI P call){id:Nat}{ops:Array Oper}{B:X'}(ro:aY Nat){Q:Exit->Act->World->Prop}
 (h:lF E call n ops.toList B F H=M (F',H'))(r:eU I μ n F a.tmps)(s:di I μ H w)
 (G:∀a' I' μ' w',eU I' μ' n F' a'.tmps->a'.defers=a.defers->di I' μ' H' w'->Step I μ H w I' μ' H' w'->Q .normal a' w'):
 (Code.region id ops B).wpIn (fr ro) 0 P Q a w:=by
 unfold lF at h
 cases B with
 |false=>refine wpIn_region ?_;rw[List.range_eq_range',<-Array.length_toList];exact S0 D b ro ops.toList 0 I μ F H a w f? h r s G|true=>
  simp only[N']at h;split at h
  .rename_i u;simp at u;refine wpIn_region_draw λt=>?_
   simp[Region.schedule,T];have s0:di I μ H {w with drawn:=w.drawn+1}:=s.rO Y;have st0:Step I μ H w I μ H {w with drawn:=w.drawn+1}:=Step.rO Y Y ⟨Y,Y,b5 _⟩;have z:todo ops (Array.replicate ops.size O)=w! (W ops.toList):=by unfold todo;simp_all
   have C:Down ops (Array.replicate ops.size O):=by intro j o S;simp[Array.getElem?_replicate]at S;grind
   refine wpAnyIn_sound ops.size t _ a _ ?_;split at h
   .refine JL D b u.1 u.2 ro (W H) ops.size _ I μ F (H++replicate (W ops.toList) .free) a _ f? C h? (by rw[z];omega) r (s0.Ke _) ?_
    intro a' I' μ' w' c g L i;exact G a' I' μ' w' c g L (Step.trans s0 st0 (Step.trans (s0.Ke _) (Step.Ke _) i))
   refine JL D b u.1 u.2 ro (W H) ops.size _ I μ F H a _ f? C h? (by rw[z];omega) r s0 ?_
   intro a' I' μ' w' c g L i;exact G a' I' μ' w' c g L (Step.trans s0 st0 i)
  grind
end
def Out.Lz:Out->Exit
 |.norm=>.normal|.exit id=>.exit id|.ret=>.ret
def exists_least(p:Nat->Prop):∀k,p k->∃m,p m/\∀j,p j->m<=j:=by intro k;induction k using Nat.strongRecOn with|_ k u=>grind
open Classical in
noncomputable def least(p:Nat->Prop):Nat:=if h:∃m,p m/\∀j,p j->m<=j then h.choose else 0
def Pm(p:Nat->Prop){k:Nat}(a:p k):p (least p)/\least p<=k:=by have h:=exists_least p k a;grind[least]
section
variable{P:Program}{E:Env}{I I':cG}{μ μ':Mu}{H H':bl}{n B:Nat}{F F':WP}{a:Act}{w w':World}
def Post(B n:Nat)(I:cG)(μ:Mu)(H:bl)(w:World)(o:Out)(F':WP)(H':bl):Exit->Act->World->Prop:=λe u w'=>e=o.Lz/\(∃I' μ',eU I' μ' n F' u.tmps/\di I' μ' H' w'/\Step I μ H w I' μ' H' w')/\l_ B u.defers w'
theorem Post.mono{I1:cG}{D:Mu}{H1:bl}{G:World}{o:Out}(g:di I1 D H1 G)(st:Step I μ H w I1 D H1 G){e:Exit}{a':Act}{w':World}(h:Post B n I1 D H1 G o F' H' e a' w'):
 Post B n I μ H w o F' H' e a' w':=by
 have⟨a,⟨I',μ',u,z,C⟩,L⟩:=h;exact⟨a,⟨I',μ',u,z,Step.trans g st C⟩,L⟩
def di.Dy(s:di I μ H w){b:Nat}(o:Obj)(D:I b=J)(G:¬jy μ H b):di I μ H (iF w b o)where
 dom:=s.dom
 imm:=λu x h=>IC.u9 (s.imm u x h) (je o h?)
 obs:=λid ob h=>(s.obs id ob h).mono (cG.le_refl _) (Mu.le_refl _) (λp z B=>by
  have g:jy μ H p.b:=⟨id,p,ob,h,B,z,Y⟩
  grind[je,ir]) (λC=>by subst C;exact s.obs id _ h)
 inj:=s.inj
 gl:=s.gl
def ZH(s:di I μ H w){b:Nat}{o:Obj}(h:w.heap[b]?=M o)(a:∀c e f,o≠.cells c e f)(B:∀es c,o≠.map es c):I b=J:=by cases u:I b with|none=>rfl|some x=>have:=s.imm b x u;cases x with|cells c=>have⟨_,_,q⟩:=this;rw[h]at q;grind|map es=>have⟨_,q⟩:=this;rw[h]at q;grind
def Step.kept(c:∀b,b<w.heap.size->w'.heap[b]?=w.heap[b]?)(B:w.heap.size<=w'.heap.size)(d:w'.os=w.os)(D:yQ w w')(G:∀a:Addr,a.block<w.heap.size->w.frozen? a=O->w'.frozen? a=O):Step I μ H w I μ H w':=⟨cG.le_refl _,Mu.le_refl _,y? _,B,λb u _=>c b u,λ_ h=>h.elim .inl λh=>.inr (.inl h),d,D,G⟩
def Step.after(st:Step I μ H w I' μ' H' w'){b:Nat}(o:Obj)(B:w.heap.size<=b)(D:Obj.nf o:=by first|exact wE _ _|exact uK rfl):Step I μ H w I' μ' H' (iF w' b o):=⟨st.le,st.mu,st.len,by rw[zR];exact st.size,λz u C=>by rw[je o c?];exact st.frame z u C,st.terr,st.os,⟨st.out.out,st.out.tape,st.out.dr⟩,λa B G=>acd D a (st.fz a B G)⟩
def l_.Dy{ds:aX Deferred}(h:l_ B ds w){b:Nat}{o:Obj}(D:∀r,w.heap[r]?=M (.deferred (M []))->r≠b):l_ B ds (iF w b o):=
 ⟨λd hd=>by
  have⟨r,a,u,z⟩:=h.all d hd
  grind[je],h.apart⟩
def QU{step:WP->bl->aY (Out×WP×bl)}{c:Code}{ro:aY Nat}{o:Out}
 (D:∀I μ F H a w o F' H',step F H=M (o,F',H')->eU I μ n F a.tmps->di I μ H w->l_ B a.defers w->B<=w.heap.size->c.wpIn (fr ro) 0 P (Post B n I μ H w o F' H') a w)
 {k:Nat}(h:mG step k F H=M (o,F',H'))(r:eU I μ n F a.tmps)(s:di I μ H w)(m:l_ B a.defers w)(g:B<=w.heap.size):
 (Code.loop c).wpIn (fr ro) 0 P (Post B n I μ H w o F' H') a w:=by
 let b:Nat->Act->World->Prop:=λk u w'=>∃I1 A F1 H1,mG step k F1 H1=M (o,F',H')/\eU I1 A n F1 u.tmps/\di I1 A H1 w'/\Step I μ H w I1 A H1 w'/\l_ B u.defers w'/\B<=w'.heap.size
 let y:Act->World->Nat:=λu w'=>least (λk=>b k u w')
 have f:∀k u w',b k u w'->b (y u w') u w'/\y u w'<=k:=λk u w' d=>Pm (λk=>b k u w') d
 refine wpIn_loop (λu w'=>∃k,b k u w') y ⟨k,I,μ,F,H,h,r,s,.refl _ _ _ _,m,g⟩ ?_
 rintro a1 Q ⟨k1,T⟩;have⟨d,_⟩:=f k1 a1 Q T;generalize p:y a1 Q=kk at d;have⟨I1,A,F1,H1,S,r1,L,C,W,G⟩:=d
 cases kk with
 |zero=>grind[mG]|succ kk=>
  simp only[mG]at S;split at S
  next X H2 a__=>refine wpIn_mono (D I1 A F1 H1 a1 Q .norm X H2 a__ r1 L W G) ?_;rintro e a2 b__ ⟨rfl,⟨I2,i,r2,j,st2⟩,l⟩;show(∃k,b k a2 b__)/\y a2 b__<kk+1;have z:b kk a2 b__:=⟨I2,i,X,H2,S,r2,j,Step.trans L C st2,l,W? G st2.size⟩;exact⟨⟨kk,z⟩,Nat.lt_succ_of_le (f kk a2 b__ z).2⟩
  rename_i q;refine wpIn_mono (D I1 A F1 H1 a1 Q o F' H' S r1 L W G) ?_;intro e a2 b__ hp;have t:o≠.norm:=by simp_all
  obtain⟨rfl,Y,Z⟩:=hp
  cases o with
  |norm=>grind|exit id=>exact Post.mono L C ⟨rfl,Y,Z⟩|ret=>exact Post.mono L C ⟨_k,Y,Z⟩
def DU(s:di I μ H w){id:Nat}{r:yZ}(h:H[id]?=M (.loop r)):∃p l,μ id=M p/\I p.b=J/\w.heap[p.b]?=M (.loop l)/\ze I μ r l:=s.obs id _ h
def LA{p:aY Out}(hp:p≠M .norm):(p.bind pe=J->p.getD .norm=.norm)/\(∀c,p.bind pe=M c->(c=.ret/\p.getD .norm=.ret)\/∃id,c=.exit id/\p.getD .norm=.exit id):=by cases p with|none=>grind|some o=>cases o with|norm=>grind|ret=>grind[pe]|exit id=>grind[pe]
theorem NC{call:dR}(hc:mI P call){g:UV}{ps:Array Tmp}{assign body:Code}{o:Out}{lf:Nat}
 (h:exec E call lf O n (.rangeFunc g ps assign body) F H=M (o,F',H'))(r:eU I μ n F a.tmps)(s:di I μ H w)(m:l_ B a.defers w)(hB:B<=w.heap.size):
 (Code.rangeFunc g ps assign body).wpIn (fr J) 0 P (Post B n I μ H w o F' H') a w:=by
 cases K:ev F g with
 |none=>simp_all[exec]|some gv=>
 cases gv with
 |clo f x y=>
  simp[exec,K]at h;split at h
  .rename_i ak H2 L;split at h
   .rename_i r2 d__;have W:r2.st≠.busy/\r2.pend.getD .norm=o/\F=F'/\H2.set (_l H) .dead=H':=by
     grind
    obtain⟨W,rfl,rfl,rfl⟩:=W;have⟨u,v,eg,hu,hv⟩:=(dI r K).mc;refine wpIn_rangeFunc λC _=>?_
    have X:∀b,b<w.heap.size->(w.alloc (.deferred (M []))).heap[b]?=w.heap[b]?:=λb hb=>pN _ b hb
    have j:=s.kept X;have ab:Step I μ H w I μ H (w.alloc (.deferred (M []))):=Step.kept X f? _k ⟨_k,_k,y? _⟩ (λa _=>TQ (uK _k) a)
    have ad:ze I μ ⟨.ready,J,F,n,ps.toList,assign,body⟩ {state:=.ready,pending:=J,fn:=C,tmps:=a.tmps,params:=ps,assign,body,defers:=w.heap.size}:=⟨trivial,_k,f?,r,_k,_k,_k⟩
    have⟨a__,st2⟩:=j.push (ob:=.loop ⟨.ready,J,F,n,ps.toList,assign,body⟩)
     (o:=.loop {state:=.ready,pending:=J,fn:=C,tmps:=a.tmps,params:=ps,assign,body,defers:=w.heap.size}) (p:=⟨w.heap.size+1,0,0,0⟩) f?
     ⟨_,_,Mu.iD _ _ _,by have:=j.Bi;simp_all,by have:=pQ (w:=w.alloc (.deferred (M []))) (.loop {state:=.ready,pending:=J,fn:=C,tmps:=a.tmps,params:=ps,assign,body,defers:=w.heap.size});simp_all,
      ad.mono (cG.le_refl _) (Mu.tO (j.dom _ (y? _)))⟩
    have Q:=(hu.mono (cG.le_refl _) st2.mu).append (.cons (.yld (_l H) ⟨w.heap.size+1,0,0,0⟩ (Mu.iD _ _ _)) (hv.mono (cG.le_refl _) st2.mu))
    have⟨hf,G⟩:=hc.fn f _ _ _ _ L;refine⟨w.heap.size+1,[{target:=.collected w.heap.size,args:=#[]}],((w.alloc (.deferred (M []))).alloc (.loop {state:=.ready,pending:=J,fn:=C,tmps:=a.tmps,params:=ps,assign,body,defers:=w.heap.size})),{target:=.fn (.func f) v,args:=u++#[.func (.yield (w.heap.size+1)) #[] #[]]},((w.alloc (.deferred (M []))).alloc (.loop {state:=.ready,pending:=J,fn:=C,tmps:=a.tmps,params:=ps,assign,body,defers:=w.heap.size})),f,u++#[.func (.yield (w.heap.size+1)) #[] #[]]++v,((w.alloc (.deferred (M []))).alloc (.loop {state:=.ready,pending:=J,fn:=C,tmps:=a.tmps,params:=ps,assign,body,defers:=w.heap.size})),
     run_enterLoop_outer C a.tmps ps assign body,?_,λ_ _=>trivial,?_,λh=>by grind[fr],?_⟩
    .simp_all[resolve,Deferred.ofValue,Act.eval]
    .exact AK hf _
    have Y:=G _ _ _ _ a__ Q;have S:(u.toList++.func (.yield (w.heap.size+1)) #[] #[]::v.toList).toArray=u++#[.func (.yield (w.heap.size+1)) #[] #[]]++v:=h?
    rw[S]at Y;refine Y.mono ?_;rintro e Z ⟨aj,e__,k,rfl,_,t,T⟩;have⟨p,l,g1,g2,g3,g4⟩:=DU t d__;have hp:p=⟨w.heap.size+1,0,0,0⟩:=by have:=T.mu _ _ (Mu.iD μ (_l H) ⟨w.heap.size+1,0,0,0⟩);grind
    subst hp;have b__:l.state≠.busy:=by intro he;have:=g4.st;rw[he]at this;all_goals grind[Eu.is]
    refine⟨l.pending,_,run_endLoop g3 b__,?_⟩;have⟨s4,ae⟩:=t.kill d__;have c__:¬jy k (H2.set (_l H) .dead) (w.heap.size+1):=by rintro⟨id,q,ob,A,R,i,h4⟩;by_cases e:id=_l H;grind[Ob.live];rw[F? (Ne.symm e)]at A;exact e (t.inj id (_l H) ob _ q _ A d__ R _k i g1 h4)
    have s5:di e__ k (H2.set (_l H) .dead) (iF Z (w.heap.size+1) (.loop {l with state:=.exhausted})):=s4.Dy _ g2 c__;have st:=Step.trans j ab (Step.trans a__ st2 (Step.trans t T ae));have af:Step I μ H w e__ k (H2.set (_l H) .dead) (iF Z (w.heap.size+1) (.loop {l with state:=.exhausted})):=st.after _ c?
    have m2:l_ B ({target:=.collected w.heap.size,args:=#[]}::a.defers) ((w.alloc (.deferred (M []))).alloc (.loop {state:=.ready,pending:=J,fn:=C,tmps:=a.tmps,params:=ps,assign,body,defers:=w.heap.size})):=by refine⟨?_,?_⟩;intro d hd;rcases mem_cons.1 hd with rfl|hd;refine⟨w.heap.size,_k,hB,?_⟩;rw[pN _ _ f?];exact pQ _;have⟨q,A,R,i⟩:=m.all d hd;have hq:=(Array.getElem?_eq_some_iff.1 i).1;grind[pN];refine List.Pairwise.cons ?_ m.apart;intro d hd q hq al;have⟨q2,A,R,i⟩:=m.all d hd;have:=(Array.getElem?_eq_some_iff.1 i).1;grind
    have m3:=m2.step a__ T;have m5:l_ B ({target:=.collected w.heap.size,args:=#[]}::a.defers) (iF Z (w.heap.size+1) (.loop {l with state:=.exhausted})):=m3.Dy (λq hq e=>h?)
    have ah:=st.le;have ai:=st.mu;have z:∀D:Out,r2.pend.getD .norm=D->Post B n I μ H w D F (H2.set (_l H) .dead) D.Lz {a with defers:=[{target:=.collected w.heap.size,args:=#[]}]++a.defers} (iF Z (w.heap.size+1) (.loop {l with state:=.exhausted})):=λD _=>⟨_k,⟨e__,k,r.mono ah ai,s5,af⟩,m5⟩
    obtain⟨W5,aa⟩:∃W5,Z.putObj (w.heap.size+1) (.loop {l with state:=.exhausted})=W5:=⟨_,_k⟩;have z:∀D:Out,r2.pend.getD .norm=D->Post B n I μ H w D F (H2.set (_l H) .dead) D.Lz {a with defers:=[{target:=.collected w.heap.size,args:=#[]}]++a.defers} W5:=by intro D ho;rw[<-aa];exact z D ho
    rw[aa];have⟨k1,k2⟩:=LA g4.pendOk;rw[g4.pend]
    cases V:r2.pend.bind pe with
    |none=>rw[k1 V];exact z .norm (k1 V)|some c=>
     rcases k2 c V with⟨rfl,e⟩|⟨id,rfl,e⟩
     .rw[e];exact wpIn_ret (z .ret e)
     rw[e];exact wpIn_exit (z (.exit id) e)
   grind
  grind
 |_=>simp[exec,K]at h
def B4(Y:eX P E)(d:P.follows .mixedOrders=U){call:dR}(f:mI P call)(lf:Nat)(ro:aY Nat)(T:X')(j:T=ro.isSome)(n:Nat):
 ∀(c:Code)(I:cG)(μ:Mu)(F:WP)(H:bl)(a:Act)(w:World)(o:Out)(F':WP)(H':bl),exec E call lf T n c F H=M (o,F',H')->eU I μ n F a.tmps->di I μ H w->
  l_ B a.defers w->B<=w.heap.size->c.wpIn (fr ro) 0 P (Post B n I μ H w o F' H') a w:=by
 intro c
 induction c with
 |skip=>intro I μ F H a w o F' H' h r s m _;obtain⟨rfl,rfl,rfl⟩:=h;exact wpIn_skip ⟨rfl,⟨I,μ,r,s,.refl _ _ _ _⟩,m⟩|label l=>intro I μ F H a w o F' H' h r s m _;obtain⟨rfl,rfl,rfl⟩:=h;exact wpIn_label ⟨rfl,⟨I,μ,r,s,.refl _ _ _ _⟩,m⟩|region id ops W=>
  intro I μ F H a w o F' H' h r s m _;simp only[exec,ζf]at h;obtain⟨⟨k,H2⟩,h,rfl,rfl,rfl⟩:=h;refine Kz Y d f ro h r s (λa' I' μ' w' b z C X=>⟨_k,⟨I',μ',b,C,X⟩,?_⟩)
  rw[z];exact m.step s X
 |seq x y D G=>
  intro I μ F H a w o F' H' h r s m u;simp[exec]at h;refine wpIn_seq ?_;split at h
  .rename_i F1 H1 b;refine wpIn_mono (D I μ F H a w _ F1 H1 b r s m u) ?_;rintro e a1 q ⟨rfl,⟨I1,Z,r1,i,Q⟩,m1⟩;refine wpIn_mono (G I1 Z F1 H1 a1 q o F' H' h r1 i m1 (W? u Q.size)) ?_
   grind[Post.mono]
  refine wpIn_mono (D I μ F H a w o F' H' h r s m u) ?_;rintro e a1 q ⟨rfl,z,C⟩
  cases o with
  |norm=>grind|exit id=>exact⟨rfl,z,C⟩|ret=>exact⟨rfl,z,C⟩
 |cond c x y D G=>
  intro I μ F H a w o F' H' h r s m u;simp[exec]at h;split at h
  .rename_i t S;have p:=(dI r S).uo
   grind[wpIn_cond]
  grind
 |block id c a__=>
  intro I μ F H a w o F' H' h r s m u;simp[exec]at h;refine wpIn_block ?_;split at h
  .rename_i L F1 H1 b;refine wpIn_mono (a__ I μ F H a w _ F1 H1 b r s m u) ?_;rintro e a1 q ⟨rfl,z,C⟩;show Exit.inBlock id _ (.exit L) a1 q;unfold Exit.inBlock;split at h
   next A=>obtain⟨rfl,rfl,rfl⟩:=h;simp[A];exact⟨_k,z,C⟩
   rename_i A;obtain⟨rfl,rfl,rfl⟩:=h;simp[A];exact⟨_k,z,C⟩
  refine wpIn_mono (a__ I μ F H a w o F' H' h r s m u) ?_;rintro e a1 q ⟨rfl,z,C⟩
  cases o with
  |norm=>exact⟨rfl,z,C⟩|exit L=>grind|ret=>exact⟨rfl,z,C⟩
 |loop c a__=>intro I μ F H a w o F' H' h r s m u;exact QU (λI μ F H a w o F' H' h r s m u=>a__ I μ F H a w o F' H' h r s m u) h r s m u|rangeFunc g ps assign body _ _=>
  intro I μ F H a w o F' H' h r s m u
  cases T with
  |true=>simp[exec]at h|false=>
   cases ro with
   |none=>grind[NC]|some l=>simp_all
 |exit id=>intro I μ F H a w o F' H' h r s m _;obtain⟨rfl,rfl,rfl⟩:=h;exact wpIn_exit ⟨rfl,⟨I,μ,r,s,.refl _ _ _ _⟩,m⟩|ret=>intro I μ F H a w o F' H' h r s m _;obtain⟨rfl,rfl,rfl⟩:=h;exact wpIn_ret ⟨rfl,⟨I,μ,r,s,.refl _ _ _ _⟩,m⟩|scope body _=>simp_all[exec]|goto l=>simp_all[exec]|refuse ad=>simp_all[exec]
end
end Go.VE
