/- Engine, values. -/
import Derived.RangeFuncLeaves
import Derived.Sort.Defs
import Derived.Lib.BitFns
import Derived.Laws.Sem
import Derived.Laws.World
import Derived.Laws.Append
import Derived.Laws.BytesString
import Derived.OrdersIn
import Derived.RangeFuncRecord
set_option linter.all false
open Option renaming some→M,some→_k,none→J,none→_q,bind→H,bind→_o
open Bool renaming true→U,true→_n,false→O,false→_p
open Decidable renaming decide→_s
open List renaming length→W,length→_m
open Go.IntKind renaming i64→N,i64→_r
open BitVec renaming ofInt→b5
open Go.IntKind renaming wrap→w?
open Go.Op renaming bytesLess→U!,equal→P!,equalIn→I!,intArith→q8,intBits→G',intCmp→s3,operands→F?
open List renaming all_eq_true→G?,drop_drop→A!,drop_take→g',eq_of_mem_replicate→X?,finRange→V!,flatten_append→Z!,getElem?_drop→M?,getElem?_set_ne→E?,getElem?_take→J?,mem_append→J!,mem_cons_of_mem→B?,mem_filter→a6,mem_flatten→m6,mem_of_getElem?→s?,mem_of_mem_drop→u!,mem_of_mem_take→O?,range→C!,set_comm→K',take_append_drop→e!
open Go.Instr renaming checkKey→y!,findAsking→i5,findKey→n7,findNow→n8,indexAt→o0,sameBits→e8,sameNow→H3,sliceAt→i9,sliceBounds→m7,sureAddr→t8
open Go.Sem renaming run_bind→z?,run_pure→L?
open Go.Result renaming andThen→l',andThen_ok→y?
open Bool renaming false_eq_true→v?
open Option renaming getD_some→G!,map_some→A?
open Nat renaming add_assoc→m4,add_mul→o!,add_zero→f4,le_refl→x?,le_succ→a8,le_trans→V?,mul_le_mul→u0,mul_le_mul_right→b!,one_mul→o6,zero_le→N?,zero_mul→v'
open Go.Builtin renaming append_→S!,firstCells→x!,nextslicecap→W!,zeroCells→v!
open Go.World renaming frozen?→p0
open Go.Question renaming appendCap→Q!
theorem Y.{u}{α:Sort u}{a:α}:a=a:=rfl
theorem _l.{u}{α:Sort u}{a:α}:a=a:=rfl
def L':=@if_pos
def M':=@if_neg
def N':=@if_true
def _a:=@if_false
def _b:=@decide_eq_false
def _c:=@decide_eq_true
def _d:=@of_decide_eq_true
def _e:=@absurd
def _f:=@congrArg
def _g:=@decide_eq_true_eq
def _h:=@decide_eq_false_iff_not
def _i:=@beq_eq_false_iff_ne
def _j:=@beq_iff_eq
open Nat(le)
open Go.IntKind(i64)
open Nat(le)
open List(length mem_cons mem_map replicate)
open Go.Instr(fieldAt fill loadAt sliceBound storeAt)
open Go.Sem(run_ite)
open Nat(le)
open Nat(le)
open Option(isSome_iff_exists)
open Nat(mod_lt)
open Go.Builtin(cap_ clear_ lenOf len_ max2 max_ min2 min_)
open Go.World(cell?)
open Go.Question(forced)
namespace Go.VE
abbrev T2:=IntKind
abbrev UV:=Operand
abbrev U':=ByteArray
abbrev V':=Value
abbrev W':=TypeId
abbrev X':=Bool
abbrev Y':=FuncId
def a?{p:Prop}(h:p:=by omega):p:=h
def f?{p:Prop}(h:p:=by simp):p:=h
def g?{p:Prop}(h:p:=by grind):p:=h
def o?{p:Prop}(h:p:=by simp_all):p:=h
def ζa{α:Type _}(a b:α):(M a=M b)=(a=b):=Option.some.injEq a b
def ζb{α β:Type _}(a:α)(f:α->Option β):_o (M a) f=f a:=rfl
def ζc{α β:Type _}(a:α)(b:β)(c:α)(d:β):((a,b)=(c,d))=(a=c/\b=d):=Prod.mk.injEq a b c d
def ζd{α:Type _}{l:List α}{i:Nat}(h:i<W l):l[i]?=M l[i]:=List.getElem?_eq_getElem h
def ζe{α:Type _}{l:List α}{i:Nat}{a:α}:l[i]?=M a↔∃h:i<W l,l[i]=a:=List.getElem?_eq_some_iff
theorem ζf{α β:Type _}{b:β}{x:Option α}{f:α->β}:x.map f=M b↔∃a,x=M a/\f a=b:=Option.map_eq_some_iff
theorem ζg{α β:Type _}{b:β}{x:Option α}{f:α->Option β}:x.bind f=M b↔∃a,x=M a/\f a=M b:=Option.bind_eq_some_iff
def ζh(a b:X'):((a&&b)=U)=(a=U/\b=U):=Bool.and_eq_true a b
def ζi{α:Type _}{a b:List α}:W (a++b)=W a+W b:=List.length_append
abbrev aY:=@List
abbrev QP:=aY Oper
abbrev Rd:=aY Int
abbrev ST:=aY Nat
abbrev aX:=@Option
abbrev Ps:=aX Int
inductive V where
 |bool(b:Bool)|int(k:IntKind)(n:Int)|str(s:ByteArray)|dS|bN|fsl(es:Nat)(xs:List (List V))|hsl(id es off len:Nat)|jF|fptr(cs:List V)|hptr(id el off:Nat)|clo(f:FuncId)(first cap:List V)|yld(id:Nat)|iZ|uV|fmap(kvs:List (V×V))|hmap(id:Nat)|agg(cs:List V)|tup(vs:List V)
 deriving Inhabited
abbrev So:=aY V
abbrev S':=aY (aY V)
def V.undef:V:=.tup []
def V.one:V->X'
 |.agg _|.tup _=>O|_=>U
def V.cells:V->So
 |.agg cs=>cs|v=>[v]
mutual
def V.scalar:V->X'
 |.bool _|.int ..|.str _|.jF|.iZ|.uV|.dS|.bN=>U|.agg cs=>V.dm cs|.tup cs=>V.dm cs|_=>O
def V.dm:So->X'
 |[]=>U|v::r=>V.scalar v&&V.dm r
end
mutual
def V.closed:V->X'
 |.hsl ..|.hptr ..|.yld ..|.hmap ..=>O|.clo _ a b=>V.jI a&&V.jI b|.agg cs=>V.jI cs|.tup cs=>V.jI cs|_=>U
def V.jI:So->X'
 |[]=>U|v::r=>V.closed v&&V.jI r
end
inductive TK where
 |bool|int (k:IntKind)|str|ptr (e:TypeId)|slice (e:TypeId)|struct(fs:List (Nat×TypeId))|array (n:Nat) (e:TypeId)|map (k e:TypeId)|other
 deriving Inhabited
structure TD where
 size:Nat
 bytes:Nat
 zero:List V
 kind:TK
 deriving Inhabited
def TD.agg(d:TD):X':=match d.kind with|.struct _|.array _ _=>U|_=>O
abbrev Frame:=aY V
abbrev WP:=Frame
def get:WP->Nat->V
 |[],_=>.undef|x::_,0=>x|_::r,i+1=>get r i
def set:WP->Nat->V->WP
 |[],0,v=>[v]|[],i+1,v=>.undef::set [] i v|_::r,0,v=>v::r|x::r,i+1,v=>x::set r i v
inductive EB where
 |ready|busy|done
inductive Out where
 |norm|exit(id:Nat)|ret
 deriving DecidableEq,Inhabited
structure yS where
 st:EB
 pend:Option Out
 frame:Frame
 nt:Nat
 params:List Nat
 assign:Code
 body:Code
inductive Ob where
 |free|dead|row(es:Nat)(xs:List (List V))|frz(es:Nat)(xs:List (List V))|map(kvs:List (V×V))|loop(r:yS)
def Ob.rows:Ob->aX (Nat×S')
 |.row es xs|.frz es xs=>M (es,xs)|_=>J
abbrev bt:=aY Ob
structure FI where
 ntmps:Nat
 results:List ResultVar
 body:Code
structure Env where
 tt:TypeId->Option TD
 ft:FuncId->Option FI
 keep:FuncId->Bool
 own:FuncId->Bool
 eqN:TypeId->Option Nat
 sort:FuncId->Bool
 known:FuncId->List V->Option V:=λ_ _=>none
 soft:FuncId->Bool:=λ_=>false
def Env.kindOf(E:Env)(t:W'):aX TK:=(E.tt t).map TD.kind
def ofValue:Nat->V'->aX V
 |0,_=>J|n+1,v=>
  match v with
  |.bool b=>M (.bool b)|.int k n=>M (.int k n)|.string s=>M (.str s)|.pointer J=>M .jF|.slice J 0 0=>M .bN|.map J=>M .iZ|.nilFunc=>M .uV|.agg cs=>(cs.toList.mapM (ofValue n)).map .agg|_=>J
class b7 where
 gl:Nat->Option (List V)
 sc:∀g cs,gl g=some cs->∃(k:IntKind)(l:List Int),cs=l.map (V.int k)
variable[b7]
def ev(F:WP):UV->aX V
 |.tmp t=>M (get F t)|.const v=>ofValue 4 v|.func f=>M (.clo f [] [])|.global g=>(b7.gl g).map .fptr
def gz(F:WP):aY UV->aX So
 |[]=>M []|x::r=>match ev F x,gz F r with
  |some v,M vs=>M (v::vs)|_,_=>J
def mk(agg:X')(cs:So):aX V:=if agg then M (.agg cs)else match cs with|[v]=>M v|_=>J
def cut(cs:So)(off n:Nat):aX So:=
 let r:=(cs.drop off).take n
 if W r=n then M r else J
def jV:So->aX Rd
 |[]=>M []|.int N a::r=>(jV r).map (a::·)|_=>J
def nE(az B:So):aX X':=
 match jV az,jV B with
 |some a,M b=>if W a=W b then M (a==b)else J|_,_=>J
def uI(op:BinOp)(x y:Int):aX X':=
 match op with
 |.eql=>M (x==y)|.neq=>M (x != y)|.lss=>M (_s (x<y))|.leq=>M (_s (x<=y))|.gtr=>M (_s (x>y))|.geq=>M (_s (x>=y))|_=>J
def xB(k:TK)(x y:V):aX X':=
 match k,x,y with
 |.slice _,.bN,.bN=>M U|.slice _,.fsl ..,.bN=>M O|.slice _,.hsl ..,.bN=>M O|.ptr _,.jF,.jF=>M U|.ptr _,.fptr _,.jF=>M O|.ptr _,.hptr ..,.jF=>M O|.map ..,.iZ,.iZ=>M U|.map ..,.fmap _,.iZ=>M O|.map ..,.hmap _,.iZ=>M O|_,_,_=>J
def LB(E:Env)(op:BinOp)(t:W')(x y:V):aX V:=
 match x,y with
 |.int k a,.int u b=>
  match op with
  |.shl=>if b<0 then J else M (.int k (k.wrap (a*2 ^ (min b.toNat k.bits))))|.shr=>if b<0 then J else M (.int k (a.fdiv (2 ^ (min b.toNat k.bits))))|_=>if k=u then
   match op with
   |.add=>M (.int k (k.wrap (a+b)))|.sub=>M (.int k (k.wrap (a-b)))|.mul=>M (.int k (k.wrap (a*b)))|.quo=>if b=0 then J else M (.int k (k.wrap (a.tdiv b)))|.rem=>if b=0 then J else M (.int k (a.tmod b))|.and=>M (.int k (k.wrap (b5 k.bits a &&& b5 k.bits b).toNat))|.or=>M (.int k (k.wrap (b5 k.bits a ||| b5 k.bits b).toNat))|.xor=>M (.int k (k.wrap (b5 k.bits a ^^^ b5 k.bits b).toNat))|.andNot=>M (.int k (k.wrap (b5 k.bits a &&& ~~~ b5 k.bits b).toNat))|op=>(uI op a b).map .bool
   else J
 |.str a,.str b=>
  match op with
  |.add=>if((a.size+b.size:Nat):Int)>i64.max then J else M (.str (a++b))|.eql=>M (.bool (a.toList==b.toList))|.neq=>M (.bool !(a.toList==b.toList))|.lss=>M (.bool (U! a.toList b.toList))|.leq=>M (.bool (U! a.toList b.toList||a.toList==b.toList))|.gtr=>M (.bool !(U! a.toList b.toList||a.toList==b.toList))|.geq=>M (.bool !(U! a.toList b.toList))|_=>J
 |.bool a,.bool b=>
  match E.kindOf t,op with
  |some .bool,.eql=>M (.bool (a==b))|some .bool,.neq=>M (.bool !(a==b))|_,_=>J
 |.agg a,.agg b=>
  match E.eqN t,op with
  |some n,.eql=>if W a=n then(nE a b).map .bool else J|some n,.neq=>if W a=n then(nE a b).map (λt=>.bool !t)else J|_,_=>J
 |x,y=>
  match E.kindOf t,op with
  |some k,.eql=>(xB k x y).map .bool|some k,.neq=>(xB k x y).map λt=>.bool !t|_,_=>J
def w_(place:Nat->aX (Nat×Nat))(cells:So):aY (Nat×V)->aX So
 |[]=>M cells|(i,v)::i?=>
  match place i with
  |none=>J|some (off,size)=>
   if W v.cells≠size||off+W v.cells>W cells then J
   else w_ place (cells.take off++v.cells++cells.drop (off+W v.cells)) i?
def oT(F:WP):aY (Nat×UV)->aX (aY (Nat×V))
 |[]=>M []|(i,x)::r=>match ev F x,oT F r with
  |some v,M vs=>M ((i,v)::vs)|_,_=>J
def qi(E:Env):aY (Nat×W')->aX (aY (Nat×Nat))
 |[]=>M []|(off,t)::r=>match E.tt t,qi E r with
  |some d,M ps=>M ((off,d.size)::ps)|_,_=>J
def lX(F:WP):aX UV->aX Ps
 |none=>M J|some x=>match ev F x with
  |some (.int _ n)=>M (M n)|_=>J
def eD(len:Nat)(lo hi:Ps):aX (Nat×Nat):=
 let h:=hi.getD len
 let l:=lo.getD 0
 if 0<=h/\h<=len/\0<=l/\l<=h then M (l.toNat,h.toNat)else J
def EM(a b:Int):Int:=if b>a then b else a
def bS(E:Env)(F:WP)(op:Op):aX V:=
 match op with
 |.move x|.assign x=>ev F x|.pick c a b=>match ev F c with
  |some (.bool t)=>if t then ev F a else ev F b|_=>J
 |.nilCheck x=>match ev F x with
  |some (.hptr id el off)=>M (.hptr id el off)|some (.fptr cs)=>M (.fptr cs)|some (.clo f a b)=>M (.clo f a b)|_=>J
 |.binOp op t x y _=>match ev F x,ev F y with
  |some a,M b=>LB E op t a b|_,_=>J
 |.unOp op _ x=>match op,ev F x with
  |.not,M (.bool b)=>M (.bool !b)|.neg,M (.int k n)=>M (.int k (k.wrap (0-n)))|_,_=>J
 |.convert s d x=>match E.tt s,E.tt d,ev F x with
  |some _,M C,M (.int _ n)=>match C.kind with
   |.int k=>M (.int k (k.wrap n))|_=>J
  |_,_,_=>J
 |.fieldAddr s x f=>match E.kindOf s,ev F x with
  |some (.struct fs),M p=>match fs[f]?with
   |some (off,t)=>match E.tt t with
    |some d=>if d.size=0 then J else match p with
     |.fptr cs=>if off<=W cs then M (.fptr (cs.drop off))else J|.hptr id el o=>M (.hptr id el (o+off))|_=>J
    |none=>J
   |none=>J
  |_,_=>J
 |.field s x f=>match E.kindOf s,ev F x with
  |some (.struct fs),M (.agg cs)=>match fs[f]?with
   |some (off,t)=>match E.tt t with
    |some d=>_o (cut cs off d.size) (mk d.agg)|none=>J
   |none=>J
  |_,_=>J
 |.indexAddr t x i=>match E.kindOf t,ev F x,ev F i with
  |some (.slice e),M s,M (.int _ n)=>match E.tt e with
   |some d=>if n<0 then J else match s with
    |.fsl es u=>if es=d.size then(u[n.toNat]?).map .fptr else J|.hsl id es off len=>if es=d.size/\n.toNat<len then M (.hptr id (off+n.toNat) 0)else J|_=>J
   |none=>J
  |some (.array len e),M p,M (.int _ n)=>match E.tt e with
   |some d=>if 0<=n/\n<len then match p with
    |.fptr cs=>if n.toNat*d.size<=W cs then M (.fptr (cs.drop (n.toNat*d.size)))else J|.hptr id el o=>M (.hptr id el (o+n.toNat*d.size))|_=>J
    else J
   |none=>J
  |_,_,_=>J
 |.index t x i=>match E.kindOf t,ev F x,ev F i with
  |some .str,M (.str s),M (.int _ n)=>if 0<=n then(s[n.toNat]?).map (λb=>.int .u8 b.toNat)else J|some (.array len e),M (.agg cs),M (.int _ n)=>match E.tt e with
   |some d=>if 0<=n/\n<len then(cut cs (n.toNat*d.size) d.size).bind (mk d.agg)else J|none=>J
  |_,_,_=>J
 |.slice t x lo hi D=>match E.kindOf t,ev F x,lX F lo,lX F hi,lX F D with
  |some .str,M (.str s),M l,M h,M J=>(eD s.size l h).map λ(l,h)=>.str (s.extract l h)|some (.slice e),M v,M l,M h,M J=>match E.tt e with
   |some d=>match v with
    |.fsl es u=>if es=d.size then(eD (W u) l h).map λ(l,h)=>.fsl es ((u.take h).drop l)else J|.hsl id es off len=>if es=d.size then(eD len l h).map λ(l,h)=>.hsl id es (off+l) (h-l)else J|.dS=>(eD 0 l h).map λ_=>.dS|.bN=>(eD 0 l h).map λ_=>.bN|_=>J
   |none=>J
  |some (.slice e),M v,M J,M (M 0),M (M 0)=>match E.tt e,v with
   |some _,.fsl ..|some _,.hsl ..|some _,.dS|some _,.bN=>M .dS|_,_=>J
  |_,_,_,_,_=>J
 |.build t ps=>match E.tt t,oT F ps.toList with
  |some d,M w=>match d.kind with
   |.struct fs=>match qi E fs with
    |some pl=>(w_ (λi=>pl[i]?) d.zero w).map .agg|none=>J
   |.array _ e=>match E.tt e with
    |some B=>(w_ (λi=>M (i*B.size,B.size)) d.zero w).map .agg|none=>J
   |_=>J
  |_,_=>J
 |.makeFunc (.func f) a b=>match gz F a.toList,gz F b.toList with
  |some a,M b=>M (.clo f a b)|_,_=>J
 |.extract x i=>match ev F x with
  |some (.tup w)=>w[i]?|_=>J
 |.call {callee:=.builtin b,args,argTypes}=>match b,gz F args.toList,argTypes[0]?with
  |.len,M [v],M t=>match E.kindOf t,v with
   |some .str,.str s=>M (.int N s.size)|some (.slice _),.fsl _ u=>M (.int N (W u))|some (.slice _),.hsl _ _ _ len=>M (.int N len)|some (.slice _),.dS=>M (.int N 0)|some (.slice _),.bN=>M (.int N 0)|_,_=>J
  |.cap,M [v],M t=>match E.kindOf t,v with
   |some (.slice _),.bN=>M (.int N 0)|some (.slice _),.dS=>M (.int N 0)|_,_=>J
  |.max,M [.int k a,.int z b],_=>if k=z then M (.int k (if b>a then b else a))else J|.max,M [.int k a,.int k1 b,.int k2 c,.int k3 d],_=>if k=k1/\k=k2/\k=k3 then M (.int k (EM (EM (EM a b) c) d))else J|.min,M [.int k a,.int z b],_=>if k=z then M (.int k (if b<a then b else a))else J|_,_,_=>J
 |_=>J
def fJ(H:bt)(p:V)(n:Nat):aX So:=
 match p with
 |.fptr cs=>cut cs 0 n|.hptr id el off=>match(H[id]?).bind Ob.rows with
  |some (_,u)=>match u[el]?with
   |some cs=>cut cs off n|none=>J
  |none=>J
 |_=>J
def z_:V->V->aX X'
 |.int k a,.int B b=>if k=B then M (a==b)else J|.str a,.str b=>M (a==b)|.agg a,.agg b=>nE a b|_,_=>J
def kj(k:V):aY (V×V)->Nat->aX (aX (Nat×V))
 |[],_=>M J|(B,v)::r,i=>match z_ k B with
  |some U=>M (M (i,v))|some O=>kj k r (i+1)|none=>J
def DA(E:Env)(t:W')(k:V):X':=
 match E.kindOf t,k with
 |some (.int k),.int u _=>k==u|some .str,.str _=>U|some _,.agg cs=>match E.eqN t with|some n=>W cs==n&&(jV cs).isSome|none=>O
 |_,_=>O
def pR(H:bt):V->aX (aY (V×V))
 |.iZ=>M []|.fmap B=>M B|.hmap id=>match H[id]?with
  |some (.map B)=>M B|_=>J
 |_=>J
def eM(E:Env)(F:WP)(H:bt)(op:Op):aX V:=
 match op with
 |.load t a=>match E.tt t,ev F a with
  |some d,M p=>_o (fJ H p d.size) (mk d.agg)|_,_=>J
 |.lookup t m k ok=>match E.kindOf t,ev F m,ev F k with
  |some (.map w B),M m,M k=>match E.tt B,pR H m with
   |some d,M u=>if DA E w k then match kj k u 0,mk d.agg d.zero with
    |some (M (_,v)),_=>M (if ok then .tup [v,.bool U]else v)|some J,M z=>M (if ok then .tup [z,.bool O]else z)|_,_=>J
    else J
   |_,_=>J
  |_,_,_=>J
 |_=>J
inductive Mk where
 |ptr|sl (es len:Nat)|map
def Mk.val(id:Nat):Mk->V
 |.ptr=>.hptr id 0 0|.sl es len=>.hsl id es 0 len|.map=>.hmap id
def gP(es:Nat)(xs:S'):aY (Nat×V)->aX S'
 |[]=>M xs|(i,v)::r=>if W v.cells=es/\i<W xs/\v.cells.all V.one=U then gP es (xs.set i v.cells) r else J
def fZ(E:Env)(F:WP)(op:Op):aX (Ob×Mk):=
 match op with
 |.alloc t=>(E.tt t).map λd=>(.row d.size [d.zero],.ptr)|.box _ x=>match ev F x with
  |some v=>if v.cells.all V.one then M (.row (W v.cells) [v.cells],.ptr)else J|none=>J
 |.makeSlice t l c=>match E.kindOf t,ev F l,ev F c with
  |some (.slice e),M (.int k n),M (.int u m)=>match E.tt e with
   |some d=>if k=N/\u=N/\0<=n/\n<=m/\m<=2147483648/\d.bytes<=4096 then M (.row d.size (replicate m.toNat d.zero),.sl d.size n.toNat)else J|none=>J
  |_,_,_=>J
 |.buildSlice t len ps=>match E.kindOf t,oT F ps.toList with
  |some (.slice e),M w=>match E.tt e with
   |some d=>if len*d.size<=16777216 then(gP d.size (replicate len d.zero) w).map λz=>(.row d.size z,.sl d.size len)else J|none=>J
  |_,_=>J
 |.makeMap _ J=>M (.map [],.map)|_=>J
def sB(E:Env)(F:WP)(op:Op):aX V:=
 match fZ E F op with
 |some (.row es u,.sl w n)=>if w=es/\n=W u/\(u.all λx=>x.all V.scalar)=U then match op with
  |.buildSlice ..=>if u.isEmpty then(if es != 0 then M .dS else J)else M (.fsl es u)|_=>M (.fsl es u)
  else J
 |_=>J
def dZ(H:bt)(es:Nat):V->aX S'
 |.dS=>M []|.bN=>M []|.fsl B xs=>if B=es then M xs else J|.hsl id B off len=>if B=es then match(H[id]?).bind Ob.rows with
  |some (_,xs)=>if off+len<=W xs then M ((xs.drop off).take len)else J|none=>J
  else J
 |_=>J
def sR(k v:V)(B:aY (V×V)):aX (aY (V×V)):=
 match kj k B 0 with
 |some (M (j,_))=>M (B.set j (k,v))|some J=>M (B++[(k,v)])|none=>J
def iU(H:bt):V->aX bt
 |.dS=>M H|.bN=>M H|.hsl id _ _ _=>match H[id]?with
  |some (.row _ _)=>M (H.set id .dead)|_=>J
 |_=>J
def mkApp(H:bt)(size bytes:Nat)(zero:So)(s x:V):aX (V×bt):=
 match s,x with
 |.bN,.int _ n=>if n=0 then M (.bN,H)else if 0<n/\n<=2147483648/\bytes<=4096/\0<bytes then M (.hsl (W H) size 0 n.toNat,H++[.row size (replicate n.toNat zero)])else J|_,_=>J
def Hl(H:bt)(size:Nat)(zero:So):V->aX (V×bt)
 |.bN|.dS=>M (.undef,H)|.hsl id es off len=>if es=size then match len with
  |0=>M (.undef,H)|len+1=>match H[id]?with
   |some (.row B xs)=>if off+(len+1)<=W xs then M (.undef,H.set id (.row B (xs.take off++replicate (len+1) zero++xs.drop (off+(len+1)))))else J|_=>J
  else J
 |_=>J
def cT(E:Env)(F:WP)(H:bt)(op:Op):aX (V×bt):=
 match op with
 |.store t a x=>match E.tt t,ev F a,ev F x with
  |some d,M (.hptr id el off),M v=>match H[id]?with
   |some (.row es w)=>match w[el]?with
    |some cs=>if W v.cells=d.size/\off+d.size<=W cs/\v.cells.all V.one=U then
     M (.undef,H.set id (.row es (w.set el (cs.take off++v.cells++cs.drop (off+W v.cells)))))else J
    |none=>J
   |_=>J
  |_,_,_=>J
 |.mapUpdate t m k x|.insert t m k x=>match E.kindOf t,ev F m,ev F k,ev F x with
  |some (.map B _),M (.hmap id),M k,M v=>match H[id]?with
   |some (.map u)=>if DA E B k then(sR k v u).map λu=>(.undef,H.set id (.map u))else J|_=>J
  |_,_,_,_=>J
 |.call {callee:=.builtin .append,args,argTypes}=>match argTypes.toList,gz F args.toList with
  |[t,C],M [s,x]=>match E.kindOf t,E.kindOf C with
   |some (.slice e),M (.slice _)=>match E.tt e with
    |some d=>match dZ H d.size s,dZ H d.size x with
     |some _,M []=>M (s,H)|some w,M z=>
      if W w+W z<=2147483648/\d.bytes<=4096/\0<d.bytes then
       (iU H s).map λH1=>(.hsl (W H) d.size 0 (W w+W z),H1++[.row d.size (w++z)])
      else J
     |_,_=>J
    |none=>J
   |some (.slice e),M (.int _)=>match E.tt e with
    |some d=>mkApp H d.size d.bytes d.zero s x|none=>J
   |_,_=>J
  |_,_=>J
 |.call {callee:=.builtin .clear,args,argTypes}=>match argTypes[0]?,gz F args.toList with
  |some t,M [v]=>match E.kindOf t with
   |some (.slice e)=>match E.tt e with
    |some d=>Hl H d.size d.zero v|none=>J
   |_=>J
  |_,_=>J
 |_=>J
def nY:S'->aX Rd
 |[]=>M []|[.int .u8 n]::r=>(nY r).map (n::·)|_=>J
def tP(l:Rd):U':=l.foldl (λr n=>r.push (UInt8.ofNat n.toNat)) ByteArray.empty
def evalConv(E:Env)(F:WP)(H:bt)(op:Op):aX V:=
 match op with
 |.convert s d x=>match E.kindOf s,E.kindOf d,ev F x with
  |some (.slice e),M .str,M v=>match E.kindOf e with
   |some (.int .u8)=>_o (dZ H 1 v) λu=>(nY u).map λl=>.str (tP l)|_=>J
  |_,_,_=>J
 |_=>J
def vS(E:Env)(F:WP)(H:bt)(place:aX (Nat×Nat))(op:Op):aX V:=
 match bS E F op with
 |some v=>M v|none=>match place with
  |none=>evalConv E F H op|some _=>J
inductive Callee where
 |fn(f:FuncId)|yld(id:Nat)
def mg(F:WP)(op:Op):aX (Callee×So):=
 match op with
 |.call {callee:=.value f,args,..}=>match ev F f,gz F args.toList with
  |some (.clo g a b),M u=>M (.fn g,a++u++b)|some (.yld id),M u=>M (.yld id,u)|_,_=>J
 |_=>J
inductive ZT where
 |pure|read|alloc|loud|call
 deriving DecidableEq
def c7:Op->ZT
 |.load ..|.lookup ..=>.read|.alloc ..|.box ..|.makeSlice ..|.buildSlice ..|.makeMap ..=>.alloc|.store ..|.mapUpdate ..|.insert ..=>.loud|.call {callee:=.builtin .append,..}=>.loud|.call {callee:=.builtin .clear,..}=>.loud|.call {callee:=.value _,..}=>.call|_=>.pure
def jN(f:V->aX V):So->aX So
 |[]=>M []|x::r=>match f x,jN f r with
  |some y,M s=>M (y::s)|_,_=>J
def oc(f:V->aX V):S'->aX S'
 |[]=>M []|x::r=>match jN f x,oc f r with
  |some y,M s=>M (y::s)|_,_=>J
def oe(f:V->aX V):aY (V×V)->aX (aY (V×V))
 |[]=>M []|(k,x)::r=>match f k,f x,oe f r with
  |some k,M y,M s=>M ((k,y)::s)|_,_,_=>J
def borrow:Nat->bt->V->aX V
 |0,_,x=>if x.closed then M x else J|n+1,H,x=>
  if x.closed then M x else
  match x with
  |.hsl id es off len=>match(H[id]?).bind Ob.rows with
   |some (B,xs)=>if B=es/\off+len<=W xs then(oc (borrow n H) ((xs.drop off).take len)).map (.fsl es)else J|none=>J
  |.hptr id el off=>match(H[id]?).bind Ob.rows with
   |some (_,xs)=>match xs[el]?with
    |some cs=>if off<=W cs then(jN (borrow n H) (cs.drop off)).map .fptr else J|none=>J
   |none=>J
  |.hmap id=>match H[id]?with
   |some (.map D)=>(oe (borrow n H) D).map .fmap|_=>J
  |.clo f a b=>match jN (borrow n H) a,jN (borrow n H) b with
   |some a,M b=>M (.clo f a b)|_,_=>J
  |.agg cs=>(jN (borrow n H) cs).map .agg|.tup cs=>(jN (borrow n H) cs).map .tup|_=>J
def borrows(n:Nat)(H:bt)(l:So):aX So:=jN (borrow n H) l
def dz(f:V->ST):So->ST
 |[]=>[]|x::r=>f x++dz f r
def cF:Nat->bt->V->ST
 |0,_,_=>[]|n+1,H,x=>
  if x.closed then[]else
  match x with
  |.hsl id _ off len=>id::(match(H[id]?).bind Ob.rows with|some (_,xs)=>dz (cF n H) ((xs.drop off).take len).flatten|none=>[])|.hptr id el off=>id::(match(H[id]?).bind Ob.rows with|some (_,xs)=>dz (cF n H) (((xs[el]?).getD []).drop off)|none=>[])|.hmap id=>id::(match H[id]?with|some (.map B)=>dz (cF n H) (B.map (·.1))++dz (cF n H) (B.map (·.2))|_=>[])|.clo _ a b=>dz (cF n H) a++dz (cF n H) b|.agg cs=>dz (cF n H) cs|.tup cs=>dz (cF n H) cs|_=>[]
def xC(H:bt)(id:Nat):bt:=
 match H[id]?with
 |some (.row es u)=>H.set id (.frz es u)|some (.map _)=>H.set id .dead|_=>H
def dh(H:bt)(l:ST):bt:=l.foldl xC H
structure en where
 lv:Nat
 go:Callee->List V->bt->Option (V×bt)
instance:CoeFun en λ_=>Callee->So->bt->aX (V×bt):=⟨en.go⟩
def kC(H:bt)(T:ST):X':=T.all λid=>(_o (H[id]?) Ob.rows).isSome
def cw(call:en)(f:Y')(args:So)(H:bt):aX V:=
 match borrows call.lv H args with
 |some az=>match call (.fn f) az []with
  |some (r,H1)=>match borrow call.lv H1 r with
   |some y=>if y.closed then M y else J|none=>J
  |none=>J
 |none=>J
def vG(k:Nat)(H1:bt)(id es off len:Nat):aX (V×Ob):=
 match H1[id]?with
 |some (.row u w)=>if u=es/\(w.all λx=>x.all V.scalar)=U then M (.hsl k es off len,.row es w)else J|_=>J
def oF(call:en)(f:Y')(args:So)(H:bt):aX (V×bt):=
 match borrows call.lv H args with
 |some az=>match call (.fn f) az []with
  |some (r,H1)=>
   if r.scalar then M (r,H)else
   match r with
   |.hsl id es off len=>(vG (W H) H1 id es off len).map λ(v,ob)=>(v,H++[ob])|.tup (.hsl id es off len::i?)=>if V.dm i? then(vG (W H) H1 id es off len).map λ(v,ob)=>(.tup (v::i?),H++[ob])else J|_=>J
  |none=>J
 |none=>J
def iP(E:Env)(call:en)(f:Y')(args:So)(H:bt):aX (V×bt):=if E.own f then oF call f args H else call (.fn f) args H
def nS(e:Edge):X':=match e.ground with|.textOnly _|.gcOnly _=>O|_=>U
def Ib(o:Oper)(i:Nat):X':=o.after.any λe=>e.on==i&&nS e
def Mx(a:aY ST)(o:Oper):ST:=(o.after.toList.filter nS).foldl (λl e=>(e.on::(a[e.on]?).getD []).foldl (λl k=>if l.contains k then l else k::l) l) []
def KF(ops:QP):aY ST:=ops.foldl (λa o=>a++[Mx a o]) []
def before(ops:QP)(i k:Nat):X':=(((KF ops)[i]?).getD []).contains k
def isApp:Op->X'
 |.call {callee:=.builtin .append,..}=>U|_=>O
def ez(ops:QP)(i:Nat):X':=
 match ops[i]?with
 |some o=>(C! (W ops)).all λk=>match ops[k]?with
  |some p=>k==i||c7 p.op==.pure||(if k<i then before ops i k else before ops k i)||(isApp o.op&&c7 p.op==.alloc&&_s (i<k))|none=>U
 |none=>O
def dstsOf(ops:QP):ST:=ops.filterMap (·.dst)
def uL(ops:QP)(i k:Nat):X':=if k<i then before ops i k else before ops k i
def Kw(g:X')(ops:QP)(i k:Nat):aX ST:=
 match ops[k]?with
 |some p=>
  if k==i||c7 p.op==.pure||uL ops i k then M []else
  match p.op with
  |.load _ (.tmp a)=>if(dstsOf ops).contains a then M []else M [a]|o=>if g&&(c7 o==.alloc||c7 o==.call)then M []else J
 |none=>M []
def Fx(g:X')(ops:QP)(i:Nat):ST->aX ST
 |[]=>M []|k::r=>match Kw g ops i k,Fx g ops i r with
  |some a,M b=>M (a++b)|_,_=>J
def uC(g:X')(ops:QP)(i:Nat):aX (Nat×ST):=
 match(ops[i]?).map Oper.op with
 |some (.store _ (.tmp a) _)=>if(dstsOf ops).contains a then J else(Fx g ops i (C! (W ops))).map λl=>(a,l)|_=>J
def qA(id:Nat):V->X'
 |.hptr B _ _=>B != id|.fptr _=>U|_=>O
def sM(ops:QP)(i:Nat)(F:WP):X':=
 match uC O ops i with
 |some (a,l)=>match get F a with
  |.hptr id _ _=>l.all λs=>qA id (get F s)|_=>O
 |none=>O
def uB(ops:QP)(b i:Nat)(F:WP):X':=
 match uC U ops i with
 |some (a,l)=>match get F a with
  |.hptr id _ _=>_s (id<b)&&l.all λs=>qA id (get F s)|_=>O
 |none=>O
def LG(ops:QP)(k:Nat):X':=(C! (W ops)).any λi=> !uL ops i k&&(uC U ops i).isSome
def zm(ops:QP)(place:aX (Nat×Nat))(args:So):X':=match place with|some (_,i)=> !LG ops i||V.jI args|none=>U
def sx(ops:QP)(k a':Nat):ST:=
 if(dstsOf ops).contains a' then(C! (W ops)).filterMap λi=>match(ops[i]?).map Oper.op with
  |some (.store _ (.tmp a) _)=>if uL ops i k||(dstsOf ops).contains a then J else M a|_=>J
 else[]
def qD(ops:QP)(k:Nat)(F:WP)(op:Op):X':=
 match op with
 |.load _ (.tmp u)=>(sx ops k u).all λa=>match get F a with
  |.hptr id _ _=>qA id (get F u)|_=>U
 |_=>U
def DS(d:Nat)(op:Op):X':=op.operands.any λx=>match x with|.tmp t=>t==d|_=>O
def Wy(d:Nat):Op->X'
 |.call {callee:=.builtin .append,args,..}=>match args.toList with
  |.tmp t::r=>t==d&&r.all λx=>match x with|.tmp t=>t != d|_=>U
  |_=>O
 |_=>O
def DI(ops:QP)(i:Nat):X':=
 match ops[i]?with
 |some o=>match o.op,o.dst with
  |.makeSlice ..,M d=>(ops.any λp=>DS d p.op)&&ops.all λp=> !DS d p.op||c7 p.op==.call|.buildSlice _ len ps,M d=>len==0&&ps.size==0&&((C! (W ops)).any λk=>match ops[k]?with|some p=>DS d p.op&& !ez ops k|none=>O)&&ops.all λp=> !DS d p.op||Wy d p.op|_,_=>O
 |none=>O
def XC(E:Env)(ops:QP)(i:Nat):X':=
 match ops[i]?with
 |some o=>match o.op,o.dst with
  |.buildSlice t len _,M d=>_s (0<len)&&(match E.kindOf t with
   |some (.slice e)=>(match E.kindOf e with|some .bool|some (.int _)|some .str=>U|_=>O)|_=>O)&&(ops.any λp=>DS d p.op)&&ops.all λp=> !DS d p.op||c7 p.op==.call
  |_,_=>O
 |none=>O
def GM(E:Env)(ops:QP)(i:Nat):X':=DI ops i||XC E ops i
def qv(E:Env)(ops:QP):aX (Nat×Nat)->X'
 |some (_,i)=>GM E ops i|none=>O
def ng(E:Env)(ops:QP)(place:aX (Nat×Nat))(f:Y'):X':=E.keep f&&(match place with|none=>U|some (_,i)=>ez ops i|| !(E.own f||E.soft f))
def zY(ops:QP)(i:Nat):X':=
 match ops[i]?with
 |some o=>isApp o.op&&(C! (W ops)).all λk=>match ops[k]?with
  |some p=>k==i||c7 p.op==.pure||uL ops i k||c7 p.op==.read||(c7 p.op==.alloc&&(DI ops k||decide (i<k)))|none=>U
 |none=>O
def sX(F:WP):Op->X'
 |.call {callee:=.builtin .append,args,..}=>match args.toList with
  |x::_=>match ev F x with|some .dS|some .bN=>U|_=>O
  |_=>O
 |_=>O
def Cm(ops:QP)(i b:Nat)(F:WP)(H:bt)(op:Op):X':=zY ops i&&(isApp op&&sX F op&&_s (b<=W H))
def eR(E:Env)(call:en)(ops:QP)(place:aX (Nat×Nat))(f:Y')(args:So)(H:bt):aX (V×bt):=
 if ng E ops place f then
  match place with
  |none=>iP E call f args H|some (_,i)=>if ez ops i then iP E call f args H else J
 else match place with
  |none=>match cw call f args H with
   |some y=>M (y,if y.scalar then H else dh H (dz (cF call.lv H) args))|none=>J
  |some (b,i)=>match cw call f args (H.take b)with
   |some y=>if y.scalar then M (y,H)else if kC (H.take b) (dz (cF call.lv (H.take b)) args)then M (y,dh H (dz (cF call.lv (H.take b)) args))else J|none=>if ez ops i then match cw call f args H with
    |some y=>M (y,if y.scalar then H else dh H (dz (cF call.lv H) args))|none=>J
    else J
def dw(E:Env)(call:en)(ops:QP)(place:aX (Nat×Nat))(F:WP)(H:bt)(op:Op):aX (V×bt):=
 match c7 op with
 |.pure=>(vS E F H place op).map λv=>(v,H)|.read=>match place with
  |none=>(eM E F H op).map λv=>(v,H)|some (b,i)=>if qD ops i F op then match eM E F (H.take b) op with
   |some v=>M (v,H)|none=>if ez ops i then(eM E F H op).map λv=>(v,H)else J
   else J
 |.alloc=>if qv E ops place then(sB E F op).map λv=>(v,H)else match fZ E F op,place with
  |some (ob,m),J=>M (m.val (W H),H++[ob])|some (ob,m),M (b,i)=>match H[b+i]?with
   |some .free=>M (m.val (b+i),H.set (b+i) ob)|_=>J
  |none,_=>J
 |.loud=>match place with
  |none=>cT E F H op|some (b,i)=>if ez ops i||sM ops i F||uB ops b i F||Cm ops i b F H op then cT E F H op else J
 |.call=>match mg F op with
  |some (.fn f,args)=>if zm ops place args then eR E call ops place f args H else J|some (.yld id,args)=>match place with
   |none=>call (.yld id) args H|some (_,i)=>if ez ops i then call (.yld id) args H else J
  |none=>J
def lY(n:Nat)(F:WP)(dst:aX Nat)(v:V):aX WP:=
 match dst with
 |none=>M F|some d=>if d<n then M (set F d v)else J
def iA(ops:QP)(F:WP)(o:Oper):X':=
 match o.guard with
 |none=>U|some (j,b)=>match(ops[j]?).bind (·.dst)with
  |some d=>match get F d with
   |.bool c=>c==b|_=>O
  |none=>O
def iY(E:Env)(call:en)(n:Nat)(ops:QP)(place:aX (Nat×Nat))(o:Oper)(F:WP)(H:bt):aX (WP×bt):=
 if iA ops F o then
  match dw E call ops place F H o.op with
  |some (v,H')=>(lY n F o.dst v).map λF'=>(F',H')|none=>J
 else(lY n F o.dst .undef).map λF'=>(F',H)
def oQ(E:Env)(call:en)(n:Nat)(ops:QP):QP->WP->bt->aX (WP×bt)
 |[],F,H=>M (F,H)|o::r,F,H=>match iY E call n ops J o F H with
  |some (F',H')=>oQ E call n ops r F' H'|none=>J
def mw(E:Env)(call:en)(n:Nat)(ops:QP)(j?:Nat):ST->WP->bt->aX (WP×bt)
 |[],F,H=>M (F,H)|i::r,F,H=>match ops[i]?with
  |some o=>match iY E call n ops (M (j?,i)) o F H with
   |some (F',H')=>mw E call n ops j? r F' H'|none=>J
  |none=>J
def tmpsOf(o:Oper)(ops:QP):ST:=
 (o.op.operands.toList.filterMap λ|.tmp t=>M t|_=>J)++
 (match o.guard with|some (g,_)=>(_o (ops[g]?) (·.dst)).toList|none=>[])
def Bh(ops:QP)(a b:Oper):X':=
 (match a.dst with|some d=> !(tmpsOf b ops).contains d&&b.dst != M d|none=>U)&&
 (match b.dst with|some d=> !(tmpsOf a ops).contains d|none=>U)
def zi(ops:QP):X':=
 (C! (W ops)).all λj=>(C! j).all λi=>
  match ops[i]?,ops[j]?with
  |some a,M b=>Ib b i||Bh ops a b|_,_=>O
def Cz(ops:QP):X':=
 (C! (W ops)).all λj=>match ops[j]?with
  |some o=>o.after.all λe=> !nS e||decide (e.on<j)|none=>U
def uK(ops:QP):X':=ops.any λo=>c7 o.op==.alloc
def lN(E:Env)(call:en)(n:Nat)(ops:QP)(B:X')(F:WP)(H:bt):aX (WP×bt):=if B then if zi ops&&Cz ops then mw E call n ops (W H) (C! (W ops)) F (if uK ops then H++replicate (W ops) .free else H)else J else oQ E call n ops ops F H
def mZ(step:WP->bt->aX (Out×WP×bt)):Nat->WP->bt->aX (Out×WP×bt)
 |0,_,_=>J|k+1,F,H=>match step F H with
  |some (.norm,F',H')=>mZ step k F' H'|r=>r
def pE:Out->aX Code
 |.norm=>J|.ret=>M .ret|.exit id=>M (.exit id)
def exec(E:Env)(call:en)(lf:Nat)(ro:X')(n:Nat):Code->WP->bt->aX (Out×WP×bt)
 |.skip,F,H=>M (.norm,F,H)|.label _,F,H=>M (.norm,F,H)|.region _ ops B,F,H=>(lN E call n ops.toList B F H).map λ(F',H')=>(.norm,F',H')|.seq a b,F,H=>match exec E call lf ro n a F H with
  |some (.norm,F',H')=>exec E call lf ro n b F' H'|r=>r
 |.cond c x y,F,H=>match ev F c with
  |some (.bool t)=>if t then exec E call lf ro n x F H else exec E call lf ro n y F H|_=>J
 |.block id c,F,H=>match exec E call lf ro n c F H with
  |some (.exit D,F',H')=>if D=id then M (.norm,F',H')else M (.exit D,F',H')|r=>r
 |.loop c,F,H=>mZ (exec E call lf ro n c) lf F H|.rangeFunc g ps assign body,F,H=>match ro,ev F g with
  |false,M (.clo f a b)=>
   match call (.fn f) (a++.yld (W H)::b) (H++[.loop ⟨.ready,J,F,n,ps.toList,assign,body⟩])with
   |some (_,H')=>match H'[W H]?with
    |some (.loop r)=>match r.st with
     |.busy=>J|_=>M (r.pend.getD .norm,F,H'.set (W H) .dead)
    |_=>J
   |none=>J
  |_,_=>J
 |.exit id,F,H=>M (.exit id,F,H)|.ret,F,H=>M (.ret,F,H)|_,_,_=>J
def jS(E:Env)(F:WP)(H:bt):aY ResultVar->aX So
 |[]=>M []|.tmp t::r=>(jS E F H r).map (get F t::·)|.cell a t::r=>match E.tt t,jS E F H r with
  |some d,M vs=>(_o (fJ H (get F a) d.size) (mk d.agg)).map (·::vs)|_,_=>J
def result:So->V
 |[v]=>v|vs=>.tup vs
def AV:ST->So->WP->WP
 |t::B,v::vs,F=>AV B vs (set F t v)|_,_,F=>F
def KV{α:Type}[Inhabited α](lt:α->α->X'):Nat->Nat->Array α->Array α
 |0,_,d=>d|k+1,i,d=>KV lt k (i+1) (Sort.insInner lt 0 i d)
def tj(n:Nat)(lt:Fin (n+1)->Fin (n+1)->X'):Array (Fin (n+1)):=if n<12 then KV lt n 1 (V! (n+1)).toArray else Sort.pdq lt (V! (n+1)).toArray 0 (n+1) (Lib.bitLen (n+1)) U U
def kL(call:en)(g:Y')(D B:So)(n:Nat)(i j:Fin (n+1)):Ps:=
 match D[i.1]?,D[j.1]?with
 |some a,M b=>match cw call g (a::b::B) []with
  |some (.int N c)=>M c|_=>J
 |_,_=>J
def sy{n:Nat}(t:Fin (n+1)->Fin (n+1)->Ps)(i j:Fin (n+1)):X':=_s ((t i j).getD 0<0)
def DH{n:Nat}(t:Fin (n+1)->Fin (n+1)->Ps):X':=
 let l:=V! (n+1)
 l.all λi=> !sy t i i&&l.all λj=>(t i j).isSome&&l.all λk=>(!(sy t i j&&sy t j k)||sy t i k)&&((sy t i j||sy t j k)|| !sy t i k)
def ug(xs:S')(off n:Nat)(l:aY (Fin (n+1))):S':=xs.take off++l.map (λi=>(xs[off+i.1]?).getD [])++xs.drop (off+(n+1))
def tA(keep:Y'->X')(call:en)(args:So)(H:bt):aX (V×bt):=
 match args with
 |[s,c]=>match s with
  |.bN|.dS=>M (.undef,H)|.hsl id es off len=>match len,c with
   |0,_=>M (.undef,H)|n+1,.clo g [] cb=>match H[id]?with
    |some (.row w z)=>if es=1/\w=1/\off+(n+1)<=W z/\n<2147483648/\keep g=O then
     match borrows call.lv (H.set id .dead) ((z.drop off).take (n+1)).flatten,borrows call.lv (H.set id .dead) cb with
     |some B,M u=>if DH (kL call g B u n)then M (.undef,H.set id (.row 1 (ug z off n (tj n (sy (kL call g B u n))).toList)))else J|_,_=>J
     else J
    |_=>J
   |_,_=>J
  |_=>J
 |_=>J
def mc(E:Env)(c:en)(n:Nat):Callee->So->bt->aX (V×bt)
 |.fn f,args,H=>match E.ft f with
  |some fi=>if W args<=fi.ntmps then
   match exec E c n O fi.ntmps fi.body args H with
   |some (.exit _,_,_)=>J|some (_,F',H')=>(jS E F' H' fi.results).map λvs=>(result vs,H')|none=>J
   else J
  |none=>if E.sort f then tA E.keep c args H else(E.known f args).map λy=>(y,H)
 |.yld id,args,H=>match H[id]?with
  |some (.loop r)=>match r.st with
   |.ready=>if W args=W r.params/\r.params.all (·<r.nt)then
    match exec E c n U r.nt r.assign (AV r.params args r.frame) H with
    |some (.norm,D,H2)=>match H2[id]?with
     |some (.loop r2)=>match r2.st with
      |.ready=>match exec E c n U r.nt r.body D (H2.set id (.loop {r2 with st:=.busy}))with
       |some (o,_,B)=>match B[id]?with
        |some (.loop r4)=>M (.bool (o==.norm),B.set id (.loop {r4 with st:=(if o==.norm then .ready else .done),pend:=(if o==.norm then J else M o)}))|_=>J
       |none=>J
      |_=>J
     |_=>J
    |_=>J
    else J
   |_=>J
  |_=>J
def run(E:Env):Nat->en
 |0=>⟨0,λ_ _ _=>J⟩|n+1=>⟨n+1,mc E (run E n) n⟩
def KC{E:Env}{n:Nat}{x:Callee}{a:So}{H:bt}:run E (n+1) x a H=mc E (run E n) n x a H:=rfl
end Go.VE
namespace Go.VE
variable[b7]
@[simp] def get_nil(i:Nat):get [] i=.undef:=by cases i<;>rfl
@[simp] def vB(F:WP)(i:Nat)(v:V):get (set F i v) i=v:=by
 induction F generalizing i with
 |nil=>induction i with
  |zero=>rfl|succ i u=>grind[set,get]
 |cons x r u=>cases i with
  |zero=>rfl|succ i=>grind[set,get]
theorem lq(F:WP){i j:Nat}(v:V)(h:i≠j):get (set F i v) j=get F j:=by
 induction F generalizing i j with
 |nil=>
  induction i generalizing j with
  |zero=>cases j with
   |zero=>grind|succ j=>simp[set,get]
  |succ i u=>cases j with
   |zero=>simp[set,get]|succ j=>grind[set,get]
 |cons x r u=>cases i with
  |zero=>cases j with
   |zero=>grind|succ j=>simp[set,get]
  |succ i=>cases j with
   |zero=>simp[set,get]|succ j=>grind[set,get]
def L5(F:WP){i j:Nat}(u v:V)(h:i≠j):set (set F i u) j v=set (set F j v) i u:=by
 induction F generalizing i j with
 |nil=>
  induction i generalizing j with
  |zero=>cases j with
   |zero=>grind|succ j=>simp[set]
  |succ i w=>cases j with
   |zero=>simp[set]|succ j=>grind[set]
 |cons x r w=>cases i with
  |zero=>cases j with
   |zero=>grind|succ j=>simp[set]
  |succ i=>cases j with
   |zero=>simp[set]|succ j=>grind[set]
inductive IC where
 |cells(c:Array Value)|map(es:Array MapEntry)
abbrev cN:=Nat->aX IC
def IC.at(x:IC)(w:World)(b:Nat):Prop:=
 match x with
 |.cells c=>∃el fr,w.heap[b]?=M (.cells c el fr)|.map es=>∃a,w.heap[b]?=M (.map es a)
def cN.le(I I':cN):Prop:=∀b x,I b=M x->I' b=M x
def cN.le_refl(I:cN):cN.le I I:=λ_ _ h=>h
def cN.le_trans{I g K:cN}(h:cN.le I g)(B:cN.le g K):cN.le I K:=λb x e=>B b x (h b x e)
inductive fE(I:cN):V->Value->Prop
 |bool(b:Bool):fE I (.bool b) (.bool b)|int(k:IntKind)(n:Int):fE I (.int k n) (.int k n)|str(s:ByteArray):fE I (.str s) (.string s)|dS(a:Option Addr):fE I .dS (.slice a 0 0)|bN:fE I .bN (.slice none 0 0)|fsl0(es:Nat)(a:Addr)(cap:Nat):fE I (.fsl es []) (.slice (some a) 0 cap)|fsl(es:Nat)(xs:List (List V))(b o cap:Nat)(c:Array Value)(hI:I b=some (.cells c))(hc:xs.length<=cap)
  (hu:∀x∈xs,x.length=es) (ho:∀x∈xs,∀y∈x,V.one y=true) (hb:o+xs.length*es<=c.size)
  (hr:∀(i j:Nat)x y v,xs[i]?=some x->x[j]?=some y->c[o+i*es+j]?=some v->fE I y v):
  fE I (.fsl es xs) (.slice (some ⟨b,o,none⟩) xs.length cap)
 |jF:fE I .jF (.pointer none)|fptr(cs:List V)(b o:Nat)(c:Array Value)(hI:I b=some (.cells c))(hb:o+cs.length<=c.size)
  (hr:∀(j:Nat)y v,cs[j]?=some y->c[o+j]?=some v->fE I y v):fE I (.fptr cs) (.pointer (some ⟨b,o,none⟩))
 |clo(f:FuncId)(x y:List V)(u v:Array Value)(hx:x.length=u.size)(hy:y.length=v.size)
  (h1:∀(j:Nat)a b,x[j]?=some a->u[j]?=some b->fE I a b) (h2:∀(j:Nat)a b,y[j]?=some a->v[j]?=some b->fE I a b):
  fE I (.clo f x y) (.func (.func f) u v)
 |iZ:fE I .iZ (.map none)|uV:fE I .uV .nilFunc|fmap(kvs:List (V×V))(b:Nat)(es:Array MapEntry)(hI:I b=some (.map es))(hl:kvs.length=es.size)
  (hk:∀(j:Nat)p e,kvs[j]?=some p->es[j]?=some e->fE I p.1 e.key)
  (hv:∀(j:Nat)p e,kvs[j]?=some p->es[j]?=some e->fE I p.2 e.val):fE I (.fmap kvs) (.map (some b))
 |agg(cs:List V)(vs:Array Value)(hl:cs.length=vs.size)(h:∀(j:Nat)a b,cs[j]?=some a->vs[j]?=some b->fE I a b):
  fE I (.agg cs) (.agg vs)
 |tup(cs:List V)(vs:Array Value)(hl:cs.length=vs.size)(h:∀(j:Nat)a b,cs[j]?=some a->vs[j]?=some b->fE I a b):
  fE I (.tup cs) (.tuple vs)
structure Pl where
 b:Nat
 o:Nat
 es:Nat
 sz:Nat
abbrev Mu:=Nat->aX Pl
inductive bP(I:cN)(μ:Mu):V->Value->Prop
 |c(x:V)(v:Value)(h:fE I x v):bP I μ x v|hsl(id off len cap:Nat)(p:Pl)(hm:μ id=some p)(hc:len<=cap)(hb:p.o+(off+cap)*p.es<=p.sz):
  bP I μ (.hsl id p.es off len) (.slice (some ⟨p.b,p.o+off*p.es,none⟩) len cap)
 |hsl0(id es off:Nat)(a:Addr):bP I μ (.hsl id es off 0) (.slice (some a) 0 0)|hptr(id el off:Nat)(p:Pl)(hm:μ id=some p):bP I μ (.hptr id el off) (.pointer (some ⟨p.b,p.o+el*p.es+off,none⟩))|yld(id:Nat)(p:Pl)(hm:μ id=some p):bP I μ (.yld id) (.func (.yield p.b) #[] #[])|hmap(id:Nat)(p:Pl)(hm:μ id=some p):bP I μ (.hmap id) (.map (some p.b))|clo(f:FuncId)(x y:List V)(u v:Array Value)(hx:x.length=u.size)(hy:y.length=v.size)
  (h1:∀(j:Nat)a b,x[j]?=some a->u[j]?=some b->bP I μ a b) (h2:∀(j:Nat)a b,y[j]?=some a->v[j]?=some b->bP I μ a b):
  bP I μ (.clo f x y) (.func (.func f) u v)
 |agg(cs:List V)(vs:Array Value)(hl:cs.length=vs.size)(h:∀(j:Nat)a b,cs[j]?=some a->vs[j]?=some b->bP I μ a b):
  bP I μ (.agg cs) (.agg vs)
 |tup(cs:List V)(vs:Array Value)(hl:cs.length=vs.size)(h:∀(j:Nat)a b,cs[j]?=some a->vs[j]?=some b->bP I μ a b):
  bP I μ (.tup cs) (.tuple vs)
def Mu.le(μ μ':Mu):Prop:=∀id p,μ id=M p->μ' id=M p
def Mu.le_refl(μ:Mu):Mu.le μ μ:=λ_ _ h=>h
def fE.mono{I I':cN}(h:cN.le I I'){x:V}{v:V'}(r:fE I x v):fE I' x v:=by induction r with|bool b=>exact .bool b|int k n=>exact .int k n|str s=>exact .str s|dS a=>exact .dS a|bN=>exact .bN|fsl0 es a cap=>exact .fsl0 es a cap|fsl es i b o cap c C hc hu Q G _ w=>exact .fsl es i b o cap c (h _ _ C) hc hu Q G w|jF=>exact .jF|fptr cs b o c C G _ w=>exact .fptr cs b o c (h _ _ C) G w|clo f x y u v S T _ _ z B=>exact .clo f x y u v S T z B|iZ=>exact .iZ|uV=>exact .uV|fmap g b es C D _ _ z B=>exact .fmap g b es (h _ _ C) D z B|agg cs L D _ w=>exact .agg cs L D w|tup cs L D _ w=>exact .tup cs L D w
def bP.mono{I I':cN}{μ μ':Mu}(h:cN.le I I')(B:Mu.le μ μ'){x:V}{v:V'}(r:bP I μ x v):bP I' μ' x v:=by induction r with|c x v r=>exact .c _ _ (r.mono h)|hsl id off len cap p w hc L=>exact .hsl id off len cap p (B _ _ w) hc L|hsl0 id es off a=>exact .hsl0 id es off a|hptr id el off p w=>exact .hptr id el off p (B _ _ w)|yld id p w=>exact .yld id p (B _ _ w)|hmap id p w=>exact .hmap id p (B _ _ w)|clo f x y u v i Q _ _ z C=>exact .clo f x y u v i Q z C|agg cs D G _ g=>exact .agg cs D G g|tup cs D G _ g=>exact .tup cs D G g
def c6(I:cN)(μ:Mu)(xs:So)(vs:aY V'):Prop:=W xs=W vs/\∀(j:Nat)a b,xs[j]?=M a->vs[j]?=M b->bP I μ a b
def c6.nil{I:cN}{μ:Mu}:c6 I μ [] []:=⟨Y,f?⟩
def c6.cons{I:cN}{μ:Mu}{x:V}{v:V'}{xs:So}{vs:aY V'}(h:bP I μ x v)(r:c6 I μ xs vs):c6 I μ (x::xs) (v::vs):=by refine⟨by simp[r.1],?_⟩;intro j a b c u;cases j with|zero=>grind|succ j=>exact r.2 j a b g? g?
def c6.cons_inv{I:cN}{μ:Mu}{x:V}{xs:So}{B:aY V'}(r:c6 I μ (x::xs) B):∃v vs,B=v::vs/\bP I μ x v/\c6 I μ xs vs:=by have⟨u,h⟩:=r;cases B with|nil=>simp_all|cons v vs=>refine⟨v,vs,Y,h 0 x v f? f?,g?,?_⟩;intro j a b c w;exact h (j+1) a b g? g?
def c6.yT{I:cN}{μ:Mu}{B:aY V'}(r:c6 I μ [] B):B=[]:=by have:=r.1;grind
def c6.append{I:cN}{μ:Mu}{xs ys:So}{B vs:aY V'}(h:c6 I μ xs B)(D:c6 I μ ys vs):c6 I μ (xs++ys) (B++vs):=by induction xs generalizing B with|nil=>rw[c6.yT h];exact D|cons x xs u=>obtain⟨v,B,rfl,a,b⟩:=h.cons_inv;exact .cons a (u b)
def c6.mono{I I':cN}{μ μ':Mu}(h:cN.le I I')(B:Mu.le μ μ'){xs:So}{vs:aY V'}(r:c6 I μ xs vs):c6 I' μ' xs vs:=⟨r.1,λj a b c u=>(r.2 j a b c u).mono h B⟩
def c6.take{I:cN}{μ:Mu}{xs:So}{vs:aY V'}(r:c6 I μ xs vs)(n:Nat):c6 I μ (xs.take n) (vs.take n):=by refine⟨by simp[r.1],λj a b c u=>?_⟩;rw[J?]at c u;split at c<;>simp_all;exact r.2 j a b c u
def c6.drop{I:cN}{μ:Mu}{xs:So}{vs:aY V'}(r:c6 I μ xs vs)(n:Nat):c6 I μ (xs.drop n) (vs.drop n):=by refine⟨by simp[r.1],λj a b c u=>?_⟩;rw[M?]at c u;exact r.2 _ a b c u
def bP.cells{I:cN}{μ:Mu}{x:V}{v:V'}(r:bP I μ x v):c6 I μ x.cells v.cells.toList:=by
 cases r with
 |c x v h=>cases h with|agg cs B w h=>exact⟨by grind[V.cells,Value.cells],λj a b d C=>.c _ _ (h j a b d (by grind[Value.cells]))⟩|bool b=>exact .cons (.c _ _ (.bool b)) .nil|int k n=>exact .cons (.c _ _ (.int k n)) .nil|str s=>exact .cons (.c _ _ (.str s)) .nil|dS a=>exact .cons (.c _ _ (.dS a)) .nil|bN=>exact .cons (.c _ _ .bN) .nil|fsl0 es a cap=>exact .cons (.c _ _ (.fsl0 es a cap)) .nil|fsl es Q b o cap c D hc hu S G hr=>exact .cons (.c _ _ (.fsl es Q b o cap c D hc hu S G hr)) .nil|jF=>exact .cons (.c _ _ .jF) .nil|fptr cs b o c D G hr=>exact .cons (.c _ _ (.fptr cs b o c D G hr)) .nil|clo f x y u v g L d C=>exact .cons (.c _ _ (.clo f x y u v g L d C)) .nil|iZ=>exact .cons (.c _ _ .iZ) .nil|uV=>exact .cons (.c _ _ .uV) .nil|fmap i b es D w hk hv=>exact .cons (.c _ _ (.fmap i b es D w hk hv)) .nil|tup cs B w h=>exact .cons (.c _ _ (.tup cs B w h)) .nil
 |hsl id off len cap p z hc G=>exact .cons (.hsl id off len cap p z hc G) .nil|hsl0 id es off a=>exact .cons (.hsl0 id es off a) .nil|hptr id el off p z=>exact .cons (.hptr id el off p z) .nil|yld id p z=>exact .cons (.yld id p z) .nil|hmap id p z=>exact .cons (.hmap id p z) .nil|clo f x y u v g L d C=>exact .cons (.clo f x y u v g L d C) .nil|agg cs B w h=>exact⟨by grind[V.cells,Value.cells],λj a b d C=>h j a b d (by grind[Value.cells])⟩|tup cs B w h=>exact .cons (.tup cs B w h) .nil
def bP.Ko{I:cN}{μ:Mu}{cs:So}{vs:Array V'}(h:c6 I μ cs vs.toList):bP I μ (.agg cs) (.agg vs):=.agg cs vs (by simpa using h.1) λj a b c u=>h.2 j a b c g?
def bP.WO{I:cN}{μ:Mu}{cs:So}{vs:Array V'}(h:c6 I μ cs vs.toList):bP I μ (.tup cs) (.tuple vs):=.tup cs vs (by simpa using h.1) λj a b c u=>h.2 j a b c g?
section inv
variable{I:cN}{μ:Mu}
def bP.uD{b:X'}{v:V'}(h:bP I μ (.bool b) v):v=.bool b:=by cases h with|c _ _ h=>cases h;rfl
def bP.gX{k:T2}{n:Int}{v:V'}(h:bP I μ (.int k n) v):v=.int k n:=by cases h with|c _ _ h=>cases h;rfl
def bP.wF{s:U'}{v:V'}(h:bP I μ (.str s) v):v=.string s:=by cases h with|c _ _ h=>cases h;rfl
def bP.vj{v:V'}(h:bP I μ .dS v):∃a,v=.slice a 0 0:=by cases h with|c _ _ h=>cases h;grind
def bP.oI{es:Nat}{xs:S'}{v:V'}(h:bP I μ (.fsl es xs) v):fE I (.fsl es xs) v:=by cases h with|c _ _ h=>omega
def bP.oS{cs:So}{v:V'}(h:bP I μ (.fptr cs) v):∃b o c,v=.pointer (M ⟨b,o,J⟩)/\I b=M (.cells c)/\o+W cs<=c.size/\
 (∀(j:Nat)y u,cs[j]?=M y->c[o+j]?=M u->fE I y u):=by
 cases h with|c _ _ h=>cases h with|fptr cs b o c w z hr=>grind
def bP.oB{v:V'}(h:bP I μ .bN v):v=.slice J 0 0:=by cases h with|c _ _ h=>cases h;rfl
def bP.UY{v:V'}(h:bP I μ .iZ v):v=.map J:=by cases h with|c _ _ h=>cases h;rfl
def bP.v7{id el off:Nat}{v:V'}(h:bP I μ (.hptr id el off) v):∃p,μ id=M p/\v=.pointer (M ⟨p.b,p.o+el*p.es+off,J⟩):=by cases h with|c _ _ h=>cases h|hptr _ _ _ p u=>grind
def bP.Ye{id:Nat}{v:V'}(h:bP I μ (.yld id) v):∃p,μ id=M p/\v=.func (.yield p.b) #[] #[]:=by cases h with|c _ _ h=>cases h|yld _ p u=>grind
def bP.EF{id:Nat}{v:V'}(h:bP I μ (.hmap id) v):∃p,μ id=M p/\v=.map (M p.b):=by cases h with|c _ _ h=>cases h|hmap _ p u=>grind
def bP.oA{id es off len:Nat}{v:V'}(h:bP I μ (.hsl id es off len) v):
 (∃p b,μ id=M p/\p.es=es/\len<=b/\p.o+(off+b)*es<=p.sz/\v=.slice (M ⟨p.b,p.o+off*es,J⟩) len b)\/(len=0/\∃a,v=.slice (M a) 0 0):=by
 cases h with
 |c _ _ h=>cases h|hsl _ _ _ b p u hc w=>simp_all|hsl0 _ _ _ a=>grind
def bP.kf{cs:So}{v:V'}(h:bP I μ (.agg cs) v):∃vs,v=.agg vs/\c6 I μ cs vs.toList:=by
 cases h with
 |c _ _ h=>cases h with|agg _ vs u h=>exact⟨vs,rfl,g?,λj a b d w=>.c _ _ (h j a b d g?)⟩
 |agg _ vs u h=>exact⟨vs,Y,g?,λj a b d w=>h j a b d g?⟩
def bP.tw{cs:So}{v:V'}(h:bP I μ (.tup cs) v):∃vs,v=.tuple vs/\c6 I μ cs vs.toList:=by
 cases h with
 |c _ _ h=>cases h with|tup _ vs u h=>exact⟨vs,rfl,g?,λj a b d w=>.c _ _ (h j a b d g?)⟩
 |tup _ vs u h=>exact⟨vs,Y,g?,λj a b d w=>h j a b d g?⟩
def bP.mC{f:Y'}{x y:So}{v:V'}(h:bP I μ (.clo f x y) v):∃a b,v=.func (.func f) a b/\c6 I μ x a.toList/\c6 I μ y b.toList:=by
 cases h with
 |c _ _ h=>cases h with
  |clo _ _ _ u v z B h1 w=>exact⟨u,v,rfl,⟨g?,λj a b p q=>.c _ _ (h1 j a b p g?)⟩,⟨g?,λj a b p q=>.c _ _ (w j a b p g?)⟩⟩
 |clo _ _ _ u v z B h1 w=>exact⟨u,v,Y,⟨g?,λj a b p q=>h1 j a b p g?⟩,⟨g?,λj a b p q=>w j a b p g?⟩⟩
def bP.of_bool{x:V}{b:X'}(h:bP I μ x (.bool b)):x=.bool b:=by cases h with|c _ _ h=>cases h;rfl
end inv
def xw(I:cN):Prop:=∀g cs,b7.gl g=M cs->fE I (.fptr cs) (.pointer (M ⟨g,0,J⟩))
def xw.mono{I I':cN}(h:cN.le I I')(r:xw I):xw I':=λg cs a=>(r g cs a).mono h
structure fA(I:cN)(μ:Mu)(n:Nat)(F:Frame)(tmps:Array Value):Prop where
 size:tmps.size=n
 rel:∀t,bP I μ (get F t) (tmps.getD t undef)
 gl:xw I
theorem bP.undef(I:cN)(μ:Mu):bP I μ .undef Go.undef:=.c _ _ (.tup [] #[] Y f?)
def fA.mono{I I':cN}{μ μ':Mu}{n:Nat}{F:WP}{tmps:Array V'}(h:cN.le I I')(B:Mu.le μ μ')(r:fA I μ n F tmps):fA I' μ' n F tmps:=⟨r.1,λt=>(r.2 t).mono h B,r.gl.mono h⟩
def fA.put{I:cN}{μ:Mu}{n:Nat}{F F':WP}{a:Act}{dst:aX Nat}{x:V}{v:V'}(r:fA I μ n F a.tmps)(h:bP I μ x v)
 (hp:lY n F dst x=M F'):fA I μ n F' (a.put dst v).tmps:=by
 cases dst with
 |none=>simp[lY]at hp;subst hp;exact r|some d=>
  simp only[lY]at hp;split at hp
  .simp at hp;subst hp;refine⟨by simp[Act.put,r.1],λt=>?_,r.gl⟩
   by_cases u:d=t
   .subst u;have:d<a.tmps.size:=by rw[r.1];omega
    simp_all[Act.put]
   have:=r.2 t;rw[lq _ _ u];simp_all[Act.put]
  grind
def Ec{I:cN}:∀(n:Nat)(v:V')(x:V),ofValue n v=M x->fE I x v:=by intro n;induction n with|zero=>grind[ofValue]|succ n B=>intro v x h;unfold ofValue at h;split at h<;>(try (simp at h;subst h;constructor))<;>(try grind);simp at h;obtain⟨C,w,rfl⟩:=h;have key:∀(l:aY V')(u:So),l.mapM (ofValue n)=M u->W u=W l/\∀(j:Nat)a b,u[j]?=M a->l[j]?=M b->fE I a b:=(by intro l;induction l with|nil=>grind|cons v l z=>grind[ζg]);have⟨D,c⟩:=key _ _ w;exact .agg _ _ g? λj a b d G=>c j a b d g?
def dR{I:cN}{μ:Mu}{n:Nat}{F:WP}{a:Act}(r:fA I μ n F a.tmps){o:UV}{x:V}(h:ev F o=M x):bP I μ x (a.eval o):=by cases o with|tmp t=>simp[ev]at h;subst h;exact r.2 t|const v=>exact .c _ _ (Ec 4 _ _ h)|func f=>simp[ev]at h;subst h;exact .c _ _ (.clo f [] [] #[] #[] Y Y f? f?)|global g=>obtain⟨cs,b,rfl⟩:=ζf.1 h;exact .c _ _ (r.gl g cs b)
def qS{I:cN}{μ:Mu}{n:Nat}{F:WP}{a:Act}(r:fA I μ n F a.tmps):∀{l:aY UV}{xs:So},gz F l=M xs->c6 I μ xs (l.map a.eval):=by intro l;induction l with|nil=>intro xs h;simp[gz]at h;subst h;exact .nil|cons o l u=>intro xs h;simp[gz]at h;split at h;(next v z b w=>simp at h;subst h;exact .cons (dR r b) (u w));grind
def Pw{I:cN}{μ:Mu}{n:Nat}{F:WP}{a:Act}(r:fA I μ n F a.tmps):∀{l:aY (Nat×UV)}{xs:aY (Nat×V)},oT F l=M xs->
 W xs=W l/\∀(j:Nat)x y,xs[j]?=M x->l[j]?=M y->x.1=y.1/\bP I μ x.2 (a.eval y.2):=by
 intro l
 induction l with
 |nil=>grind[oT]|cons o l z=>
  intro xs h;simp[oT]at h;split at h
  .rename_i v D h1 B;simp at h;subst h;have⟨C,b⟩:=z B;refine⟨by simp[C],λj x y u w=>?_⟩
   cases j with
   |zero=>simp at u w;subst u;subst w;exact⟨rfl,dR r h1⟩|succ j=>grind
  grind
def oM:TypeDesc->TK
 |.bool=>.bool|.int k=>.int k|.string=>.str|.pointer e=>.ptr e|.slice e=>.slice e|.struct fs=>.struct (fs.toList.map λf=>(f.offset,f.type))|.array n e=>.array n e|.map k e=>.map k e|_=>.other
def FP:V'->X'
 |.agg _=>U|_=>O
def zl(P:Program)(t:W'):aX TD:=
 match P.info? t,P.underlying t with
 |some i,M d=>match i.zero with
  |some z=>match z.cells.toList.mapM (ofValue 4)with
   |some cs=>if W cs=i.size/\cs.all V.one=U/\FP z=(TD.mk i.size i.bytes cs (oM d)).agg then M ⟨i.size,i.bytes,cs,oM d⟩else J|none=>J
  |none=>J
 |_,_=>J
def ic(a:Rd):Array V':=(a.map (Value.int N)).toArray
structure zA(P:Program)(t:TypeId)(n:Nat):Prop where
 eq:∀(w:World)(x y:Operand)(a b:List Int),a.length=n->b.length=n->
  (do eqGuard .eql t x y (.agg (ic a)) (.agg (ic b));binOp .eql t (.agg (ic a)) (.agg (ic b))).run P w=.ok (.bool (a==b)) w
 ne:∀(w:World)(x y:Operand)(a b:List Int),a.length=n->b.length=n->
  (do eqGuard .neq t x y (.agg (ic a)) (.agg (ic b));binOp .neq t (.agg (ic a)) (.agg (ic b))).run P w=.ok (.bool !(a==b)) w
 key:∀(w:World)(a b:List Int),a.length=n->b.length=n->(P! t (.agg (ic a)) (.agg (ic b))).run P w=.ok (a==b) w
 check:∀(w:World)(e:Bool)(a:List Int),a.length=n->(y! e 10000 t (.agg (ic a))).run P w=.ok () w
 kind:∃d,P.underlying t=some d/\((∃n e,d=.array n e)\/(∃fs,d=.struct fs))
structure fG(P:Program)(E:Env):Prop where
 tt:∀t d,E.tt t=some d->zl P t=some d
 ft:∀f fi,E.ft f=some fi->∃fn,P.funcs[f]?=some fn/\fn.body=some fi.body/\fn.ntmps=fi.ntmps/\fn.results.toList=fi.results/\(fn.name== "runtime.NumGoroutine")=false
 eqN:∀t n,E.eqN t=some n->zA P t n
structure sP(P:Program)(t:TypeId)(d:TD):Prop where
 info:∃i z,P.info? t=some i/\i.size=d.size/\i.bytes=d.bytes/\i.zero=some z/\(∀I μ,c6 I μ d.zero z.cells.toList)/\d.zero.length=d.size/\d.zero.all V.one=true/\FP z=d.agg
 und:∃desc,P.underlying t=some desc/\oM desc=d.kind
def WB{I:cN}{μ:Mu}:∀(l:aY V')(ys:So),l.mapM (ofValue 4)=M ys->c6 I μ ys l:=by intro l;induction l with|nil=>intro ys h;simp at h;subst h;exact .nil|cons v l u=>intro ys h;simp only[List.mapM_cons,Option.pure_def,Option.bind_eq_bind,ζg,ζa]at h;obtain⟨y,w,z,B,rfl⟩:=h;exact .cons (.c _ _ (Ec 4 _ _ w)) (u z B)
def fG.ty{P:Program}{E:Env}(h:fG P E){t:W'}{d:TD}(B:E.tt t=M d):sP P t d:=by
 have:=h.tt t d B;unfold zl at this;split at this;rename_i i a hi hd;split at this;rename_i z u;split at this;rename_i cs b;split at this;next w=>simp only[ζa]at this;subst this;exact⟨⟨i,z,hi,Y,Y,u,λI μ=>WB _ _ b,w⟩,⟨a,hd,Y⟩⟩
 grind;grind;grind;grind
section runs
variable{P:Program}{w:World}{t:W'}{d:TD}
theorem ey{a:TypeDesc}(h:P.underlying t=M a):(underlying t).run P w=.ok a w:=by simp[underlying,h]
def rG{i:TypeInfo}(h:P.info? t=M i):(typeInfo t).run P w=.ok i w:=by simp[typeInfo,h]
def sP.mR(h:sP P t d):(sizeOf t).run P w=.ok d.size w:=by have⟨i,z,hi,u,_⟩:=h.info;simp_all[sizeOf,rG]
def sP.ey(h:sP P t d):∃a,P.underlying t=M a/\oM a=d.kind/\∀w,(underlying t).run P w=.ok a w:=by have⟨a,b,u⟩:=h.und;grind[VE.ey]
def sP.Qp(h:sP P t d):(isAgg t).run P w=.ok d.agg w:=by have⟨a,b,u⟩:=h.und;unfold isAgg;simp only[z?,VE.ey b,y?];cases a<;>simp[TD.agg,<-u,oM]
def sP.Ga(h:sP P t d):∃z,(∀w,(zeroValue t).run P w=.ok z w)/\(∀I μ,c6 I μ d.zero z.cells.toList)/\W d.zero=d.size/\d.zero.all V.one=U:=by have⟨i,z,hi,_,_,u,a,B,b,_⟩:=h.info;simp_all[zeroValue,rG]
end runs
def sP.Yh{P:Program}{t:W'}{d:TD}(h:sP P t d):∃z,(∀w,(zeroValue t).run P w=.ok z w)/\∀I μ x,VE.mk d.agg d.zero=M x->bP I μ x z:=by
 have⟨i,z,hi,_,_,D,a,G,b,u⟩:=h.info;refine⟨z,λw=>by simp_all[zeroValue,rG],λI μ x C=>?_⟩;have B:=a I μ;cases hd:d.agg with|true=>rw[hd]at C u;cases z<;>simp[FP]at u;simp only[VE.mk,N',ζa]at C;subst C;exact .Ko (by grind[Value.cells])|false=>
  rw[hd]at C u;simp only[VE.mk,v?,_a]at C;split at C
  .rename_i v hv;simp only[ζa]at C;subst C;rw[hv]at B;have e:z.cells.toList=[z]:=(by cases z<;>first|rfl|grind[FP]);rw[e]at B;exact B.2 0 _ _ Y Y
  simp at C
def gV{E:Env}{t:W'}{k:TK}(h:E.kindOf t=M k):∃d,E.tt t=M d/\d.kind=k:=by grind[Env.kindOf,ζf]
def Ht{d:TypeDesc}{k:T2}(h:oM d=.int k):d=.int k:=by cases d<;>simp_all [oM]
def OU{d:TypeDesc}(h:oM d=.bool):d=.bool:=by cases d<;>simp_all [oM]
def Cg{d:TypeDesc}(h:oM d=.str):d=.string:=by cases d<;>simp_all [oM]
def lE{d:TypeDesc}{e:W'}(h:oM d=.slice e):d=.slice e:=by cases d<;>simp_all [oM]
def EZ{d:TypeDesc}{n:Nat}{e:W'}(h:oM d=.array n e):d=.array n e:=by cases d<;>simp_all [oM]
def C7{d:TypeDesc}{k e:W'}(h:oM d=.map k e):d=.map k e:=by cases d<;>simp_all [oM]
def Ch{d:TypeDesc}{fs:aY (Nat×W')}(h:oM d=.struct fs):∃B,d=.struct B/\fs=B.toList.map λf=>(f.offset,f.type):=by cases d<;>simp_all [oM]
def DX{I:cN}{μ:Mu}{cs r:So}{vs:aY V'}{off n:Nat}(h:c6 I μ cs vs)(a:cut cs off n=M r):
 c6 I μ r ((vs.drop off).take n)/\W r=n/\off+n<=W cs\/(n=0/\r=[]):=by
 unfold cut at a;simp only at a;split at a
 .rename_i u;simp only[ζa]at a;subst a
  by_cases w:n=0
  .grind
  left;refine⟨(h.drop off).take n,u,?_⟩
  grind
 simp at a
def Sn{I:cN}{μ:Mu}{cs:So}{x:V}{vs:Array V'}(h:mk U cs=M x)(r:c6 I μ cs vs.toList):bP I μ x (.agg vs):=by simp only[mk,N',ζa]at h;subst h;exact .Ko r
def mk_one{I:cN}{μ:Mu}{cs:So}{x:V}{vs:aY V'}(h:mk O cs=M x)(r:c6 I μ cs vs):∃v,vs=[v]/\bP I μ x v:=by simp only[mk,v?,_a]at h;split at h;simp only[ζa]at h;subst h;obtain⟨v,u,rfl,a,b⟩:=r.cons_inv;exact⟨v,by rw[b.yT],a⟩;simp at h
def Mn{P:Program}{w:World}{I:cN}{μ:Mu}{t:W'}{d:TD}{cs r:So}{vs:Array V'}{x:V}{off:Nat}(D:sP P t d)(h:c6 I μ cs vs.toList)
 (b:cut cs off d.size=M r)(B:mk d.agg r=M x):∃u,(part t vs off).run P w=.ok u w/\bP I μ x u:=by
 unfold part;simp only[z?,D.Qp,y?]
 cases z:d.agg with
 |true=>
  rw[z]at B;refine⟨.agg (vs.extract off (off+d.size)),by simp[D.mR],?_⟩
  refine Sn B ?_;have e:(vs.extract off (off+d.size)).toList=(vs.toList.drop off).take d.size:=f?
  rw[e];rcases DX h b with⟨a,_⟩|⟨C,rfl⟩
  .exact a
  rw[C];exact .nil
 |false=>
  rw[z]at B;rcases DX h b with⟨a,g,_⟩|⟨C,rfl⟩
  .have⟨v,hv,G⟩:=mk_one B a;refine⟨v,?_,G⟩;have hd:d.size=1:=by
    have:=a.1;rw[hv]at this;grind
   rw[hd]at hv;have:vs[off]?=M v:=by have:=_f (·[0]?) hv;grind
   simp[this]
  grind[mk]
def Qt{I:cN}{μ:Mu}:∀(az:So)(a:Rd)(B:aY V'),jV az=M a->c6 I μ az B->B=a.map (Value.int N)/\W a=W az:=by intro az;induction az with|nil=>intro a B h u;simp only[jV,ζa]at h;subst h;rw[u.yT];simp|cons x az w=>intro a B h u;obtain⟨v,B,rfl,c,d⟩:=u.cons_inv;have z:∃y,x=.int N y:=(by cases x with|int k y=>cases k<;>simp[jV]at h⊢|_=>simp[jV]at h);obtain⟨y,rfl⟩:=z;simp only[jV,ζf]at h;obtain⟨b,C,rfl⟩:=h;have⟨g1,g2⟩:=w _ _ C d;have:=c.gX;grind
def tB{I:cN}{μ:Mu}{az:So}{a:Rd}{B:Array V'}(h:jV az=M a)(D:c6 I μ az B.toList):B=ic a/\W a=W az:=by have⟨b,u⟩:=Qt _ _ _ h D;refine⟨?_,u⟩;have:=_f List.toArray b;grind[ic]
def Av{az B:So}{r:X'}(h:nE az B=M r):∃a b,jV az=M a/\jV B=M b/\W a=W b/\r=(a==b):=by grind[nE]
section
variable{P:Program}{E:Env}{I:cN}{μ:Mu}{n:Nat}{F:WP}{a:Act}{w:World}
def Sh(f:BinOp)(t:W')(p q:UV)(k B:T2)(m m':Int):(eqGuard f t p q (.int k m) (.int B m')).run P w=.ok () w:=by simp_all[eqGuard]
def TB(f:BinOp)(t:W')(p q:UV)(s B:U'):(eqGuard f t p q (.string s) (.string B)).run P w=.ok () w:=by simp_all[eqGuard]
def Re(f:BinOp)(t:W')(p q:UV)(s B:X'):(eqGuard f t p q (.bool s) (.bool B)).run P w=.ok () w:=by simp_all[eqGuard]
def M3(d:Nat){t:W'}(x y:X')(h:P.underlying t=M .bool):(I! (d+1) t (.bool x) (.bool y)).run P w=.ok (x==y) w:=by simp_all[I!,ey]
theorem FL{t:W'}(x y:X')(h:P.underlying t=M .bool):(P! t (.bool x) (.bool y)).run P w=.ok (x==y) w:=M3 9999 x y h
def Ej(d:Nat){t:W'}{k:T2}(x y:Int)(h:P.underlying t=M (.int k)):(I! (d+1) t (.int k x) (.int k y)).run P w=.ok (x==y) w:=by simp_all[I!,ey]
def Kc(d:Nat){t e:W'}(B:aX Addr)(l c:Nat)(h:P.underlying t=M (.slice e)):(I! (d+1) t (.slice B l c) (.slice J 0 0)).run P w=.ok B.isNone w:=by cases B<;>simp only[I!,z?,ey h,y?,L?]<;>rfl
def Nn(d:Nat){t e:W'}(B:aX Addr)(h:P.underlying t=M (.pointer e)):(I! (d+1) t (.pointer B) (.pointer J)).run P w=.ok B.isNone w:=by cases B<;>simp only[I!,z?,ey h,y?,L?]<;>rfl
def Nq(d:Nat){t e D:W'}(B:aX Nat)(h:P.underlying t=M (.map e D)):(I! (d+1) t (.map B) (.map J)).run P w=.ok B.isNone w:=by cases B<;>simp only[I!,z?,ey h,y?,L?]<;>rfl
def Jm(T:fG P E){t:W'}{k:TK}{x y:V}{u v:V'}{b:X'}(i:E.kindOf t=M k)(h:xB k x y=M b)(B:bP I μ x u)(D:bP I μ y v):
 (P! t u v).run P w=.ok b w/\(∀op p q,(eqGuard op t p q u v).run P w=.ok () w)/\binOp .eql t u v=(do pure (.bool (<-P! t u v)))/\binOp .neq t u v=(do pure (.bool (!(<-P! t u v)))):=by
 have⟨d,hd,o⟩:=gV i;have⟨a,m,C,_⟩:=(T.ty hd).ey;rw[o]at C;have j:∀(e:W')(z:aX Addr)(l c:Nat),P.underlying t=M (.slice e)->b=z.isNone->
  (P! t (.slice z l c) (.slice J 0 0)).run P w=.ok b w/\(∀op p q,(eqGuard op t p q (.slice z l c) (.slice J 0 0)).run P w=.ok () w)/\binOp .eql t (.slice z l c) (.slice J 0 0)=(do pure (.bool (<-P! t (.slice z l c) (.slice J 0 0))))/\binOp .neq t (.slice z l c) (.slice J 0 0)=(do pure (.bool (!(<-P! t (.slice z l c) (.slice J 0 0))))):=by
  intro e z l c f G;refine⟨?_,λop p q=>by simp_all[eqGuard],Y,Y⟩
  rw[G];exact Kc 9999 z l c f
 have X:∀(e:W')(z:aX Addr),P.underlying t=M (.pointer e)->b=z.isNone->
  (P! t (.pointer z) (.pointer J)).run P w=.ok b w/\(∀op p q,(eqGuard op t p q (.pointer z) (.pointer J)).run P w=.ok () w)/\binOp .eql t (.pointer z) (.pointer J)=(do pure (.bool (<-P! t (.pointer z) (.pointer J))))/\binOp .neq t (.pointer z) (.pointer J)=(do pure (.bool (!(<-P! t (.pointer z) (.pointer J))))):=by
  intro e z f G;refine⟨?_,λop p q=>by simp_all[eqGuard],Y,Y⟩
  rw[G];exact Nn 9999 z f
 have Q:∀(e L:W')(z:aX Nat),P.underlying t=M (.map e L)->b=z.isNone->
  (P! t (.map z) (.map J)).run P w=.ok b w/\(∀op p q,(eqGuard op t p q (.map z) (.map J)).run P w=.ok () w)/\binOp .eql t (.map z) (.map J)=(do pure (.bool (<-P! t (.map z) (.map J))))/\binOp .neq t (.map z) (.map J)=(do pure (.bool (!(<-P! t (.map z) (.map J))))):=by
  intro e L z f G;refine⟨?_,λop p q=>by simp_all[eqGuard],Y,Y⟩
  rw[G];exact Nq 9999 z f
 unfold xB at h;split at h<;>(try (simp only[ζa]at h;subst h))
 .have:=lE C;subst this;rw[B.oB,D.oB];grind
 .have:=lE C;subst this;rw[D.oB];have S:=B.oI
  cases S with
  |fsl0 _ z g=>grind|fsl=>grind
 .have:=lE C;subst this;rw[D.oB];rcases B.oA with⟨p,g,_,_,_,_,A⟩|⟨_,z,A⟩
  all_goals grind
 .obtain⟨e,rfl⟩:∃e,a=.pointer e:=by cases a<;>simp_all [oM]
  cases B with|c _ _ B=>cases B;cases D with|c _ _ D=>cases D;grind
 .obtain⟨e,rfl⟩:∃e,a=.pointer e:=by cases a<;>simp_all [oM]
  cases D with|c _ _ D=>cases D;cases B with|c _ _ B=>cases B;grind
 .obtain⟨e,rfl⟩:∃e,a=.pointer e:=by cases a<;>simp_all [oM]
  cases D with
  |c _ _ D=>
   cases D
   cases B with
   |c _ _ B=>cases B|hptr=>grind
 .have:=C7 C;subst this;cases B with|c _ _ B=>cases B;cases D with|c _ _ D=>cases D;grind
 .have:=C7 C;subst this;cases D with|c _ _ D=>cases D;cases B with|c _ _ B=>cases B;grind
 .have:=C7 C;subst this
  cases D with
  |c _ _ D=>
   cases D
   cases B with
   |c _ _ B=>cases B|hmap=>grind
 cases h
def Y8(A:fG P E){op:BinOp}{t:W'}{x y z:V}{u v:V'}(p q:UV)(h:LB E op t x y=M z)(T:bP I μ x u)(a__:bP I μ y v):
 ∃r,(do eqGuard op t p q u v;binOp op t u v).run P w=.ok r w/\bP I μ z r:=by
 unfold LB at h;split at h
 .
  rename_i k m g m';rw[T.gX,a__.gX];simp only[z?,Sh,y?];split at h
  .
   split at h
   .simp at h
   rename_i C;simp only[ζa]at h;subst h;exact⟨_,by simp[binOp,Op.shift,C],.c _ _ (.int _ _)⟩
  .split at h
   .simp at h
   rename_i C;simp only[ζa]at h;subst h;exact⟨_,by simp[binOp,Op.shift,C],.c _ _ (.int _ _)⟩
  split at h
  .rename_i X Y a;subst a
   cases op with
   |shl=>grind|shr=>grind|add=>simp only[ζa]at h;subst h;exact⟨_,by simp[binOp,q8],.c _ _ (.int _ _)⟩|sub=>simp only[ζa]at h;subst h;exact⟨_,by simp[binOp,q8],.c _ _ (.int _ _)⟩|mul=>simp only[ζa]at h;subst h;exact⟨_,by simp[binOp,q8],.c _ _ (.int _ _)⟩|quo=>
    simp only at h;split at h
    .simp at h
    rename_i C;simp only[ζa]at h;subst h;exact⟨_,by simp[binOp,Op.intDiv,C],.c _ _ (.int _ _)⟩
   |rem=>
    simp only at h;split at h
    .simp at h
    rename_i C;simp only[ζa]at h;subst h;exact⟨_,by simp[binOp,Op.intDiv,C],.c _ _ (.int _ _)⟩
   |and=>simp only[ζa]at h;subst h;exact⟨_,by simp[binOp,G'],.c _ _ (.int _ _)⟩|or=>simp only[ζa]at h;subst h;exact⟨_,by simp[binOp,G'],.c _ _ (.int _ _)⟩|xor=>simp only[ζa]at h;subst h;exact⟨_,by simp[binOp,G'],.c _ _ (.int _ _)⟩|andNot=>simp only[ζa]at h;subst h;exact⟨_,by simp[binOp,G'],.c _ _ (.int _ _)⟩|eql=>simp only[uI,A?,ζa]at h;subst h;exact⟨_,by simp[binOp,s3],.c _ _ (.bool _)⟩|neq=>simp only[uI,A?,ζa]at h;subst h;exact⟨_,by simp[binOp,s3],.c _ _ (.bool _)⟩|lss=>simp only[uI,A?,ζa]at h;subst h;exact⟨_,by simp[binOp,s3],.c _ _ (.bool _)⟩|leq=>simp only[uI,A?,ζa]at h;subst h;exact⟨_,by simp[binOp,s3],.c _ _ (.bool _)⟩|gtr=>simp only[uI,A?,ζa]at h;subst h;exact⟨_,by simp[binOp,s3],.c _ _ (.bool _)⟩|geq=>simp only[uI,A?,ζa]at h;subst h;exact⟨_,by simp[binOp,s3],.c _ _ (.bool _)⟩
  simp at h
 .
  rename_i s i;rw[T.wF,a__.wF];simp only[z?,TB,y?];split at h
  .split at h
   .simp at h
   rename_i C;simp only[ζa]at h;subst h;exact⟨_,by simp_all[binOp,Op.stringOp],.c _ _ (.str _)⟩
  all_goals first
   |(simp only[ζa]at h;subst h;exact⟨_,by simp[binOp,Op.stringOp],.c _ _ (.bool _)⟩)|simp at h
 .
  rename_i b j;rw[T.uD,a__.uD];simp only[z?,Re,y?];split at h
  next a=>have⟨d,hd,D⟩:=gV a;have⟨e,c,B,_⟩:=(A.ty hd).ey;rw[D]at B;have:=OU B;subst this;simp only[ζa]at h;subst h;exact⟨_,by grind[binOp,z?,FL,y?,L?],.c _ _ (.bool _)⟩
  next a=>have⟨d,hd,D⟩:=gV a;have⟨e,c,B,_⟩:=(A.ty hd).ey;rw[D]at B;have:=OU B;subst this;simp only[ζa]at h;subst h;exact⟨_,by grind[binOp,z?,FL,y?,L?],.c _ _ (.bool _)⟩
  simp at h
 .
  rename_i az l;obtain⟨n,rfl,L⟩:=T.kf;obtain⟨o,rfl,b__⟩:=a__.kf;split at h
  .rename_i m G;split at h
   next Z=>simp only[ζf]at h;obtain⟨r,f,rfl⟩:=h;obtain⟨S,W,c,B,Q,rfl⟩:=Av f;obtain⟨rfl,e1⟩:=tB c L;obtain⟨rfl,e2⟩:=tB B b__;exact⟨_,(A.eqN _ _ G).eq w p q S W a? a?,.c _ _ (.bool _)⟩
   simp at h
  .rename_i m G;split at h
   next Z=>simp only[ζf]at h;obtain⟨r,f,rfl⟩:=h;obtain⟨S,W,c,B,Q,rfl⟩:=Av f;obtain⟨rfl,e1⟩:=tB c L;obtain⟨rfl,e2⟩:=tB B b__;exact⟨_,(A.eqN _ _ G).ne w p q S W a? a?,.c _ _ (.bool _)⟩
   simp at h
  simp at h

 split at h
 next k a=>simp only[ζf]at h;obtain⟨b,C,rfl⟩:=h;have⟨c,B,Q,_⟩:=Jm (w:=w) A a C T a__;exact⟨.bool b,by rw[z?,B,Q];simp[l',c],.c _ _ (.bool _)⟩
 next k a=>simp only[ζf]at h;obtain⟨b,C,rfl⟩:=h;have⟨c,B,_,Q⟩:=Jm (w:=w) A a C T a__;exact⟨.bool !b,by rw[z?,B,Q];simp[l',c],.c _ _ (.bool _)⟩
 simp at h
def No(off:Nat):∀(l:aY V')(k:Nat)(cells:Array V'),off+k+W l<=cells.size->
 ((l.zipIdx k).foldl (λcs(p:V'×Nat)=>cs.setIfInBounds (off+p.2) p.1) cells).toList=cells.toList.take (off+k)++l++cells.toList.drop (off+k+W l):=by
 intro l
 induction l with
 |nil=>simp_all|cons v l u=>
  intro k cells h;simp at h;simp;rw[u (k+1) _ (by simp;omega)]
  grind[List.take_succ_eq_append_getElem,List.take_set_of_le,List.drop_set_of_lt]
def PO{cs xs:So}{cells:Array V'}{v:V'}{off:Nat}(h:c6 I μ cs cells.toList)(B:c6 I μ xs v.cells.toList)(D:off+W xs<=W cs):
 c6 I μ (cs.take off++xs++cs.drop (off+W xs)) (v.cells.zipIdx.foldl (λcs(p:V'×Nat)=>cs.setIfInBounds (off+p.2) p.1) cells).toList:=by
 have e:v.cells.zipIdx.foldl (λcs p=>cs.setIfInBounds (off+p.2) p.1) cells=(v.cells.toList.zipIdx 0).foldl (λcs p=>cs.setIfInBounds (off+p.2) p.1) cells:=by rw[<-Array.foldl_toList];simp
 have a:=h.1;have u:=B.1;rw[e,No off _ 0 _ g?]
 rw[<-u];exact((h.take off).append B).append (h.drop _)
def Ff{place place':Nat->aX (Nat×Nat)}(hp:∀i p,place i=M p->place' i=M p):∀(vs:aY (Nat×V))(B:aY (Nat×V'))(cs r:So)(cells:Array V'),
 W vs=W B->(∀(j:Nat)x y,vs[j]?=M x->B[j]?=M y->x.1=y.1/\bP I μ x.2 y.2)->c6 I μ cs cells.toList->w_ place cs vs=M r->
 ∃D,fill place' cells B=M D/\c6 I μ r D.toList:=by
 intro vs
 induction vs with
 |nil=>
  intro B cs r cells g _ c w
  cases B with
  |nil=>simp[w_]at w;subst w;exact⟨cells,rfl,c⟩|cons _ _=>simp_all
 |cons x vs L=>
  intro B cs r cells g d c w
  cases B with
  |nil=>simp_all|cons y B=>
   have⟨i,x⟩:=x;have⟨m,y⟩:=y;have⟨C,z⟩:=d 0 (i,x) (m,y) Y Y;subst C;simp only at z;simp only[w_]at w;split at w
   .simp at w
   rename_i off size Q;split at w
   .simp at w
   rename_i S;have u:=z.cells;have G:W x.cells=y.cells.size:=by simpa using u.1
   have T:W cs=cells.size:=by simpa using c.1
   have h:¬(_s (y.cells.size≠size)||decide (off+y.cells.size>cells.size))=U:=by grind
   simp at S;have⟨D,e,o⟩:=L B _ r _ g? (λj a b p q=>d (j+1) a b (by simpa using p) (by simpa using q)) (PO c u a?) w
   grind[fill]
def Sk(ps:Array (Nat×UV))(f:UV->V'):(ps.map λ(i,x)=>(i,f x)).toList=ps.toList.map λp=>(p.1,f p.2):=f?
def JA{ps:Array (Nat×UV)}{vs:aY (Nat×V)}(r:fA I μ n F a.tmps)(h:oT F ps.toList=M vs):
 W vs=W (ps.map λ(i,x)=>(i,a.eval x)).toList/\∀(j:Nat)x y,vs[j]?=M x->(ps.map λ(i,x)=>(i,a.eval x)).toList[j]?=M y->x.1=y.1/\bP I μ x.2 y.2:=by
 have⟨u,b⟩:=Pw r h;rw[Sk]
 grind
def Sv(D:fG P E):∀(B:aY Field)(pl:aY (Nat×Nat)),qi E (B.map λf=>(f.offset,f.type))=M pl->
 ((B.mapM λf=>do pure (f.offset,<-sizeOf f.type)):Sem (aY (Nat×Nat))).run P w=.ok pl w:=by
 intro B
 induction B with
 |nil=>simp_all[qi]|cons f B z=>
  intro pl h;simp[qi]at h;split at h
  next d ps hd u=>simp at h;subst h;have:=z _ u;simp only[List.mapM_cons,z?,(D.ty hd).mR,y?,L?,this]
  grind
def P5(D:fG P E)(B:Array Field)(pl:aY (Nat×Nat))(h:qi E (B.toList.map λf=>(f.offset,f.type))=M pl):
 ((B.mapM λf=>do pure (f.offset,<-sizeOf f.type)):Sem (Array (Nat×Nat))).run P w=.ok pl.toArray w:=by
 rw[Array.mapM_eq_mapM_toList];simp only[Sem.run_map,Sv D _ _ h,y?]
def Vj(B:fG P E)(r:fA I μ n F a.tmps){t:W'}{ps:Array (Nat×UV)}{x:V}(h:bS E F (.build t ps)=M x):
 ∃v,(Instr.build t (ps.map λ(i,x)=>(i,a.eval x))).run P w=.ok v w/\bP I μ x v:=by
 simp[bS]at h;split at h
 .rename_i d Q hd D;have⟨S,b⟩:=JA r D;have⟨z,j,u,_⟩:=(B.ty hd).Ga;have⟨c,f,C,o⟩:=(B.ty hd).ey;unfold Instr.build;simp[z?,j,o,y?];split at h
  .rename_i fs hk;rw[hk]at C;obtain⟨X,rfl,rfl⟩:=Ch C;split at h
   .rename_i pl G;simp at h;obtain⟨cs,g,rfl⟩:=h;have⟨L,g1,g2⟩:=Ff (place':=λi=>pl.toArray[i]?) g? Q _ d.zero cs z.cells S b (u I μ) g
    refine⟨.agg L,?_,.Ko g2⟩;have:=P5 (w:=w) B X pl G;simp_all
   grind
  .rename_i e hk;rw[hk]at C;have:=EZ C;subst this;split at h
   .rename_i T m;simp at h;obtain⟨cs,g,rfl⟩:=h;have⟨L,g1,g2⟩:=Ff (place':=λi=>M (i*T.size,T.size)) g? Q _ d.zero cs z.cells S b (u I μ) g
    refine⟨.agg L,?_,.Ko g2⟩;simp[z?,(B.ty m).mR,y?];simp_all
   grind
  grind
 grind
def sH(b o k:Nat):(⟨b,o,J⟩:Addr).add k=⟨b,o+k,J⟩:=by grind[Addr.add]
theorem JR{cs:So}{b o:Nat}{c:Array V'}(k:Nat)(B:I b=M (.cells c))(D:o+W cs<=c.size)
 (a:∀(j:Nat)y u,cs[j]?=M y->c[o+j]?=M u->fE I y u)(d:k<=W cs):bP I μ (.fptr (cs.drop k)) (.pointer (M ⟨b,o+k,J⟩)):=
 .c _ _ (.fptr _ b (o+k) c B (by simp;omega) λj y u e w=>a (k+j) y u g? g?)
def Q0(G:fG P E)(r:fA I μ n F a.tmps){s:W'}{o:UV}{f:Nat}{x:V}(h:bS E F (.fieldAddr s o f)=M x):
 ∃v,(fieldAt s (a.eval o) f).run P w=.ok v w/\bP I μ x v:=by
 simp[bS]at h;split at h
 .rename_i fs p hk Q;have⟨d,hd,B⟩:=gV hk;have⟨i,k,q,S⟩:=(G.ty hd).ey;rw[B]at q;obtain⟨T,rfl,rfl⟩:=Ch q;have j:=dR r Q;split at h
  .rename_i off t L;simp at L;obtain⟨g,y,rfl,rfl⟩:=L;have z:T[f]?=M g:=by grind
   split at h
   .rename_i Y C;split at h
    .simp_all
    rename_i D;have A:∀(b u:Nat),(fieldAt s (.pointer (M ⟨b,u,J⟩)) f).run P w=.ok (.pointer (M ⟨b,u+g.offset,J⟩)) w:=by intro b u;unfold fieldAt;simp[z?,S,y?,z,t8,L?,fieldPlace,(G.ty C).mR,M' D,sH]
    split at h
    .split at h
     .rename_i W;simp at h;subst h;have⟨b,u,c,e,Z,l,m⟩:=j.oS;rw[e]
      grind[JR]
     grind
    .rename_i id el u;simp at h;have⟨p,X,e⟩:=j.v7;rw[e];have:=bP.hptr (I:=I) id el (u+g.offset) p X
     grind
    grind
   grind
  grind
 grind
def UL(D:fG P E)(r:fA I μ n F a.tmps){s:W'}{o:UV}{f:Nat}{x:V}(h:bS E F (.field s o f)=M x):
 ∃v,(Instr.field s (a.eval o) f).run P w=.ok v w/\bP I μ x v:=by
 simp[bS]at h;split at h
 .rename_i fs cs hk y;have⟨d,hd,z⟩:=gV hk;have⟨b,g,G,W⟩:=(D.ty hd).ey;rw[z]at G;obtain⟨Q,rfl,rfl⟩:=Ch G;have⟨X,e,B⟩:=(dR r y).kf;rw[e];split at h
  .rename_i off t j;simp at j;obtain⟨c,S,rfl,rfl⟩:=j;have L:Q[f]?=M c:=by grind
   split at h
   .rename_i A C;simp[ζg]at h;have⟨q,T,m⟩:=h;have⟨u,i,Z⟩:=Mn (w:=w) (D.ty C) B T m
    grind[Instr.field,z?,y?,asAgg]
   grind
  grind
 grind
def ou(k:T2)(m:Int):(asIntOf (.int k m)).run P w=.ok (k,m) w:=rfl
def QU(T:fG P E)(r:fA I μ n F a.tmps){t:W'}{o i:UV}{x:V}(h:bS E F (.indexAddr t o i)=M x):
 ∃v,(o0 t (a.eval o) (a.eval i)).run P w=.ok v w/\bP I μ x v:=by
 simp[bS]at h;split at h
 .
  rename_i e s k m K W hi;have⟨d,hd,G⟩:=gV K;have⟨l,h1,Q,X⟩:=(T.ty hd).ey;rw[G]at Q;have:=lE Q;subst this;have A:=dR r W;have b__:=(dR r hi).gX;rw[b__];split at h
  .rename_i c__ L;split at h
   .simp_all
   have D:∀(b z len f:Nat),m.toNat<len->(o0 t (.slice (M ⟨b,z,J⟩) len f) (.int k m)).run P w=.ok (.pointer (M ⟨b,z+m.toNat*c__.size,J⟩)) w:=by intro b z len f B;unfold o0;have H:0<=m/\m<(len):=a?;simp[z?,ou,X,y?,L?,(T.ty L).mR,run_ite,L' H,sH]
   split at h
   .rename_i es Y;split at h
    .rename_i C;simp only[ζf]at h;obtain⟨cs,d__,rfl⟩:=h;have B:m.toNat<_m Y:=(ζe.1 d__).1;have e__:=A.oI;generalize hg:a.eval o=g at e__
     cases e__ with
     |fsl0=>simp_all|fsl _ _ b z f c hI H hu ho R hr=>refine⟨_,D b z _ _ B,?_⟩;have S:cs∈Y:=s? d__;have aa:=hu cs S;have Z:(m.toNat+1)*es<=_m Y*es:=b! _ B;rw[o!]at Z;rw[<-C];exact .c _ _ (.fptr cs b _ c hI a? λj y u p q=>hr m.toNat j cs y u d__ p q)
    grind
   .rename_i id es off len;split at h
    .rename_i C;simp only[ζa]at h;have⟨C,B⟩:=C;rcases A.oA with⟨p,f,a__,he,H,R,e⟩|⟨h0,_⟩
     .rw[e];have:=bP.hptr (I:=I) (μ:=μ) id (off+m.toNat) 0 p a__
      grind
     omega
    grind
   grind
  grind
 .
  rename_i len e p k m K W hi;have⟨d,hd,G⟩:=gV K;have⟨l,h1,Q,X⟩:=(T.ty hd).ey;rw[G]at Q;have:=EZ Q;subst this;have A:=dR r W;have b__:=(dR r hi).gX;rw[b__];split at h
  .rename_i c__ L;split at h
   .rename_i H;have D:∀(b z:Nat),(o0 t (.pointer (M ⟨b,z,J⟩)) (.int k m)).run P w=.ok (.pointer (M ⟨b,z+m.toNat*c__.size,J⟩)) w:=by
     intro b z;unfold o0;simp only[z?,ou,X,y?,L?,t8,(T.ty L).mR,run_ite,L' H,sH]
    split at h
    .split at h
     .rename_i ab;simp only[ζa]at h;subst h;have⟨b,z,c,e,hI,R,hr⟩:=A.oS;rw[e]
      grind[JR]
     grind
    .rename_i id el z;simp only[ζa]at h;have⟨p,a__,e⟩:=A.v7;rw[e];have:=bP.hptr (I:=I) (μ:=μ) id el (z+m.toNat*c__.size) p a__
     grind
    grind
   grind
  grind
 grind
def Wq(D:fG P E)(r:fA I μ n F a.tmps){t:W'}{o i:UV}{x:V}(h:bS E F (.index t o i)=M x):
 ∃v,(Instr.index t (a.eval o) (a.eval i)).run P w=.ok v w/\bP I μ x v:=by
 simp[bS]at h;split at h
 .rename_i s k m hk G hi;have⟨d,hd,z⟩:=gV hk;have⟨c,g,B,L⟩:=(D.ty hd).ey;rw[z]at B;have:=Cg B;subst this;rw[(dR r hi).gX,(dR r G).wF];split at h
  next f=>simp at h;obtain⟨b,T,rfl⟩:=h;refine⟨.int .u8 b.toNat,?_,.c _ _ (.int _ _)⟩;simp_all[Instr.index,ou]
  grind
 .rename_i len e cs k m hk G hi;have⟨d,hd,z⟩:=gV hk;have⟨c,g,B,L⟩:=(D.ty hd).ey;rw[z]at B;have:=EZ B;subst this;have⟨A,ev,y⟩:=(dR r G).kf;rw[(dR r hi).gX,ev];split at h
  .rename_i Z C;split at h
   next f=>simp[ζg]at h;have⟨q,X,Q⟩:=h;have⟨u,j,S⟩:=Mn (w:=w) (D.ty C) y X Q;refine⟨u,?_,S⟩;unfold Instr.index;simp[z?,ou,L,y?,run_ite,L' f,(D.ty C).mR,j]
   grind
  grind
 grind
def Q3(B:fG P E)(r:fA I μ n F a.tmps){s d:W'}{o:UV}{x:V}(h:bS E F (.convert s d o)=M x):
 ∃v,(convert s d (a.eval o)).run P w=.ok v w/\bP I μ x v:=by
 simp[bS]at h;split at h
 .rename_i D G k m z hd C;split at h
  next g b=>simp at h;subst h;have⟨c,g1,_,g3⟩:=(B.ty z).ey;have⟨e,f,u,L⟩:=(B.ty hd).ey;rw[b]at u;have:=Ht u;subst this;rw[(dR r C).gX];refine⟨_,?_,.c _ _ (.int _ _)⟩;simp_all[convert,Conv.intToInt]
  grind
 grind
theorem sK(r:fA I μ n F a.tmps){o:aX UV}{m:Ps}(h:lX F o=M m):
 (m=J/\o.map a.eval=J)\/∃k z,m=M z/\o.map a.eval=M (.int k z):=by
 cases o with
 |none=>grind[lX]|some x=>
  simp[lX]at h;split at h
  next k z u=>simp at h;subst h;exact .inr ⟨k,z,Y,by simp[(dR r u).gX]⟩
  grind
theorem yo(k:T2)(z:Int)(y:Nat)(code:BoundsCode)(B:0<=z)(a:z<=y):(sliceBound (.int k z) y code).run P w=.ok z.toNat w:=by simp_all[sliceBound,ou]
def oC(r:fA I μ n F a.tmps){lo hi:aX UV}{l h:Ps}(e1:lX F lo=M l)(e2:lX F hi=M h)(D:X')(len b L H:Nat)(c:len<=b)
 (B:eD len l h=M (L,H)):(m7 D len b (lo.map a.eval) (hi.map a.eval) J).run P w=.ok (L,H,b) w/\L<=H/\H<=len:=by
 unfold eD at B;simp only at B;split at B
 .rename_i u;obtain⟨rfl,rfl⟩:=B;have⟨G,g,i,Q⟩:=u;refine⟨?_,a?,a?⟩
  unfold m7;rcases sK r e1 with⟨rfl,z⟩|⟨k1,S,rfl,z⟩<;>rcases sK r e2 with⟨rfl,C⟩|⟨k2,T,rfl,C⟩<;>
   simp only[z,C,G!]at G g i Q⊢
  all_goals grind[L?,y?,z?,yo]
 grind
def HP{es:Nat}{xs:S'}{v:V'}{L H:Nat}(h:fE I (.fsl es xs) v)(d:L<=H)(D:H<=W xs):
 ∃B len a,v=.slice B len a/\len=W xs/\len<=a/\fE I (.fsl es ((xs.take H).drop L)) (.slice (if a=L then B else B.map (·.add (L*es))) (H-L) (a-L)):=by
 cases h with
 |fsl0 _ B a=>
  simp at D;have z:L=0:=a?
  subst D;subst z;refine⟨M B,0,a,Y,Y,N? _,?_⟩;have:=fE.fsl0 (I:=I) es B a
  grind[Addr.add]
 |fsl _ _ b o a c C hc hu G i hr=>
  refine⟨_,_,a,Y,Y,hc,?_⟩;have u:W ((xs.take H).drop L)=H-L:=o?
  by_cases g:H-L=0
  .have:(xs.take H).drop L=[]:=List.eq_nil_of_length_eq_zero g?
   rw[this,g];split
   .exact .fsl0 es _ _
   exact .fsl0 es _ _
  simp[sH];have e:fE I (.fsl es ((xs.take H).drop L)) (.slice (M ⟨b,o+L*es,J⟩) (W ((xs.take H).drop L)) (a-L)):=by refine .fsl es _ b (o+L*es) (a-L) c C g? (λx w=>hu x (O? (u! w))) (λx w=>G x (O? (u! w))) ?_ ?_;rw[u];have:L*es+(H-L)*es<=W xs*es:=(by rw[<-o!];simp_all[b!]);omega;grind
  grind
def Wr(i:fG P E)(r:fA I μ n F a.tmps){t:W'}{o:UV}{lo hi Y:aX UV}{x:V}(h:bS E F (.slice t o lo hi Y)=M x):
 ∃v,(i9 t (a.eval o) (lo.map a.eval) (hi.map a.eval) (Y.map a.eval)).run P w=.ok v w/\bP I μ x v:=by
 simp[bS]at h;split at h
 .
  rename_i s l K j m W C a__;obtain⟨d,hd,S⟩:=gV j;obtain⟨f,e__,X,y⟩:=(i.ty hd).ey;rw[S]at X;have:=Cg X;rw[(dR r m).wF];simp only[ζf]at h;obtain⟨⟨L,H⟩,b__,rfl⟩:=h;obtain⟨g,_,_⟩:=oC (P:=P) (w:=w) r W C O s.size s.size L H (x? _) b__;have R:Y.map a.eval=J:=by grind[sK]
  refine⟨.string (s.extract L H),?_,.c _ _ (.str _)⟩;simp_all[i9,Instr.slice]
 .rename_i e v l K j m W C a__;obtain⟨d,hd,S⟩:=gV j;obtain⟨f,e__,X,y⟩:=(i.ty hd).ey;rw[S]at X;have:=lE X;subst this;have c:=dR r m;have R:Y.map a.eval=J:=by grind[sK]
  have B:∀(D:aX Addr)(len b L H:Nat)(d__:TD),E.tt e=M d__->len<=b->eD len l K=M (L,H)->
   (i9 t (.slice D len b) (lo.map a.eval) (hi.map a.eval) (Y.map a.eval)).run P w=.ok (.slice (if b=L then D else D.map (·.add (L*d__.size))) (H-L) (b-L)) w:=by
   intro D len b L H d__ u A b__;obtain⟨g,_,_⟩:=oC (P:=P) (w:=w) r W C U len b L H A b__;unfold i9 Instr.slice;simp[z?,y,y?,R,g,(i.ty u).mR,L?]
  split at h
  .rename_i d__ u;split at h
   .rename_i es xs;split at h
    next Z=>simp only[ζf]at h;obtain⟨⟨L,H⟩,b__,rfl⟩:=h;obtain⟨_,T,c__⟩:=oC (P:=P) (w:=w) r W C U xs.length xs.length L H (x? _) b__;obtain⟨D,len,b,e1,e2,e3,e4⟩:=HP c.oI T c__;rw[e1];subst e2;refine⟨_,B D _ b L H d__ u e3 b__,?_⟩;rw[<-Z];exact .c _ _ e4
    grind
   .rename_i id es off len;split at h
    .rename_i Z;simp only[ζf]at h;obtain⟨⟨L,H⟩,b__,rfl⟩:=h;obtain⟨_,T,c__⟩:=oC (P:=P) (w:=w) r W C U len len L H (x? _) b__;rcases c.oA with⟨p,b,ab,he,A,ae,G⟩|⟨h0,D,G⟩
     .rw[G];refine⟨_,B _ _ b L H d__ u A b__,?_⟩
      by_cases hz:b=L
      .have:H-L=0:=by omega
       rw[L' hz,this,show b-L=0 by omega]
       exact .hsl0 id es (off+L) _
      rw[M' hz];simp only[A?,sH];rw[<-Z];subst he;have:=bP.hsl (I:=I) (μ:=μ) id (off+L) (H-L) (b-L) p ab a? (by
       grind)
      rwa [o!,<-m4]at this
     grind
    grind
   .simp only[ζf]at h;obtain⟨⟨L,H⟩,b__,rfl⟩:=h;obtain⟨_,T,c__⟩:=oC (P:=P) (w:=w) r W C U 0 0 L H (x? _) b__;obtain⟨D,G⟩:=c.vj;rw[G]
    grind
   .simp only[ζf]at h;obtain⟨⟨L,H⟩,b__,rfl⟩:=h;obtain⟨_,T,c__⟩:=oC (P:=P) (w:=w) r W C U 0 0 L H (x? _) b__;have G:=c.oB;rw[G]
    grind
   grind
  grind
 .rename_i e v j m W C a__;obtain⟨d,hd,S⟩:=gV j;obtain⟨f,e__,X,y⟩:=(i.ty hd).ey;rw[S]at X;have:=lE X;subst this;have c:=dR r m;have q1:lo.map a.eval=J:=by grind[sK]
  obtain⟨k2,q2⟩:∃k,hi.map a.eval=M (.int k 0):=by rcases sK r C with⟨q,_⟩|⟨k,z,e,q⟩;all_goals grind
  obtain⟨k3,q3⟩:∃k,Y.map a.eval=M (.int k 0):=by grind[sK]
  have B:∀(D:aX Addr)(len b:Nat)(d__:TD),E.tt e=M d__->∃Q,(i9 t (.slice D len b) (lo.map a.eval) (hi.map a.eval) (Y.map a.eval)).run P w=.ok (.slice Q 0 0) w:=by intro D len b d__ u;refine⟨D,?_⟩;unfold i9 Instr.slice m7;simp only[z?,y,y?,q1,q2,q3,yo k3 0 b _ (Int.le_refl _) a?,yo k2 0 _ _ (Int.le_refl _) f?,(i.ty u).mR];simp
  split at h
  next d__ es xs u=>simp at h;subst h;obtain⟨D,len,b,e1,_⟩:=HP c.oI (x? _) (N? _);rw[e1];obtain⟨Q,g⟩:=B D len b _ u;exact⟨_,g,.c _ _ (.dS _)⟩
  .rename_i d__ id es off len u;simp at h;subst h;rcases c.oA with⟨p,b,_,_,_,_,G⟩|⟨_,D,G⟩
   .rw[G];obtain⟨Q,g⟩:=B _ _ _ _ u;exact⟨_,g,.c _ _ (.dS _)⟩
   rw[G];obtain⟨Q,g⟩:=B _ _ _ _ u;exact⟨_,g,.c _ _ (.dS _)⟩
  next d__ u=>simp at h;subst h;obtain⟨D,G⟩:=c.vj;rw[G];obtain⟨Q,g⟩:=B _ _ _ _ u;exact⟨_,g,.c _ _ (.dS _)⟩
  next d__ u=>simp only[ζa]at h;subst h;have G:=c.oB;rw[G];obtain⟨Q,g⟩:=B _ _ _ _ u;exact⟨_,g,.c _ _ (.dS _)⟩
  simp at h
 grind
def c6.one{x:V}{vs:aY V'}(h:c6 I μ [x] vs):∃v,vs=[v]/\bP I μ x v:=by obtain⟨v,r,rfl,a,b⟩:=h.cons_inv;exact⟨v,by rw[b.yT],a⟩
def c6.two{x y:V}{vs:aY V'}(h:c6 I μ [x,y] vs):∃u v,vs=[u,v]/\bP I μ x u/\bP I μ y v:=by obtain⟨u,r,rfl,b,a⟩:=h.cons_inv;obtain⟨v,rfl,c⟩:=a.one;grind
def c6.four{x y z t:V}{vs:aY V'}(h:c6 I μ [x,y,z,t] vs):∃u v p q,vs=[u,v,p,q]/\bP I μ x u/\bP I μ y v/\bP I μ z p/\bP I μ t q:=by obtain⟨u,r,rfl,b,a⟩:=h.cons_inv;obtain⟨v,r2,rfl,c,a⟩:=a.cons_inv;obtain⟨p,q,rfl,w,B⟩:=a.two;grind
theorem vh{args:Array UV}{l:aY V'}(h:args.toList.map a.eval=l):args.map a.eval=l.toArray:=by grind
def Az:aX TK->V->aX V
 |some .str,.str s=>M (.int N s.size)|some (.slice _),.fsl _ xs=>M (.int N (W xs))|some (.slice _),.hsl _ _ _ len=>M (.int N len)|some (.slice _),.dS=>M (.int N 0)|some (.slice _),.bN=>M (.int N 0)|_,_=>J
def aaW(T:fG P E){t:W'}{x z:V}{v:V'}{ty:W'}{D:Array W'}(i:D[0]?=M t)(G:bP I μ x v)
 (h:Az (E.kindOf t) x=M z):∃u,(len_ D ty #[v]).run P w=.ok u w/\bP I μ z u:=by
 cases b:E.kindOf t with
 |none=>rw[b]at h;grind[Az]|some k=>
  rw[b]at h;have⟨d,hd,j⟩:=gV b;have⟨c,f,Q,m⟩:=(T.ty hd).ey;rw[j]at Q
  cases k with
  |str=>
   have:=Cg Q;subst this
   cases x with
   |str s=>simp only[Az,ζa]at h;subst h;rw[G.wF];refine⟨_,?_,.c _ _ (.int _ _)⟩;simp_all[len_,goInt]|_=>simp[Az]at h
  |slice e=>
   have:=lE Q;subst this;have B:∀g(len a:Nat),(len_ D ty #[.slice g len a]).run P w=.ok (.int N len) w:=by simp_all[len_,goInt]
   cases x with
   |fsl es X=>simp only[Az,ζa]at h;subst h;have⟨g,len,a,e1,e2,_⟩:=HP (L:=0) (H:=0) G.oI (x? _) (N? _);rw[e1,<-e2];exact⟨_,B _ _ _,.c _ _ (.int _ _)⟩|hsl id es off len=>
    simp only[Az,ζa]at h;subst h;rcases G.oA with⟨p,a,_,_,_,_,C⟩|⟨S,g,C⟩
    .rw[C];exact⟨_,B _ _ _,.c _ _ (.int _ _)⟩
    rw[C,S];exact⟨_,B _ _ _,.c _ _ (.int _ _)⟩
   |dS=>simp only[Az,ζa]at h;subst h;have⟨g,C⟩:=G.vj;rw[C];exact⟨_,B _ _ _,.c _ _ (.int _ _)⟩|bN=>simp only[Az,ζa]at h;subst h;rw[G.oB];exact⟨_,B _ _ _,.c _ _ (.int _ _)⟩|_=>simp[Az]at h
  |_=>simp[Az]at h
def abq:aX TK->V->aX V
 |some (.slice _),.bN=>M (.int N 0)|some (.slice _),.dS=>M (.int N 0)|_,_=>J
def aaY(T:fG P E){t:W'}{x z:V}{v:V'}{ty:W'}{B:Array W'}(i:B[0]?=M t)(G:bP I μ x v)
 (h:abq (E.kindOf t) x=M z):∃u,(cap_ B ty #[v]).run P w=.ok u w/\bP I μ z u:=by
 have key:∀e C,E.kindOf t=M (.slice e)->v=.slice C 0 0->(cap_ B ty #[v]).run P w=.ok (.int N 0) w:=λe C a c=>by have⟨d,hd,D⟩:=gV a;have⟨b,f,g,L⟩:=(T.ty hd).ey;rw[D]at g;have:=lE g;simp_all[cap_,goInt]
 unfold abq at h;split at h
 next _ _ e a=>cases h;exact⟨_,key _ _ a G.oB,.c _ _ (.int _ _)⟩
 next _ _ e a=>cases h;have⟨C,q⟩:=G.vj;exact⟨_,key _ _ a q,.c _ _ (.int _ _)⟩
 cases h
theorem iD{s:Sem V'}{v:V'}{w':World}(h:s.run P w=.ok v w'):(do pure (Next.value (<-s)):Sem Next).run P w=.ok (.value v) w':=by rw[z?,h];rfl
def Yz(G:fG P E)(r:fA I μ n F a.tmps)(o:Oper){x:V}(h:bS E F o.op=M x):
 ∃v,(execOp a.eval o).run P w=.ok (.value v) w/\bP I μ x v:=by
 obtain⟨dst,op,ty,pos,after,a__⟩:=o;simp only at h
 cases op with
 |move y=>exact⟨_,rfl,dR r (by simp_all[bS])⟩|assign y=>exact⟨_,rfl,dR r (by simp_all[bS])⟩|pick c y z=>
  simp only[bS]at h;simp only[execOp];split at h
  .rename_i t hc;have e:=(dR r hc).uD;simp only[e,asBool,z?,L?,y?]
   cases t with
   |true=>simp only[N']at h⊢;exact⟨_,rfl,dR r h⟩|false=>simp only[v?,_a]at h⊢;exact⟨_,rfl,dR r h⟩
  simp at h
 |nilCheck y=>
  simp only[bS]at h;simp only[execOp];split at h
  next id el off D=>simp only[ζa]at h;subst h;have l:=dR r D;obtain⟨p,_,e⟩:=l.v7;rw[e]at l⊢;simp_all
  next cs D=>simp only[ζa]at h;subst h;have l:=dR r D;obtain⟨b,o,c,e,_⟩:=l.oS;rw[e]at l⊢;simp_all
  next f u v D=>simp only[ζa]at h;subst h;have l:=dR r D;obtain⟨b,c,e,_⟩:=l.mC;rw[e]at l⊢;simp_all
  simp at h
 |binOp op t y z Z=>
  simp only[bS]at h;split at h
  next u v A l=>obtain⟨q,d__,H⟩:=Y8 (w:=w) G y z h (dR r A) (dR r l);exact⟨q,iD d__,H⟩
  simp at h
 |unOp op t y=>
  simp only[bS]at h;simp only[execOp];split at h
  next b D=>simp only[ζa]at h;subst h;rw[(dR r D).uD];exact⟨_,iD (by simp_all[Op.unary]),.c _ _ (.bool _)⟩
  next k m D=>simp only[ζa]at h;subst h;rw[(dR r D).gX];exact⟨_,iD (by simp only[Op.unary,q8];rfl),by simpa using bP.c _ _ (.int k _)⟩
  simp at h
 |convert s d y=>obtain⟨v,g,C⟩:=Q3 (w:=w) G r h;exact⟨v,iD g,C⟩|fieldAddr s y f=>obtain⟨v,g,C⟩:=Q0 (w:=w) G r h;exact⟨v,iD g,C⟩|field s y f=>obtain⟨v,g,C⟩:=UL (w:=w) G r h;exact⟨v,iD g,C⟩|indexAddr t y i=>obtain⟨v,g,C⟩:=QU (w:=w) G r h;exact⟨v,iD g,C⟩|index t y i=>obtain⟨v,g,C⟩:=Wq (w:=w) G r h;exact⟨v,iD g,C⟩|slice t y lo hi mx=>obtain⟨v,g,C⟩:=Wr (w:=w) G r h;exact⟨v,iD g,C⟩|build t ps=>obtain⟨v,g,C⟩:=Vj (w:=w) G r h;exact⟨v,iD g,C⟩|makeFunc f u v=>
  cases f with
  |func f=>
   simp only[bS]at h;split at h
   next Q x2 g C=>simp only[ζa]at h;subst h;have r1:=qS r g;have r2:=qS r C;refine⟨.func (.func f) (u.map a.eval) (v.map a.eval),rfl,?_⟩;refine .clo f _ _ _ _ (by simpa using r1.1) (by simpa using r2.1) (λj p q s t=>r1.2 j p q s (by simpa using t)) (λj p q s t=>r2.2 j p q s (by simpa using t))
   simp at h
  |_=>simp[bS]at h
 |extract y i=>
  simp only[bS]at h;simp only[execOp];split at h
  .rename_i vs D;obtain⟨S,e,T⟩:=(dR r D).tw;rw[e];have c__:=(ζe.1 h).1;have L:i<S.size:=by have:=T.1;grind
   refine⟨S[i],iD (by simp_all[Instr.extract]),T.2 i x _ h (by simp[L])⟩
  simp at h
 |call c=>
  obtain⟨callee,args,W⟩:=c
  cases callee with
  |builtin b=>
   simp only[bS]at h;simp only[execOp,resolve,z?,L?,y?,invoke];split at h
   .rename_i v t B b__;obtain⟨u,A,H⟩:=(qS r B).one;rw[vh A];obtain⟨q,g,C⟩:=aaW (w:=w) (ty:=ty) G b__ H (by rw[<-h];rfl)
    grind[builtin,iD]
   .rename_i v t B b__;obtain⟨u,A,H⟩:=(qS r B).one;rw[vh A];obtain⟨q,g,C⟩:=aaY (w:=w) (ty:=ty) G b__ H (by rw[<-h];rfl)
    grind[builtin,iD]
   .rename_i k Q X x2 B;split at h
    next K=>simp only[ζa]at h;subst h;subst K;obtain⟨u,v,e,A,l⟩:=(qS r B).two;rw[vh e,A.gX,l.gX];exact⟨_,by simp_all[builtin,max_,max2],.c _ _ (.int _ _)⟩
    simp at h
   .rename_i k Q k1 x2 k2 x3 k3 x4 B;split at h
    next K=>simp only[ζa]at h;subst h;obtain⟨rfl,rfl,rfl⟩:=K;obtain⟨u,v,p,q,e,A,l,Y,d__⟩:=(qS r B).four;rw[vh e,A.gX,l.gX,Y.gX,d__.gX];exact⟨_,by simp_all[builtin,max_,max2,EM],.c _ _ (.int _ _)⟩
    simp at h
   .rename_i k Q X x2 B;split at h
    next K=>simp only[ζa]at h;subst h;subst K;obtain⟨u,v,e,A,l⟩:=(qS r B).two;rw[vh e,A.gX,l.gX];exact⟨_,by simp_all[builtin,min_,min2],.c _ _ (.int _ _)⟩
    simp at h
   simp at h
  |_=>simp[bS]at h
 |_=>simp[bS]at h
end
structure iO(I:cN)(μ:Mu)(p:Pl)(c:Array Value)(es:Nat)(xs:List (List V)):Prop where
 es_eq:p.es=es
 sz:c.size=p.sz
 sq:∀x∈xs,x.length=es
 one:∀x∈xs,∀y∈x,V.one y=true
 room:p.o+xs.length*es<=c.size
 rel:c6 I μ xs.flatten ((c.toList.drop p.o).take (xs.length*es))
def yz(I:cN)(μ:Mu)(B:aY (V×V))(es:Array MapEntry):Prop:=W B=es.size/\∀(j:Nat)q e,B[j]?=M q->es[j]?=M e->bP I μ q.1 e.key/\bP I μ q.2 e.val
def EB.is:EB->LoopState->Prop
 |.ready,.ready|.busy,.busy|.done,.done=>True|_,_=>False
structure yV(I:cN)(μ:Mu)(r:yS)(l:Loop):Prop where
 st:r.st.is l.state
 pend:l.pending=r.pend.bind pE
 pendOk:r.pend≠some .norm
 frame:fA I μ r.nt r.frame l.tmps
 params:l.params.toList=r.params
 assign:l.assign=r.assign
 body:l.body=r.body
def Ob.live:Ob->X'
 |.row ..|.map _|.loop _=>U|_=>O
def vK(I:cN)(μ:Mu)(w:World)(id:Nat):Ob->Prop
 |.free=>μ id=J|.dead=>True|.row es xs=>∃p c el,μ id=M p/\I p.b=J/\w.heap[p.b]?=M (.cells c el)/\iO I μ p c es xs|.frz es xs=>∃p c,μ id=M p/\I p.b=M (.cells c)/\iO I μ p c es xs|.map B=>∃p es a,μ id=M p/\I p.b=J/\w.heap[p.b]?=M (.map es a)/\yz I μ B es|.loop r=>∃p l,μ id=M p/\I p.b=J/\w.heap[p.b]?=M (.loop l)/\yV I μ r l
structure dD(I:cN)(μ:Mu)(H:bt)(w:World):Prop where
 dom:∀id,H.length<=id->μ id=none
 imm:∀b x,I b=some x->x.at w b
 obs:∀id ob,H[id]?=some ob->vK I μ w id ob
 inj:∀id id' ob l? p p',H[id]?=some ob->H[id']?=some l?->ob.live=true->l?.live=true->μ id=some p->μ id'=some p'->p.b=p'.b->id=id'
 gl:xw I
def jJ(μ:Mu)(H:bt)(b:Nat):Prop:=∃id p ob,H[id]?=M ob/\ob.live=U/\μ id=M p/\p.b=b
def Obj.nf(o:Obj):Prop:=∀c t fr,o=.cells c t fr->fr=(0,0)
def wj(c:Array V')(t:W'):Obj.nf (.cells c t):=λ_ _ _ h=>g?
def uO{o:Obj}(h:(match o with|.cells ..=>O|_=>U)=U):Obj.nf o:=λc t fr e=>g?
theorem Gj{w w':World}{o:Obj}{b:Nat}(B:Obj.nf o)(d:w'.heap[b]?=M o)(D:∀k,k≠b->w'.heap[k]?=w.heap[k]?)(a:Addr)(h:w.frozen? a=O):w'.frozen? a=O:=by by_cases e:a.block=b;unfold p0;rw[e,d];split;rename_i c t lo hi u;cases u;have:=B _ _ _ Y;grind;rfl;grind[p0]
structure yQ(w w':World):Prop where
 out:w'.output=w.output
 tape:w'.tape=w.tape
 dr:w.drawn<=w'.drawn
def yQ.refl(w:World):yQ w w:=⟨Y,Y,x? _⟩
def yQ.trans{w w' w'':World}(h:yQ w w')(B:yQ w' w''):yQ w w'':=⟨B.out.trans h.out,B.tape.trans h.tape,V? h.dr B.dr⟩
structure Step(I:cN)(μ:Mu)(H:bt)(w:World)(I':cN)(μ':Mu)(H':bt)(w':World):Prop where
 le:cN.le I I'
 mu:Mu.le μ μ'
 len:H.length<=H'.length
 size:w.heap.size<=w'.heap.size
 frame:∀b,b<w.heap.size->¬jJ μ H b->w'.heap[b]?=w.heap[b]?
 terr:∀b,((I' b).isSome=true\/jJ μ' H' b)->(I b).isSome=true\/jJ μ H b\/w.heap.size<=b
 os:w'.os=w.os
 out:yQ w w'
 fz:∀a:Addr,a.block<w.heap.size->w.frozen? a=false->w'.frozen? a=false
section
variable{I I' I'':cN}{μ μ' μ'':Mu}{H H' H'':bt}{w w' w'':World}{P:Program}{E:Env}{n:Nat}{F:WP}{a:Act}
def IC.yB{x:IC}{b:Nat}(h:x.at w b):b<w.heap.size:=by cases x with|cells c=>have⟨_,_,h⟩:=h;grind|map es=>have⟨_,h⟩:=h;grind
def IC.uS{x:IC}{b:Nat}(h:x.at w b)(e:w'.heap[b]?=w.heap[b]?):x.at w' b:=by cases x with|cells c=>have⟨el,fr,h⟩:=h;exact⟨el,fr,g?⟩|map es=>have⟨a,h⟩:=h;exact⟨a,g?⟩
def Step.refl(I:cN)(μ:Mu)(H:bt)(w:World):Step I μ H w I μ H w:=⟨cN.le_refl _,Mu.le_refl _,x? _,x? _,λ_ _ _=>rfl,λ_ h=>h.elim .inl λh=>.inr (.inl h),Y,.refl _,λ_ _ h=>h⟩
theorem iI(s:dD I μ H w){b:Nat}(h:jJ μ H b):I b=J:=by obtain⟨id,p,ob,h1,C,D,rfl⟩:=h;have:=s.obs id ob h1;cases ob with|row es G=>have⟨q,c,el,u,z,_⟩:=this;grind|map B=>have⟨q,c,el,u,z,_⟩:=this;grind|loop r=>have⟨q,c,u,z,_⟩:=this;grind|_=>grind[Ob.live]
theorem qg(s:dD I μ H w){b:Nat}(h:jJ μ H b):b<w.heap.size:=by obtain⟨id,p,ob,h1,D,G,rfl⟩:=h;have:=s.obs id ob h1;cases ob with|row es g=>have⟨q,c,el,u,z,B,_⟩:=this;grind|map C=>have⟨q,c,el,u,z,B,_⟩:=this;grind|loop r=>have⟨q,c,u,z,B,_⟩:=this;grind|_=>grind[Ob.live]
theorem Step.trans(D:dD I' μ' H' w')(c:Step I μ H w I' μ' H' w')(B:Step I' μ' H' w' I'' μ'' H'' w''):Step I μ H w I'' μ'' H'' w'' where
 fz:=λa u h=>B.fz a (Nat.lt_of_lt_of_le u c.size) (c.fz a u h)
 le:=cN.le_trans c.le B.le
 mu:=λid p h=>B.mu id p (c.mu id p h)
 len:=V? c.len B.len
 size:=V? c.size B.size
 frame:=by intro b u C;rw[B.frame b (Nat.lt_of_lt_of_le u c.size) ?_,c.frame b u C];intro z;rcases c.terr b (.inr z)with h|h|h;have:=iI D z;have⟨x,G⟩:=isSome_iff_exists.1 h;rw[c.le _ _ G]at this;simp_all;all_goals grind
 terr:=by intro b h;rcases B.terr b h with h|h|h;exact c.terr b (.inl h);exact c.terr b (.inr h);exact .inr (.inr (V? c.size h))
 os:=B.os.trans c.os
 out:=c.out.trans B.out
def iO.mono(h:cN.le I I')(B:Mu.le μ μ'){p:Pl}{c:Array V'}{es:Nat}{xs:S'}(r:iO I μ p c es xs):iO I' μ' p c es xs:=⟨r.es_eq,r.sz,r.sq,r.one,r.room,r.rel.mono h B⟩
def yz.mono(h:cN.le I I')(D:Mu.le μ μ'){B:aY (V×V)}{es:Array MapEntry}(r:yz I μ B es):yz I' μ' B es:=⟨r.1,λj q e a b=>⟨(r.2 j q e a b).1.mono h D,(r.2 j q e a b).2.mono h D⟩⟩
def yV.mono(h:cN.le I I')(B:Mu.le μ μ'){r:yS}{l:Loop}(x:yV I μ r l):yV I' μ' r l:=⟨x.st,x.pend,x.pendOk,x.frame.mono h B,x.params,x.assign,x.body⟩
def vK.mono(h:cN.le I I')(B:Mu.le μ μ'){id:Nat}{ob:Ob}(r:vK I μ w id ob)
 (D:∀p,μ id=M p->ob.live=U->w'.heap[p.b]?=w.heap[p.b]?/\I' p.b=J)(G:ob=.free->μ' id=J):vK I' μ' w' id ob:=by
 cases ob with
 |free=>exact G Y|dead=>trivial|row es g=>have⟨p,c,el,a,z,C,u⟩:=r;have⟨g1,g2⟩:=D p a Y;exact⟨p,c,el,B _ _ a,g2,g?,u.mono h B⟩|frz es g=>have⟨p,c,a,z,u⟩:=r;exact⟨p,c,B _ _ a,h _ _ z,u.mono h B⟩|map L=>have⟨p,es,b,a,z,C,u⟩:=r;have⟨g1,g2⟩:=D p a Y;exact⟨p,es,b,B _ _ a,g2,g?,u.mono h B⟩|loop x=>have⟨p,l,a,z,C,u⟩:=r;have⟨g1,g2⟩:=D p a Y;exact⟨p,l,B _ _ a,g2,g?,u.mono h B⟩
def dD.rU(s:dD I μ H w)(e:w'.heap=w.heap):dD I μ H w' where
 dom:=s.dom
 imm:=λb x h=>IC.uS (s.imm b x h) (by rw[e])
 obs:=λid ob h=>(s.obs id ob h).mono (cN.le_refl _) (Mu.le_refl _) (λp u z=>⟨by rw[e],iI s ⟨id,p,ob,h,z,u,Y⟩⟩) (λB=>by subst B;exact s.obs id _ h)
 inj:=s.inj
 gl:=s.gl
def Step.rU(e:w'.heap=w.heap)(c:w'.os=w.os)(B:yQ w w'):Step I μ H w I μ H w':=⟨cN.le_refl _,Mu.le_refl _,x? _,g?,λ_ _ _=>by rw[e],λb h=>h.elim .inl λh=>.inr (.inl h),c,B,λa _ h=>by grind[p0]⟩
def Mu.gR(μ:Mu)(k:Nat)(p:Pl):Mu:=λid=>if id=k then M p else μ id
theorem Mu.iQ(μ:Mu)(k:Nat)(p:Pl):μ.gR k p k=M p:=by simp[Mu.gR]
theorem Mu.kA(μ:Mu){k id:Nat}(p:Pl)(h:id≠k):μ.gR k p id=μ id:=by grind[Mu.gR]
def Mu.tY{k:Nat}{p:Pl}(h:μ k=J):Mu.le μ (μ.gR k p):=by intro id q u;grind[Mu.kA]
theorem pQ(o:Obj)(b:Nat)(h:b<w.heap.size):(w.alloc o).heap[b]?=w.heap[b]?:=by show(w.heap.push o)[b]?=_;grind
def pZ(o:Obj):(w.alloc o).heap[w.heap.size]?=M o:=by show(w.heap.push o)[w.heap.size]?=_;simp
def SN{o:Obj}(B:Obj.nf o)(a:Addr)(h:w.frozen? a=O):(w.alloc o).frozen? a=O:=
 Gj B (pZ o) (λk b=>by
  by_cases u:k<w.heap.size
  .grind[pQ]
  show(w.heap.push o)[k]?=_
  grind) a h
def dD.place(s:dD I μ H w){k:Nat}{ob:Ob}{o:Obj}{p:Pl}(c:μ k=J)(G:_m H<=_m H')(j:k<_m H')
 (l:∀id,id≠k->H'[id]?=M .free\/H'[id]?=H[id]?)(T:∀id,id≠k->H'[id]?=M .free->μ id=J)(m:H'[k]?=M ob)(hp:p.b=w.heap.size)
 (n:vK I (μ.gR k p) (w.alloc o) k ob)(d:Obj.nf o):dD I (μ.gR k p) H' (w.alloc o)/\Step I μ H w I (μ.gR k p) H' (w.alloc o):=by
 have f:∀b x,I b=M x->b<w.heap.size:=λb x h=>IC.yB (s.imm b x h)
 have z:∀id u,id≠k->H'[id]?=M u->u≠.free->H[id]?=M u:=by grind
 have L:∀b,jJ (μ.gR k p) H' b->jJ μ H b\/b=w.heap.size:=by rintro b ⟨id,q,u,h1,a__,S,rfl⟩;by_cases e:id=k;grind[Mu.iQ];rw[Mu.kA _ _ e]at S;exact .inl ⟨id,q,u,z id u e h1 g?,a__,S,_l⟩
 refine⟨⟨?_,?_,?_,?_,s.gl⟩,⟨cN.le_refl _,Mu.tY c,G,f?,?_,?_,_l,⟨_l,_l,x? _⟩,λa _=>Gj (b:=w.heap.size) d (pZ o) (λk c=>?_) a⟩⟩
 .intro id h;rw[Mu.kA _ _ a?]
  exact s.dom id a?
 .intro b x h;exact IC.uS (s.imm b x h) (pQ o b (f b x h))
 .intro id u h
  by_cases e:id=k
  .grind
  by_cases Q:u=.free
  .subst Q;show(μ.gR k p) id=J;rw[Mu.kA _ _ e];grind
  have A:=z id u e h Q;refine(s.obs id u A).mono (cN.le_refl _) (Mu.tY c) (λq g W=>?_) (λi=>_e i Q)
  have r:jJ μ H q.b:=⟨id,q,u,A,W,g,_l⟩
  grind[pQ,qg,iI]
 .intro id B o1 o2 q X h1 a__ Y Z C D hb
  by_cases e:id=k<;>by_cases y:B=k
  .simp_all
  .subst e;rw[Mu.iQ]at C;cases C;rw[Mu.kA _ _ y]at D;have:=qg s ⟨B,X,o2,z B o2 y a__ g?,Z,D,_l⟩
   omega
  .subst y;rw[Mu.iQ]at D;cases D;rw[Mu.kA _ _ e]at C;have:=qg s ⟨id,q,o1,z id o1 e h1 g?,Y,C,_l⟩
   omega
  rw[Mu.kA _ _ e]at C;rw[Mu.kA _ _ y]at D;exact s.inj id B o1 o2 q X (z id o1 e h1 g?) (z B o2 y a__ g?) Y Z C D hb
 .grind[pQ]
 .grind
 by_cases W:k<w.heap.size
 .grind[pQ]
 show(w.heap.push o)[k]?=_;rw[Array.getElem?_eq_none (by simp;omega),Array.getElem?_eq_none a?]
def dD.push(s:dD I μ H w){ob:Ob}{o:Obj}{p:Pl}(hp:p.b=w.heap.size)(B:vK I (μ.gR (W H) p) (w.alloc o) (W H) ob)(D:Obj.nf o:=by first|exact wj _ _|exact uO rfl):
 dD I (μ.gR (W H) p) (H++[ob]) (w.alloc o)/\Step I μ H w I (μ.gR (W H) p) (H++[ob]) (w.alloc o):=by
 refine s.place (s.dom _ (x? _)) f? f? (λid h=>.inr ?_) (λid h z=>?_) f? hp B D
 .grind
 by_cases u:id<(W H)
 .rw[List.getElem?_append_left u]at z;exact s.obs id _ z
 grind
theorem dD.fill(s:dD I μ H w){k:Nat}{ob:Ob}{o:Obj}{p:Pl}(a:H[k]?=M .free)(hp:p.b=w.heap.size)(B:vK I (μ.gR k p) (w.alloc o) k ob)(D:Obj.nf o:=by first|exact wj _ _|exact uO rfl):
 dD I (μ.gR k p) (H.set k ob) (w.alloc o)/\Step I μ H w I (μ.gR k p) (H.set k ob) (w.alloc o):=by
 have z:=(ζe.1 a).1;refine s.place (s.obs k _ a) f? g? (λid h=>.inr ?_) (λid h u=>?_) o? hp B D
 .grind
 rw[E? (Ne.symm h)]at u;exact s.obs id _ u
def iN(w:World)(b:Nat)(o:Obj):World:={w with heap:=w.heap.setIfInBounds b o}
theorem jl(o:Obj){b B:Nat}(h:B≠b):(iN w b o).heap[B]?=w.heap[B]?:=by grind[iN]
def kT(o:Obj){b:Nat}(h:b<w.heap.size):(iN w b o).heap[b]?=M o:=by grind[iN]
def z7(b:Nat)(o:Obj):(iN w b o).heap.size=w.heap.size:=by simp[iN]
def RH(b:Nat)(o B:Obj):iN (iN w b o) b B=iN w b B:=by simp[iN]
def abg{o:Obj}{b:Nat}(B:Obj.nf o)(a:Addr)(h:w.frozen? a=O):(iN w b o).frozen? a=O:=by grind[Gj,iN,p0]
def dD.write(s:dD I μ H w){id:Nat}{ob l?:Ob}{o:Obj}{p:Pl}(B:H[id]?=M ob)(T:ob.live=U)(hp:μ id=M p)
 (A:vK I μ (iN w p.b o) id l?)(d:Obj.nf o:=by first|exact wj _ _|exact uO rfl):dD I μ (H.set id l?) (iN w p.b o)/\Step I μ H w I μ (H.set id l?) (iN w p.b o):=by
 have C:jJ μ H p.b:=⟨id,p,ob,B,T,hp,Y⟩;have u:∀k x,(H.set id l?)[k]?=M x->∃y,H[k]?=M y/\(x.live=U->y.live=U)/\(k≠id->y=x):=by grind
 have i:∀b,jJ μ (H.set id l?) b->jJ μ H b:=by rintro b ⟨k,q,x,c,L,X,rfl⟩;have⟨y,m,z,_⟩:=u k x c;exact⟨k,q,y,m,z L,X,Y⟩
 refine⟨⟨?_,?_,?_,?_,s.gl⟩,⟨cN.le_refl _,Mu.le_refl _,f?,by rw[z7];grind,?_,?_,Y,⟨Y,Y,x? _⟩,λa _=>Gj d (kT o (qg s C)) (λk f=>jl o f) a⟩⟩
 .intro k h;exact s.dom k g?
 .intro b x h;refine IC.uS (s.imm b x h) (jl o ?_)
  grind[iI]
 .intro k x h
  by_cases e:k=id
  .grind
  rw[E? (Ne.symm e)]at h;refine(s.obs k x h).mono (cN.le_refl _) (Mu.le_refl _) (λq j D=>⟨jl o ?_,iI s ⟨k,q,x,h,D,j,Y⟩⟩) (λZ=>by subst Z;exact s.obs k _ h)
  intro Q;exact e (s.inj k id x ob q p h B D T j hp Q)
 .intro k W x x' q q' c L l1 l2 m1 m2 Q;have⟨y,m,z,_⟩:=u k x c;have⟨g,S,G,_⟩:=u W x' L;exact s.inj k W y g q q' m S (z l1) (G l2) m1 m2 Q
 all_goals grind[jl]
def dD.kill(s:dD I μ H w){id:Nat}{ob:Ob}(B:H[id]?=M ob):dD I μ (H.set id .dead) w/\Step I μ H w I μ (H.set id .dead) w:=by
 have C:=(ζe.1 B).1;have u:∀k x,(H.set id .dead)[k]?=M x->x.live=U->H[k]?=M x/\k≠id:=by grind[Ob.live]
 refine⟨⟨?_,s.imm,?_,?_,s.gl⟩,⟨cN.le_refl _,Mu.le_refl _,f?,x? _,λ_ _ _=>rfl,?_,Y,.refl _,λ_ _ h=>h⟩⟩;intro k h;exact s.dom k g?;intro k x h;by_cases e:k=id;subst e;rw[List.getElem?_set_self C]at h;cases h;trivial;rw[E? (Ne.symm e)]at h;exact s.obs k x h;intro k D x G q j a z g L Q S T;exact s.inj k D x G q j (u k x a g).1 (u D G z L).1 g L Q S T;rintro b (h|⟨k,q,x,a,z,i,rfl⟩);grind;exact .inr (.inl ⟨k,q,x,(u k x a z).1,z,i,Y⟩)
end
section
variable{P:Program}{E:Env}{I:cN}{μ:Mu}{H:bt}{n:Nat}{F:WP}{a:Act}{w:World}
theorem y8{b:Nat}{c:Array V'}{el:W'}{fr:Nat×Nat}(h:w.heap[b]?=M (.cells c el fr))(k:Nat):w.cell? ⟨b,k,J⟩=c[k]?:=by grind[cell?]
def NN{b o:Nat}{c:Array V'}(d:∀k,w.cell? ⟨b,k,J⟩=c[k]?):∀(m i:Nat)(a:Array V'),o+i+m<=c.size->
 (loadCellsFrom ⟨b,o,J⟩ i m a).run P w=.ok (a++((c.toList.drop (o+i)).take m).toArray) w:=by
 intro m
 induction m with
 |zero=>simp_all[loadCellsFrom]|succ m z=>
  intro i a h;have u:o+i<c.size:=a?
  have e:w.cell? ⟨b,o+i,J⟩=M c[o+i]:=by rw[d];simp[u]
  simp only[loadCellsFrom,z?,sH,run_load,e,y?];rw[z (i+1) _ a?]
  simp_all[List.drop_eq_getElem_cons,m4]
theorem HU{b o m:Nat}{c:Array V'}(a:∀k,w.cell? ⟨b,k,J⟩=c[k]?)(h:o+m<=c.size\/m=0):
 (loadCells ⟨b,o,J⟩ m).run P w=.ok ((c.toList.drop o).take m).toArray w:=by
 rcases h with h|h
 .have:=NN (P:=P) a m 0 #[] (o:=o) a?
  grind[loadCells]
 simp_all[loadCells,loadCellsFrom]
theorem iw{es:Nat}{xs:S'}(a:∀x∈xs,W x=es):W xs.flatten=W xs*es:=by induction xs with|nil=>simp|cons x xs u=>grind
def HD{es:Nat}:∀{xs:S'}(_:∀x∈xs,W x=es){el:Nat}{cs:So},xs[el]?=M cs->(xs.flatten.drop (el*es)).take es=cs:=by intro xs;induction xs with|nil=>grind|cons x xs u=>intro a el cs h;have w:W x=es:=a x f?;cases el with|zero=>grind|succ el=>have:=u (λy z=>a y (B? _ z)) (el:=el) (cs:=cs) (by simpa using h);rw[List.flatten_cons,show(el+1)*es=W x+el*es by rw[w,o!];omega,<-A!];grind
def LX{es:Nat}:∀{xs:S'}(_:∀x∈xs,W x=es){el:Nat}(cs:So),el<W xs->W cs=es->
 (xs.set el cs).flatten=xs.flatten.take (el*es)++cs++xs.flatten.drop (el*es+es):=by
 intro xs
 induction xs with
 |nil=>grind|cons x xs u=>
  intro a el cs h b;have w:W x=es:=a x f?
  cases el with
  |zero=>simp[w]|succ el=>
   have:=u (λy z=>a y (B? _ z)) (el:=el) cs (by simpa using h) b
   grind[o!,List.take_append,List.drop_append,List.drop_eq_nil_of_le,Nat.add_sub_cancel_left]
def za{es:Nat}{xs:S'}(a:∀x∈xs,W x=es){i j:Nat}{x:So}{y:V}(b:xs[i]?=M x)(B:x[j]?=M y):xs.flatten[i*es+j]?=M y:=by have:=HD a b;grind
def iO.elem{p:Pl}{c:Array V'}{es:Nat}{xs:S'}(r:iO I μ p c es xs){el:Nat}{cs:So}(h:xs[el]?=M cs):
 c6 I μ cs ((c.toList.drop (p.o+el*es)).take es)/\W cs=es/\p.o+el*es+es<=c.size:=by
 have u:=(ζe.1 h).1;have z:=r.sq cs (s? h);have a:=(r.rel.drop (el*es)).take es;rw[HD r.sq h]at a;have B:el*es+es<=W xs*es:=by have:=b! es (show el+1<=W xs from u);rwa [o!,o6]at this
 have w:=r.room
 grind[g',A!]
def iO.span{p:Pl}{c:Array V'}{es:Nat}{xs:S'}(r:iO I μ p c es xs){off len:Nat}(h:off+len<=W xs):
 c6 I μ ((xs.drop off).take len).flatten ((c.toList.drop (p.o+off*es)).take (len*es))/\p.o+off*es+len*es<=c.size:=by
 have w:=r.room;have z:off*es+len*es<=W xs*es:=by rw[<-o!];exact b! _ h
 have e1:((xs.drop off).take len).flatten=(xs.flatten.drop (off*es)).take (len*es):=by have u:xs=xs.take off++((xs.drop off).take len++(xs.drop off).drop len):=(by rw[e!,e!]);have g1:W (xs.take off).flatten=off*es:=(by rw[iw (λx u=>r.sq x (O? u))];rw[List.length_take,Nat.min_eq_left a?]);have g2:W ((xs.drop off).take len).flatten=len*es:=(by rw[iw (λx u=>r.sq x (u! (O? u))),List.length_take,List.length_drop,Nat.min_eq_left a?]);have B:=_f List.flatten u;grind
 have a:=(r.rel.drop (off*es)).take (len*es);rw[e1]
 grind[g',A!]
def Lu{ob:Ob}{es:Nat}{xs:S'}(h:ob.rows=M (es,xs)):ob=.row es xs\/ob=.frz es xs:=by cases ob<;>simp_all [Ob.rows]
def dD.rows(s:dD I μ H w){id es:Nat}{xs:S'}(h:_o (H[id]?) Ob.rows=M (es,xs)):
 ∃p c,μ id=M p/\(∀k,w.cell? ⟨p.b,k,J⟩=c[k]?)/\iO I μ p c es xs:=by
 have⟨ob,a,u⟩:=ζg.1 h;have:=s.obs id ob a;rcases Lu u with rfl|rfl
 .have⟨p,c,el,g1,_,g3,g4⟩:=this
  grind[y8]
 have⟨p,c,g1,g2,g4⟩:=this;have⟨el,fr,g3⟩:=s.imm _ _ g2
 grind[y8]
def V1(s:dD I μ H w){p:V}{v:V'}(d:bP I μ p v){m:Nat}{cs:So}(h:fJ H p m=M cs):
 ∃(b o:Nat)(c:Array V'),v=.pointer (M ⟨b,o,J⟩)/\(∀k,w.cell? ⟨b,k,J⟩=c[k]?)/\(o+m<=c.size\/m=0)/\c6 I μ cs ((c.toList.drop o).take m):=by
 unfold fJ at h;split at h
 .rename_i z;have⟨b,o,c,e,G,S,i⟩:=d.oS;have⟨el,fr,g⟩:=s.imm _ _ G;refine⟨b,o,c,e,y8 g,?_⟩;have A:c6 I μ z ((c.toList.drop o).take (W z)):=by
   refine⟨by simp;omega,λj x y f L=>?_⟩
   have X:=(ζe.1 f).1;rw[J?,L' X,M?]at L;exact .c _ _ (i j x y f g?)
  rcases DX A h with⟨g1,g2,g3⟩|⟨g1,g2⟩
  .grind
  refine⟨.inr g1,?_⟩;rw[g2,g1];exact .nil
 .rename_i id el off;split at h
  .rename_i es z u;split at h
   .rename_i Q B;have⟨p,c,g1,g2,g3⟩:=s.rows u;have⟨q,C,e⟩:=d.v7;rw[g1]at C;cases C;refine⟨_,_,c,e,g2,?_⟩;have⟨k1,k2,k3⟩:=g3.elem B;rw[g3.es_eq];rcases DX k1 h with⟨a,D,T⟩|⟨a,D⟩
    .grind[g',A!]
    refine⟨.inr a,?_⟩;rw[D,a];exact .nil
   simp at h
  simp at h
 simp at h
def F_(D:fG P E)(s:dD I μ H w){t:W'}{d:TD}(hd:E.tt t=M d){p x:V}{v:V'}(a:bP I μ p v)(h:_o (fJ H p d.size) (mk d.agg)=M x):
 ∃u,(loadAt t v).run P w=.ok u w/\bP I μ x u/\∃G,v=.pointer (M G)/\(loadVar t G).run P w=.ok u w:=by
 have⟨cs,f,B⟩:=ζg.1 h;have⟨b,o,c,e,g1,g2,g3⟩:=V1 s a f;have key:∃u,(loadVar t ⟨b,o,J⟩).run P w=.ok u w/\bP I μ x u:=by unfold loadVar;simp only[z?,(D.ty hd).Qp,y?];cases z:d.agg with|true=>rw[z]at B;refine⟨.agg ((c.toList.drop o).take d.size).toArray,?_,Sn B g?⟩;simp only[N',z?,(D.ty hd).mR,y?,HU g1 g2,L?]|false=>rw[z]at B;have⟨u,g,i⟩:=mk_one B g3;refine⟨u,?_,i⟩;have L:d.size≠0:=(by grind);have C:c[o]?=M u:=(by have:=_f (·[0]?) g;grind);simp_all
 grind[loadAt,t8]
def dD.Lm(s:dD I μ H w){b:Nat}{x:IC}(h:I b=M x):b<w.heap.size:=IC.yB (s.imm b x h)
def YG{b es:Nat}{c:Array V'}{xs:S'}(h:c6 I μ xs.flatten c.toList)(a:∀x∈xs,W x=es)(B:∀x∈xs,∀y∈x,V.one y=U):
 iO I μ ⟨b,0,es,c.size⟩ c es xs:=by
 have u:W xs*es=c.size:=by rw[<-iw a,h.1];simp
 exact⟨Y,Y,a,B,by simp[u],by grind[List.take_of_length_le]⟩
structure WG(I:cN)(μ:Mu)(w:World)(ob:Ob)(m:Mk)(o:Obj)(p:Pl)(u:Value):Prop where
 b:p.b=w.heap.size
 live:ob.live=true
 nf:Obj.nf o
 len:∀es xs,ob=.row es xs->p.sz=xs.length*es
 rel:∀k,μ k=none->vK I (μ.gR k p) (w.alloc o) k ob/\bP I (μ.gR k p) (m.val k) u
def dD.BJ(s:dD I μ H w):I w.heap.size=J:=by cases h:I w.heap.size with|none=>rfl|some x=>have:=s.Lm h;omega
def zZ(s:dD I μ H w){es:Nat}{xs:S'}{c:Array V'}{el:W'}{m:Mk}{u:V'}(h:c6 I μ xs.flatten c.toList)(a:∀x∈xs,W x=es)
 (B:∀x∈xs,∀y∈x,V.one y=U)(d:∀k,bP I (μ.gR k ⟨w.heap.size,0,es,c.size⟩) (m.val k) u):WG I μ w (.row es xs) m (.cells c el) ⟨w.heap.size,0,es,c.size⟩ u where
 nf:=wj _ _
 b:=rfl
 live:=rfl
 len:=λz C e=>by cases e;rw[<-iw a,h.1];simp
 rel:=λk f=>⟨⟨_,c,el,Mu.iQ _ _ _,s.BJ,pZ _,(YG h a B).mono (cN.le_refl _) (Mu.tY f)⟩,d k⟩
def N5(t:W')(v:V'):(newVar t v).run P w=.ok ⟨w.heap.size,0,J⟩ (w.alloc (.cells v.cells t)):=by simp[newVar,newRow]
def Ag{z:So}{B:Array V'}(h:c6 I μ z B.toList)(m:Nat):
 c6 I μ (replicate m z).flatten (((Array.range (m*B.size)).map (λi=>B[i % B.size]!)).toList):=by
 have C:W z=B.size:=by simpa using h.1
 have c:∀x∈replicate m z,W x=W z:=λx g=>by rw[X? g]
 have w:=iw c;simp only[List.length_replicate]at w;refine⟨by rw[w,C];simp,λj x y a L=>?_⟩
 have G:=(ζe.1 a).1;rw[w]at G;have u:0<W z:=by grind
 have hi:j / W z<m:=(Nat.div_lt_iff_lt_mul u).2 G;have b:j % W z<W z:=mod_lt _ u;have e1:=za c (i:=j / W z) (j:=j % W z) (x:=z) (y:=z[j % W z]) (by simp[hi]) (by simp[b])
 rw[Nat.mul_comm,Nat.div_add_mod]at e1;rw[e1]at a;cases a;have D:j % B.size<B.size:=by rw[<-C];exact b
 have e2:y=B[j % B.size]:=by grind
 rw[e2];exact h.2 (j % W z) _ _ (by simp[b]) (by rw[C];simp[D])
def Kd{es:Nat}:∀(vs:aY (Nat×V))(xs ys:S'),(∀x∈xs,W x=es)->(∀x∈xs,∀y∈x,V.one y=U)->gP es xs vs=M ys->
 w_ (λi=>M (i*es,es)) xs.flatten vs=M ys.flatten/\(∀x∈ys,W x=es)/\(∀x∈ys,∀y∈x,V.one y=U)/\W ys=W xs:=by
 intro vs
 induction vs with
 |nil=>intro xs ys a z h;simp only[gP,ζa]at h;subst h;exact⟨rfl,a,z,rfl⟩|cons v vs C=>
  intro xs ys a z h;have⟨i,v⟩:=v;simp only[gP]at h;split at h
  .rename_i hc;have⟨b,B,I⟩:=hc;have u:∀x∈xs.set i v.cells,W x=es:=λx D=>by
    grind
   have w:∀x∈xs.set i v.cells,∀y∈x,V.one y=U:=λx D=>by grind
   have⟨g1,g2,g3,g4⟩:=C _ ys u w h;refine⟨?_,g2,g3,g?⟩
   rw[LX a _ B b]at g1;have g:i*es+es<=W xs*es:=by have:=b! es (show i+1<=W xs from B);rwa [o!,o6]at this
   have G:=iw a
   grind[w_]
  simp at h
def EY(b__:fG P E)(r:fA I μ n F a.tmps)(s:dD I μ H w)(o:Oper){ob:Ob}{m:Mk}(h:fZ E F o.op=M (ob,m)):
 ∃x p u,(execOp a.eval o).run P w=.ok (.value u) (w.alloc x)/\WG I μ w ob m x p u:=by
 have⟨dst,op,ty,pos,after,j⟩:=o;simp only at h
 cases op with
 |alloc t=>
  simp only[fZ,ζf,ζc]at h;obtain⟨d,hd,rfl,rfl⟩:=h;have⟨z,a__,b,T,Z⟩:=(b__.ty hd).Ga;refine⟨.cells z.cells t,_,.pointer (M ⟨w.heap.size,0,J⟩),?_,zZ s g? (by simp[T]) g? (λk=>?_)⟩
  .simp_all[execOp,Instr.alloc,N5]
  have:=bP.hptr (I:=I) k 0 0 _ (Mu.iQ μ k ⟨w.heap.size,0,d.size,z.cells.size⟩);simp only[v',f4]at this;exact this
 |box t x=>
  simp only[fZ]at h;split at h
  .rename_i v hv;split at h
   .rename_i Z;simp only[ζa,ζc]at h;obtain⟨rfl,rfl⟩:=h;have b:=dR r hv;refine⟨.cells (a.eval x).cells t,_,.pointer (M ⟨w.heap.size,0,J⟩),?_,zZ s (by simpa using b.cells) f? g? (λk=>?_)⟩
    .simp_all[execOp,Instr.box,N5]
    have:=bP.hptr (I:=I) k 0 0 _ (Mu.iQ μ k ⟨w.heap.size,0,_m v.cells,(a.eval x).cells.size⟩);simp only[v',f4]at this;exact this
   simp at h
  simp at h
 |makeSlice t l c=>
  simp only[fZ]at h;split at h
  .rename_i e k1 ln k2 B g T hc;have⟨d,hd,L⟩:=gV g;have⟨f,V,c__,q⟩:=(b__.ty hd).ey;rw[L]at c__;have:=lE c__;subst this;split at h
   .rename_i D C;split at h
    .rename_i d__;obtain⟨rfl,rfl,am,an,hm,ao⟩:=d__;simp only[ζa,ζc]at h;obtain⟨rfl,rfl⟩:=h;have⟨z,a__,b,Q,Z⟩:=(b__.ty C).Ga;have⟨i,_,hi,aj,ap,_⟩:=(b__.ty C).info;have G:z.cells.size=D.size:=by have:=(b I μ).1;grind
     have ak:(0:Int)<=B:=a?
     have w1:i64.wrap ln=ln:=by grind[w?,IntKind.bits]
     have w2:i64.wrap B=B:=by grind[w?,IntKind.bits]
     have al:∀y:Int,0<=y->y<=2147483648->((i.bytes:Int)*y>2 ^ 48)=False:=by
      intro y aa hy;simp only[eq_iff_iff,iff_false,Int.not_lt,gt_iff_lt];have ab:(i.bytes:Int)<=4096:=a?
      calc (i.bytes:Int)*y<=4096*2147483648:=Int.mul_le_mul ab hy aa a?
       _<=2 ^ 48:=by decide
     have W:(Instr.makeSlice t (.int N ln) (.int N B)).run P w=
      .ok (.slice (M ⟨w.heap.size,0,J⟩) ln.toNat B.toNat) (w.alloc (.cells ((Array.range (B.toNat*z.cells.size)).map (λi=>z.cells[i % z.cells.size]!)) e)):=by
      unfold Instr.makeSlice;have t1:(_s (B<0)||decide ((i.bytes:Int)*B>2 ^ 48))=O:=by
       rw[Bool.or_eq_false_iff]
       grind
      have q1:(((_s (B<0)||decide ((i.bytes:Int)*B>2 ^ 48))||decide (ln<0))||decide (ln>B))=O:=by rw[t1];simp;omega
      simp only[z?,q,y?,asInt,ou,L?,rG hi,w1,w2,q1,v?,_a,run_askRoom,(b__.ty C).mR];rw[G]
      by_cases Y:B.toNat*D.size=0
      .have K:Array.range 0=(#[]:Array Nat):=rfl;simp[Y,newRow,K]
      simp_all[newRow]
     refine⟨.cells ((Array.range (B.toNat*z.cells.size)).map (λi=>z.cells[i % z.cells.size]!)) e,_,.slice (M ⟨w.heap.size,0,J⟩) ln.toNat B.toNat,?_,zZ s (Ag (b I μ) B.toNat) (λx S=>by rw[X? S,Q]) (λx S=>by rw[X? S];grind) (λk=>?_)⟩
     .simp only[execOp];refine iD ?_;rw[(dR r T).gX,(dR r hc).gX];exact W
     have:=bP.hsl (I:=I) (μ:=μ.gR k ⟨w.heap.size,0,D.size,((Array.range (B.toNat*z.cells.size)).map (λi=>z.cells[i % z.cells.size]!)).size⟩) k 0 ln.toNat B.toNat _ (Mu.iQ _ _ _) a? (by simp[G])
     grind[Mk.val]
    simp at h
   simp at h
  simp at h
 |buildSlice t len ps=>
  simp only[fZ]at h;split at h
  .rename_i e vs g ad;have⟨d,hd,L⟩:=gV g;have⟨f,V,c__,q⟩:=(b__.ty hd).ey;rw[L]at c__;have:=lE c__;subst this;split at h
   .rename_i D C;split at h
    .rename_i ae;simp only[ζf,ζc]at h;obtain⟨ys,af,rfl,rfl⟩:=h;have⟨z,a__,b,Q,Z⟩:=(b__.ty C).Ga;have G:z.cells.size=D.size:=by have:=(b I μ).1;grind
     have⟨T,ah⟩:=JA r ad;have⟨g1,g2,g3,g4⟩:=Kd vs _ ys (λx S=>by rw[X? S,Q]) (λx S=>by rw[X? S];grind) af
     have⟨A,e__,R⟩:=Ff (place':=λi=>M (i*D.size,D.size)) (λi p hp=>hp) vs _ _ _ ((Array.range (len*z.cells.size)).map (λi=>z.cells[i % z.cells.size]!)) T ah (Ag (b I μ) len) g1
     have X:A.size=len*D.size:=by
      have e1:=R.1;rw[iw g2,g4]at e1
      grind
     refine⟨.cells A e,_,.slice (M ⟨w.heap.size,0,J⟩) len len,?_,zZ s R g2 g3 (λk=>?_)⟩
     .simp only[execOp];refine iD ?_;unfold Instr.buildSlice;have ai:¬(len*D.size>2 ^ 24):=by omega
      simp only[z?,q,y?,(b__.ty C).mR,M' ai]
      by_cases Y:len*D.size=0
      .have e0:(Array.range (len*z.cells.size)).map (λi=>z.cells[i % z.cells.size]!)=#[]:=by rw[G,Y];simp
       rw[e0]at e__;have K:Array.range 0=(#[]:Array Nat):=rfl;simp only[Y,N',L?,y?,K,Array.map_empty];rw[e__];simp[newRow]
      simp_all[newRow]
     have:=bP.hsl (I:=I) (μ:=μ.gR k ⟨w.heap.size,0,D.size,A.size⟩) k 0 len len _ (Mu.iQ _ _ _) (x? _) (by simp[X])
     grind[Mk.val]
    simp at h
   simp at h
  simp at h
 |makeMap t r=>
  cases r with
  |none=>
   simp only[fZ,ζa,ζc]at h;obtain⟨rfl,rfl⟩:=h;refine⟨.map #[] 0,⟨w.heap.size,0,0,0⟩,.map (M w.heap.size),?_,⟨_l,_l,uO _l,λ_ _ e=>(nomatch e),λk g=>⟨⟨_,#[],0,Mu.iQ _ _ _,s.BJ,pZ _,_l,f?⟩,?_⟩⟩⟩
   .simp_all[execOp,Instr.makeMap]
   exact bP.hmap (I:=I) k ⟨w.heap.size,0,0,0⟩ (Mu.iQ _ _ _)
  |some x=>grind[fZ]
 |_=>simp[fZ]at h
end
section
variable{P:Program}{E:Env}{I:cN}{μ:Mu}{H H':bt}{n:Nat}{F:WP}{a:Act}{w:World}
def bP.one{x:V}{v:V'}(h:bP I μ x v)(B:x.one=U):v.oneCell'=U:=by
 cases h with
 |c _ _ h=>cases h<;>first|rfl|grind[V.one]
 |agg=>grind[V.one]|tup=>grind[V.one]|_=>rfl
def c6.Vf{xs:So}{vs:aY V'}(h:c6 I μ xs vs)(B:∀x∈xs,V.one x=U):∀v∈vs,v.oneCell'=U:=by
 intro v a;obtain⟨j,w,rfl⟩:=List.mem_iff_getElem.1 a;have u:j<W xs:=by rw[h.1];exact w
 exact(h.2 j xs[j] vs[j] (by simp[u]) (by simp[w])).one (B _ (List.getElem_mem u))
def Su{b:Nat}{o:Obj}(h:w.heap[b]?=M o):iN w b o=w:=by
 unfold iN;have:w.heap.setIfInBounds b o=w.heap:=by grind
 rw[this]
def M5{b o:Nat}{c:Array V'}{el:W'}{v:V'}(h:w.heap[b]?=M (.cells c el)):
 w.setCell ⟨b,o,J⟩ v=iN w b (.cells (c.setIfInBounds o v) el):=by
 unfold World.setCell iN
 congr 1
 grind
def yb{b o:Nat}{el:W'}:∀(vs:aY V')(i:Nat)(w:World)(c:Array V'),w.heap[b]?=M (.cells c el)->(∀v∈vs,v.oneCell'=U)->o+i+W vs<=c.size->
 ∃c',(storeCells ⟨b,o,J⟩ vs i).run P w=.ok () (iN w b (.cells c' el))/\c'.toList=c.toList.take (o+i)++vs++c.toList.drop (o+i+W vs):=by
 intro vs
 induction vs with
 |nil=>simp_all[storeCells,Su]|cons v vs D=>
  intro i w c h C G;simp only[List.length_cons]at G;have z:o+i<c.size:=a?
  have u:w.cell? ⟨b,o+i,J⟩=M c[o+i]:=by rw[y8 h];simp[z]
  have B:w.frozen? ⟨b,o+i,J⟩=O:=by grind[p0]
  have I:=(Array.getElem?_eq_some_iff.1 h).1;have⟨c',g1,g2⟩:=D (i+1) (iN w b (.cells (c.setIfInBounds (o+i) v) el)) (c.setIfInBounds (o+i) v) (kT _ I) (λx g=>C x (B? _ g)) (by simp;omega)
  refine⟨c',?_,?_⟩
  .simp only[storeCells,z?,sH,run_store P w _ v _ (C v f?),u,B,v?,_a,y?,M5 h]
   rw[g1,RH]
  grind[List.take_succ_eq_append_getElem,List.take_set_of_le,List.drop_set_of_lt]
structure EP(P:Program)(I:cN)(μ:Mu)(H:bt)(w:World)(s:Sem Next)(x:V)(H':bt):Prop where
 run:∃nx u w' μ',s.run P w=.ok nx w'/\(nx=.value u\/(nx=.skip/\u=undef))/\bP I μ' x u/\dD I μ' H' w'/\Step I μ H w I μ' H' w'
def ED{α:Type}(L vs:aY α)(o m k:Nat)(D:o+m<=W L)(a:k+W vs<=m):
 ((L.take (o+k)++vs++L.drop (o+k+W vs)).drop o).take m=((L.drop o).take m).take k++vs++((L.drop o).take m).drop (k+W vs):=by
 obtain⟨A,B,C,rfl,u,w⟩:∃A B C:aY α,L=A++(B++C)/\W A=o/\W B=m:=⟨L.take o,(L.drop o).take m,(L.drop o).drop m,by rw[e!,e!],by simp;omega,by simp;omega⟩
 subst u;subst w;have e1:(A++(B++C)).take (W A+k)=A++B.take k:=by rw[List.take_append,List.take_of_length_le a?,Nat.add_sub_cancel_left,List.take_append_of_le_length a?]
 have e2:(A++(B++C)).drop (W A+k+W vs)=B.drop (k+W vs)++C:=by rw[List.drop_append,List.drop_eq_nil_of_le a?,List.nil_append,List.drop_append_of_le_length a?];grind
 have e3:((A++(B++C)).drop (W A)).take (W B)=B:=f?
 rw[e1,e2,e3];simp only[List.append_assoc,List.drop_left];have z:W (B.take k++(vs++B.drop (k+W vs)))=W B:=by simp;omega
 grind
def iO.splice{p:Pl}{c c':Array V'}{es el off:Nat}{xs:S'}{cs ys:So}{vs:aY V'}(r:iO I μ p c es xs)(B:xs[el]?=M cs)(T:c6 I μ ys vs)
 (m:∀y∈ys,V.one y=U)(o:off+W ys<=W cs)(a:c'.toList=c.toList.take (p.o+el*es+off)++vs++c.toList.drop (p.o+el*es+off+W vs)):
 iO I μ p c' es (xs.set el (cs.take off++ys++cs.drop (off+W ys))):=by
 have⟨k1,k2,k3⟩:=r.elem B;have z:=(ζe.1 B).1;have g:=T.1;have L:=r.room;have X:el*es+es<=W xs*es:=by have:=b! es (show el+1<=W xs from z);rwa [o!,o6]at this
 have C:c'.size=c.size:=by have:=_f length a;grind
 have j:W (cs.take off++ys++cs.drop (off+W ys))=es:=by simp;omega
 have u:∀x∈xs.set el (cs.take off++ys++cs.drop (off+W ys)),x∈xs\/x=cs.take off++ys++cs.drop (off+W ys):=λx D=>List.mem_or_eq_of_mem_set D
 refine⟨r.es_eq,by rw[C];exact r.sz,?_,?_,by rw[C];grind,?_⟩
 .intro x D;rcases u x D with h|h
  .exact r.sq x h
  grind
 .intro x D y G;rcases u x D with h|h
  .exact r.one x h y G
  rw[h]at G;have S:=r.one cs (s? B)
  grind
 rw[LX r.sq _ z j,a,List.length_set];have w:=r.rel;have Q:=HD r.sq B;have e:List.take (W xs*es) (List.drop p.o (List.take (p.o+el*es+off) c.toList++vs++List.drop (p.o+el*es+off+W vs) c.toList))=
  (((c.toList.drop p.o).take (W xs*es)).take (el*es+off))++vs++(((c.toList.drop p.o).take (W xs*es)).drop (el*es+off+W vs)):=by
  have:=ED c.toList vs p.o (W xs*es) (el*es+off) g? a?
  grind
 rw[e];have e2:xs.flatten.take (el*es)++(cs.take off++ys++cs.drop (off+W ys))++xs.flatten.drop (el*es+es)=
  xs.flatten.take (el*es+off)++ys++xs.flatten.drop (el*es+off+W ys):=by
  have i:=iw r.sq;have b:xs.flatten.take (el*es+off)=xs.flatten.take (el*es)++cs.take off:=by rw[<-Q,List.take_add,List.take_take,Nat.min_eq_left a?]
  grind[g',A!,e!]
 rw[e2,<-g];exact((w.take _).append T).append (w.drop _)
def UP(T:fG P E)(r:fA I μ n F a.tmps)(s:dD I μ H w){t:W'}{p q:UV}{x:V}(h:cT E F H (.store t p q)=M (x,H')):
 EP P I μ H w (do storeAt t (a.eval p) (a.eval q);pure .skip) x H':=by
 simp only[cT]at h;split at h
 .rename_i d id el off v hd Q S;split at h
  .rename_i es m z;split at h
   .rename_i cs B;split at h
    .rename_i hc;have⟨A,W,X⟩:=hc;simp only[ζa,ζc]at h;obtain⟨rfl,rfl⟩:=h;have⟨pl,c,ty,g1,g2,g3,g4⟩:=s.obs id _ z;have⟨Y,L,e⟩:=(dR r Q).v7;rw[g1]at L;cases L;have u:=(dR r S).cells;have a__:∀y∈v.cells,V.one y=U:=by grind
     have⟨k1,k2,k3⟩:=g4.elem B;have Z:=u.1;have b:pl.o+el*es+off+0+_m (a.eval q).cells.toList<=c.size:=a?
     have⟨c',f,j⟩:=yb (P:=P) (o:=pl.o+el*es+off) (a.eval q).cells.toList 0 w c g3 (u.Vf a__) b;have C:iO I μ pl c' es (m.set el (cs.take off++v.cells++cs.drop (off+_m v.cells))):=g4.splice B u a__ a? g?
     have D:=(Array.getElem?_eq_some_iff.1 g3).1;have⟨g,i⟩:=s.write (l?:=.row es (m.set el (cs.take off++v.cells++cs.drop (off+_m v.cells)))) (o:=.cells c' ty) z _l g1
      ⟨pl,c',ty,g1,g2,kT _ D,C⟩
     refine⟨.skip,undef,_,μ,?_,.inr ⟨_l,_l⟩,.undef I μ,g,i⟩;rw[e];have G:¬((a.eval q).cells.size≠d.size):=g?
     rw[g4.es_eq];unfold storeAt storeVar;simp only[z?,t8,L?,y?,(T.ty hd).mR,M' G,f]
    simp at h
   simp at h
  simp at h
 simp at h
def CK(s:dD I μ H w){x:V}{v:V'}(T:bP I μ x v){es:Nat}{ys:S'}(h:dZ H es x=M ys):
 ∃B a arr,v=.slice B (_m ys) a/\_m ys<=a/\(∀G:World,G.heap=w.heap->(x! es (_m ys) v).run P G=.ok arr G)/\c6 I μ ys.flatten arr.toList/\(∀y∈ys,_m y=es)/\
  (∀y∈ys,∀z∈y,V.one z=U):=by
 have C:∀(B:aX Addr)(a:Nat)(G:World),G.heap=w.heap->(x! es 0 (.slice B 0 a)).run P G=.ok #[] G:=by intro B a G _;cases B with|none=>rfl|some B=>simp[x!,loadCells,loadCellsFrom]
 cases x with
 |dS=>simp only[dZ,ζa]at h;subst h;obtain⟨B,rfl⟩:=T.vj;exact⟨B,0,#[],rfl,x? _,C B 0,.nil,f?,f?⟩|bN=>simp only[dZ,ζa]at h;subst h;rw[T.oB];exact⟨J,0,#[],rfl,x? _,C J 0,.nil,f?,f?⟩|fsl u L=>
  simp only[dZ]at h;split at h
  .rename_i S;simp only[ζa]at h;subst h;subst S;have k:=T.oI
   cases k with
   |fsl0 _ B a=>exact⟨M B,a,#[],rfl,N? _,C (M B) a,.nil,f?,f?⟩|fsl _ _ b o a c hI g hu ho n hr=>
    have⟨el,fr,t⟩:=s.imm _ _ hI;refine⟨_,a,((c.toList.drop o).take (_m L*u)).toArray,_l,g,?_,?_,hu,ho⟩
    .grind[x!,HU,y8]
    have b__:=iw hu;refine⟨g?,λj p q d l=>?_⟩
    have W:=(ζe.1 d).1;rw[b__]at W;have D:0<u:=by grind
    have hi:j / u<_m L:=(Nat.div_lt_iff_lt_mul D).2 W;have X:j % u<u:=mod_lt _ D;have A:=hu _ (List.getElem_mem hi);have e1:=za hu (i:=j / u) (j:=j % u) (x:=L[j / u]) (y:=(L[j / u])[j % u]) (by simp[hi]) g?
    have f:j / u*u+j % u=j:=by rw[Nat.mul_comm,Nat.div_add_mod]
    rw[f,d]at e1;cases e1;simp only[J?,L' W,M?]at l;refine .c _ _ (hr (j / u) (j % u) L[j / u] _ q (by simp[hi]) g? ?_)
    rw[m4,f]
    grind
  simp at h
 |hsl id u off len=>
  simp only[dZ]at h;split at h
  .rename_i S;subst S;split at h
   .rename_i c__ L Q;split at h
    .rename_i Y;simp only[ζa]at h;subst h;have⟨p,c,g1,g2,g3⟩:=s.rows Q;have a__:_m ((L.drop off).take len)=len:=by simp;omega
     rcases T.oA with⟨q,a,X,m,g,n,e⟩|⟨r,B,e⟩
     .rw[g1]at X;cases X;have D:c__=u:=by rw[<-g3.es_eq,m]
      subst D;have⟨k1,k2⟩:=g3.span Y;refine⟨_,a,((c.toList.drop (p.o+off*c__)).take (len*c__)).toArray,by rw[e,a__],a?,?_,g?,?_,?_⟩
      .grind[x!,HU,cell?]
      .exact λy Z=>g3.sq y (u! (O? Z))
      exactλy Z=>g3.one y (u! (O? Z))
     subst r;simp only[List.take_zero]at a__⊢;exact⟨_,0,#[],by rw[e];rfl,x? _,by rw[e];grind,.nil,f?,f?⟩
    simp at h
   simp at h
  simp at h
 |_=>simp[dZ]at h
def tJ(z:Array V')(k:Nat):(v! z k).size=k*z.size:=by simp[v!]
def dD.drew(s:dD I μ H w):dD I μ H w.drew:=s.rU Y
def DR(s:dD I μ H w){es B:Nat}{xs ys:S'}{old new i?:Array V'}{el:W'}(h:c6 I μ xs.flatten old.toList)(j:c6 I μ ys.flatten new.toList)
 (g:∀x∈xs,W x=es)(T:∀x∈ys,W x=es)(m:∀x∈xs,∀y∈x,V.one y=U)(b:∀x∈ys,∀y∈x,V.one y=U)
 (D:W xs+W ys<=B)(a:i?.size=(B-(W xs+W ys))*es):
 ∃μ',bP I μ' (.hsl (W H) es 0 (W xs+W ys)) (.slice (M ⟨w.heap.size,0,J⟩) (W xs+W ys) B)/\dD I μ' (H++[.row es (xs++ys)]) (w.alloc (.cells (old++new++i?) el))/\
  Step I μ H w I μ' (H++[.row es (xs++ys)]) (w.alloc (.cells (old++new++i?) el)):=by
 have L:=iw g;have i:=iw T;have u:=h.1;have z:=j.1;simp only[Array.length_toList]at u z;have Q:(old++new++i?).size=B*es:=by simp only[Array.size_append];rw[<-u,<-z,L,i,a,<-o!,<-o!];grind
 have C:(W xs+W ys)*es<=B*es:=b! _ D;rw[o!]at C;have G:iO I μ ⟨w.heap.size,0,es,(old++new++i?).size⟩ (old++new++i?) es (xs++ys):=by refine⟨Y,Y,?_,?_,?_,?_⟩;grind;grind;rw[Q];simp_all[o!];have e:((old++new++i?).toList.drop 0).take (W (xs++ys)*es)=old.toList++new.toList:=(by grind[o!]);rw[e,Z!];exact h.append j
 have⟨S,X⟩:=s.push (ob:=.row es (xs++ys)) (o:=.cells (old++new++i?) el) (p:=⟨w.heap.size,0,es,(old++new++i?).size⟩) Y
  ⟨_,_,el,Mu.iQ _ _ _,s.BJ,pZ _,G.mono (cN.le_refl _) (Mu.tY (s.dom _ (x? _)))⟩
 refine⟨_,?_,S,X⟩;have:=bP.hsl (I:=I) (W H) 0 (W xs+W ys) B _ (Mu.iQ μ (W H) ⟨w.heap.size,0,es,(old++new++i?).size⟩) D g?
 grind
def QE(s:dD I μ H w){id:Nat}{ob l?:Ob}{p p':Pl}{o:Obj}(B:H[id]?=M ob)(T:ob.live=U)(hp:μ id=M p)(i:p'.b=p.b)
 (W:vK I (μ.gR (_m H) p') (iN w p.b o) (_m H) l?)(l:Obj.nf o:=by first|exact wj _ _|exact uO rfl):dD I (μ.gR (_m H) p') (H.set id .dead++[l?]) (iN w p.b o)/\Step I μ H w I (μ.gR (_m H) p') (H.set id .dead++[l?]) (iN w p.b o):=by
 have n:=(ζe.1 B).1;have G:jJ μ H p.b:=⟨id,p,ob,B,T,hp,_l⟩;have c:=s.dom (_m H) (x? _);have u:∀k x,(H.set id .dead++[l?])[k]?=M x->(k=_m H/\x=l?)\/(k≠_m H/\k=id/\x=.dead)\/(k≠_m H/\k≠id/\H[k]?=M x):=by grind
 have L:∀b,jJ (μ.gR (_m H) p') (H.set id .dead++[l?]) b->jJ μ H b:=by rintro b ⟨k,q,x,d,a__,X,rfl⟩;rcases u k x d with⟨rfl,rfl⟩|⟨_,_,rfl⟩|⟨e,Q,h⟩;rw[Mu.iQ]at X;grind;grind[Ob.live];rw[Mu.kA _ _ e]at X;exact⟨k,q,x,h,a__,X,_l⟩
 refine⟨⟨?_,?_,?_,?_,s.gl⟩,⟨cN.le_refl _,Mu.tY c,f?,by rw[z7];grind,?_,?_,_l,⟨_l,_l,x? _⟩,λa _=>Gj (b:=p.b) l (kT o (qg s G)) (λk c=>jl o c) a⟩⟩
 .intro k h;simp at h;rw[Mu.kA _ _ a?]
  exact s.dom k a?
 .intro b x h;refine IC.uS (s.imm b x h) (jl o ?_)
  grind[iI]
 .intro k x h;rcases u k x h with⟨rfl,rfl⟩|⟨_,_,rfl⟩|⟨e,Q,h⟩
  .exact W
  .trivial
  refine(s.obs k x h).mono (cN.le_refl _) (Mu.tY c) (λq Z y=>⟨jl o ?_,iI s ⟨k,q,x,h,y,Z,_l⟩⟩) (λm=>?_)
  .intro Y;exact Q (s.inj k id x ob q p h B y T Z hp Y)
  subst m;rw[Mu.kA _ _ e];exact s.obs k _ h
 .intro k S x A q q' d a__ l1 l2 C D z;rcases u k x d with⟨rfl,rfl⟩|⟨_,_,rfl⟩|⟨e,Q,h⟩
  .rcases u S A a__ with⟨rfl,rfl⟩|⟨_,_,rfl⟩|⟨f,j,g⟩
   .rfl
   .grind[Ob.live]
   rw[Mu.iQ]at C;cases C;rw[Mu.kA _ _ f]at D;exact _e (s.inj S id A ob q' p g B l2 T D hp (by rw[<-z,i])) j
  .grind[Ob.live]
  rcases u S A a__ with⟨rfl,rfl⟩|⟨_,_,rfl⟩|⟨f,j,g⟩
  .rw[Mu.iQ]at D;cases D;rw[Mu.kA _ _ e]at C;exact _e (s.inj k id x ob q p h B l1 T C hp (by rw[z,i])) Q
  .grind[Ob.live]
  rw[Mu.kA _ _ e]at C;rw[Mu.kA _ _ f]at D;exact s.inj k S x A q q' h g l1 l2 C D z
 .intro b _ hn;refine jl o ?_
  grind
 grind
def Gy(f:fG P E){t g e:W'}{d:TD}{D:TypeDesc}(h:P.underlying t=M (.slice e))(W:P.underlying g=M D)(Y:∃j,D=.slice j)(hd:E.tt e=M d)
 (A y:aX Addr)(sl sc B c:Nat)(new:Array V')(k:(x! d.size B (.slice y B c)).run P w=.ok new w)(ty:W'):
 (sl+B<=sc->∀w',(match A with|some b=>(storeCells (b.add (sl*d.size)) new.toList).run P w=.ok () w'|none=>w'=w)->
  (S! #[t,g] ty #[.slice A sl sc,.slice y B c]).run P w=.ok (.slice A (sl+B) sc) w')/\
 (sc<sl+B->sl+B<=2147483648->d.bytes<=4096->0<d.bytes->∀old,(∀T,T.heap=w.heap->(x! d.size sl (.slice A sl sc)).run P T=.ok old T)->
  (∀T,T.heap=w.heap->(x! d.size B (.slice y B c)).run P T=.ok new T)->
  ∃G i?,sl+B<=G/\i?.size=(G-(sl+B))*d.size/\
   (S! #[t,g] ty #[.slice A sl sc,.slice y B c]).run P w=.ok (.slice (M ⟨w.heap.size,0,J⟩) (sl+B) G) (w.drew.alloc (.cells (old++new++i?) e))):=by
 have⟨i,z,hi,Z,m,n,L,o,_⟩:=(f.ty hd).info;have u:∀w,(zeroValue e).run P w=.ok z w:=λw=>by simp_all[zeroValue,rG]
 have a__:z.cells.size=d.size:=by have:=(L (λ_=>J) (λ_=>J)).1;grind
 obtain⟨j,rfl⟩:=Y;constructor
 .intro Q w' ai;unfold S!;simp only[z?,List.getElem?_toArray,List.getElem?_cons_zero,List.getElem?_cons_succ,ey h,ey W,y?,(f.ty hd).mR,L?,lenOf,v?,_a,Bool.not_false,N',L' Q,k]
  cases A with
  |none=>simp_all|some b=>simp_all
 intro S p q r old a C;have X:=nextslicecap_le S;have l:¬(W! (sl+B) sc*i.bytes>2 ^ 48):=by have:W! (sl+B) sc*i.bytes<=(2*2147483648)*4096:=u0 a? a?;omega
 have I:¬(sl+B<=sc):=a?
 refine⟨(Q! (sl+B) sc e).cut (w.tape w.drawn (Q! (sl+B) sc e)),v! z.cells (((Q! (sl+B) sc e).cut (w.tape w.drawn (Q! (sl+B) sc e)))-(sl+B)),?_,?_,?_⟩
 .simp[Question.cut]
 .rw[tJ,a__]
 unfold S!;simp only[z?,List.getElem?_toArray,List.getElem?_cons_zero,List.getElem?_cons_succ,ey h,ey W,y?,(f.ty hd).mR,L?,lenOf,v?,_a,Bool.not_false,N',M' I,rG hi];rw[M' g?]
 simp only[z?,rG hi,M' l,run_choose,forced,v?,_a,y?,run_askRoom,u,newRow,run_newObj,L?];rw[a {w with drawn:=w.drawn+1} rfl];simp only[y?];rw[C {w with drawn:=w.drawn+1} rfl];rfl
def wrap_small{m:Nat}(h:m<=2147483648):i64.wrap (m:Int)=m:=by grind[w?,IntKind.bits]
def IV(T:fG P E){t A e:W'}{d:TD}{kk k:T2}(Y:P.underlying t=M (.slice e))(G:P.underlying A=M (.int kk))(hd:E.tt e=M d)(ty:W')(m:Nat)(D:m<=2147483648):
 (m=0->(S! #[t,A] ty #[.slice J 0 0,.int k m]).run P w=.ok (.slice J 0 0) w)/\
 (0<m->d.bytes<=4096->0<d.bytes->∃B z i?,m<=B/\i?.size=(B-m)*d.size/\c6 I μ d.zero z.toList/\
  (S! #[t,A] ty #[.slice J 0 0,.int k m]).run P w=.ok (.slice (M ⟨w.heap.size,0,J⟩) m B) (w.drew.alloc (.cells (#[]++v! z m++i?) e))):=by
 have⟨i,z,hi,X,g,j,C,l,_⟩:=(T.ty hd).info;have u:∀w,(zeroValue e).run P w=.ok z w:=λw=>by simp_all[zeroValue,rG]
 have a__:z.cells.size=d.size:=by have:=(C (λ_=>J) (λ_=>J)).1;grind
 have a:=wrap_small D;constructor
 .rintro rfl;unfold S!;have Q:i64.wrap 0=0:=by omega
  simp[ey Y,ey G,(T.ty hd).mR,asInt,rG hi,ou,Q]
 intro Z n o;have S:W! (0+m) 0<=2*(0+m):=nextslicecap_le a?
 have b:¬(W! (0+m) 0*i.bytes>2 ^ 48):=by have:W! (0+m) 0*i.bytes<=(2*2147483648)*4096:=u0 a? a?;omega
 have c:¬(m*(i.bytes:Int)>2 ^ 48):=by have p:m*i.bytes<=2147483648*4096:=u0 D a?;grind
 have f:¬((0+m:Nat)>i64.max):=by have:i64.max=9223372036854775807:=(by rfl);omega
 have y:¬(0+m<=0):=a?
 have L:¬((m:Int)<0):=a?
 refine⟨(Q! (0+m) 0 e).cut (w.tape w.drawn (Q! (0+m) 0 e)),z.cells,v! z.cells (((Q! (0+m) 0 e).cut (w.tape w.drawn (Q! (0+m) 0 e)))-(0+m)),?_,?_,C _ _,?_⟩
 .simp[Question.cut]
 .rw[tJ,a__,Nat.zero_add]
 unfold S!;have W:(if m*d.size=0 then pure #[]else do pure (v! (<-zeroValue e).cells m))=(do pure (v! (<-zeroValue e).cells m))\/(m*d.size=0/\v! z.cells m=#[]):=by by_cases h:m*d.size=0;all_goals simp_all[Array.eq_empty_of_size_eq_zero,tJ]
 simp only[z?,List.getElem?_toArray,List.getElem?_cons_zero,List.getElem?_cons_succ,ey Y,ey G,y?,(T.ty hd).mR,L?,N',asInt,ou,a,M' L,rG hi,M' c,Int.toNat_natCast,M' y,_a];rw[M' (λh=>f h.1)]
 simp only[z?,rG hi,M' b,run_choose,forced,y?,u,newRow,x!];rcases W with h|⟨h,q⟩
 all_goals simp_all
def RG(g:fG P E)(r:fA I μ n F a.tmps)(s:dD I μ H w){args:Array UV}{T:Array W'}{x:V}{ty:W'}
 (h:cT E F H (.call {callee:=.builtin .append,args,argTypes:=T})=M (x,H')):
 EP P I μ H w (do let d<-resolve a.eval {callee:=.builtin .append,args,argTypes:=T} ty;invoke d.target d.args) x H':=by
 simp[cT]at h;split at h
 .rename_i t t' vs vx aQ ae;obtain⟨us,ux,Q,i,j⟩:=(qS r ae).two;split at h
  .rename_i e e' hk af;obtain⟨d0,ah,ai⟩:=gV hk;obtain⟨e__,R,h2,h3⟩:=(g.ty ah).ey;rw[ai]at h2;have:=lE h2;subst this;obtain⟨d1,kU,S⟩:=gV af;obtain⟨aj,g1,g2,g3⟩:=(g.ty kU).ey;rw[S]at g2;have:=lE g2;subst this;have C:∀v w',(S! #[t,t'] ty #[us,ux]).run P w=.ok v w'->
    (do let d<-resolve a.eval {callee:=.builtin .append,args,argTypes:=T} ty;invoke d.target d.args).run P w=.ok (.value v) w':=by
    simp[resolve,z?,L?,y?,invoke,builtin];rw[vh Q];have ea:T=#[t,t']:=g?
    simp_all
   split at h
   .rename_i d hd;split at h
    .
     rename_i xs B ak;obtain⟨ad,f,arr,e1,e2,e3,e4,_⟩:=CK (P:=P) s i B;obtain⟨al,c__,D,a__,f2,A,l,_⟩:=CK s j ak;simp at a__ A;have aR:D=#[]:=by have:=l.1;grind
     have A:=A w rfl;rw[a__]at A;have key:=(Gy g R g1 ⟨_,rfl⟩ hd ad al xs.length f 0 c__ D A ty).1 a? w
      (by
       cases ad with
       |none=>rfl|some b=>simp_all[storeCells])
     rw[<-a__,<-e1,f4,<-e1]at key;have am:x=vs/\H'=H:=by grind
     obtain⟨rfl,rfl⟩:=am;exact⟨_,us,w,μ,C _ _ key,.inl rfl,i,s,.refl _ _ _ _⟩
    .rename_i xs ys aT B ak;obtain⟨ad,f,arr,e1,e2,e3,e4,e5,e6⟩:=CK s i B;obtain⟨al,c__,D,a__,f2,A,l,f5,f6⟩:=CK s j ak;split at h
     .rename_i hc;obtain⟨av,an,ao⟩:=hc;have aD:0<ys.length:=by
       grind
      have key:=Gy g R g1 ⟨_,rfl⟩ hd ad al xs.length f ys.length c__ D (by rw[<-a__];exact A w rfl) ty
      rw[<-a__,<-e1]at key;have L:f<xs.length+ys.length->∃G i?,xs.length+ys.length<=G/\i?.size=(G-(xs.length+ys.length))*d.size/\
       (S! #[t,t'] ty #[us,ux]).run P w=.ok (.slice (M ⟨w.heap.size,0,J⟩) (xs.length+ys.length) G) (w.drew.alloc (.cells (arr++D++i?) e)):=by
       intro ap;refine key.2 ap av an ao arr ?_ ?_
       .intro w2 aE;exact e3 w2 aE
       grind
      simp at h;obtain⟨H1,b__,rfl,rfl⟩:=h
      cases vs with
      |dS=>
       simp[iU]at b__;subst b__;simp[dZ]at B;subst B;obtain⟨aF,q⟩:=i.vj;have aw:f=0:=by rw[q]at e1;cases e1;rfl
       obtain⟨G,i?,k1,k2,k3⟩:=L (by simp;omega)
       obtain⟨μ',m1,o,K⟩:=DR s.drew e4 l e5 f5 e6 f6 k1 k2;refine⟨_,_,_,μ',C _ _ k3,.inl rfl,m1,o,?_⟩;exact Step.trans s.drew (Step.rU rfl rfl ⟨rfl,rfl,a8 _⟩) K
      |bN=>
       simp[iU]at b__;subst b__;simp[dZ]at B;subst B;have q:=i.oB;have aw:f=0:=by rw[q]at e1;cases e1;rfl
       obtain⟨G,i?,k1,k2,k3⟩:=L (by simp;omega)
       obtain⟨μ',m1,o,K⟩:=DR s.drew e4 l e5 f5 e6 f6 k1 k2;refine⟨_,_,_,μ',C _ _ k3,.inl rfl,m1,o,?_⟩;exact Step.trans s.drew (Step.rU rfl rfl ⟨rfl,rfl,a8 _⟩) K
      |hsl id es off len=>
       simp[iU]at b__;split at b__
       .rename_i u aG Z;simp at b__;subst b__;have ax:(H[id]?).bind Ob.rows=M (u,aG):=by rw[Z];rfl
        have aS:=B;simp only[dZ]at B;split at B
        .rename_i aH;rw[ax]at B;simp only at B;split at B
         .rename_i aI;simp at B;obtain⟨p,c,ay,q1,q2,q3,q4⟩:=s.obs id _ Z;have W:xs.length=len:=by rw[<-B];simp;omega
          have aq:f<xs.length+ys.length->EP P I μ H w (do let d<-resolve a.eval {callee:=.builtin .append,args,argTypes:=T} ty;invoke d.target d.args)
           (.hsl H.length d.size 0 (xs.length+ys.length)) (H.set id .dead++[.row d.size (xs++ys)]):=by
           intro ap;obtain⟨G,i?,k1,k2,k3⟩:=L ap;obtain⟨s1,s2⟩:=s.drew.kill Z;obtain⟨μ',m1,o,K⟩:=DR s1 e4 l e5 f5 e6 f6 k1 k2;rw[List.length_set]at m1;exact⟨_,_,_,μ',C _ _ k3,.inl rfl,m1,o,Step.trans s.drew (Step.rU rfl rfl ⟨rfl,rfl,a8 _⟩) (Step.trans s1 s2 K)⟩
          rcases i.oA with⟨p',d__,hm,aJ,aU,aK,ee⟩|⟨h0,aF,ee⟩
          .rw[q1]at hm;cases hm;have ar:d__=f/\ad=M ⟨p.b,p.o+off*es,J⟩:=by rw[ee]at e1;grind
           obtain⟨rfl,rfl⟩:=ar
           by_cases ab:xs.length+ys.length<=d__
           .have aA:u=es:=by rw[<-q4.es_eq,aJ]
            subst aA;have X:=aH;obtain⟨r1,r2⟩:=q4.span aI;rw[B]at r1;have aa:=l.1;simp only[Array.length_toList]at aa;rw[iw f5]at aa;have aL:(len+ys.length)*u<=d__*u:=b! _ a?
            rw[o!]at aL;rw[o!]at aK;have aM:=q4.sz;rw[<-X]at aa;have au:p.o+off*u+len*u+0+D.toList.length<=c.size:=by simp;omega
            obtain⟨c',u1,u2⟩:=yb D.toList 0 w c q3 (l.Vf (λx j=>by
             grind[m6])) au
            have aB:c'.size=c.size:=by have:=_f length u2;grind
            have aC:=key.1 ab (iN w p.b (.cells c' ay)) (by
             simp[sH,W];rw[<-X];exact u1)
            have Y:iO I μ ⟨p.b,p.o+off*u,u,p.sz⟩ c' u (xs++ys):=by refine⟨rfl,by rw[aB];exact aM,?_,?_,?_,?_⟩;grind;grind;rw[aB,ζi,W,o!];grind;have e:(c'.toList.drop (p.o+off*u)).take ((xs++ys).length*u)=(c.toList.drop (p.o+off*u)).take (len*u)++D.toList:=(by rw[u2,ζi,W,o!,aa];simp only[f4];have aN:(List.take (p.o+off*u+len*u) c.toList).length=p.o+off*u+len*u:=(by simp;omega);rw[List.append_assoc,List.drop_append_of_le_length (by rw[aN];omega),g',show p.o+off*u+len*u-(p.o+off*u)=len*u by omega];grind[List.take_left']);rw[e,Z!];exact r1.append l
            obtain⟨s1,s2⟩:=QE (l?:=.row u (xs++ys)) (p':=⟨p.b,p.o+off*u,u,p.sz⟩) s Z rfl q1 rfl
             ⟨_,c',ay,Mu.iQ _ _ _,q2,kT _ (Array.getElem?_eq_some_iff.1 q3).1,Y.mono (cN.le_refl _) (Mu.tY (s.dom _ (x? _)))⟩
            rw[<-X];refine⟨_,_,_,_,C _ _ aC,.inl rfl,?_,s1,s2⟩;have:=bP.hsl (I:=I) H.length 0 (xs.length+ys.length) d__ _ (Mu.iQ μ H.length ⟨p.b,p.o+off*u,u,p.sz⟩) ab (by simp;omega)
            grind
           grind
          grind
         grind
        grind
       grind
      |_=>simp[iU]at b__
     grind
    grind
   grind
  .
   rename_i e kk hk af;obtain⟨d0,ah,ai⟩:=gV hk;obtain⟨e__,R,h2,h3⟩:=(g.ty ah).ey;rw[ai]at h2;have:=lE h2;subst this;obtain⟨d1,kU,S⟩:=gV af;obtain⟨aj,g1,g2,g3⟩:=(g.ty kU).ey;rw[S]at g2;have:=Ht g2;subst this;have C:∀v w',(S! #[t,t'] ty #[us,ux]).run P w=.ok v w'->
    (do let d<-resolve a.eval {callee:=.builtin .append,args,argTypes:=T} ty;invoke d.target d.args).run P w=.ok (.value v) w':=by
    intro v w' hv;simp[resolve,z?,L?,y?,invoke,builtin];rw[vh Q];have ea:T=#[t,t']:=g?
    rw[ea,hv];rfl
   split at h
   .rename_i d hd;unfold mkApp at h;split at h
    .rename_i k m;have q:=i.oB;subst q;have q:=j.gX;subst q;split at h
     .rename_i h0;subst h0;cases h;have key:=(IV (μ:=μ) (I:=I) (w:=w) (k:=k) g R g1 hd ty 0 a?).1 rfl
      exact⟨_,_,w,μ,C _ _ key,.inl rfl,i,s,.refl _ _ _ _⟩
     split at h
     .rename_i hc;obtain⟨aO,av,an,ao⟩:=hc;cases h;obtain⟨m,rfl⟩:=Int.eq_ofNat_of_zero_le (Int.le_of_lt aO);obtain⟨G,z,i?,k1,k2,k3,k4⟩:=(IV g R g1 hd ty m a?).2 a? an ao
      have aP:=(g.ty hd).info.choose_spec.choose_spec.2.2.2.2.2.1;have aV:=(g.ty hd).info.choose_spec.choose_spec.2.2.2.2.2.2.1;have hu:∀x∈replicate m d.zero,x.length=d.size:=λx j=>by rw[X? j];exact aP
      have ho:∀x∈replicate m d.zero,∀y∈x,V.one y=U:=λx j y hy=>by rw[X? j]at hy;grind
      obtain⟨μ',m1,o,K⟩:=DR (xs:=[]) (ys:=replicate m d.zero) (old:=#[]) (new:=v! z m) (i?:=i?) s.drew .nil (Ag k3 m) f? hu f? ho (by simpa using k1) g?
      simp at m1 o K;refine⟨_,_,_,μ',C _ _ k4,.inl rfl,g?,by simpa using o,?_⟩
      exact Step.trans s.drew (Step.rU rfl rfl ⟨rfl,rfl,a8 _⟩) g?
     cases h
    cases h
   cases h
  grind
 grind
def CP{es:Nat}{xs:S'}(a:∀x∈xs,W x=es)(k:Nat)(b:k<=W xs):(xs.take k).flatten=xs.flatten.take (k*es)/\(xs.drop k).flatten=xs.flatten.drop (k*es):=by grind[e!,iw]
theorem Vm (hE:fG P E) (r:fA I μ n F a.tmps) (s:dD I μ H w) {args:Array Operand} {D:Array TypeId} {x:V} {ty:TypeId}
 (h:cT E F H (.call { callee:=.builtin .clear,args,argTypes:=D })=some (x,H')) :
 EP P I μ H w (do let d <-resolve a.eval { callee:=.builtin .clear,args,argTypes:=D } ty;invoke d.target d.args) x H':=by
 simp[cT]at h;split at h
 .rename_i t v ab L;obtain⟨u,hu,hr⟩:=(qS r L).one;split at h
  .rename_i e hk;obtain⟨d0,ae,af⟩:=gV hk;obtain⟨desc,h1,h2,h3⟩:=(hE.ty ae).ey;rw[af]at h2;have:=lE h2;split at h
   .rename_i d hd;obtain⟨i,z,hi,an,ap,hz,S,ah,aq,_⟩:=(hE.ty hd).info;have ai:∀w,(zeroValue e).run P w=.ok z w:=λw=>by simp_all[zeroValue,rG]
    have aj:z.cells.size=d.size:=by have:=(S (λ_=>none) (λ_=>none)).1;grind
    have g:∀v w',(Builtin.clear_ D ty #[u]).run P w=.ok v w' ->
     (do let d <-resolve a.eval { callee:=.builtin .clear,args,argTypes:=D } ty;invoke d.target d.args).run P w=.ok (.value v) w':=by
     grind[resolve,Sem.run_bind,Sem.run_pure,Result.andThen_ok,invoke,builtin,vh]
    have T:∀j cap,u=.slice j 0 cap->EP P I μ H w (do let d <-resolve a.eval { callee:=.builtin .clear,args,argTypes:=D } ty;invoke d.target d.args) .undef H:=λj cap q=>by
     subst q;refine⟨_,.tuple #[],w,μ,g (.tuple #[]) w ?_,.inl rfl,bP.undef _ _,s,.refl _ _ _ _⟩;unfold Builtin.clear_;cases j <;> simp[ab,h3]
    unfold Hl at h;split at h
    .cases h;exact T _ _ hr.oB
    .obtain⟨j,q⟩:=hr.vj;grind
    .rename_i id es off len;split at h
     .rename_i m;subst m;split at h
      .rcases hr.oA with⟨p,cap,_,_,_,_,q⟩|⟨_,j,q⟩
       all_goals grind
      rename_i len;split at h
      .rename_i ak Q W;split at h
       .rename_i X;cases h;obtain⟨p,c,el,hp,hI,C,B⟩:=s.obs id _ W;rcases hr.oA with⟨q,cap,hq,al,ao,am,rfl⟩|⟨h0,_⟩
        .rw[hp]at hq;cases hq;have m:ak=d.size:=by rw[<-B.es_eq,al]
         subst m;have ar:(Builtin.zeroCells z.cells (len+1)).size=(len+1)*d.size:=by rw[tJ,aj]
         have au:=B.room;have Y:(off+(len+1))*d.size<=Q.length*d.size:=Nat.mul_le_mul_right _ X;rw[Nat.add_mul]at Y;have G:=Ag   (S I μ) (len+1);have av:∀x∈List.replicate (len+1) d.zero,x.length=d.size:=λx hx=>by rw[List.eq_of_mem_replicate hx];exact ah
         have aw:∀x∈List.replicate (len+1) d.zero,∀y∈x,V.one y=true:=λx hx y hy=>by rw[List.eq_of_mem_replicate hx]at hy;grind
         obtain⟨c',u1,u2⟩:=yb (P:=P) (o:=p.o+off*d.size) (Builtin.zeroCells z.cells (len+1)).toList 0 w c C (c6.Vf G (λx hx=>by
          grind[List.mem_flatten])) g?
         rw[Nat.add_zero]at u2;have Z:c'.size=c.size:=by
          have:=_f List.length u2
          grind
         obtain⟨s2,st2⟩:=s.write  (l?:=.row d.size (Q.take off++List.replicate (len+1) d.zero++Q.drop (off+(len+1)))) W rfl hp
          ⟨p,c',el,hp,hI,kT _ (Array.getElem?_eq_some_iff.1 C).1,by
           have aa:(Q.take off++List.replicate (len+1) d.zero++Q.drop (off+(len+1))).length=Q.length:=by simp;omega
           refine⟨B.es_eq,by rw[Z];exact B.sz,?_,?_,by rw[aa,Z];grind,?_⟩
           .intro x hx;rcases List.mem_append.1 hx with hx|hx
            .rcases List.mem_append.1 hx with hx|hx
             .exact B.sq x (List.mem_of_mem_take hx)
             grind
            exact B.sq x (List.mem_of_mem_drop hx)
           .intro x hx;rcases List.mem_append.1 hx with hx|hx
            .rcases List.mem_append.1 hx with hx|hx
             .exact B.one x (List.mem_of_mem_take hx)
             grind
            exact B.one x (List.mem_of_mem_drop hx)
           rw[aa,u2];have hL:=ED c.toList (Builtin.zeroCells z.cells (len+1)).toList p.o (Q.length*d.size) (off*d.size) (by simp;omega) g?
           rw[hL,List.flatten_append,List.flatten_append,(CP B.sq off a?).1,(CP B.sq _ X).2]
           have e:off*d.size+(Builtin.zeroCells z.cells (len+1)).toList.length=(off+(len+1))*d.size:=by grind
           rw[e];exact((B.rel.take _).append G).append (B.rel.drop _)⟩
         refine⟨_,.tuple #[],_,μ,g (.tuple #[]) (iN w p.b (.cells c' el)) ?_,.inl rfl,bP.undef _ _,s2,st2⟩;simp_all[Builtin.clear_]
        simp_all
       simp_all
      simp_all
     simp_all
    simp_all
   simp_all
  simp_all
 simp_all
theorem ac6(s t:U')(h:(s==t)=U):s=t:=by
 cases s with|mk a=>cases t with|mk b=>
 have u:(a==b)=U:=h;grind
inductive BE(P:Program)(E:Env)(t:TypeId):V->Value->Prop
 |int(k:IntKind)(m:Int)(h:P.underlying t=some (.int k)):BE P E t (.int k m) (.int k m)|str(s:ByteArray)(h:P.underlying t=some .string):BE P E t (.str s) (.string s)|agg(m:Nat)(cs:List V)(l:List Int)(h:zA P t m)(hl:l.length=m)(hi:jV cs=some l):BE P E t (.agg cs) (.agg (ic l))
def R8(B:fG P E){t:W'}{k:V}{v:V'}(h:DA E t k=U)(b:bP I μ k v):BE P E t k v:=by
 unfold DA at h;split at h;rename_i k1 k2 m c;have⟨d,hd,u⟩:=gV c;have⟨a,f,w,D⟩:=(B.ty hd).ey;rw[u]at w;have:=Ht w;subst this;have e:k1=k2:=by grind
 subst e;rw[b.gX];exact .int _ _ f;next s c=>have⟨d,hd,u⟩:=gV c;have⟨a,f,w,D⟩:=(B.ty hd).ey;rw[u]at w;have:=Cg w;subst this;rw[b.wF];exact .str _ f
 rename_i cs _;split at h;next m z=>simp[isSome_iff_exists]at h;have⟨G,l,hi⟩:=h;obtain⟨g,rfl,C⟩:=b.kf;obtain⟨rfl,e⟩:=tB hi C;exact .agg m cs l (B.eqN _ _ z) a? hi
 grind;grind
theorem RA(d:Nat)(e:X'){t:W'}{k:T2}{m:Int}(h:P.underlying t=M (.int k)):(y! e (d+1) t (.int k m)).run P w=.ok () w:=by simp[y!,z?,ey h,y?,L?]
theorem R7(d:Nat)(e:X'){t:W'}{m:U'}(h:P.underlying t=M .string):(y! e (d+1) t (.string m)).run P w=.ok () w:=by simp[y!,z?,ey h,y?,L?]
def Bm{t:W'}{k:V}{v:V'}(h:BE P E t k v)(e:X'):(y! e 10000 t v).run P w=.ok () w:=by cases h with|int k m h=>grind[RA]|str s h=>grind[R7]|agg m cs l h u hi=>exact h.check w e l u
def oD(I:cN)(μ:Mu)(es:aY MapEntry)(i:Nat):aX (Nat×V)->aX (Nat×V')->Prop
 |none,J=>True|some (j,x),M (B,v)=>j=B/\bP I μ x v/\i<=j/\∃e,es[j-i]?=M e/\e.val=v|_,_=>False
def Gv{d:TypeDesc}{k:V}{v:V'}(hd:(∃kk m,d=.int kk/\k=.int kk m/\v=.int kk m)\/(∃s,d=.string/\k=.str s/\v=.string s)):
 ∀(B:aY (V×V))(es:aY MapEntry)(i:Nat)(r:aX (Nat×V)),_m B=_m es->(∀(j:Nat)q e,B[j]?=M q->es[j]?=M e->bP I μ q.1 e.key/\bP I μ q.2 e.val)->
 kj k B i=M r->∃D,n8 d v es i=M D/\oD I μ es i r D/\∀j x,r=M (j,x)->∃e,es[j-i]?=M e/\e.key=v:=by
 intro B
 induction B with
 |nil=>
  intro es i r b__ _ h
  cases es with
  |nil=>simp only[kj,ζa]at h;subst h;exact⟨J,rfl,trivial,f?⟩|cons _ _=>simp_all
 |cons q B Q=>
  intro es i r b__ c h
  cases es with
  |nil=>simp_all|cons e es=>
   have⟨C,S⟩:=q;have⟨g1,g2⟩:=c 0 (C,S) e _l _l;simp only[kj]at h;have u:∀b,z_ k C=M b->H3 d v e.key=M b/\(b=U->e.key=v):=by
    intro b w;rcases hd with⟨kk,m,rfl,rfl,rfl⟩|⟨s,rfl,rfl,rfl⟩
    .cases C<;>simp only[z_]at w<;>(try grind);rename_i k2 Y;split at w;rename_i G;simp only[ζa]at w;subst w;subst G;rw[g1.gX];grind[H3];grind
    cases C<;>simp only[z_]at w<;>(try (simp at w;done));simp only[ζa]at w;subst w;rw[g1.wF];grind[H3,ac6]
   split at h
   .rename_i hk;have⟨f,Z⟩:=u U hk;simp only[ζa]at h;subst h;refine⟨M (i,e.val),by grind[n8],⟨_l,g2,x? _,e,f?,_l⟩,?_⟩
    grind
   .rename_i hk;have⟨f,_⟩:=u O hk;have⟨D,p1,p2,p3⟩:=Q es (i+1) r g? (λj a b x y=>c (j+1) a b (by simpa using x) (by simpa using y)) h
    refine⟨D,by grind[n8],?_,?_⟩
    .cases r with
     |none=>all_goals grind[oD]|some z=>
      cases D with
      |none=>grind[oD]|some T=>have⟨a__,W,g,A,l,X⟩:=p2;exact⟨a__,W,a?,A,by rw[show z.1-i=(z.1-(i+1))+1 by omega];grind,X⟩
    intro j x L;have⟨A,n,o⟩:=p3 j x L;subst L;have:i+1<=j:=by cases D with|none=>grind[oD]|some T=>exact p2.2.2.1
    grind
   grind
def Pd{t:W'}{m:Nat}(T:zA P t m){cs:So}{l:Rd}(b__:_m l=m)(hi:jV cs=M l):
 ∀(B:aY (V×V))(es:aY MapEntry)(i:Nat)(r:aX (Nat×V)),_m B=_m es->(∀(j:Nat)q e,B[j]?=M q->es[j]?=M e->bP I μ q.1 e.key/\bP I μ q.2 e.val)->
 kj (.agg cs) B i=M r->∃D,(i5 t (.agg (ic l)) es i).run P w=.ok D w/\oD I μ es i r D/\∀j x,r=M (j,x)->∃e,es[j-i]?=M e/\e.key=.agg (ic l):=by
 intro B
 induction B with
 |nil=>
  intro es i r C _ h
  cases es with
  |nil=>simp[kj]at h;subst h;exact⟨J,rfl,trivial,f?⟩|cons _ _=>simp_all
 |cons q B W=>
  intro es i r C c h
  cases es with
  |nil=>simp_all|cons e es=>
   have⟨G,X⟩:=q;have⟨g1,g2⟩:=c 0 (G,X) e _l _l;simp[kj]at h;have u:∀b,z_ (.agg cs) G=M b->(P! t (.agg (ic l)) e.key).run P w=.ok b w/\(b=U->e.key=.agg (ic l)):=by intro b a__;cases G<;>simp[z_]at a__<;>(try (simp at a__));obtain⟨n,Y,c__,x2,o,rfl⟩:=Av a__;rw[hi]at c__;cases c__;have⟨p,ev,L⟩:=g1.kf;obtain⟨rfl,e2⟩:=tB x2 L;rw[ev];refine⟨T.key w l Y b__ a?,?_⟩;grind
   split at h
   .rename_i hk;have⟨d,s⟩:=u U hk;simp at h;subst h;refine⟨M (i,e.val),by simp[i5,d],⟨_l,g2,x? _,e,f?,_l⟩,?_⟩
    grind
   .rename_i hk;have⟨d,_⟩:=u O hk;have⟨D,p1,p2,p3⟩:=W es (i+1) r g? (λj a b x y=>c (j+1) a b g? (by simpa using y)) h
    refine⟨D,by simp_all[i5],?_,?_⟩
    .cases r with
     |none=>all_goals grind[oD]|some z=>
      cases D with
      |none=>grind[oD]|some Z=>have⟨f,g,v,Q,A,k⟩:=p2;exact⟨f,g,a?,Q,by rw[show z.1-i=(z.1-(i+1))+1 by omega];grind,k⟩
    intro j x S;have⟨Q,E,F⟩:=p3 j x S;subst S;have:=by cases D with|none=>grind[oD]|some Z=>exact p2.2.2.1
    grind
   grind
def yN{t:W'}{k:V}{v:V'}(h:BE P E t k v){B:aY (V×V)}{es:Array MapEntry}(a:yz I μ B es){r:aX (Nat×V)}(G:kj k B 0=M r):
 ∃D,(n7 t v es.toList).run P w=.ok D w/\oD I μ es.toList 0 r D/\∀j x,r=M (j,x)->∃e,es[j]?=M e/\e.key=v:=by
 have u:=by simpa using a.1
 have z:∀(j:Nat)q e,B[j]?=M q->es.toList[j]?=M e->bP I μ q.1 e.key/\bP I μ q.2 e.val:=λj q e x y=>a.2 j q e x g?
 have fin:∀(D:aX (Nat×V')),(∀j x,r=M (j,x)->∃e,es.toList[j-0]?=M e/\e.key=v)->∀j x,r=M (j,x)->∃e,es[j]?=M e/\e.key=v:=by grind
 cases h with
 |int kk m h=>have⟨D,g1,g2,g3⟩:=Gv (.inl ⟨kk,m,Y,Y,Y⟩) B es.toList 0 r u z G;simp_all[n7,ey]|str s h=>have⟨D,g1,g2,g3⟩:=Gv (.inr ⟨s,Y,Y,Y⟩) B es.toList 0 r u z G;simp_all[n7,ey]|agg m cs l h g hi=>
  have⟨D,g1,g2,g3⟩:=Pd (w:=w) h g hi B es.toList 0 r u z G;have⟨d,hd,L⟩:=h.kind;refine⟨D,?_,g2,fin D g3⟩;simp[n7,z?,ey hd,y?]
  cases C:es.toList with
  |nil=>
   rw[C]at g1
   grind[n8,i5]
  |cons e i?=>simp_all[n8,H3]
def Ck{b:Nat}{o:Obj}(h:w.heap[b]?=M o)(B:∀c e f,o≠.cells c e f):(getObj b).run P w=.ok o w:=by grind[getObj,Sem.run]
def Vp(s:dD I μ H w){m:V}{v:V'}(d:bP I μ m v){B:aY (V×V)}(h:pR H m=M B):
 (v=.map J/\B=[])\/∃b es a,v=.map (M b)/\w.heap[b]?=M (.map es a)/\yz I μ B es:=by
 cases m with
 |iZ=>simp only[pR,ζa]at h;exact .inl ⟨d.UY,h.symm⟩|fmap k=>
  simp[pR]at h;subst h
  cases d with
  |c _ _ d=>cases d with
   |fmap _ b es C D hk u=>have⟨f,g⟩:=s.imm _ _ C;exact .inr ⟨b,es,f,rfl,g,D,λj q e x y=>⟨.c _ _ (hk j q e x y),.c _ _ (u j q e x y)⟩⟩
 |hmap id=>
  simp[pR]at h;split at h
  .rename_i G z;simp at h;have⟨p,es,f,g1,g2,g3,g4⟩:=s.obs id _ z;have⟨q,i,e⟩:=d.EF
   grind
  grind
 |_=>simp[pR]at h
def Ta(T:fG P E)(r:fA I μ n F a.tmps)(s:dD I μ H w){t:W'}{m k:UV}{ok:X'}{x:V}(h:eM E F H (.lookup t m k ok)=M x):
 ∃v,(Instr.lookup t (a.eval m) (a.eval k) ok).run P w=.ok v w/\bP I μ x v:=by
 simp[eM]at h;split at h
 .rename_i kt et mv kv hk hm b__;obtain⟨d,hd,Q⟩:=gV hk;obtain⟨c,l,Z,e⟩:=(T.ty hd).ey;rw[Q]at Z;have:=C7 Z;subst this;split at h
  .rename_i de S a__ A;split at h
   .rename_i W;have D:=R8 T W (dR r b__);obtain⟨z,f,X⟩:=(T.ty a__).Yh;obtain⟨es,L,G⟩:∃es:Array MapEntry,yz I μ S es/\∀u,(n7 kt (a.eval k) es.toList).run P w=.ok u w->(Instr.lookup t (a.eval m) (a.eval k) ok).run P w=
     .ok (if ok then .tuple #[(u.map (·.2)).getD z,.bool u.isSome]else(u.map (·.2)).getD z) w:=by
     rcases Vp s (dR r hm) A with⟨e1,rfl⟩|⟨b,es,o,e1,e2,e3⟩
     .refine⟨#[],⟨rfl,f?⟩,λu C=>?_⟩
      unfold Instr.lookup;rw[e1];simp[z?,e,y?,L?,Bm D,C];cases u<;>cases ok<;>simp[f]
     refine⟨es,e3,λu C=>?_⟩
     unfold Instr.lookup;rw[e1];simp[z?,e,y?,L?,Ck e2 f?,Bm D,C]
     cases u<;>cases ok<;>simp[f]
    split at h
    .rename_i j y _ B;simp at h;obtain⟨u,Y,g,_⟩:=yN D L B
     cases u with
     |none=>grind[oD]|some q=>
      obtain⟨_,i,_⟩:=g;refine⟨_,G _ Y,?_⟩;subst h
      cases ok with
      |true=>exact .WO (.cons i (.cons (.c _ _ (.bool _)) .nil))|false=>exact i
    .rename_i y B hy;simp at h;obtain⟨u,Y,g,_⟩:=yN D L B
     cases u with
     |some q=>grind[oD]|none=>
      refine⟨_,G _ Y,?_⟩;subst h
      cases ok with
      |true=>exact .WO (.cons (X _ _ _ hy) (.cons (.c _ _ (.bool _)) .nil))|false=>grind
    grind
   grind
  grind
 grind
theorem NI(l:Rd)(d:Nat):e8 (d+2) (.agg (ic l)) (.agg (ic l))=U:=by simp only[e8,beq_self_eq_true,Bool.true_and,G?];intro p u;obtain⟨j,w,rfl⟩:=List.mem_iff_getElem.1 u;simp[ic,e8]
def VK{t:W'}{k:V}{v:V'}(h:BE P E t k v):(Instr.keyThatStays v v).run P w=.ok v w:=by
 have:e8 10000 v v=U:=by cases h with|int k m h=>simp[e8]|str s h=>simp[e8];exact(by cases s;exact beq_self_eq_true (α:=Array UInt8) _)|agg m cs l h u hi=>grind[NI]
 simp_all[Instr.keyThatStays]
def JE{b:Nat}{es:Array MapEntry}{a:Nat}(o:Obj)(h:w.heap[b]?=M (.map es a)):(setObj b o).run P w=.ok () (iN w b o):=by simp only[setObj,Sem.run,h];rfl
def Dr(A:fG P E)(r:fA I μ n F a.tmps)(s:dD I μ H w){t:W'}{m k y:UV}{x:V}(h:cT E F H (.mapUpdate t m k y)=M (x,H')):
 EP P I μ H w (do Instr.mapUpdate t (a.eval m) (a.eval k) (a.eval y);pure .skip) x H':=by
 simp only[cT]at h;split at h
 .rename_i kt et id X Y hk hm T hy;have⟨d,hd,Z⟩:=gV hk;have⟨K,b,D,a__⟩:=(A.ty hd).ey;rw[Z]at D;have:=C7 D;subst this;split at h
  .rename_i C S;split at h
   .rename_i aa;simp only[ζf,ζc]at h;obtain⟨af,u,rfl,rfl⟩:=h;have G:=R8 A aa (dR r T);have⟨p,es,c,g1,g2,g3,g4⟩:=s.obs id _ S;have⟨q,e__,R⟩:=(dR r hm).EF;rw[g1]at e__;cases e__;have Q:=(Array.getElem?_eq_some_iff.1 g3).1;have ah:∀(f:Unit->Sem Next),True:=λ_=>trivial
    unfold sR at u;have ab:=dR r T;have ad:=dR r hy;split at u
    .rename_i j z B;simp only[ζa]at u;subst u;have⟨b__,g,q2,q3⟩:=yN (w:=w) G g4 B
     cases b__ with
     |none=>grind[oD]|some b__=>
      have⟨j',zv⟩:=b__;obtain⟨rfl,_,_,e',ai,_⟩:=q2;have⟨e2,c__,aj⟩:=q3 j z _l;have hj:=(Array.getElem?_eq_some_iff.1 c__).1;have L:yz I μ (C.set j (X,Y)) (es.modify j λe=>{e with key:=a.eval k,val:=a.eval y}):=by refine⟨by simpa using g4.1,λi q e b D=>?_⟩;by_cases d__:i=j;grind;rw[E? (Ne.symm d__)]at b;rw[Array.getElem?_modify]at D;rw[M' (Ne.symm d__)]at D;exact g4.2 i q e b D
      have⟨l,v⟩:=s.write (l?:=.map (C.set j (X,Y))) (o:=.map (es.modify j λe=>{e with key:=a.eval k,val:=a.eval y}) c) S _l g1
       ⟨p,_,c,g1,g2,kT _ Q,L⟩
      refine⟨.skip,undef,_,μ,?_,.inr ⟨_l,_l⟩,.undef I μ,l,v⟩;unfold Instr.mapUpdate;rw[R];have W:((es[j]?).map (·.key)).getD (a.eval k)=a.eval k:=by rw[c__];grind
      simp only[z?,a__,y?,Ck g3 f?,Bm G,g,W,VK G,JE _ g3,L?]
    .rename_i B;simp only[ζa]at u;subst u;have⟨b__,g,q2,q3⟩:=yN (w:=w) G g4 B
     cases b__ with
     |some q=>grind[oD]|none=>
      have L:yz I μ (C++[(X,Y)]) (es.push {key:=a.eval k,val:=a.eval y,born:=c}):=by refine⟨by simp[g4.1],λi q e b D=>?_⟩;by_cases d__:i<_m C;rw[List.getElem?_append_left d__]at b;rw[Array.getElem?_push]at D;rw[M' (by rw[<-g4.1];omega)]at D;exact g4.2 i q e b D;have ae:=(ζe.1 b).1;simp at ae;have:i=_m C:=a?;subst this;simp at b;subst b;rw[Array.getElem?_push,L' g4.1]at D;grind
      have⟨l,v⟩:=s.write (l?:=.map (C++[(X,Y)])) (o:=.map (es.push {key:=a.eval k,val:=a.eval y,born:=c}) (c+1)) S _l g1
       ⟨p,_,_,g1,g2,kT _ Q,L⟩
      refine⟨.skip,undef,_,μ,?_,.inr ⟨_l,_l⟩,.undef I μ,l,v⟩;unfold Instr.mapUpdate;rw[R];simp only[z?,a__,y?,Ck g3 f?,Bm G,g,JE _ g3,L?]
    grind
   simp at h
  simp at h
 simp at h
theorem ZD(B:fG P E)(r:fA I μ n F a.tmps)(s:dD I μ H w)(o:Oper){x:V}(h:eM E F H o.op=M x):
 ∃v,(execOp a.eval o).run P w=.ok (.value v) w/\bP I μ x v:=by
 have⟨dst,op,ty,pos,after,b⟩:=o;simp only at h
 cases op with
 |load t p=>
  simp only[eM]at h;split at h
  next d D hd C=>have⟨u,c,z,_⟩:=F_ B s hd (dR r C) h;exact⟨u,iD c,z⟩
  simp at h
 |lookup t m k ok=>have⟨u,c,z⟩:=Ta B r s h;exact⟨u,iD c,z⟩|_=>simp[eM]at h
def Zs(B:fG P E)(r:fA I μ n F a.tmps)(s:dD I μ H w)(o:Oper){x:V}(h:cT E F H o.op=M (x,H')):EP P I μ H w (execOp a.eval o) x H':=by
 have⟨dst,op,ty,pos,after,d⟩:=o;simp only at h
 cases op with
 |store t p q=>exact UP B r s h|mapUpdate t m k y=>exact Dr B r s h|insert t m k y=>exact Dr (t:=t) (m:=m) (k:=k) (y:=y) B r s h|call c=>
  have⟨callee,args,u⟩:=c
  cases callee with
  |builtin b=>cases b with|append=>exact RG B r s h|clear=>exact Vm B r s h|_=>simp[cT]at h
  |_=>grind[cT]
 |_=>simp[cT]at h
end
def wR{xs:So}(h:V.jI xs=U):∀x∈xs,V.closed x=U:=by induction xs with|nil=>simp|cons x r u=>grind[V.jI]
def w9{xs:So}(h:V.dm xs=U):∀x∈xs,V.scalar x=U:=by induction xs with|nil=>simp|cons x r u=>grind[V.dm]
section
variable{I I':cN}{μ:Mu}{H H':bt}{w:World}
def bP.closed{x:V}{v:V'}(h:bP I μ x v)(d:x.closed=U):fE I x v:=by induction h with|c x v h=>omega|hsl id off len cap p w h1 i=>grind[V.closed]|hsl0 id es off a=>grind[V.closed]|hptr id el off p w=>grind[V.closed]|yld id p w=>grind[V.closed]|hmap id p w=>grind[V.closed]|clo f x y u v g L _ _ z B=>simp[V.closed]at d;exact .clo f x y u v g L (λj a b p q=>z j a b p q (wR d.1 a (s? p))) (λj a b p q=>B j a b p q (wR d.2 a (s? p)))|agg cs C D _ G=>exact .agg cs C D λj a b p q=>G j a b p q (wR d a (s? p))|tup cs C D _ G=>exact .tup cs C D λj a b p q=>G j a b p q (wR d a (s? p))
def fE.scalar{x:V}{v:V'}(h:fE I x v)(B:x.scalar=U):fE I' x v:=by induction h with|bool b=>exact .bool b|int k n=>exact .int k n|str s=>exact .str s|dS a=>exact .dS a|bN=>exact .bN|jF=>exact .jF|iZ=>exact .iZ|uV=>exact .uV|agg cs u w _ z=>exact .agg cs u w λj a b p q=>z j a b p q (w9 B a (s? p))|tup cs u w _ z=>exact .tup cs u w λj a b p q=>z j a b p q (w9 B a (s? p))|_=>grind[V.scalar]
def kI{f:V->aX V}:∀{xs ys:So},jN f xs=M ys->W ys=W xs/\∀(j:Nat)y,ys[j]?=M y->∃x,xs[j]?=M x/\f x=M y:=by intro xs;induction xs with|nil=>grind[jN]|cons x xs u=>grind[jN]
def PC{f:V->aX V}:∀{xs ys:S'},oc f xs=M ys->W ys=W xs/\∀(j:Nat)y,ys[j]?=M y->∃x,xs[j]?=M x/\jN f x=M y:=by intro xs;induction xs with|nil=>grind[oc]|cons x xs u=>grind[oc]
def Rl{f:V->aX V}:∀{xs ys:aY (V×V)},oe f xs=M ys->W ys=W xs/\∀(j:Nat)y,ys[j]?=M y->∃x,xs[j]?=M x/\f x.1=M y.1/\f x.2=M y.2:=by intro xs;induction xs with|nil=>grind[oe]|cons x xs u=>grind[oe]
def Obj.ic:Obj->aX IC
 |.cells c _ _=>M (.cells c)|.map es _=>M (.map es)|_=>J
def DL(μ:Mu)(H:bt)(T:ST)(b:Nat):Prop:=∃id p ob,id∈T/\H[id]?=M ob/\ob.live=U/\μ id=M p/\p.b=b
open Classical in
noncomputable def plus(I:cN)(μ:Mu)(H:bt)(w:World)(T:ST):cN:=λb=>
 match I b with
 |some x=>M x|none=>if DL μ H T b then(w.heap[b]?).bind Obj.ic else J
def rS(I:cN)(μ:Mu)(H:bt)(w:World)(T:ST):cN.le I (plus I μ H w T):=by intro b x h;grind[plus]
theorem wD(s:dD I μ H w)(T:ST):∀b x,plus I μ H w T b=M x->x.at w b:=by
 intro b x h;unfold plus at h;split at h;next y B=>cases h;exact s.imm b _ B
 split at h;have⟨o,z,u⟩:=ζg.1 h;cases o<;>simp[Obj.ic]at u;subst u;exact⟨_,_,z⟩;subst u;exact⟨_,z⟩;grind
theorem BO{T:ST}{b:Nat}(h:(plus I μ H w T b).isSome=U):(I b).isSome=U\/DL μ H T b:=by grind[plus]
theorem EC{T:ST}{b:Nat}(h:DL μ H T b):jJ μ H b:=by have⟨id,p,ob,_,h1,u,w,z⟩:=h;exact⟨id,p,ob,h1,u,w,z⟩
def FG(s:dD I μ H w){T:ST}{id es:Nat}{xs:S'}(B:id∈T)(h:_o (H[id]?) Ob.rows=M (es,xs)):
 ∃p c,μ id=M p/\plus I μ H w T p.b=M (.cells c)/\iO I μ p c es xs:=by
 have⟨ob,a,z⟩:=ζg.1 h;have u:=s.obs id ob a;rcases Lu z with rfl|rfl
 .have⟨p,c,el,g1,g2,g3,g4⟩:=u;refine⟨p,c,g1,?_,g4⟩;have C:DL μ H T p.b:=⟨id,p,_,B,a,Y,g1,Y⟩
  grind[plus,Obj.ic]
 have⟨p,c,g1,g2,g4⟩:=u;exact⟨p,c,g1,rS _ _ _ _ _ _ _ g2,g4⟩
def iO.idx{p:Pl}{c:Array V'}{es:Nat}{xs:S'}(r:iO I μ p c es xs){i j:Nat}{x:So}{y:V}{v:V'}(a:xs[i]?=M x)(B:x[j]?=M y)
 (D:c[p.o+i*es+j]?=M v):bP I μ y v:=by
 have w:=za r.sq a B;refine r.rel.2 (i*es+j) y v w ?_;have u:=(ζe.1 w).1;rw[iw r.sq]at u
 grind
def mI{f:V->ST}{xs:So}{x:V}{k:Nat}(B:x∈xs)(a:k∈f x):k∈dz f xs:=by induction xs with|nil=>simp_all|cons y r u=>grind[dz]
theorem lg(n:Nat)(H:bt){x:V}(h:x.closed=U):borrow n H x=M x:=by cases n<;>simp[borrow,h]
theorem xI (s:dD I μ H w) (T:aY Nat):∀(n:Nat) (x y:V) (v:Value),borrow n H x=some y->(∀k∈cF n H x,k∈T)->bP I μ x v ->
 fE (plus I μ H w T) y v/\(x.one=true->y.one=true):=by
 intro n
 induction n with
 | zero=>
  intro x y v h _ hv;simp only[borrow]at h;split at h
  next hc=>simp  at h;subst h;exact⟨(hv.closed hc).mono (rS _ _ _ _ _),id⟩
  grind
 | succ n ih=>
  intro x y v h o hv;simp[borrow]at h;split at h
  next hc=>simp  at h;subst h;exact⟨(hv.closed hc).mono (rS _ _ _ _ _),id⟩
  rename_i al;simp[cF,M' al]at o;split at h
  .
   rename_i id es off len;split at h
   .rename_i B xs g;split at h
    .rename_i hc;obtain⟨rfl,am⟩:=hc;simp only[g]at o;simp  at h;obtain⟨m,hz,rfl⟩:=h;obtain⟨ab,W⟩:=PC hz;refine⟨?_,λ_=>rfl⟩
     have aj:m.length=len:=by grind
     rcases hv.oA with⟨p,cap,hm,hp,ar,hb,rfl⟩|⟨h0,a,rfl⟩
     .obtain⟨p',c,g1,g2,g3⟩:=FG s  (o id f?) g
      rw[hm]at g1;cases g1;have X:∀i z,m[i]? = some z->∃Q,xs[off+i]? = some Q/\jN (borrow n H) Q=some z:=by
       grind
      have ak:∀i Q,i<len->xs[off+i]? = some Q->∀q∈Q,∀k∈cF n H q,k∈T:=by
       intro i Q hi an q hq k hk;refine o k ?_;refine List.mem_cons_of_mem _ (mI (List.mem_flatten.2 ⟨Q,List.mem_of_getElem? (i:=i) ?_,hq⟩) hk);rw[List.getElem?_take,L' hi,List.getElem?_drop];exact an
      have au:fE (plus I μ H w T) (.fsl B m) (.slice (some ⟨p.b,p.o+off*B,none⟩) m.length cap):=by
       refine .fsl B m p.b (p.o+off*B) cap c g2 a? ?_ ?_ ?_ ?_
       .intro z af;obtain⟨i,hi⟩:=List.mem_iff_getElem?.1 af;obtain⟨Q,G,Y⟩:=X i z hi;rw[(kI Y).1];exact g3.sq Q (List.mem_of_getElem? G)
       .intro z af q hq;obtain⟨i,hi⟩:=List.mem_iff_getElem?.1 af;obtain⟨Q,G,Y⟩:=X i z hi;obtain⟨j,hj⟩:=List.mem_iff_getElem?.1 hq;obtain⟨L,D,Z⟩:=(kI Y).2 j q hj;have ad:=List.mem_of_getElem? G;have ae:=List.mem_of_getElem? D;have ao:=g3.room;have aw:=g3.sq Q ad;have ax:=(ζe.1 D).1;have ap:=(ζe.1 G).1;have av:(off+i)*B+B<=xs.length*B:=by
         have:=Nat.mul_le_mul_right B (ap)
         grind
        have aq  := by omega
        have aa:=g3.idx G D (v:=c[p.o+(off+i)*B+j]) (by simp[aq])
        exact(ih L q _ Z (ak i Q (by have:=(ζe.1 hi).1;omega) G L ae) aa).2 (g3.one Q ad L ae)
       .have h1:=(g3.span am).2
        grind
       intro i j z q u hi hj hu;obtain⟨Q,G,Y⟩:=X i z hi;obtain⟨L,D,Z⟩:=(kI Y).2 j q hj;have aa:=g3.idx G D (v:=u) g?
       exact(ih L q u Z (ak i Q (by have:=(ζe.1 hi).1;omega) G L (List.mem_of_getElem? D)) aa).1
      grind
     subst h0;have  := List.eq_nil_of_length_eq_zero aj;subst this;exact .fsl0 B _ _
    grind
   grind
  .
   rename_i id el off;split at h
   .rename_i B xs g;split at h
    .rename_i cs ah;split at h
     .simp only[g]at o;simp  at h;obtain⟨m,hz,rfl⟩:=h;obtain⟨ab,W⟩:=kI hz;refine⟨?_,λ_=>rfl⟩
      obtain⟨p,hm,rfl⟩:=hv.v7;obtain⟨p',c,g1,g2,g3⟩:=FG s  (o id f?) g
      rw[hm]at g1;cases g1;obtain⟨k1,k2,k3⟩:=g3.elem ah;rw[g3.es_eq];refine .fptr m p.b _ c g2 ?_ ?_
      .rw[ab,List.length_drop];omega
      intro j q u hj hu;obtain⟨L,D,Z⟩:=W j q hj;rw[List.getElem?_drop]at D;have aa:=g3.idx ah D  (by rw[<-Nat.add_assoc];exact hu)
      refine(ih L q u Z (λk hk=>o k ?_) aa).1
      exact List.mem_cons_of_mem _ (mI (List.mem_of_getElem? (i:=j) (by rw[ah,Option.getD_some,List.getElem?_drop];exact D)) hk)
     simp at h
    simp at h
   simp at h
  .
   rename_i id;split at h
   .rename_i ay ai;simp  at h;obtain⟨m,hz,rfl⟩:=h;simp only[ai]at o;obtain⟨ab,W⟩:=Rl hz;refine⟨?_,λ_=>rfl⟩
    obtain⟨p,hm,rfl⟩:=hv.EF;obtain⟨p',es,cl,g1,g2,g3,g4⟩:=s.obs id _ ai;rw[hm]at g1;cases g1;have ht:DL μ H T p.b:=⟨id,p,_,o id f?,ai,rfl,hm,rfl⟩
    have hI:plus I μ H w T p.b=some (.map es):=by
     grind[plus,Obj.ic]
    refine .fmap m p.b es hI (by rw[ab];exact g4.1) ?_ ?_
    .intro j q e hj he;obtain⟨L,h1,h2,h3⟩:=W j q hj;refine(ih L.1 q.1 e.key h2 (λk hk=>o k ?_) (g4.2 j L e h1 he).1).1
     exact List.mem_cons_of_mem _ (List.mem_append.2 (.inl (mI (List.mem_map.2 ⟨L,List.mem_of_getElem? h1,rfl⟩) hk)))
    intro j q e hj he;obtain⟨L,h1,h2,h3⟩:=W j q hj;refine(ih L.2 q.2 e.val h3 (λk hk=>o k ?_) (g4.2 j L e h1 he).2).1
    exact List.mem_cons_of_mem _ (List.mem_append.2 (.inr (mI (List.mem_map.2 ⟨L,List.mem_of_getElem? h1,rfl⟩) hk)))
   simp at h
  .rename_i f p q;split at h
   .rename_i p' q' hp hq;simp  at h;subst h;obtain⟨u1,u2,rfl,r1,r2⟩:=hv.mC;obtain⟨l1,m1⟩:=kI hp;obtain⟨l2,m2⟩:=kI hq;refine⟨.clo f p' q' u1 u2 (by rw[l1];simpa using r1.1) (by rw[l2];simpa using r2.1) ?_ ?_,λ_=>rfl⟩
    .intro j a b ha hb;obtain⟨a0,C,S⟩:=m1 j a ha;exact(ih a0 a b S (λk hk=>o k (List.mem_append.2 (.inl (mI (List.mem_of_getElem? C) hk)))) (r1.2 j a0 b C g?)).1
    intro j a b ha hb;obtain⟨a0,C,S⟩:=m2 j a ha;exact(ih a0 a b S (λk hk=>o k (List.mem_append.2 (.inr (mI (List.mem_of_getElem? C) hk)))) (r2.2 j a0 b C g?)).1
   simp at h
  .rename_i cs;simp  at h;obtain⟨m,hz,rfl⟩:=h;obtain⟨l1,m1⟩:=kI hz;obtain⟨u1,rfl,r1⟩:=hv.kf;refine⟨.agg m u1 (by rw[l1];simpa using r1.1) ?_,λh=>by grind[V.one]⟩
   intro j a b ha hb;obtain⟨a0,C,S⟩:=m1 j a ha;exact(ih a0 a b S (λk hk=>o k (mI (List.mem_of_getElem? C) hk)) (r1.2 j a0 b C g?)).1
  .rename_i cs;simp  at h;obtain⟨m,hz,rfl⟩:=h;obtain⟨l1,m1⟩:=kI hz;obtain⟨u1,rfl,r1⟩:=hv.tw;refine⟨.tup m u1 (by rw[l1];simpa using r1.1) ?_,λh=>by grind[V.one]⟩
   intro j a b ha hb;obtain⟨a0,C,S⟩:=m1 j a ha;exact(ih a0 a b S (λk hk=>o k (mI (List.mem_of_getElem? C) hk)) (r1.2 j a0 b C g?)).1
  grind
end
def fr(ro:aX Nat):Fence:={fn:=λ_=>True,depth:=J,alive:=O,round:=ro}
def A9(I:cN)(μ:Mu)(H:bt)(w:World)(r:V)(H':bt):Ending->World->Prop:=λe w'=>∃u I' μ',e=.returned u/\bP I' μ' r u/\dD I' μ' H' w'/\Step I μ H w I' μ' H' w'
def BM(P:Program)(f:Y'):Prop:=∃fn,P.funcs[f]?=M fn/\fn.body.isSome=U/\(fn.name== "runtime.NumGoroutine")=O
structure nC(P:Program)(call:en):Prop where
 fn:∀f args H r H',call (.fn f) args H=some (r,H')->BM P f/\∀I μ w vs,dD I μ H w->c6 I μ args vs->CallsIn (fr none) 0 P f vs.toArray w (A9 I μ H w r H')
 yld:∀id args H r H',call (.yld id) args H=some (r,H')->∀I μ w vs p,dD I μ H w->c6 I μ args vs->μ id=some p->
  ∃l f tmps assign body,(Instr.yield p.b vs.toArray).run P w=.ok (.round l f tmps assign body) w/\RoundIn (fr none) 0 P l f tmps assign body w (A9 I μ H w r H')
def vD:Ob->Ob
 |.row es xs=>.frz es xs|.map _=>.dead|o=>o
theorem Km(H:bt)(k id:Nat):(xC H k)[id]?=(H[id]?).map λob=>if id=k then vD ob else ob:=by
 unfold xC;by_cases e:id=k;subst e;cases h:H[id]?with|none=>simp[h]|some ob=>have u:=(ζe.1 h).1;cases ob<;>simp[vD,u]<;>exact(ζe.1 h).2
 grind
theorem NO(o:Ob):vD (vD o)=vD o:=by cases o<;>rfl
theorem j8:∀(T:ST)(H:bt)(id:Nat),(dh H T)[id]?=(H[id]?).map λob=>if id∈T then vD ob else ob:=by intro T;induction T with|nil=>simp[dh]|cons k T u=>intro H id;have:=u (xC H k) id;grind[dh,Km,NO]
theorem nU(T:ST)(H:bt):W (dh H T)=W H:=by induction T generalizing H with|nil=>rfl|cons k T u=>simp[dh]at u⊢;rw[u];grind[xC]
section
variable{P:Program}{I I':cN}{μ μ':Mu}{H H':bt}{w w':World}
def dD.kept(s:dD I μ H w)(a:∀b,b<w.heap.size->w'.heap[b]?=w.heap[b]?):dD I μ H w' where
 dom:=s.dom
 imm:=λb x h=>IC.uS (s.imm b x h) (a b (s.Lm h))
 obs:=λid ob h=>(s.obs id ob h).mono (cN.le_refl _) (Mu.le_refl _) (λp u z=>by
  have C:jJ μ H p.b:=⟨id,p,ob,h,z,u,Y⟩
  grind[qg,iI]) (λB=>by subst B;exact s.obs id _ h)
 inj:=s.inj
 gl:=s.gl
theorem uj(μ:Mu)(b:Nat):¬jJ μ [] b:=by rintro⟨id,p,ob,h,_⟩;simp_all
def Hp{call:en}(M:nC P call){f:Y'}{args:So}{y:V}(h:cw call f args H=_k y)(s:dD I μ H w){vs:aY V'}(n:c6 I μ args vs):
 BM P f/\CallsIn (fr J) 0 P f vs.toArray w (A9 I μ H w y (if y.scalar then H else dh H (dz (cF call.lv H) args))):=by
 unfold cw at h;split at h
 .rename_i az has;split at h
  .rename_i r H1 S;split at h
   .rename_i y' hy;split at h
    .rename_i aa;simp at h;subst h;generalize d__:dz (cF call.lv H) args=T;obtain⟨R,D⟩:=kI has;have s0:dD (plus I μ H w T) (λ_=>J) [] w:=⟨λ_ _=>rfl,wD s T,f?,f?,s.gl.mono (rS I μ H w T)⟩
     have b__:c6 (plus I μ H w T) (λ_=>J) az vs:=by refine⟨R.trans n.1,λj a b d z=>?_⟩;obtain⟨x,Y,af⟩:=D j a d;refine .c _ _ (xI s T call.lv x a b af (λk o=>?_) (n.2 j x b Y z)).1;rw[<-d__];exact mI (s? Y) o
     obtain⟨hf,L⟩:=M.fn f az [] r H1 S;refine⟨hf,(L _ _ w vs s0 b__).mono ?_⟩;rintro e w' ⟨u,I1,t,rfl,hr,v,st⟩;have B:=λb D=>st.frame b D (uj _ _)
     generalize ak:cF call.lv H1 r=T1;have A:=(xI v T1 call.lv r y' u hy (λk o=>g?) hr).1
     cases ah:y'.scalar with
     |true=>exact⟨u,I,μ,rfl,.c _ _ (A.scalar ah),s.kept B,⟨cN.le_refl _,Mu.le_refl _,x? _,st.size,λb D _=>B b D,λ_ h=>h.elim .inl λh=>.inr (.inl h),st.os,st.out,st.fz⟩⟩|false=>
      simp only[v?,_a]
      let I2:=plus I1 t H1 w' T1
      have G:cN.le I I2:=cN.le_trans (rS I μ H w T) (cN.le_trans st.le (rS _ _ _ _ _));have W:∀b,(I2 b).isSome=U->(I b).isSome=U\/DL μ H T b\/w.heap.size<=b:=by intro b D;have d:(I1 b).isSome=U\/jJ t H1 b:=(by rcases BO D with h|h;all_goals grind[EC]);rcases st.terr b d with h|h|h;all_goals grind[BO,uj]
      have X:∀id ob p,H[id]?=_k ob->ob.live=U->id∉T->μ id=_k p->I2 p.b=J:=by intro id ob p d z h3 h4;cases E:I2 p.b with|none=>rfl|some x=>have F:jJ μ H p.b:=⟨id,p,ob,d,z,h4,rfl⟩;rcases W p.b g? with h|⟨c__,p',ai,g0,g1,g2,g3,g4⟩|h;rw[iI s F]at h;cases h;have:=s.inj c__ id ai ob p' p g1 d g2 z g3 h4 g4;simp_all;have:=qg s F;omega
      have Q:∀id x,(dh H T)[id]?=_k x->∃ob,H[id]?=_k ob/\x=(if id∈T then vD ob else ob):=by grind[j8]
      have C:∀id x,(dh H T)[id]?=_k x->x.live=U->H[id]?=_k x/\(id∉T\/∃r,x=.loop r):=by intro id x Y g;obtain⟨ob,d,z⟩:=Q id x Y;by_cases Z:id∈T;rw[L' Z]at z;cases ob<;>simp[vD]at z<;>subst z<;>simp[Ob.live]at g;grind;grind
      refine⟨u,I2,μ,rfl,.c _ _ A,⟨?_,?_,?_,?_,s.gl.mono G⟩,⟨G,Mu.le_refl _,by rw[nU];grind,st.size,λb D _=>B b D,?_,st.os,st.out,st.fz⟩⟩
      .intro id h;rw[nU]at h;exact s.dom id h
      .grind[wD]
      .intro id x Y;obtain⟨ob,d,z⟩:=Q id x Y;have a__:=s.obs id ob d
       by_cases Z:id∈T
       .rw[L' Z]at z
        cases ob with
        |row es xs=>
         subst z;obtain⟨p,c,g1,g2,g3⟩:=FG s Z (by rw[d];rfl)
         exact⟨p,c,g1,rS _ _ _ _ _ _ _ (st.le _ _ g2),g3.mono G (Mu.le_refl _)⟩
        |frz es xs=>subst z;exact a__.mono G (Mu.le_refl _) (λp _ g=>by grind[Ob.live]) (λi=>by cases i)|map al=>subst z;trivial|free=>simp[vD]at z;subst z;exact a__|dead=>subst z;trivial|loop r=>
         simp[vD]at z;subst z;obtain⟨p,l,g1,g2,g3,g4⟩:=a__;refine⟨p,l,g1,?_,?_,g4.mono G (Mu.le_refl _)⟩
         .
          cases E:I2 p.b with
          |none=>rfl|some x=>
           have K:=wD v T1 p.b x E;have aj:=(Array.getElem?_eq_some_iff.1 g3).1;have m:=B p.b aj;rw[g3]at m
           cases x with
           |cells c=>obtain⟨_,_,q⟩:=K;rw[m]at q;cases q|map es=>obtain⟨_,q⟩:=K;rw[m]at q;cases q
         grind
       rw[M' Z]at z;subst z;refine a__.mono G (Mu.le_refl _) (λp hp g=>⟨B _ (qg s ⟨id,p,x,d,g,hp,rfl⟩),X id x p d g Z hp⟩) (λi=>by subst i;exact a__)
      .intro id c__ o1 o2 p p' d z l1 l2 m1 m2 D;exact s.inj id c__ o1 o2 p p' (C id o1 d l1).1 (C c__ o2 z l2).1 l1 l2 m1 m2 D
      intro b D;rcases D with h|⟨id,p,x,d,z,h3,rfl⟩
      .grind[EC]
      exact .inr (.inl ⟨id,p,x,(C id x d z).1,z,h3,rfl⟩)
    grind
   grind
  grind
 grind
def bP.scalar{x:V}{v:V'}(h:bP I μ x v)(B:x.scalar=U):bP I' μ' x v:=by
 have key:∀(l:So)(u:aY V'),(∀x∈l,∀v,bP I μ x v->x.scalar=U->bP I' μ' x v)->V.dm l=U->(∀(j:Nat)a b,l[j]?=M a->u[j]?=M b->bP I μ a b)->
  ∀(j:Nat)a b,l[j]?=M a->u[j]?=M b->bP I' μ' a b:=by
  intro l
  induction l with
  |nil=>grind|cons x l z=>
   intro u f i L j a b C D;simp only[V.dm,ζh]at i
   cases j with
   |zero=>grind|succ j=>
    cases u with
    |nil=>simp at D|cons v u=>exact z u (λy w=>f y (B? _ w)) i.2 (λj a b p q=>L (j+1) a b g? g?) j a b g? g?
 have d:∀(k:Nat)(x:V)(v:V'),SizeOf.sizeOf x<k->bP I μ x v->x.scalar=U->bP I' μ' x v:=by intro k;induction k with|zero=>grind|succ k z=>intro x v g h B;cases h with|c _ _ h=>exact .c _ _ (h.scalar B)|agg cs u G h=>refine .agg cs u G (λj a b C D=>key cs u.toList (λy w v e B=>z y v ?_ e B) B (λj a b p q=>h j a b p (by simpa using q)) j a b C g?);have:=List.sizeOf_lt_of_mem w;grind|tup cs u G h=>refine .tup cs u G (λj a b C D=>key cs u.toList (λy w v e B=>z y v ?_ e B) B (λj a b p q=>h j a b p (by simpa using q)) j a b C g?);have:=List.sizeOf_lt_of_mem w;grind|_=>grind[V.scalar]
 exact d (SizeOf.sizeOf x+1) x v a? h B
def dD.QE(s:dD I μ H w){ob:Ob}{p:Pl}(T:ob≠.free)(o:I p.b=J)(G:¬jJ μ H p.b)(i:vK I (μ.gR (W H) p) w (W H) ob):
 dD I (μ.gR (W H) p) (H++[ob]) w:=by
 have a:=s.dom _ (x? _);have u:∀id x,(H++[ob])[id]?=M x->(id≠W H/\H[id]?=M x)\/(id=W H/\x=ob):=by grind
 refine⟨?_,s.imm,?_,?_,s.gl⟩
 .intro id h;simp at h;rw[Mu.kA _ _ a?];exact s.dom id a?
 .intro id x h;rcases u id x h with⟨e,h⟩|⟨rfl,rfl⟩
  .refine(s.obs id x h).mono (cN.le_refl _) (Mu.tY a) (λq Q S=>?_) (λm=>by subst m;rw[Mu.kA _ _ e];exact s.obs id _ h)
   exact⟨Y,iI s ⟨id,q,x,h,S,Q,Y⟩⟩
  grind
 intro id z o1 o2 q g h1 X L j B C D;rcases u id o1 h1 with⟨e1,k1⟩|⟨a1,Z⟩<;>rcases u z o2 X with⟨e2,k2⟩|⟨a2,b⟩
 .rw[Mu.kA _ _ e1]at B;rw[Mu.kA _ _ e2]at C;exact s.inj id z o1 o2 q g k1 k2 L j B C D
 .subst a2;rw[Mu.kA _ _ e1]at B;rw[Mu.iQ]at C;cases C;exact _e ⟨id,q,o1,k1,L,B,D⟩ G
 .subst a1;rw[Mu.kA _ _ e2]at C;rw[Mu.iQ]at B;cases B;exact _e ⟨z,g,o2,k2,j,C,D.symm⟩ G
 grind
theorem abA{call:en}(hc:nC P call){f:Y'}{args:So}{y:V}(h:oF call f args H=M (y,H'))(s:dD I μ H w){vs:aY V'}(F:c6 I μ args vs):
 BM P f/\CallsIn (fr J) 0 P f vs.toArray w (A9 I μ H w y H'):=by
 unfold oF at h;split at h
 .rename_i az has;split at h
  .rename_i r H1 L;generalize hT:dz (cF call.lv H) args=T;have⟨W,D⟩:=kI has;have s0:dD (plus I μ H w T) (λ_=>J) [] w:=⟨λ_ _=>rfl,wD s T,f?,f?,s.gl.mono (rS I μ H w T)⟩
   have d__:c6 (plus I μ H w T) (λ_=>J) az vs:=by refine⟨W.trans F.1,λj a b d m=>?_⟩;have⟨x,c__,aa⟩:=D j a d;refine .c _ _ (xI s T call.lv x a b aa (λk hk=>?_) (F.2 j x b c__ m)).1;rw[<-hT];exact mI (s? c__) hk
   have⟨hf,G⟩:=hc.fn f az [] r H1 L;refine⟨hf,(G _ _ w vs s0 d__).mono ?_⟩;rintro e w' ⟨u,I1,μ1,rfl,n,s1,st⟩;have z:∀b,b<w.heap.size->w'.heap[b]?=w.heap[b]?:=λb D=>st.frame b D (uj _ _)
   have K:dD I μ H w':=s.kept z;have ab:Step I μ H w I μ H w':=⟨cN.le_refl _,Mu.le_refl _,x? _,st.size,λb D _=>z b D,λ_ h=>h.elim .inl λh=>.inr (.inl h),st.os,st.out,st.fz⟩
   split at h
   next ae=>simp only[ζa,ζc]at h;obtain⟨rfl,rfl⟩:=h;exact⟨u,I,μ,_l,n.scalar ae,K,ab⟩

   have key:∀(id es off len:Nat)(v:V)(ob:Ob)(u:V'),vG (_m H) H1 id es off len=M (v,ob)->bP I1 μ1 (.hsl id es off len) u->
    ∃p,bP I (μ.gR (_m H) p) v u/\dD I (μ.gR (_m H) p) (H++[ob]) w'/\Step I μ H w I (μ.gR (_m H) p) (H++[ob]) w':=by
    intro id es off len v ob u B hu;unfold vG at B;split at B
    .rename_i X xs b__;split at B
     .rename_i Q;obtain⟨rfl,am⟩:=Q;obtain⟨rfl,rfl⟩:=B;have⟨p,c,el,g1,g2,g3,g4⟩:=s1.obs id _ b__;have an:w.heap.size<=p.b:=by
       rcases st.terr p.b (.inr ⟨id,p,_,b__,rfl,g1,rfl⟩)with h|h|h
       .have⟨x,c__⟩:=isSome_iff_exists.1 h;have:=st.le _ _ c__
        grind
       all_goals grind[uj]
      have a__:I p.b=J:=by cases c__:I p.b with|none=>rfl|some x=>have:=s.Lm c__;omega
      have hn:¬jJ μ H p.b:=λho=>by have:=qg s ho;omega
      have af:iO I (μ.gR (_m H) p) p c X xs:=by refine⟨g4.es_eq,g4.sz,g4.sq,g4.one,g4.room,g4.rel.1,λj a b B D=>(g4.rel.2 j a b B D).scalar ?_⟩;have g:=s? B;rw[m6]at g;grind
      have sa:=K.QE (ob:=.row X xs) f? a__ hn ⟨p,c,el,Mu.iQ _ _ _,a__,g3,af⟩
      refine⟨p,?_,sa,⟨cN.le_refl _,Mu.tY (s.dom _ (x? _)),f?,st.size,λb D _=>z b D,?_,st.os,st.out,st.fz⟩⟩
      .rcases hu.oA with⟨p',o,g,ah,ai,aj,t⟩|⟨h0,ad,t⟩
       .rw[g1]at g;cases g;rw[t];subst ah;exact .hsl _ off len o p (Mu.iQ _ _ _) ai aj
       rw[t,h0];exact .hsl0 _ _ _ _
      rintro b (h|⟨k,q,x,d,m,e__,rfl⟩)
      .exact .inl h
      by_cases e:k=(_m H)
      .grind[Mu.iQ]
      rw[Mu.kA _ _ e]at e__;have ak:k<_m H:=by have:=(ζe.1 d).1;grind
      rw[List.getElem?_append_left ak]at d;exact .inr (.inl ⟨k,q,x,d,m,e__,_l⟩)
     grind
    grind
   split at h
   next id es off len _=>simp only[ζf]at h;obtain⟨⟨v,ob⟩,B,rfl,rfl⟩:=h;have⟨p,k1,k2,k3⟩:=key id es off len v ob u B n;exact⟨u,I,_,_l,k1,k2,k3⟩
   .rename_i id es off len i? _;split at h
    .rename_i S;simp only[ζf,ζc]at h;obtain⟨⟨v,ob⟩,B,rfl,rfl⟩:=h;obtain⟨A,rfl,C⟩:=n.tw;have Y:0<_m A.toList:=by have:=C.1;grind
     obtain⟨i,E,Z⟩:∃i E,A.toList=i::E:=by cases hl:A.toList with|nil=>rw[hl]at Y;simp at Y|cons a b=>grind
     rw[Z]at C;have⟨p,k1,k2,k3⟩:=key id es off len v ob i B (C.2 0 _ _ _l _l);refine⟨_,I,_,_l,.tup _ _ ?_ ?_,k2,k3⟩
     .have:=C.1;grind
     intro j a b R D;have al:(i::E)[j]?=M b:=by rw[<-Z];grind
     cases j with
     |zero=>grind|succ j=>
      simp at R al;refine(C.2 (j+1) a b g? g?).scalar ?_
      have:∀(l:So),V.dm l=U->∀x∈l,x.scalar=U:=by intro l;induction l with|nil=>grind|cons y l ih=>simp_all[V.dm]
      exact this i? S a (s? R)
    simp at h
   grind
  grind
 grind
def abG{E:Env}{call:en}(a:nC P call){f:Y'}{args:So}{y:V}(h:iP E call f args H=M (y,H'))(s:dD I μ H w){vs:aY V'}(b:c6 I μ args vs):
 BM P f/\CallsIn (fr J) 0 P f vs.toArray w (A9 I μ H w y H'):=by
 unfold iP at h;split at h
 .grind[abA]
 have⟨k1,k2⟩:=a.fn f args H y H' h
 grind
end
def Ob.mp:Ob->aX (aY (V×V))
 |.map B=>M B|_=>J
def p8(H H2:bt):Prop:=∀id:Nat,_o (H[id]?) Ob.rows=_o (H2[id]?) Ob.rows/\_o (H[id]?) Ob.mp=_o (H2[id]?) Ob.mp
def p8.refl(H:bt):p8 H H:=λ_=>⟨Y,Y⟩
def p8.symm{H H2:bt}(h:p8 H H2):p8 H2 H:=λid=>⟨(h id).1.symm,(h id).2.symm⟩
def p8.trans{H H2 B:bt}(h:p8 H H2)(k:p8 H2 B):p8 H B:=λid=>⟨(h id).1.trans (k id).1,(h id).2.trans (k id).2⟩
theorem p8.of_eq{H H2:bt}(h:H=H2):p8 H H2:=by subst h;exact .refl _
theorem Ni{H H2:bt}(h:p8 H H2):∀n,borrow n H=borrow n H2:=by
 intro n
 induction n with
 |zero=>funext x;rfl|succ n u=>
  funext x
  cases x with
  |hsl id es off len=>simp only[borrow,(h id).1,u]|hptr id el off=>simp only[borrow,(h id).1,u]|hmap id=>have:=(h id).2;simp only[borrow,u];split;rfl;cases a:H[id]?with|none=>grind[Ob.mp]|some o=>cases w:H2[id]?with|none=>rw[a,w]at this;all_goals grind[Ob.mp]|some o2=>rw[a,w]at this;cases o<;>cases o2<;>simp[Ob.mp]at this<;>first|rfl|grind
  |_=>simp only[borrow,u]
theorem Pg{H H2:bt}(h:p8 H H2):∀n,cF n H=cF n H2:=by
 intro n
 induction n with
 |zero=>funext x;rfl|succ n u=>
  funext x
  cases x with
  |hsl id es off len=>simp only[cF,(h id).1,u]|hptr id el off=>simp only[cF,(h id).1,u]|hmap id=>have:=(h id).2;simp only[cF,u];split;rfl;cases a:H[id]?with|none=>grind[Ob.mp]|some o=>cases w:H2[id]?with|none=>rw[a,w]at this;all_goals grind[Ob.mp]|some o2=>rw[a,w]at this;cases o<;>cases o2<;>simp[Ob.mp]at this<;>first|rfl|grind
  |_=>simp only[cF,u]
theorem CT{H H2:bt}(h:p8 H H2)(call:en)(f:Y')(args:So):cw call f args H=cw call f args H2:=by grind[cw,borrows,Ni]
def MK{H H2:bt}(h:p8 H H2)(p:V)(n:Nat):fJ H p n=fJ H2 p n:=by cases p with|hptr id el off=>simp only[fJ,(h id).1]|_=>rfl
def QZ{H H2:bt}(h:p8 H H2)(p:V):pR H p=pR H2 p:=by
 cases p with
 |hmap id=>have:=(h id).2;simp only[pR];cases a:H[id]?with|none=>grind[Ob.mp]|some o=>cases u:H2[id]?with|none=>rw[a,u]at this;all_goals grind[Ob.mp]|some o2=>rw[a,u]at this;cases o<;>cases o2<;>simp[Ob.mp]at this<;>first|rfl|grind
 |_=>rfl
theorem B9{E:Env}{F:WP}{H H2:bt}(h:p8 H H2)(op:Op):eM E F H op=eM E F H2 op:=by cases op<;>simp only[eM,MK h,QZ h]
theorem yq{H H2:bt}(h:p8 H H2)(T:ST):kC H T=kC H2 T:=by unfold kC;congr 1;funext id;rw[(h id).1]
def Dt{H:bt}{T:ST}(h:kC H T=U){id:Nat}(hi:id∈T):∃es xs,H[id]?=M (.row es xs)\/H[id]?=M (.frz es xs):=by unfold kC at h;rw[G?]at h;have:=h id hi;cases a:H[id]?with|none=>rw[a]at this;simp at this|some o=>rw[a]at this;cases o<;>simp[Ob.rows]at this<;>exact⟨_,_,by first|exact .inl Y|exact .inr Y⟩
def Ak{H:bt}{b id:Nat}:(H.take b)[id]?=if id<b then H[id]?else J:=by rw[J?]
def tV{H:bt}{T:ST}{b:Nat}(h:kC (H.take b) T=U):p8 (dh H T) H:=by intro id;rw[j8];by_cases hi:id∈T;have⟨es,w,u⟩:=Dt h hi;rw[Ak]at u;grind[vD,Ob.rows,Ob.mp];grind
def p8.take{H H2:bt}(h:p8 H H2)(b:Nat):p8 (H.take b) (H2.take b):=by intro id;rw[Ak,Ak];by_cases u:id<b;rw[L' u,L' u];exact h id;grind
def Dg{H:bt}{T:ST}{b:Nat}(h:kC (H.take b) T=U){id:Nat}(hi:id∈T):id<b:=by have⟨es,w,u⟩:=Dt h hi;rw[Ak]at u;grind
def FT{H:bt}{T:ST}{k:Nat}{ob:Ob}(h:k∉T):dh (H.set k ob) T=(dh H T).set k ob:=by apply List.ext_getElem?;intro i;rw[j8];by_cases e:i=k;grind[nU];simp_all[Ne.symm,j8]
def NY(H:bt)(T B:ST):dh (dh H T) B=dh (dh H B) T:=by apply List.ext_getElem?;grind[j8]
def Q8{H:bt}{b:Nat}:∀(n:Nat)(x:V),(∀id∈cF n (H.take b) x,id<b)->cF n H x=cF n (H.take b) x:=by intro n;induction n with|zero=>intro x _;rfl|succ n z=>have u:∀l:So,(∀id∈dz (cF n (H.take b)) l,id<b)->dz (cF n H) l=dz (cF n (H.take b)) l:=(by intro l;induction l with|nil=>intro _;rfl|cons x r w=>grind[dz]);intro x h;simp only[cF]at h⊢;split;all_goals grind
def xx{H:bt}{b n:Nat}:∀(l:So),(∀id∈dz (cF n (H.take b)) l,id<b)->dz (cF n H) l=dz (cF n (H.take b)) l
 |[],_=>rfl|x::r,h=>by simp only[dz,J!]at h⊢;rw[Q8 n x λid hi=>h id (.inl hi),xx r λid hi=>h id (.inr hi)]
def J5{H:bt}{b id es:Nat}{xs:S'}(h:_o ((H.take b)[id]?) Ob.rows=M (es,xs)):_o (H[id]?) Ob.rows=M (es,xs):=by grind
theorem Mp{H:bt}{b:Nat}{p:V}{n:Nat}{cs:So}(h:fJ (H.take b) p n=M cs):fJ H p n=M cs:=by unfold fJ at h⊢;grind
theorem Pc{H:bt}{b:Nat}{m:V}{B:aY (V×V)}(h:pR (H.take b) m=M B):pR H m=M B:=by unfold pR at h⊢;grind
def B5{E:Env}{F:WP}{H:bt}{b:Nat}{op:Op}{x:V}(h:eM E F (H.take b) op=M x):eM E F H op=M x:=by cases op with|load t a=>grind[eM,ζg,Mp]|lookup t m k ok=>grind[eM,Pc]|_=>simp[eM]at h
theorem vq{f g:V->aX V}(B:∀x y,f x=M y->g x=M y):∀{xs ys:So},jN f xs=M ys->jN g xs=M ys:=by intro xs;induction xs with|nil=>intro ys h;exact h|cons x xs u=>grind[jN]
theorem Ny{f g:V->aX V}(B:∀x y,f x=M y->g x=M y):∀{xs ys:S'},oc f xs=M ys->oc g xs=M ys:=by intro xs;induction xs with|nil=>intro ys h;exact h|cons x xs u=>grind[oc,vq]
theorem NW{f g:V->aX V}(B:∀x y,f x=M y->g x=M y):∀{xs ys:aY (V×V)},oe f xs=M ys->oe g xs=M ys:=by intro xs;induction xs with|nil=>intro ys h;exact h|cons x xs u=>grind[oe]
theorem Ed{H:bt}{b:Nat}:∀(n:Nat)(x y:V),borrow n (H.take b) x=M y->borrow n H x=M y:=by intro n;induction n with|zero=>intro x y h;exact h|succ n z=>intro x y h;simp[borrow]at h⊢;split at h;grind;rename_i c;rw[M' c];split at h;split at h;rename_i a;simp only[J5 a];split at h;rename_i u;rw[L' u];grind[ζf,Ny];grind;grind;split at h;rename_i a;simp[J5 a];split at h;split at h;rename_i w;rw[L' w];grind[ζf,vq];grind;grind;grind;all_goals grind[ζf,NW,vq]
theorem sQ{call:en}{f:Y'}{args:So}{H:bt}{b:Nat}{y:V}(h:cw call f args (H.take b)=M y):cw call f args H=M y:=by grind[cw,borrows,vq,Ed]
theorem Cl(n:Nat)(H:bt){x:V}(h:x.closed=U):cF n H x=[]:=by cases n with|zero=>rfl|succ n=>simp[cF,h]
def Kg(n:Nat)(H:bt){xs:So}(h:V.jI xs=U):dz (cF n H) xs=[]:=by induction xs with|nil=>rfl|cons x r u=>grind[V.jI,dz,Cl]
section
variable{P:Program}{E:Env}{I I':cN}{μ μ':Mu}{H H':bt}{n:Nat}{F:WP}{a:Act}{w w':World}
def AB{f:Y'}(h:BM P f)(args:Array V'):(callFunc f args).run P w=.ok (.enter f args) w:=by have⟨fn,a,B,u⟩:=h;unfold callFunc;have z:fn.body.isNone=O:=o?;simp only[z?,run_program,y?,a,u,z,v?,_a,L?]
theorem Ho{o:Oper}{ro:aX Nat}{K:Act->World->Prop}{Q:Exit->Act->World->Prop}{f:Y'}{args:Array V'}{r:V}
 (B:CallsIn (fr J) 0 P f args w (A9 I μ H w r H'))(D:∀u I' μ' w',bP I' μ' r u->dD I' μ' H' w'->Step I μ H w I' μ' H' w'->K (a.put o.dst u) w'):
 o.uponIn (fr ro) 0 P a K Q (.ok (.enter f args) w):=by
 refine⟨λh=>by grind[fr],?_⟩
 have z:=B;refine z.mono ?_;rintro e w' ⟨u,I',μ',rfl,b,z,C⟩
 grind
def Ki{x:V}(h:x.scalar=U){I:cN}{μ:Mu}{v:V'}(r:bP I μ x v):fE I x v:=by induction r with|c x v B=>omega|agg cs u w _ z=>exact .agg cs u w λj a b p q=>z j a b p q (w9 h a (s? p))|tup cs u w _ z=>exact .tup cs u w λj a b p q=>z j a b p q (w9 h a (s? p))|_=>grind[V.scalar]
theorem Yi (hE:fG P E) (r:fA I μ n F a.tmps) (s:dD I μ H w) (o:Oper) {x:V} (h:sB E F o.op=some x) :
 ∃u I' w',(execOp a.eval o).run P w=.ok (.value u) w'/\bP I' μ x u/\dD I' μ H w'/\Step I μ H w I' μ H w':=by
 unfold sB at h;split at h
 rotate_left
 .cases h
 rename_i es C B n Y;split at h
 rotate_left
 .cases h
 rename_i hc;obtain⟨rfl,rfl,Z⟩:=hc;obtain⟨obj,p,u,h1,W⟩:=EY hE r s o Y;have aa:=W.len _ _ rfl;obtain⟨⟨q,c,el,g1,g2,g3,g4⟩,gv⟩:=W.rel _ (s.dom _ (Nat.le_refl _));rw[Mu.iQ]at g1;cases g1;have A:=W.b;have Q:obj=.cells c el:=by
  rw[A,pZ]at g3;cases g3;rfl
 subst Q
 let I':cN:=λb=>if b=w.heap.size then some (.cells c)else I b
 have D:cN.le I I':=λb y L=>by
  grind
 have G:I' p.b=some (.cells c):=by grind
 have ab:∀y∈C,∀z∈y,z.scalar=true:=λy L z hz=>List.all_eq_true.1 (List.all_eq_true.1 Z y L) z hz
 have hw:∀b,b<w.heap.size->(w.alloc (.cells c el)).heap[b]? = w.heap[b]? := λb S=>pQ _ b S
 have af:∀b,b<w.heap.size->I' b=I b:=λb S=>by grind
 refine⟨u,I',_,h1,?_,⟨s.dom,?_,?_,s.inj,s.gl.mono D⟩,⟨D,Mu.le_refl _,Nat.le_refl _,by simp,λb S _=>hw b S,?_,rfl,⟨rfl,rfl,Nat.le_refl _⟩,λa S=>SN W.nf a⟩⟩
 .refine .c _ _ ?_;have ah:∀cap,C.length<=cap->p.o+(0+cap)*B<=p.sz->u=.slice (some ⟨p.b,p.o+0*B,none⟩) C.length cap->fE I' x u:=by
   rintro cap k1 k2 rfl;rw[Nat.zero_mul,Nat.add_zero];have hf:fE I' (.fsl B C) (.slice (some ⟨p.b,p.o,none⟩) C.length cap):=.fsl B C p.b p.o cap c G k1 g4.sq g4.one g4.room λi j y z v m1 m2 m3=>
    fE.mono D (Ki (ab y (List.mem_of_getElem? m1) z (List.mem_of_getElem? m2)) (g4.idx m1 m2 m3))
   split at h
   .split at h
    .rename_i X;split at h
     rotate_left
     .cases h
     rename_i T;simp only[ζa]at h;subst h;simp only[List.isEmpty_iff,bne_iff_ne,ne_eq]at X T;subst X;have:cap=0:=by
      simp only[List.length_nil,Nat.zero_mul]at aa;rcases Nat.eq_zero_or_pos cap with k|k
      .exact k
      have:=Nat.mul_pos k (Nat.pos_of_ne_zero T);rw[Nat.zero_add]at k2;omega
     subst this;exact .dS _
    grind
   grind
  have hp:p.es=B:=g4.es_eq;change bP I _ (.hsl H.length B 0 C.length) u at gv;generalize ad:C.length=ln at gv
  cases gv with
  | c _ _ ae=>cases ae
  | hsl id off len cap p' hm k1 k2=>
   rw[Mu.iQ]at hm;grind
  | hsl0 id es off a=>
   have X:C=[]:=List.length_eq_zero_iff.1 ad;subst X;split at h
   .split at h
    .split at h
     .simp only[ζa]at h;subst h;exact .dS _
     cases h
    grind
   simp only[ζa]at h;subst h;exact .fsl0 _ _ _
 .intro b y L
  by_cases e:b=w.heap.size
  .subst e;have:y=.cells c:=by have:=G;rw[A]at this;rw[this]at L;cases L;rfl
   subst this;exact⟨el,_,pZ _⟩
  have m:I b=some y:=by have:(if b=w.heap.size then some (IC.cells c)else I b)=some y:=L;rw[M' e]at this;exact this
  exact IC.uS (s.imm b y m) (hw b (IC.yB (s.imm b y m)))
 .intro id ob g;refine(s.obs id ob g).mono D (Mu.le_refl _) (λq hq hl=>?_) (λe=>by subst e;exact s.obs id _ g)
  have ho:jJ μ H q.b:=⟨id,q,ob,g,hl,hq,rfl⟩;have ai:=qg s ho
  grind[iI]
 grind
def JC:∀{ys:S'}{l:Rd},nY ys=M l->ys.flatten=l.map (V.int .u8)/\W l=W ys
 |[],l,h=>by cases h;grind|x::r,l,h=>by unfold nY at h;split at h;grind;rename_i n B e;cases e;obtain⟨k,a,rfl⟩:=ζf.1 h;have⟨u,w⟩:=JC a;grind;cases h
def ZE(T:fG P E)(r:fA I μ n F a.tmps)(s:dD I μ H w)(o:Oper){x:V}(h:evalConv E F H o.op=M x):∃u,(execOp a.eval o).run P w=.ok (.value u) w/\bP I μ x u:=by
 unfold evalConv at h;split at h;rename_i st c__ y B;split at h;rename_i e v Q hd f;split at h;rename_i S;obtain⟨D,g,b__⟩:=ζg.1 h;obtain⟨l,W,rfl⟩:=ζf.1 b__;obtain⟨X,i⟩:=JC W;have C:∀{t:W'}{k:TK},E.kindOf t=M k->∃d b,E.tt t=M d/\P.underlying t=M b/\oM b=k:=λ{t k}hk=>by unfold Env.kindOf at hk;obtain⟨d,g1,g2⟩:=ζf.1 hk;obtain⟨b,G,a__,_⟩:=(T.ty g1).ey;grind
 obtain⟨_,m,_,p1,G⟩:=C Q;obtain⟨_,p,_,p2,a__⟩:=C hd;obtain⟨_,A,_,p3,Y⟩:=C S;rw[lE G]at p1;rw[Cg a__]at p2;rw[Ht Y]at p3;obtain⟨L,c,arr,e1,_,e2,e3,_⟩:=CK s (dR r f) g;have z:arr=(l.map (Value.int .u8)).toArray:=by apply Array.ext';rw[X]at e3;refine List.ext_getElem (by simpa using e3.1.symm) λj g1 g2=>?_;have g3:j<l.length:=g?;have:=e3.2 j (V.int .u8 l[j]) arr.toList[j] (by simp[g3]) (ζd g1);rw[this.gX];simp
 refine⟨.string (tP l),?_,.c _ _ (.str _)⟩;rw[show execOp a.eval o=_ from by unfold execOp;rw[B]];refine iD ?_;rw[e1];rw[run_convert_bytes_string w st c__ e L D.length c p1 p3 p2];cases L with|none=>have:=e2 w rfl;rw[e1]at this;simp only[x!,L?]at this;cases this;have Z:l=[]:=(by have:=_f Array.size z;grind);subst Z;rfl|some q=>have:=e2 w rfl;rw[e1]at this;simp only[x!,Nat.mul_one]at this;rw[z]at this;exact run_bytesToString w q D.length c l this
 cases h;cases h;cases h
def Ww(Y:fG P E){call:en}(k:nC P call){ops:QP}{place:aX (Nat×Nat)}{o:Oper}{x:V}(h:dw E call ops place F H o.op=M (x,H'))
 (r:fA I μ n F a.tmps)(s:dD I μ H w)(ro:aX Nat){K:Act->World->Prop}{Q:Exit->Act->World->Prop}
 (t:∀u I' μ' w',bP I' μ' x u->dD I' μ' H' w'->Step I μ H w I' μ' H' w'->K (a.put o.dst u) w'):o.wpIn (fr ro) 0 P a w K Q:=by
 refine⟨λ_ _=>trivial,?_⟩
 have aa:∀c,o.op≠.defer c:=by intro c ab;rw[ab]at h;simp[dw,c7,vS,bS]at h;all_goals grind[evalConv]
 show o.uponIn (fr ro) 0 P a K Q ((o.semAt ro a.eval).run P w);rw[Oper.semAt_eq ro a.eval o aa];have ae:∀v,(execOp a.eval o).run P w=.ok (.value v) w->bP I μ x v->H'=H->o.uponIn (fr ro) 0 P a K Q ((execOp a.eval o).run P w):=by intro v e j hH;rw[e,Oper.uponIn_value];subst hH;exact t v I μ w j s (.refl _ _ _ _)
 unfold dw at h;split at h
 .
  simp at h;obtain⟨v,j,rfl,rfl⟩:=h;unfold vS at j;split at j
  .rename_i hp;cases j;have⟨u,d,B⟩:=Yz (w:=w) Y r o hp
   grind
  split at j
  .have⟨u,d,B⟩:=ZE Y r s o j
   grind
  cases j
 .
  have hr:eM E F H o.op=M x/\H'=H:=by split at h;simp at h;grind;split at h;split at h;(next v j=>obtain⟨rfl,rfl⟩:=h;exact⟨B5 j,_l⟩);split at h;simp at h;grind;grind;grind
  grind[ZD]
 .
  by_cases G:qv E ops place=U
  .rw[L' G]at h
   grind[ζf,Yi,Oper.uponIn_value]
  rw[M' G]at h;split at h
  .rename_i ob m T;have⟨obj,p,u,d,B⟩:=EY Y r s o T;rw[d,Oper.uponIn_value];have⟨g1,g2⟩:=B.rel _ (s.dom _ (x? _));have⟨s1,s2⟩:=s.push B.b g1 B.nf
   grind
  .rename_i ob m b i T;split at h
   .rename_i b__;have⟨obj,p,u,d,B⟩:=EY Y r s o T;rw[d,Oper.uponIn_value];have⟨g1,g2⟩:=B.rel _ (s.obs _ _ b__);have⟨s1,s2⟩:=s.fill b__ B.b g1 B.nf
    grind
   grind
  grind
 .
  have hl:cT E F H o.op=M (x,H'):=by grind
  have⟨nx,u,w',μ',d,B,Z,A,R⟩:=(Zs Y r s o hl).run;rw[d];rcases B with rfl|⟨rfl,rfl⟩
  .exact t u I μ' w' Z A R
  exact t _ I μ' w' Z A R

 have z:∀c args,mg F o.op=M (c,args)->∃d__:aY V',c6 I μ args d__/\
  (∀f,c=.fn f->BM P f->(execOp a.eval o).run P w=.ok (.enter f d__.toArray) w)/\
  (∀id,c=.yld id->∃p,μ id=M p/\(execOp a.eval o).run P w=(Instr.yield p.b d__.toArray).run P w):=by
  intro c args C;have⟨dst,op,ty,pos,after,a__⟩:=o
  cases op with
  |call cl=>
   have⟨callee,L,ai⟩:=cl
   cases callee with
   |value f=>
    simp only[mg]at C;split at C
    .rename_i g p q d__ hf c__;obtain⟨rfl,rfl⟩:=C;have⟨u,v,ef,hu,j⟩:=(dR r hf).mC;have D:=qS r c__;refine⟨u.toList++L.toList.map a.eval++v.toList,(hu.append D).append j,?_,f?⟩
     simp_all[execOp,resolve,Deferred.ofValue,invoke,AB]
    .rename_i id d__ hf c__;simp at C;obtain⟨rfl,rfl⟩:=C;have⟨p,e__,ef⟩:=(dR r hf).Ye;have D:=qS r c__;refine⟨L.toList.map a.eval,D,f?,?_⟩
     intro aj X;cases X;refine⟨p,e__,?_⟩;simp[execOp,resolve,z?];rw[ef];simp[Deferred.ofValue,L?,y?,invoke]
     congr 1
     congr 1
     grind
    grind
   |_=>grind[mg]
  |_=>simp[mg]at C
 have S:∀f args y,mg F o.op=M (.fn f,args)->cw call f args H=M y->x=y->H'=(if y.scalar then H else dh H (dz (cF call.lv H) args))->
  o.uponIn (fr ro) 0 P a K Q ((execOp a.eval o).run P w):=by
  intro f args y d B Z A;have⟨d__,g1,g2,_⟩:=z _ _ d;have⟨k1,k2⟩:=Hp k B s g1;rw[g2 f _l k1]
  grind[Ho]
 have af:∀f args,mg F o.op=M (.fn f,args)->iP E call f args H=M (x,H')->o.uponIn (fr ro) 0 P a K Q ((execOp a.eval o).run P w):=by intro f args d B;have⟨d__,g1,g2,_⟩:=z _ _ d;have⟨k1,k2⟩:=abG k B s g1;rw[g2 f _l k1];grind[Ho]
 have ah:∀id args,mg F o.op=M (.yld id,args)->call (.yld id) args H=M (x,H')->o.uponIn (fr ro) 0 P a K Q ((execOp a.eval o).run P w):=by intro id args d B;have⟨d__,g1,_,g3⟩:=z _ _ d;have⟨p,e__,e⟩:=g3 id _l;have⟨l,f,tmps,assign,body,k1,k2⟩:=k.yld id args H x H' B I μ w d__ p s g1 e__;rw[e,k1,Oper.uponIn_round];refine⟨λh=>by grind[fr],?_⟩;have B:=k2;refine B.mono ?_;rintro e w' ⟨u,I',μ',rfl,d,B,Z⟩;grind
 split at h
 .rename_i f args C;split at h
  rotate_left
  .cases h
  unfold eR at h;split at h
  .grind
  split at h
  .grind
  split at h
  .rename_i y hy;split at h
   next W=>simp at h;refine S f args y C (sQ hy) h.1.symm ?_;rw[<-h.2,L' W]
   rename_i W;split at h
   next ad=>simp at h;refine S f args y C (sQ hy) h.1.symm ?_;rw[<-h.2,M' W,xx _ λid hi=>Dg ad hi]
   simp at h
  grind
 all_goals grind
end
structure mD(B:Nat)(ds:List Deferred)(w:World):Prop where
 all:∀d∈ds,∃r,d.target=.collected r/\B<=r/\w.heap[r]?=some (.deferred (some []))
 apart:ds.Pairwise λd d'=>∀r,d.target=.collected r->d'.target≠.collected r
section
variable{P:Program}{E:Env}{I I' I'':cN}{μ μ' μ'':Mu}{H H' H'':bt}{n B:Nat}{F F':WP}{a:Act}{w w' w'':World}
def xJ(s:dD I μ H w){r:Nat}{c:aX (aY Deferred)}(h:w.heap[r]?=M (.deferred c)):¬jJ μ H r:=by rintro⟨id,p,ob,h1,D,z,rfl⟩;have:=s.obs id ob h1;cases ob with|row es G=>have⟨q,c,el,u,_,B,_⟩:=this;rw[z]at u;grind|map C=>have⟨q,c,el,u,_,B,_⟩:=this;rw[z]at u;grind|loop x=>have⟨q,c,u,_,B,_⟩:=this;rw[z]at u;grind|_=>grind[Ob.live]
def mD.step{ds:aY Deferred}(h:mD B ds w)(s:dD I μ H w)(st:Step I μ H w I' μ' H' w'):mD B ds w' where
 all:=by intro d hd;have⟨r,a,z,u⟩:=h.all d hd;refine⟨r,a,z,?_⟩;rw[st.frame r (Array.getElem?_eq_some_iff.1 u).1 (xJ s u)];exact u
 apart:=h.apart
def Tp(r:fA I μ n F a.tmps)(ops:Array Oper)(o:Oper):iA ops.toList F o=Region.wanted o (yielded ops a.tmps):=by
 unfold iA Region.wanted;cases i:o.guard with|none=>rfl|some g=>
  have⟨j,b⟩:=g;simp only;unfold yielded;have e:ops.toList[j]?=ops[j]?:=f?;rw[e];cases hd:_o (ops[j]?) (·.dst)with|none=>simp|some d=>
   simp only[ζb];have f:=r.2 d;by_cases w:d<a.tmps.size
   .have u:a.tmps[d]?=M a.tmps[d]:=(by simp[w]);have z:a.tmps.getD d undef=a.tmps[d]:=(by simp[w]);rw[z]at f;rw[u];cases B:get F d with|bool c=>rw[B]at f;rw[f.uD];all_goals grind|_=>cases h:a.tmps[d]with|bool c=>rw[h]at f;have:=f.of_bool;rw[B]at this;cases this|_=>rfl
   have u:a.tmps[d]?=J:=Array.getElem?_eq_none (Nat.le_of_not_lt w);have z:a.tmps.getD d undef=undef:=by simp[w]
   rw[z]at f;rw[u];cases B:get F d with|bool c=>rw[B]at f;have:=f.uD;grind[undef]|_=>rfl
def GU(T:fG P E){call:en}(b:nC P call){ops:Array Oper}{place:aX (Nat×Nat)}{o:Oper}(h:iY E call n ops.toList place o F H=M (F',H'))
 (r:fA I μ n F a.tmps)(s:dD I μ H w)(ro:aX Nat){K:Act->World->Prop}{Q:Exit->Act->World->Prop}
 (g:∀a' I' μ' w',fA I' μ' n F' a'.tmps->a'.defers=a.defers->dD I' μ' H' w'->Step I μ H w I' μ' H' w'->K a' w'):
 if Region.wanted o (yielded ops a.tmps)then o.wpIn (fr ro) 0 P a w K Q else(∀f,o.about P w a.eval=M f->(fr ro).fn f)/\K (a.put o.dst undef) w:=by
 unfold iY at h;rw[<-Tp r];have z:∀v,(a.put o.dst v).defers=a.defers:=λv=>by cases o.dst<;>rfl
 split at h
 .rename_i C;rw[L' C];split at h
  .rename_i x H2 D;simp only[ζf,ζc]at h;obtain⟨L,G,rfl,rfl⟩:=h;refine Ww T b D r s ro (λu I' μ' w' i S B=>?_)
   exact g _ I' μ' w' ((r.mono B.le B.mu).put i G) (z u) S B
  simp at h
 rename_i C;rw[M' C];simp only[ζf,ζc]at h;obtain⟨L,G,rfl,rfl⟩:=h;exact⟨λ_ _=>trivial,g _ I μ w (r.put (.undef I μ) G) (z _) s (.refl _ _ _ _)⟩
def SR(D:fG P E){call:en}(b:nC P call){ops:Array Oper}(ro:aX Nat){Q:Exit->Act->World->Prop}:∀(i?:QP)(k:Nat)(I:cN)(μ:Mu)(F:WP)(H:bt)(a:Act)(w:World),
 (∀j,i?[j]?=ops[k+j]?)->oQ E call n ops.toList i? F H=M (F',H')->fA I μ n F a.tmps->dD I μ H w->
 (∀a' I' μ' w',fA I' μ' n F' a'.tmps->a'.defers=a.defers->dD I' μ' H' w'->Step I μ H w I' μ' H' w'->Q .normal a' w')->
 wpOpsIn (fr ro) 0 P ops Q (List.range' k (W i?)) a w:=by
 intro i?
 induction i? with
 |nil=>intro k I μ F H a w _ h r s B;simp only[oQ,ζa,ζc]at h;obtain⟨rfl,rfl⟩:=h;exact B a I μ w r Y s (.refl _ _ _ _)|cons o i? C=>
  intro k I μ F H a w u h r s B;simp only[oQ]at h;split at h
  .rename_i F1 H1 z;have G:ops[k]?=M o:=by simpa using(u 0).symm
   simp only[List.length_cons,List.range'_succ,wpOpsIn,G];refine GU D b z r s ro (λa' I' μ' w' c hd g L=>?_)
   refine C (k+1) I' μ' F1 H1 a' w' (λj=>by have:=u (j+1);grind) h c g ?_
   grind[Step.trans]
  simp at h
end
def qL(F F':WP)(op:Op):Prop:=∀x∈op.operands,ev F x=ev F' x
def uW{F F':WP}:∀{l:aY UV},(∀x∈l,ev F x=ev F' x)->gz F l=gz F' l:=by intro l;induction l with|nil=>intro _;rfl|cons x l u=>grind[gz]
def CD{F F':WP}:∀{l:aY (Nat×UV)},(∀x∈l,ev F x.2=ev F' x.2)->oT F l=oT F' l:=by intro l;induction l with|nil=>intro _;rfl|cons x l u=>grind[oT]
def AA{F F':WP}{o:aX UV}(h:∀x∈o.toArray,ev F x=ev F' x):lX F o=lX F' o:=by cases o with|none=>rfl|some x=>grind[lX]
def HK{E:Env}{F F':WP}{op:Op}(h:qL F F' op):bS E F op=bS E F' op:=by
 cases op with
 |move x=>exact h x (by simp[F?])|assign x=>exact h x (by simp[F?])|pick c a b=>simp[bS];rw[h c (by simp[F?]),h a (by simp[F?]),h b (by simp[F?])]|nilCheck x=>simp[bS];rw[h x (by simp[F?])]|binOp op t x y B=>simp[bS];rw[h x (by simp[F?]),h y (by simp[F?])]|unOp op t x=>simp[bS];rw[h x (by simp[F?])]|convert s d x=>simp[bS];rw[h x (by simp[F?])]|fieldAddr s x f=>simp[bS];rw[h x (by simp[F?])]|field s x f=>simp[bS];rw[h x (by simp[F?])]|indexAddr t x i=>simp[bS];rw[h x (by simp[F?]),h i (by simp[F?])]|index t x i=>simp[bS];rw[h x (by simp[F?]),h i (by simp[F?])]|slice t x lo hi C=>
  simp[bS];rw[h x (by simp[F?]),AA (λy w=>h y (by grind[F?])),AA (λy w=>h y (by grind[F?])),
   AA (λy w=>h y (by grind[F?]))]
 |build t ps=>simp[bS];rw[CD (λx u=>h x.2 (by grind[F?]))]|makeFunc f a b=>cases f with|func f=>simp[bS];rw[uW (λx u=>h x (by grind[F?])),uW (λx u=>h x (by grind[F?]))]|_=>rfl
 |extract x i=>simp[bS];rw[h x (by simp[F?])]|call c=>have⟨callee,args,z⟩:=c;cases callee with|builtin b=>simp[bS];rw[uW (λx u=>h x (by grind[F?,Call.operands]))]|_=>rfl
 |_=>rfl
def Bf{E:Env}{F F':WP}{H:bt}{op:Op}(h:qL F F' op):eM E F H op=eM E F' H op:=by cases op with|load t x=>simp[eM];rw[h x (by simp[F?])]|lookup t m k ok=>simp[eM];rw[h m (by simp[F?]),h k (by simp[F?])]|_=>rfl
theorem Ac{E:Env}{F F':WP}{op:Op}(h:qL F F' op):fZ E F op=fZ E F' op:=by cases op with|alloc t=>rfl|box t x=>simp[fZ];rw[h x (by simp[F?])]|makeSlice t l c=>simp[fZ];rw[h l (by simp[F?]),h c (by simp[F?])]|buildSlice t len ps=>simp[fZ];rw[CD (λx u=>h x.2 (by grind[F?]))]|makeMap t r=>cases r<;>rfl|_=>rfl
def Ik{E:Env}{F F':WP}{H:bt}{op:Op}(h:qL F F' op):cT E F H op=cT E F' H op:=by
 cases op with
 |store t p x=>simp[cT];rw[h p (by simp[F?]),h x (by simp[F?])]|mapUpdate t m k x=>simp[cT];rw[h m (by simp[F?]),h k (by simp[F?]),h x (by simp[F?])]|insert t m k x=>simp[cT];rw[h m (by simp[F?]),h k (by simp[F?]),h x (by simp[F?])]|call c=>
  have⟨callee,args,u⟩:=c
  cases callee with
  |builtin b=>cases b with|append=>simp[cT];rw[uW (λx w=>h x (by grind[F?,Call.operands]))]|clear=>simp[cT];rw[uW (λx w=>h x (by grind[F?,Call.operands]))]|_=>rfl
  |_=>rfl
 |_=>rfl
def Ie{F F':WP}{op:Op}(h:qL F F' op):mg F op=mg F' op:=by
 cases op with
 |call c=>have⟨callee,args,u⟩:=c;cases callee with|value f=>simp[mg];rw[h f (by simp[F?,Call.operands]),uW (λx w=>h x (by grind[F?,Call.operands]))]|_=>rfl
 |_=>rfl
def Nw{E:Env}{F F':WP}{op:Op}(h:qL F F' op):sB E F op=sB E F' op:=by grind[sB,Ac]
def PY{F F':WP}{ops:QP}{i b:Nat}{H:bt}{op:Op}(h:qL F F' op):Cm ops i b F H op=Cm ops i b F' H op:=by
 have:sX F op=sX F' op:=by
  unfold sX;split;rename_i args _;split;rename_i x r u;rw[h x (by
   have:x∈args.toList:=by rw[u];simp
   grind[F?,Call.operands])]
  rfl;rfl
 grind[Cm]
def ND{E:Env}{place:aX (Nat×Nat)}{F F':WP}{H:bt}{op:Op}(h:qL F F' op):vS E F H place op=vS E F' H place op:=by
 unfold vS;rw[HK h];have:evalConv E F H op=evalConv E F' H op:=by unfold evalConv;split;rw[h _ (by simp[F?])];rfl
 rw[this]
def G3{E:Env}{b:Nat×Nat}{F:WP}{H:bt}{op:Op}:vS E F H (M b) op=bS E F op:=by grind[vS]
def Gt{E:Env}{call:en}{ops:QP}{place:aX (Nat×Nat)}{F F':WP}{H:bt}{op:Op}(h:qL F F' op)(B:∀b i,place=M (b,i)->sM ops i F=sM ops i F'/\uB ops b i F=uB ops b i F'/\qD ops i F op=qD ops i F' op):dw E call ops place F H op=dw E call ops place F' H op:=by
 unfold dw;rw[ND h,Ac h,Ik h,Ie h,Bf (H:=H) h,Nw h];split<;>(try rfl)
 .split<;>(try rfl);rename_i i;rw[Bf h,(B _ i Y).2.2]
 split<;>(try rfl);rename_i b i;rw[(B _ i Y).1,(B _ i Y).2.1,PY h]
section
variable{E:Env}{call:en}{n:Nat}{ops:QP}{j?:Nat}
theorem Qo {o:Oper} {t:Nat} (h:.tmp t∈o.op.operands):t∈tmpsOf o ops:=by
 refine List.mem_append.2 (.inl (List.mem_filterMap.2 ⟨.tmp t,by grind,rfl⟩))
def Js{F F':WP}{o:Oper}{dst:aX Nat}{v:V}(hp:lY n F dst v=M F')(h:∀d,dst=M d->d∉tmpsOf o ops):qL F' F o.op:=by
 intro x u
 cases x with
 |tmp t=>cases dst with|none=>grind[lY]|some d=>simp only[lY]at hp;split at hp;simp at hp;subst hp;have w:d≠t:=λe=>h d Y (by rw[e];exact Qo u);grind[ev,lq];grind
 |const v=>rfl|func f=>rfl|global g=>rfl
def Ef{F F':WP}{o:Oper}{dst:aX Nat}{v:V}(hp:lY n F dst v=M F')(h:∀d,dst=M d->d∉tmpsOf o ops):iA ops F' o=iA ops F o:=by unfold iA;cases a:o.guard with|none=>rfl|some g=>have⟨j,b⟩:=g;simp only;cases hd:_o (ops[j]?) (·.dst)with|none=>rfl|some t=>simp only;cases dst with|none=>grind[lY]|some d=>simp only[lY]at hp;split at hp;simp at hp;subst hp;have u:d≠t:=λe=>h d Y (by grind[tmpsOf]);rw[lq _ _ u];grind
def SC{F F1 G:WP}{d D:aX Nat}{u v:V}(a:lY n F d u=M F1)(T:lY n F1 D v=M G)(g:∀x,d=M x->D≠M x):
 ∃B,lY n F D v=M B/\lY n B d u=M G:=by
 cases d with
 |none=>simp_all[lY]|some x=>
  cases D with
  |none=>simp_all[lY]|some y=>simp_all[lY,L5]
def NP{i k:Nat}{B ok:Oper}(h:ez ops i=U)(hi:ops[i]?=M B)(a:ops[k]?=M ok)(D:k≠i):c7 ok.op=.pure\/(if k<i then before ops i k else before ops k i)=U\/(isApp B.op=U/\c7 ok.op=.alloc/\i<k):=by grind[ez]
theorem J9{H:bt}{j es:Nat}{ob:Ob}{x:V}{xs:S'}(B:H[j]?=M .free)(h:dZ H es x=M xs):dZ (H.set j ob) es x=M xs:=by unfold dZ at h⊢;all_goals grind[Ob.rows]
def UI{H H1:bt}{j:Nat}{ob:Ob}{x:V}(h:iU H x=M H1):W H1=W H/\(H1[j]?=M .free->H[j]?=M .free)/\(H[j]?=M .free->iU (H.set j ob) x=M (H1.set j ob)):=by unfold iU at h⊢;split at h;grind;grind;rename_i id a b c;split at h;rename_i d;cases h;refine⟨f?,λh=>?_,λh=>?_⟩;grind;have e:id≠j:=λe=>g?;rw[E? (Ne.symm e),d];rw[K' _ _ e];simp_all;simp_all
def Wd{H:bt}{o:Ob}{j:Nat}(B:o≠.free)(h:(H++[o])[j]?=M .free):j<W H/\H[j]?=M .free:=by grind
def Y4{F:WP}{H H1:bt}{op:Op}{v:V}{j:Nat}{ob:Ob}(B:isApp op=U)(h:cT E F H op=M (v,H1))(D:H1[j]?=M .free):H[j]?=M .free/\cT E F (H.set j ob) op=M (v,H1.set j ob):=by unfold isApp at B;split at B;simp only[cT]at h⊢;split at h;split at h;rename_i e _ u w;split at h;rename_i d hd;split at h;simp_all[J9];rename_i L i C Q S;split at h;obtain⟨H0,a,G⟩:=ζf.1 h;obtain⟨rfl,rfl⟩:=G;obtain⟨I,z⟩:=Wd f? D;obtain⟨g1,g2,g3⟩:=UI (ob:=ob) a;have g:=g2 z;grind[J9];simp_all;simp_all;simp_all;rename_i e _ u w;split at h;rename_i d hd;unfold mkApp at h;split at h;split at h;simp_all[mkApp];split at h;obtain⟨rfl,rfl⟩:=h;grind[mkApp];simp_all;simp_all;simp_all;simp_all;simp_all;simp_all
def wY{i:Nat}{F:WP}{H H':bt}{op:Op}{v:V}(h:dw E call ops (M (j?,i)) F H op=M (v,H'))(j:ez ops i=O)(B:c7 op≠.loud):
 (H'=H/\∀H2:bt,p8 (H2.take j?) (H.take j?)->dw E call ops (M (j?,i)) F H2 op=M (v,H2))\/
 (∃ob,H[j?+i]?=M .free/\H'=H.set (j?+i) ob/\∀H2:bt,H2[j?+i]?=M .free->dw E call ops (M (j?,i)) F H2 op=M (v,H2.set (j?+i) ob))\/
 (∃T,kC (H.take j?) T=U/\H'=dh H T/\∀H2:bt,p8 (H2.take j?) (H.take j?)->dw E call ops (M (j?,i)) F H2 op=M (v,dh H2 T)):=by
 unfold dw at h;split at h
 next o=>simp at h;obtain⟨x,L,rfl,rfl⟩:=h;simp_all[G3,dw]
 .rename_i B;simp only at h;split at h
  .rename_i Q;split at h
   .rename_i x L;obtain⟨rfl,rfl⟩:=h;refine .inl ⟨Y,λH2 D=>?_⟩
    grind[dw,B9]
   grind
  grind
 .split at h
  .have⟨x,L,e⟩:=ζf.1 h;simp_all[dw]
  split at h
  .grind
  .rename_i ob m A X S G;obtain⟨rfl,rfl⟩:=G;split at h
   .rename_i w;obtain⟨rfl,rfl⟩:=h;refine .inr (.inl ⟨ob,w,Y,λH2 D=>?_⟩)
    grind[dw]
   grind
  grind
 .grind
 rename_i B;split at h
 .rename_i f args z;split at h
  rotate_left
  .cases h
  rename_i C;unfold eR at h;split at h
  .grind
  rename_i u;simp only at h;split at h
  .rename_i y q;split at h
   .rename_i I;obtain⟨rfl,rfl⟩:=h;refine .inl ⟨Y,λH2 D=>?_⟩
    unfold dw eR;rw[B];simp only[z,L' C];rw[M' u]
    grind[CT]
   split at h
   .rename_i g;obtain⟨rfl,rfl⟩:=h;refine .inr (.inr ⟨_,g,Y,λH2 D=>?_⟩)
    unfold dw eR;rw[B];simp only[z,L' C];rw[M' u]
    grind[CT,Pg,yq]
   grind
  grind
 all_goals grind
def IT{g:X'}{i:Nat}:∀{r l:ST},Fx g ops i r=M l->∀k∈r,∃a,Kw g ops i k=M a/\∀s∈a,s∈l
 |[],l,h,k,c=>o?|q::r,l,h,k,c=>by simp[Fx]at h;split at h;rename_i a b d B;simp at h;rcases mem_cons.1 c with rfl|c;grind;have⟨a',g1,g2⟩:=IT B k c;exact⟨a',g1,λs u=>g?⟩;grind
theorem Mm {g:Bool} {i:Nat}:∀{r l:aY Nat},Fx g ops i r=some l->∀s∈l,s∉dstsOf ops
 | [],l,h,s,hs=>by grind[Fx]
 | q::r,l,h,s,hs=>by
  simp[Fx]at h;split at h
  .rename_i a b h1 B;simp  at h;subst h;rcases List.mem_append.1 hs with hs|hs
   .grind[Kw]
   exact Mm B s hs
  grind
def s8{g:X'}{i a:Nat}{l:ST}{B:Oper}(hi:ops[i]?=M B)(h:uC g ops i=M (a,l)):(∃t x,B.op=.store t (.tmp a) x)/\a∉dstsOf ops/\(∀s∈l,s∉dstsOf ops)/\
 ∀k ok,ops[k]?=M ok->k≠i->c7 ok.op=.pure\/(if k<i then before ops i k else before ops k i)=U\/(∃D a',ok.op=.load D (.tmp a')/\(a'∈l\/a'∈dstsOf ops))\/(g=U/\(c7 ok.op=.alloc\/c7 ok.op=.call)):=by
 unfold uC at h;rw[hi]at h;simp at h;split at h
 .rename_i t a0 x w;simp at w;split at h
  .simp_all
  have⟨G,z,e⟩:=ζf.1 h;obtain⟨rfl,rfl⟩:=e;refine⟨⟨t,x,w⟩,g?,Mm z,λk ok d C=>?_⟩
  have⟨b,c,I⟩:=IT z k (List.mem_range.2 (ζe.1 d).1);unfold Kw at c;rw[d]at c;simp only at c;split at c
  .rename_i u;simp at u;rcases u with(u|u)|u
   .grind
   .grind
   exact .inr (.inl u)
  grind
 grind
def ME{F F':WP}{dst:aX Nat}{v:V}{s:Nat}(hp:lY n F dst v=M F')(h:∀d,dst=M d->s≠d):get F' s=get F s:=by unfold lY at hp;split at hp;grind;rename_i d;split at hp;simp at hp;subst hp;simp_all[lq,Ne.symm];grind
def Li{k d:Nat}{ok:Oper}(a:ops[k]?=M ok)(hd:ok.dst=M d):d∈dstsOf ops:=List.mem_filterMap.2 ⟨ok,s? a,hd⟩
def BK{F F':WP}{k i:Nat}{ok B:Oper}{v:V}(c:ops[k]?=M ok)(hi:ops[i]?=M B)(hp:lY n F ok.dst v=M F'):sM ops i F'=sM ops i F/\∀b,uB ops b i F'=uB ops b i F:=by
 have f:∀s,s∉dstsOf ops->get F' s=get F s:=λs z=>ME hp λd hd e=>z (e▸Li c hd);refine⟨?_,λb=>?_⟩;unfold sM;cases u:uC O ops i with|none=>rfl|some w=>have⟨a,l⟩:=w;have⟨_,C,D,_⟩:=s8 hi u;grind
 unfold uB;cases u:uC U ops i with|none=>rfl|some w=>have⟨a,l⟩:=w;have⟨_,C,D,_⟩:=s8 hi u;grind
def RW{i k a a':Nat}{t:W'}{x:UV}{B:Oper}(hi:ops[i]?=M B)(e1:B.op=.store t (.tmp a) x)(b:a'∈dstsOf ops)(D:a∉dstsOf ops)(G:uL ops i k=O):a∈sx ops k a':=by grind[sx]
theorem GG{k a' s:Nat}(h:s∈sx ops k a'):s∉dstsOf ops/\∃i B t x,ops[i]?=M B/\B.op=.store t (.tmp s) x/\uL ops i k=O:=by grind[sx]
def IJ{F F':WP}{k i:Nat}{ok:Oper}{op:Op}{v:V}(a:ops[k]?=M ok)(hp:lY n F ok.dst v=M F')(B:qL F' F op):qD ops i F' op=qD ops i F op:=by
 have b:∀s,s∉dstsOf ops->get F' s=get F s:=λs h=>ME hp λd hd e=>h (e▸Li a hd);unfold qD;split;rename_i t u;have w:=by have:=B (.tmp u) (by simp[F?]);simpa[ev]using this
 rw[w,Bool.eq_iff_iff];grind[GG];rfl
def Gl{k a':Nat}{ok:Oper}{t:W'}(a:ops[k]?=M ok)(e:ok.op=.load t (.tmp a'))(h:ez ops k=U):sx ops k a'=[]:=by refine List.eq_nil_iff_forall_not_mem.2 λs w=>?_;have⟨_,i,B,C,x,b,z,D⟩:=GG w;have u:i≠k:=λe2=>g?;rcases NP h a b u with g|g|g;rw[z]at g;cases g;all_goals grind[uL,isApp]
def AG{F:WP}{H H':bt}{t:W'}{a:Nat}{x:UV}{id el off:Nat}{u:V}(B:get F a=.hptr id el off)(h:cT E F H (.store t (.tmp a) x)=M (u,H')):∃r,H'=H.set id r:=by grind[cT,ev]
theorem Pk{F:WP}{H:bt}{t:W'}{a id b:Nat}{r:Ob}(B:qA id (get F a)=U):eM E F ((H.set id r).take b) (.load t (.tmp a))=eM E F (H.take b) (.load t (.tmp a)):=by
 have:∀m,fJ ((H.set id r).take b) (get F a) m=fJ (H.take b) (get F a) m:=λm=>by unfold qA at B;grind[fJ]
 grind[eM,ev]
theorem IG {i:Nat} {B:Oper} (hi:ops[i]? = some B) (m:c7 B.op=.loud) (W:ez ops i=false) (j:isApp B.op=false) {F:Frame} {T G:bt} {u:V} (D:dw E call ops (some (j?,i)) F T B.op=some (u,G)) :
 ∃g a l id el off t x,uC g ops i=some (a,l)/\B.op=.store t (.tmp a) x/\get F a=.hptr id el off/\(∀s∈l,qA id (get F s)=true)/\(g=true->id<j?)/\cT E F T B.op=some (u,G)/\∀H,dw E call ops (some (j?,i)) F H B.op=cT E F H B.op:=by
 have key:(sM ops i F||uB ops j? i F)=true/\cT E F T B.op=some (u,G)/\∀H,dw E call ops (some (j?,i)) F H B.op=cT E F H B.op:=by
  have j:∀F b H,Cm ops i b F H B.op=false:=λF b H=>by grind[Cm]
  have e:∀H,dw E call ops (some (j?,i)) F H B.op=if sM ops i F||uB ops j? i F then cT E F H B.op else none:=λH=>by
   unfold dw;rw[m];simp only[W,Bool.false_or,j,Bool.or_false]
  rw[e]at D;split at D
  next hc=>exact⟨hc,D,λH=>by rw[e,L' hc]⟩
  cases D
 obtain⟨h1,C,I⟩:=key;rcases Bool.or_eq_true_iff.1 h1 with hf|hf
 .unfold sM at hf;split at hf
  .rename_i a l w;split at hf
   next id el off hg=>obtain⟨⟨t,x,z⟩,-⟩:=s8 hi w;exact⟨false,a,l,id,el,off,t,x,w,z,hg,λs D=>List.all_eq_true.1 hf s D,λh=>(by cases h),C,I⟩
   cases hf
  cases hf
 unfold uB at hf;split at hf
 .rename_i a l w;split at hf
  next id el off hg=>obtain⟨⟨t,x,z⟩,-⟩:=s8 hi w;simp only[ζh,_g]at hf;exact⟨true,a,l,id,el,off,t,x,w,z,hg,λs D=>List.all_eq_true.1 hf.2 s D,λ_=>hf.1,C,I⟩
  cases hf
 cases hf
def KX{g:X'}{k i a a' id el off:Nat}{l:ST}{ok T:Oper}{t j:W'}{x:UV}(d:ops[k]?=M ok)(hi:ops[i]?=M T)(m:(if k<i then before ops i k else before ops k i)=O)(lk:ez ops k=O)
 (G:uC g ops i=M (a,l))(h:T.op=.store t (.tmp a) x){F:WP}(e:get F a=.hptr id el off)(o:∀s∈l,qA id (get F s)=U)(D:ok.op=.load j (.tmp a'))(b:a'∈l\/a'∈dstsOf ops)
 {H0 H1:bt}{v:V}(B:dw E call ops (M (j?,k)) F H0 ok.op=M (v,H1)):
 H1=H0/\(∀(H:bt)(r:Ob),eM E F ((H.set id r).take j?) ok.op=eM E F (H.take j?) ok.op)/\c7 ok.op=.read/\eM E F (H0.take j?) ok.op=M v/\qD ops k F ok.op=U:=by
 obtain⟨-,z,-,-⟩:=s8 hi G;unfold dw at B;rw[D]at B;simp only[c7]at B;split at B
 rotate_left
 .simp at B
 rename_i u;have C:qA id (get F a')=U:=by rcases b with b|b;exact o a' b;have w:uL ops i k=O:=(by grind[uL]);have I:=RW hi h b z w;grind[qD]
 split at B
 next L c=>simp only[ζa,ζc]at B;obtain⟨rfl,rfl⟩:=B;exact⟨Y,λH r=>by rw[D];grind[Pk],by rw[D];rfl,by rw[D];exact c,by rw[D];exact u⟩
 grind
def JQ{F:WP}{H:bt}{t:W'}{a:Nat}{x:UV}{id el off j:Nat}{ob:Ob}(D:get F a=.hptr id el off)(B:id≠j):cT E F (H.set j ob) (.store t (.tmp a) x)=(cT E F H (.store t (.tmp a) x)).map λp=>(p.1,p.2.set j ob):=by
 have b:(H.set j ob)[id]?=H[id]?:=E? (Ne.symm B);have c:∀r,(H.set j ob).set id r=(H.set id r).set j ob:=λr=>K' _ _ (Ne.symm B);simp only[cT,ev,D];split
 .rename_i h1 u w;cases u;rw[b];(repeat' split)<;>first|rfl|simp only[c,A?]
 rfl
def Ew{i:Nat}{F:WP}{H H':bt}{op:Op}{v:V}(B:c7 op=.alloc)(D:qv E ops (M (j?,i))=O)(h:dw E call ops (M (j?,i)) F H op=M (v,H')):
 ∃ob,H[j?+i]?=M .free/\H'=H.set (j?+i) ob/\∀H2:bt,H2[j?+i]?=M .free->dw E call ops (M (j?,i)) F H2 op=M (v,H2.set (j?+i) ob):=by
 unfold dw at h;rw[B]at h;simp only[D,v?,_a]at h;split at h
 .grind
 .rename_i ob m G I w z;obtain⟨rfl,rfl⟩:=z;split at h
  .rename_i u;obtain⟨rfl,rfl⟩:=h;refine⟨ob,u,Y,λH2 C=>?_⟩
   unfold dw;rw[B];simp only[D,v?,_a,w,C]
  cases h
 cases h
def wH(n:Nat)(H:bt):∀{l:So},V.jI l=U->borrows n H l=M l
 |[],_=>rfl|x::r,h=>by simp only[V.jI,ζh]at h;have:=wH n H h.2;unfold borrows at this⊢;simp only[jN,lg n H h.1,this]
def FJ{k i:Nat}{a:Nat}{l:ST}{F:WP}{H H':bt}{op:Op}{v:V}(B:c7 op=.call)(lk:ez ops k=O)(D:uC U ops i=M (a,l))(G:i<W ops)(T:uL ops i k=O)(h:dw E call ops (M (j?,k)) F H op=M (v,H')):
 H'=H/\∀H2:bt,dw E call ops (M (j?,k)) F H2 op=M (v,H2):=by
 have z:LG ops k=U:=by unfold LG;rw[List.any_eq_true];exact⟨i,List.mem_range.2 G,by simp[T,D]⟩
 unfold dw at h;rw[B]at h;simp only at h;split at h
 .rename_i f args C;split at h
  .rename_i u;have b:V.jI args=U:=by
    unfold zm at u;simpa[z]using u
   have w:∀H2,cw call f args H2=cw call f args []:=λH2=>by unfold cw;rw[wH _ _ b,wH _ _ b]
   have I:∀n H2,dz (cF n H2) args=[]:=λn H2=>Kg n H2 b
   have e:∀H2,dw E call ops (M (j?,k)) F H2 op=eR E call ops (M (j?,k)) f args H2:=λH2=>by unfold dw;rw[B];simp only[C,L' u]
   have g:∀H2:bt,dh H2 []=H2:=λ_=>rfl
   have L:ng E ops (M (j?,k)) f=O:=by cases c:ng E ops (M (j?,k)) f with|false=>rfl|true=>unfold eR at h;rw[L' c]at h;simp only[lk,v?,_a]at h;cases h
   have e2:∀H2,eR E call ops (M (j?,k)) f args H2=(cw call f args []).map λy=>(y,H2):=λH2=>by unfold eR;simp only[L,v?,_a,w,I,g,lk];cases cw call f args []with|none=>rfl|some y=>simp[kC]
   rw[e2]at h;have⟨y,j,e3⟩:=ζf.1 h;cases e3;exact⟨Y,λH2=>by rw[e,e2,j];rfl⟩
  cases h
 .simp only[lk,v?,_a]at h;cases h
 cases h
def Gx{place:Nat×Nat}{F:WP}{H H':bt}{op:Op}{v:V}(B:c7 op=.pure\/c7 op=.alloc/\qv E ops (M place)=U)(h:dw E call ops (M place) F H op=M (v,H')):
 H'=H/\∀H2:bt,dw E call ops (M place) F H2 op=M (v,H2):=by
 rcases B with B|⟨B,u⟩
 rotate_left
 .unfold dw at h;rw[B]at h;simp only[u]at h;have⟨x,w,e⟩:=ζf.1 h;simp_all[dw]
 unfold dw at h;rw[B]at h;simp at h;obtain⟨x,w,rfl,rfl⟩:=h;simp_all[G3,dw]
theorem take_set_of_le{H:bt}{b k:Nat}{x:Ob}(h:b<=k):(H.set k x).take b=H.take b:=List.take_set_of_le h
def apart_spec{a b:Oper}(h:Bh ops a b=U):(∀d,a.dst=M d->d∉tmpsOf b ops/\b.dst≠M d)/\(∀d,b.dst=M d->d∉tmpsOf a ops):=by grind[Bh]
def Hx{i k:Nat}{ok:Oper}(h:zY ops i=U)(a:ops[k]?=M ok)(B:k≠i)(D:uL ops i k=O):c7 ok.op=.pure\/c7 ok.op=.read\/c7 ok.op=.alloc/\(DI ops k=U\/i<k):=by grind[zY]
def Dl{op:Op}(h:isApp op=U):c7 op=.loud:=by unfold isApp at h;split at h;rfl;cases h
theorem MV{F:WP}{H H1:bt}{op:Op}{v:V}{b:Nat}(B:isApp op=U)(D:sX F op=U)(G:b<=W H)(h:cT E F H op=M (v,H1)):H1.take b=H.take b:=by
 unfold isApp at B;split at B;rotate_left;cases B;rename_i args u;simp only[cT]at h;split at h;rotate_left;cases h;rename_i t I s x w z;have C:s=.dS\/s=.bN:=by grind[sX,gz]
 have a:∀H2,iU H s=M H2->H2=H:=λH2 h=>by rcases C with rfl|rfl<;>(grind[iU])
 split at h;grind[ζf];split at h;unfold mkApp at h;grind;cases h;cases h
def Ij{i:Nat}{F:WP}{H H':bt}{op:Op}{u:V}(D:isApp op=U)(G:ez ops i=O)(hi:(ops[i]?).map Oper.op=M op)(h:dw E call ops (M (j?,i)) F H op=M (u,H')):
 zY ops i=U/\sX F op=U/\j?<=W H/\cT E F H op=M (u,H'):=by
 unfold dw at h;rw[Dl D]at h;have w:∀g,uC g ops i=J:=λg=>by unfold uC;rw[hi];grind[isApp]
 have z:sM ops i F=O:=by unfold sM;rw[w]
 have B:uB ops j? i F=O:=by unfold uB;rw[w]
 simp only[G,z,B,Bool.false_or]at h
 grind[Cm]
theorem S8{i:Nat}{F:WP}{H H':bt}{op:Op}{u:V}(B:isApp op=U)(h:cT E F H op=M (u,H'))(a:ez ops i=U\/zY ops i=U/\sX F op=U/\j?<=W H):dw E call ops (M (j?,i)) F H op=M (u,H'):=by unfold dw;rw[Dl B];grind[Cm]
def Gr{i:Nat}{F:WP}{H H':bt}{op:Op}{v:V}(B:c7 op=.read)(D:ez ops i=O)(h:dw E call ops (M (j?,i)) F H op=M (v,H')):
 H'=H/\∀H2:bt,p8 (H2.take j?) (H.take j?)->dw E call ops (M (j?,i)) F H2 op=M (v,H2):=by
 unfold dw at h;rw[B]at h;simp only at h;split at h
 .rename_i u;split at h
  .rename_i x w;simp only[ζa,ζc]at h;obtain⟨rfl,rfl⟩:=h;refine⟨Y,λH2 z=>?_⟩
   unfold dw;rw[B];simp only[B9 z,w,u,N']
  grind
 simp at h
def swap{k i:Nat}{ok G:Oper}(p:ops[k]?=M ok)(hi:ops[i]?=M G)(ae:k<i)(c__:before ops i k=O)(b__:Bh ops ok G=U){F F1 R:WP}{H H1 H2:bt}
 (N:iY E call n ops (M (j?,k)) ok F H=M (F1,H1))(y:iY E call n ops (M (j?,i)) G F1 H1=M (R,H2)):
 ∃B D,iY E call n ops (M (j?,i)) G F H=M (B,D)/\iY E call n ops (M (j?,k)) ok B D=M (R,H2):=by
 obtain⟨a1,a2⟩:=apart_spec b__;have af:∃v,lY n F ok.dst v=M F1/\((iA ops F ok=U/\dw E call ops (M (j?,k)) F H ok.op=M (v,H1))\/(iA ops F ok=O/\v=.undef/\H1=H)):=by unfold iY at N;split at N;rename_i hw;split at N;rename_i v H' hd;simp only[ζf,ζc]at N;grind;simp at N;rename_i hw;simp only[ζf,ζc]at N;grind
 have ah:∃v,lY n F1 G.dst v=M R/\((iA ops F1 G=U/\dw E call ops (M (j?,i)) F1 H1 G.op=M (v,H2))\/(iA ops F1 G=O/\v=.undef/\H2=H1)):=by unfold iY at y;split at y;rename_i hw;split at y;rename_i v H' hd;simp only[ζf,ζc]at y;grind;simp at y;rename_i hw;simp only[ζf,ζc]at y;grind
 obtain⟨v,Q,kU⟩:=af;obtain⟨u,ax,an⟩:=ah;have ay:iA ops F1 G=iA ops F G:=Ef Q λd hd=>(a1 d hd).1
 have ao:qL F1 F G.op:=Js Q λd hd=>(a1 d hd).1
 have aA:∀(b j:Nat),(M (j?,i):aX (Nat×Nat))=M (b,j)->sM ops j F1=sM ops j F/\uB ops b j F1=uB ops b j F/\qD ops j F1 G.op=qD ops j F G.op:=λb j e=>by cases e;exact⟨(BK p hi Q).1,(BK p hi Q).2 _,IJ p Q ao⟩
 rw[ay,Gt ao aA]at an;obtain⟨B,S,aB⟩:=SC Q ax λx hx=>(a1 x hx).2
 have aC:iA ops B ok=iA ops F ok:=Ef S λd hd=>a2 d hd
 have ap:qL B F ok.op:=Js S λd hd=>a2 d hd
 have aD:∀(b j:Nat),(M (j?,k):aX (Nat×Nat))=M (b,j)->sM ops j B=sM ops j F/\uB ops b j B=uB ops b j F/\qD ops j B ok.op=qD ops j F ok.op:=λb j e=>by cases e;exact⟨(BK hi p S).1,(BK hi p S).2 _,IJ hi S ap⟩
 have fin:∀D,((iA ops F G=U/\dw E call ops (M (j?,i)) F H G.op=M (u,D))\/(iA ops F G=O/\u=.undef/\D=H))->
  ((iA ops F ok=U/\dw E call ops (M (j?,k)) F D ok.op=M (v,H2))\/(iA ops F ok=O/\v=.undef/\H2=D))->
  ∃B D,iY E call n ops (M (j?,i)) G F H=M (B,D)/\iY E call n ops (M (j?,k)) ok B D=M (R,H2):=by
  intro D e1 e2;refine⟨B,D,?_,?_⟩
  .grind[iY]
  unfold iY;rw[aC];rcases e2 with⟨x1,x2⟩|⟨x1,x2,x3⟩
  .rw[L' x1,Gt ap aD,x2];simp[aB]
  grind
 rcases kU with⟨I,s⟩|⟨I,rfl,rfl⟩
 .rcases an with⟨L,f⟩|⟨L,rfl,rfl⟩
  .by_cases pk:c7 ok.op=.pure\/c7 ok.op=.alloc/\qv E ops (M (j?,k))=U
   .obtain⟨rfl,q⟩:=Gx pk s
    grind
   by_cases pi:c7 G.op=.pure\/c7 G.op=.alloc/\qv E ops (M (j?,i))=U
   .obtain⟨rfl,q⟩:=Gx pi f
    grind
   by_cases b__:isApp ok.op=U/\c7 G.op=.alloc
   .
    obtain⟨b__,aE⟩:=b__;have aH:=Dl b__;have aq:(ez ops k=U\/zY ops k=U/\sX F ok.op=U/\j?<=H.length)/\cT E F H ok.op=M (v,H1):=by cases hl:ez ops k with|true=>simp_all[dw]|false=>obtain⟨a,b,c,d⟩:=Ij b__ hl (by rw[p];rfl) s;grind
    obtain⟨aq,e1⟩:=aq;have V:qv E ops (M (j?,i))=O:=by grind
    have e2:∃ob m,fZ E F G.op=M (ob,m)/\H1[j?+i]?=M .free/\u=m.val (j?+i)/\H2=H1.set (j?+i) ob:=by unfold dw at f;rw[aE]at f;grind
    obtain⟨ob,m,aI,ai,rfl,rfl⟩:=e2;obtain⟨f0,P⟩:=Y4 (ob:=ob) b__ e1 ai;refine fin (H.set (j?+i) ob) (.inl ⟨L,?_⟩) (.inl ⟨I,?_⟩)
    .grind[dw]
    grind[S8]
   have lk:ez ops k=O:=by grind[ez]
   have K:ez ops i=O:=by grind[ez]
   by_cases ar:isApp G.op=U
   .obtain⟨g1,g2,g3,g4⟩:=Ij ar K (by rw[hi];rfl) f
    rcases Hx g1 p a? (by grind[uL])with h|h|⟨h,y⟩
    .grind
    .obtain⟨rfl,q⟩:=Gr h lk s
     grind[p8.of_eq,MV]
    rcases y with y|y
    .exact _e (.inr ⟨h,show(DI ops k||XC E ops k)=U by rw[y];rfl⟩) pk
    omega
   by_cases au:isApp ok.op=U
   .obtain⟨g1,g2,g3,g4⟩:=Ij au lk (by rw[p];rfl) s
    rcases Hx g1 hi a? (by grind[uL])with h|h|⟨h,y⟩
    .grind
    .obtain⟨rfl,q⟩:=Gr h K f
     grind[p8.of_eq,MV]
    grind
   by_cases d__:c7 G.op=.loud
   .obtain⟨g,a,l,id,el,off,t,x,C,w,hg,W,aj,he,ak⟩:=IG hi d__ K (by simpa using ar) f
    obtain⟨r,hr⟩:=AG hg (by rw[<-w];exact he)
    obtain⟨-,-,-,h4⟩:=s8 hi C;rcases h4 k ok p a? with h|h|⟨t',a',al,Y⟩|⟨rfl,h|h⟩
    .exact _e (.inl h) pk
    .rw[L' ae,c__]at h;cases h
    .obtain⟨rfl,q1,q3,q4,q5⟩:=KX p hi (by rw[L' ae];exact c__) lk C w hg W al Y s
     refine fin H2 (.inl ⟨L,f⟩) (.inl ⟨I,?_⟩);unfold dw;rw[q3];subst hr;simp only[q1,q4,q5,N']
    .have V:qv E ops (M (j?,k))=O:=by
      cases hc:qv E ops (M (j?,k))with
      |false=>rfl|true=>exact _e (.inr ⟨h,hc⟩) pk
     obtain⟨ob,P,rfl,A⟩:=Ew h V s;have aF:=aj rfl;rw[w,JQ hg (show id≠j?+k by omega)]at he
     obtain⟨⟨u',H'⟩,e1,e2⟩:=ζf.1 he;cases e2;obtain⟨r',rfl⟩:=AG hg e1;exact fin (H.set id r') (.inl ⟨L,by rw[ak,w];exact e1⟩) (.inl ⟨I,A _ (by rw[E? a?];exact P)⟩)
    obtain⟨rfl,A⟩:=FJ h lk C (ζe.1 hi).1 (by unfold uL;rw[L' ae];exact c__) s
    exact fin H2 (.inl ⟨L,f⟩) (.inl ⟨I,A H2⟩)
   by_cases ad:c7 ok.op=.loud
   .obtain⟨g,a,l,id,el,off,t,x,C,w,hg,W,aj,he,ak⟩:=IG p ad lk (by simpa using au) s
    obtain⟨r,hr⟩:=AG hg (by rw[<-w];exact he)
    obtain⟨-,-,-,h4⟩:=s8 p C;rcases h4 i G hi a? with h|h|⟨t',a',al,Y⟩|⟨rfl,h|h⟩
    .exact _e (.inl h) pi
    .rw[M' a?,c__]at h;cases h
    .obtain⟨rfl,q1,q3,q4,q5⟩:=KX hi p (by rw[M' a?];exact c__) K C w hg W al Y f
     refine fin H (.inl ⟨L,?_⟩) (.inl ⟨I,s⟩);unfold dw;rw[q3];subst hr;rw[q1]at q4;simp only[q4,q5,N']
    .have V:qv E ops (M (j?,i))=O:=by
      cases hc:qv E ops (M (j?,i))with
      |false=>rfl|true=>exact _e (.inr ⟨h,hc⟩) pi
     obtain⟨ob,P,rfl,z⟩:=Ew h V f;have aF:=aj rfl;subst hr;rw[E? a?]at P
     refine fin (H.set (j?+i) ob) (.inl ⟨L,z H P⟩) (.inl ⟨I,?_⟩);rw[ak,w,JQ hg (show id≠j?+i by omega),<-w,he];rfl
    obtain⟨rfl,z⟩:=FJ h K C (ζe.1 p).1 (by unfold uL;rw[M' a?];exact c__) f
    exact fin H (.inl ⟨L,z H⟩) (.inl ⟨I,s⟩)
   have tk:∀(X:bt)(k:Nat)(o:Ob),p8 ((X.set (j?+k) o).take j?) (X.take j?):=λX k o=>p8.of_eq (take_set_of_le a?)
   rcases wY s lk ad with⟨rfl,A⟩|⟨ob,fk,rfl,A⟩|⟨T,tr,rfl,A⟩
   .rcases wY f K d__ with⟨rfl,z⟩|⟨am,fi,rfl,z⟩|⟨a__,Z,rfl,z⟩
    .grind
    .grind
    exact fin _ (.inl ⟨L,f⟩) (.inl ⟨I,A _ ((tV Z).take j?)⟩)
   .rcases wY f K d__ with⟨rfl,z⟩|⟨am,fi,rfl,z⟩|⟨a__,Z,rfl,z⟩
    .refine fin H (.inl ⟨L,z H (tk _ _ _).symm⟩) (.inl ⟨I,s⟩)
    .grind[K']
    have aa:kC (H.take j?) a__=U:=by rw[<-yq (tk H k ob)];exact Z
    have av:j?+k∉a__:=λhm=>_e (Dg aa hm) a?
    refine fin (dh H a__) (.inl ⟨L,z H (tk _ _ _).symm⟩) (.inl ⟨I,?_⟩);rw[A _ (by rw[j8,fk];simp[av]),FT av]
   rcases wY f K d__ with⟨rfl,z⟩|⟨am,fi,rfl,z⟩|⟨a__,Z,rfl,z⟩
   .refine fin H (.inl ⟨L,z H ((tV tr).take j?).symm⟩) (.inl ⟨I,s⟩)
   .have aw:j?+i∉T:=λhm=>_e (Dg tr hm) a?
    have aG:H[j?+i]?=M .free:=by rw[j8]at fi;obtain⟨o,ho,hf⟩:=ζf.1 fi;rw[M' aw]at hf;rw[ho,hf]
    refine fin (H.set (j?+i) am) (.inl ⟨L,z H aG⟩) (.inl ⟨I,?_⟩);rw[A _ (tk _ _ _),FT aw]
   have aa:kC (H.take j?) a__=U:=by rw[<-yq ((tV tr).take j?)];exact Z
   refine fin (dh H a__) (.inl ⟨L,z H ((tV tr).take j?).symm⟩) (.inl ⟨I,?_⟩);rw[A _ ((tV aa).take j?),NY]
  grind
 grind
theorem Nj(h:zi ops=U){k i:Nat}{ok B:Oper}(a:ops[k]?=M ok)(hi:ops[i]?=M B)(D:k<i):Ib B k=U\/Bh ops ok B=U:=by unfold zi at h;simp at h;grind
def Vs(hd:zi ops=U){i:Nat}{B:Oper}(hi:ops[i]?=M B):∀(l r:ST),(∀k∈l,k<i/\Ib B k=O/\before ops i k=O)->∀{F F':WP}{H H':bt},
 mw E call n ops j? (l++i::r) F H=M (F',H')->mw E call n ops j? (i::(l++r)) F H=M (F',H'):=by
 intro l
 induction l with
 |nil=>grind|cons k l D=>
  intro r C F F' H H' h;have⟨u,G,w⟩:=C k f?
  simp[mw]at h;split at h
  .rename_i ok hk;split at h
   .rename_i F1 H1 h1;have:=D r (λx I=>C x (B? _ I)) h
    simp[mw,hi]at this;split at this
    .rename_i Q H2 g;have z:Bh ops ok B=U:=by
      grind[Nj]
     have⟨L,j,g1,g2⟩:=swap hk hi u w z h1 g
     grind[mw]
    grind
   grind
  grind
inductive Reach(ops:List Oper):Nat->Nat->Prop
 |one(i k:Nat)(o:Oper)(e:Edge)(hi:ops[i]?=some o)(he:e∈o.after)(hb:nS e=true)(hk:e.on=k):Reach ops i k|more(i j k:Nat)(o:Oper)(e:Edge)(hi:ops[i]?=some o)(he:e∈o.after)(hb:nS e=true)(hk:e.on=j)(h:Reach ops j k):Reach ops i k
def Gu:∀(B l:ST)(k:Nat),k∈B.foldl (λl k=>if l.contains k then l else k::l) l->k∈B\/k∈l
 |[],_,_,h=>.inr h|x::B,l,k,h=>by rcases Gu B _ k h with h|h;all_goals grind
def Qm{a:aY ST}{o:Oper}{k:Nat}(h:k∈Mx a o):∃e∈o.after,nS e=U/\(k=e.on\/∃S,a[e.on]?=M S/\k∈S):=by
 have key:∀(es:aY Edge)(l:ST),k∈es.foldl (λl e=>(e.on::(a[e.on]?).getD []).foldl (λl k=>if l.contains k then l else k::l) l) l->k∈l\/∃e∈es,k=e.on\/∃S,a[e.on]?=M S/\k∈S:=by
  intro es;induction es with|nil=>grind|cons e es u=>
   intro l h;rcases u _ h with h|⟨z,b,w⟩
   .rcases Gu _ _ _ h with h|h;all_goals grind
   grind
 rcases key _ _ h with h|⟨e,b,w⟩;all_goals grind
def AQ(ops:QP):∀(l:QP)(a:aY ST)(pre:QP),ops=pre++l->W a=W pre->(∀(i:Nat)S,a[i]?=M S->∀k∈S,Reach ops i k)->
 ∀(i:Nat)S,(l.foldl (λa o=>a++[Mx a o]) a)[i]?=M S->∀k∈S,Reach ops i k
 |[],_,_,_,_,h=>h|o::l,a,pre,D,G,h=>by refine AQ ops l _ (pre++[o]) o? o? ?_;intro i S c k b;by_cases hi:i<W a;grind;rw[List.getElem?_append_right a?]at c;have B:i=W a:=(by grind);subst B;simp at c;subst c;have u:ops[W a]?=M o:=g?;have⟨e,w,z,b⟩:=Qm b;rcases b with b|⟨S,c,b⟩;exact .one _ _ o e u w z b.symm;exact .more _ e.on _ o e u w z Y (h _ S c k b)
def MG{i k:Nat}(h:before ops i k=U):Reach ops i k:=by unfold before at h;cases a:(KF ops)[i]?with|none=>grind|some S=>exact AQ ops ops [] [] Y Y f? i S a k g?
end
section
variable{P:Program}{E:Env}{I I':cN}{μ μ':Mu}{H H':bt}{n B:Nat}{F F':WP}{a:Act}{w w':World}
def Je(e:Edge):Region.binds .any e=nS e:=by unfold Region.binds nS;grind
def todo(ops:Array Oper)(a:Array X'):ST:=(C! ops.size).filter λi=> !a.getD i U
def Au(ops:Array Oper)(a:Array X'):(todo ops a).Pairwise (·<·):=List.pairwise_lt_range.filter _
def Wg{ops:Array Oper}{a:Array X'}{i:Nat}(G:a.size=ops.size)(hi:i<ops.size){B D:ST}(h:todo ops a=B++i::D):
 todo ops (a.setIfInBounds i U)=B++D:=by
 have I:∀j∈C! ops.size,(!(a.setIfInBounds i U).getD j U)=((!a.getD j U)&&(j != i)):=by intro j _;by_cases e:j=i;simp_all;have:(a.setIfInBounds i U).getD j U=a.getD j U:=(by simp[Array.getElem?_setIfInBounds_ne (Ne.symm e)]);grind
 have:todo ops (a.setIfInBounds i U)=(todo ops a).filter (· != i):=by unfold todo;rw[List.filter_filter];grind
 rw[this,h];have u:=Au ops a;rw[h]at u;rw[List.pairwise_append]at u;have⟨_,z,C⟩:=u;rw[List.pairwise_cons]at z;rw[List.filter_append,List.filter_cons];simp;rw[List.filter_eq_self.2 (λx w=>by have:=C x w i f?;simp;omega),List.filter_eq_self.2 (λx w=>g?)]
def Down(ops:Array Oper)(a:Array X'):Prop:=∀j o,a.getD j O=U->ops[j]?=M o->∀e∈o.after,nS e=U->a.getD e.on O=U
def Rb{ops:Array Oper}{a:Array X'}(hd:Down ops a){i k:Nat}(h:Reach ops.toList i k)(hi:∀o,ops[i]?=M o->∀e∈o.after,nS e=U->a.getD e.on O=U):a.getD k O=U:=by induction h with|one i k o e B w z hk=>grind|more i j k o e B w z hk _ C=>subst hk;exact C λD u=>hd _ _ (hi o g? e w z) u
def JO(hE:fG P E){call:en}(hc:nC P call){ops:Array Oper}(hd:zi ops.toList=U)(p:Cz ops.toList=U)(ro:aX Nat){Q:Exit->Act->World->Prop}(j?:Nat):
 ∀(D:Nat)(b:Array X')(I:cN)(μ:Mu)(F:WP)(H:bt)(a:Act)(w:World),b.size=ops.size->Down ops b->_m (todo ops b)=D->
 mw E call n ops.toList j? (todo ops b) F H=M (F',H')->fA I μ n F a.tmps->dD I μ H w->
 (∀a' I' μ' w',fA I' μ' n F' a'.tmps->a'.defers=a.defers->dD I' μ' H' w'->Step I μ H w I' μ' H' w'->Q .normal a' w')->
 wpAnyIn (fr ro) 0 P .any ops Q D b a w:=by
 intro D
 induction D with
 |zero=>
  intro b I μ F H a w d__ L c h r s q;have S:todo ops b=[]:=List.eq_nil_of_length_eq_zero c;rw[S]at h;obtain⟨rfl,rfl⟩:=h;refine⟨?_,q a I μ w r _l s (.refl _ _ _ _)⟩;unfold Region.ready;rw[List.filter_eq_nil_iff];intro i hi;have:i∉todo ops b:=g?
  unfold todo at this
  grind
 |succ D ih=>
  intro b I μ F H a w d__ L c h r s q;have W:∀i,i∈Region.ready .any ops b->i<ops.size/\i∈todo ops b/\∃o,ops[i]?=M o/\∀e∈o.after,nS e=U->b.getD e.on O=U:=by intro i hi;unfold Region.ready at hi;rw[a6]at hi;have⟨t,h2⟩:=hi;simp only[ζh]at h2;have G:i<ops.size:=g?;refine⟨G,by unfold todo;grind,ops[i],o?,?_⟩;have K:(ops[i].after.all λe=> !Region.binds .any e||b.getD e.on O)=U:=(by grind);rw[Array.all_eq_true_iff_forall_mem]at K;intro e c__ X;have:=K e c__;rw[Je,X]at this;grind
  refine⟨?_,?_⟩
  .
   intro S
   cases Y:todo ops b with
   |nil=>rw[Y]at c;simp at c|cons Z i?=>
    have z:Z∈todo ops b:=by rw[Y];simp
    have f:=Au ops b;rw[Y,List.pairwise_cons]at f;unfold todo at z;rw[a6]at z;have G:Z<ops.size:=by simpa using z.1
    have:Z∈Region.ready .any ops b:=by unfold Region.ready;rw[a6];refine⟨z.1,?_⟩;simp only[ζh];refine⟨z.2,?_⟩;have e0:ops[Z]?=M ops[Z]:=(by simp[G]);rw[e0];simp only[A?,G!];rw[Array.all_eq_true_iff_forall_mem];intro e c__;rw[Je];cases am:nS e with|false=>simp|true=>simp only[Bool.not_true];have an:e.on<Z:=(by unfold Cz at p;simp only[G?]at p;have:=p Z (by simpa using G);have e1:ops.toList[Z]?=M ops[Z]:=(by simp[G]);rw[e1]at this;simp only[Array.all_eq_true_iff_forall_mem]at this;have:=this e c__;rw[am]at this;simpa using this);cases ao:b.getD e.on O with|true=>rfl|false=>exfalso;have a__:e.on∈todo ops b:=(by unfold todo;rw[a6];refine⟨by simp;omega,?_⟩;have aj:e.on<b.size:=a?;have:b.getD e.on U=b.getD e.on O:=(by simp[aj]);rw[this,ao];rfl);rw[Y]at a__;rcases mem_cons.1 a__ with h|h;omega;have:=f.1 _ h;omega
    rw[S]at this;simp at this
  intro i hi;have⟨G,z,o,g,C⟩:=W i hi;have⟨e__,l2,u⟩:=List.append_of_mem z;have b__:=Au ops b;rw[u,List.pairwise_append]at b__;have aa:∀k∈e__,k<i/\Ib o k=O/\before ops.toList i k=O:=by intro k v;have ap:b.getD k O=O:=(by have B:k∈todo ops b:=(by rw[u];simp[v]);unfold todo at B;rw[a6]at B;have x:k<b.size:=(by rw[d__];simpa using B.1);have:b.getD k U=b.getD k O:=(by simp[x]);rw[this]at B;simpa using B.2);refine⟨b__.2.2 k v i f?,?_,?_⟩;rotate_left;(cases aq:before ops.toList i k with|false=>rfl|true=>have:=Rb L (MG aq) (λo' l=>by rw[g]at l;cases l;exact C);rw[ap]at this;cases this);cases c__:Ib o k with|false=>rfl|true=>exfalso;unfold Ib at c__;rw[Array.any_eq_true]at c__;have⟨ix,ar,m⟩:=c__;have R:o.after[ix]∈o.after:=Array.getElem_mem ar;generalize o.after[ix]=e at R m;simp only[ζh,_j]at m;have t:=C e R m.2;rw[m.1]at t;have B:k∈todo ops b:=(by rw[u];simp[v]);unfold todo at B;rw[a6]at B;have x:k<b.size:=(by rw[d__];simpa using B.1);have:b.getD k U=b.getD k O:=(by simp[x]);rw[this,t]at B;simp at B
  rw[u]at h;have d:=Vs hd (by simpa using g) e__ l2 aa h
  simp only[mw]at d;have l:ops.toList[i]?=M o:=by simpa using g
  rw[l]at d;simp only at d;split at d
  .rename_i F1 H1 af;unfold wpOpIn;rw[g];simp only;refine GU hE hc af r s ro (λa' I' μ' w' hr au f av=>?_)
   have V:=Wg d__ G u;refine ih (b.setIfInBounds i U) I' μ' F1 H1 a' w' (by simpa using d__) ?_ ?_ (by rw[V];exact d) hr f ?_
   .have T:∀j,b.getD j O=U->(b.setIfInBounds i U).getD j O=U:=by
     intro j y
     by_cases e:i=j
     .subst e;simp[d__,G]
     simpa[Array.getD_eq_getD_getElem?,Array.getElem?_setIfInBounds_ne e]using y
    intro j oj y A e c__ X
    by_cases e':i=j
    .subst e';rw[g]at A;cases A;exact T _ (C e c__ X)
    refine T _ (L j oj ?_ A e c__ X);simpa[Array.getD_eq_getD_getElem?,Array.getElem?_setIfInBounds_ne e']using y
   .rw[V];rw[u]at c;simp at c⊢;omega
   intro a2 I2 μ2 w2 aw ax ay al;exact q a2 I2 μ2 w2 aw (ax.trans au) ay (Step.trans f av al)
  simp at d
def dD.Kx(s:dD I μ H w)(k:Nat):dD I μ (H++replicate k .free) w:=by
 have u:∀id ob,(H++replicate k Ob.free)[id]?=M ob->H[id]?=M ob\/(ob=.free/\W H<=id):=by grind
 refine⟨λid h=>s.dom id g?,s.imm,?_,?_,s.gl⟩;intro id ob h;rcases u id ob h with h|⟨rfl,z⟩;exact s.obs id ob h;exact s.dom id z;intro id B ob C p g a z D G;rcases u id ob a with a|⟨rfl,_⟩;rcases u B C z with z|⟨rfl,_⟩;exact s.inj id B ob C p g a z D G;simp[Ob.live]at G;simp[Ob.live]at D
def NV(k:Nat)(b:Nat):jJ μ (H++replicate k .free) b↔jJ μ H b:=by constructor;rintro⟨id,p,ob,h1,u,w,z⟩;by_cases B:id<W H;rw[List.getElem?_append_left B]at h1;exact⟨id,p,ob,h1,u,w,z⟩;rw[List.getElem?_append_right a?,List.getElem?_replicate]at h1;split at h1;simp at h1;subst h1;simp[Ob.live]at u;grind;rintro⟨id,p,ob,h1,u,w,z⟩;exact⟨id,p,ob,g?,u,w,z⟩
def Step.Kx(k:Nat):Step I μ H w I μ (H++replicate k .free) w:=⟨cN.le_refl _,Mu.le_refl _,f?,x? _,λ_ _ _=>rfl,λb h=>h.elim .inl λh=>.inr (.inl ((NV k b).1 h)),Y,.refl _,λ_ _ h=>h⟩
def KJ(D:fG P E)(T:P.follows .mixedOrders=U){call:en}(b:nC P call){id:Nat}{ops:Array Oper}{B:X'}(ro:aX Nat){Q:Exit->Act->World->Prop}
 (h:lN E call n ops.toList B F H=M (F',H'))(r:fA I μ n F a.tmps)(s:dD I μ H w)
 (G:∀a' I' μ' w',fA I' μ' n F' a'.tmps->a'.defers=a.defers->dD I' μ' H' w'->Step I μ H w I' μ' H' w'->Q .normal a' w'):
 (Code.region id ops B).wpIn (fr ro) 0 P Q a w:=by
 unfold lN at h
 cases B with
 |false=>refine wpIn_region ?_;rw[List.range_eq_range',<-Array.length_toList];exact SR D b ro ops.toList 0 I μ F H a w f? h r s G|true=>
  simp only[N']at h;split at h
  .rename_i u;simp at u;refine wpIn_region_draw λt=>?_
   simp[Region.schedule,T];have s0:dD I μ H {w with drawn:=w.drawn+1}:=s.rU Y;have st0:Step I μ H w I μ H {w with drawn:=w.drawn+1}:=Step.rU Y Y ⟨Y,Y,a8 _⟩;have z:todo ops (Array.replicate ops.size O)=C! (W ops.toList):=by unfold todo;simp_all
   have C:Down ops (Array.replicate ops.size O):=by intro j o S;simp[Array.getElem?_replicate]at S;grind
   refine wpAnyIn_sound ops.size t _ a _ ?_;split at h
   .refine JO D b u.1 u.2 ro (W H) ops.size _ I μ F (H++replicate (W ops.toList) .free) a _ f? C g? (by rw[z];omega) r (s0.Kx _) ?_
    intro a' I' μ' w' c g L i;exact G a' I' μ' w' c g L (Step.trans s0 st0 (Step.trans (s0.Kx _) (Step.Kx _) i))
   refine JO D b u.1 u.2 ro (W H) ops.size _ I μ F H a _ f? C g? (by rw[z];omega) r s0 ?_
   intro a' I' μ' w' c g L i;exact G a' I' μ' w' c g L (Step.trans s0 st0 i)
  grind
end
def Out.Mi:Out->Exit
 |.norm=>.normal|.exit id=>.exit id|.ret=>.ret
def exists_least(p:Nat->Prop):∀k,p k->∃m,p m/\∀j,p j->m<=j:=by intro k;induction k using Nat.strongRecOn with|_ k u=>grind
open Classical in
noncomputable def least(p:Nat->Prop):Nat:=if h:∃m,p m/\∀j,p j->m<=j then h.choose else 0
def Pt(p:Nat->Prop){k:Nat}(a:p k):p (least p)/\least p<=k:=by have h:=exists_least p k a;grind[least]
section
variable{P:Program}{E:Env}{I I':cN}{μ μ':Mu}{H H':bt}{n B:Nat}{F F':WP}{a:Act}{w w':World}
def Post(B n:Nat)(I:cN)(μ:Mu)(H:bt)(w:World)(o:Out)(F':WP)(H':bt):Exit->Act->World->Prop:=λe u w'=>e=o.Mi/\(∃I' μ',fA I' μ' n F' u.tmps/\dD I' μ' H' w'/\Step I μ H w I' μ' H' w')/\mD B u.defers w'
theorem Post.mono{I1:cN}{D:Mu}{H1:bt}{G:World}{o:Out}(g:dD I1 D H1 G)(st:Step I μ H w I1 D H1 G){e:Exit}{a':Act}{w':World}(h:Post B n I1 D H1 G o F' H' e a' w'):
 Post B n I μ H w o F' H' e a' w':=by
 have⟨a,⟨I',μ',u,z,C⟩,L⟩:=h;exact⟨a,⟨I',μ',u,z,Step.trans g st C⟩,L⟩
def dD.DF(s:dD I μ H w){b:Nat}(o:Obj)(D:I b=J)(G:¬jJ μ H b):dD I μ H (iN w b o)where
 dom:=s.dom
 imm:=λu x h=>IC.uS (s.imm u x h) (jl o g?)
 obs:=λid ob h=>(s.obs id ob h).mono (cN.le_refl _) (Mu.le_refl _) (λp z B=>by
  have g:jJ μ H p.b:=⟨id,p,ob,h,B,z,Y⟩
  grind[jl,iI]) (λC=>by subst C;exact s.obs id _ h)
 inj:=s.inj
 gl:=s.gl
def Yq(s:dD I μ H w){b:Nat}{o:Obj}(h:w.heap[b]?=M o)(a:∀c e f,o≠.cells c e f)(B:∀es c,o≠.map es c):I b=J:=by cases u:I b with|none=>rfl|some x=>have:=s.imm b x u;cases x with|cells c=>have⟨_,_,q⟩:=this;rw[h]at q;grind|map es=>have⟨_,q⟩:=this;rw[h]at q;grind
def Step.kept(c:∀b,b<w.heap.size->w'.heap[b]?=w.heap[b]?)(B:w.heap.size<=w'.heap.size)(d:w'.os=w.os)(D:yQ w w')(G:∀a:Addr,a.block<w.heap.size->w.frozen? a=O->w'.frozen? a=O):Step I μ H w I μ H w':=⟨cN.le_refl _,Mu.le_refl _,x? _,B,λb u _=>c b u,λ_ h=>h.elim .inl λh=>.inr (.inl h),d,D,G⟩
def Step.after(st:Step I μ H w I' μ' H' w'){b:Nat}(o:Obj)(B:w.heap.size<=b)(D:Obj.nf o:=by first|exact wj _ _|exact uO rfl):Step I μ H w I' μ' H' (iN w' b o):=⟨st.le,st.mu,st.len,by rw[z7];exact st.size,λz u C=>by rw[jl o a?];exact st.frame z u C,st.terr,st.os,⟨st.out.out,st.out.tape,st.out.dr⟩,λa B G=>abg D a (st.fz a B G)⟩
def mD.DF{ds:aY Deferred}(h:mD B ds w){b:Nat}{o:Obj}(D:∀r,w.heap[r]?=M (.deferred (M []))->r≠b):mD B ds (iN w b o):=
 ⟨λd hd=>by
  have⟨r,a,u,z⟩:=h.all d hd
  grind[jl],h.apart⟩
def QG{step:WP->bt->aX (Out×WP×bt)}{c:Code}{ro:aX Nat}{o:Out}
 (D:∀I μ F H a w o F' H',step F H=M (o,F',H')->fA I μ n F a.tmps->dD I μ H w->mD B a.defers w->B<=w.heap.size->c.wpIn (fr ro) 0 P (Post B n I μ H w o F' H') a w)
 {k:Nat}(h:mZ step k F H=M (o,F',H'))(r:fA I μ n F a.tmps)(s:dD I μ H w)(m:mD B a.defers w)(f:B<=w.heap.size):
 (Code.loop c).wpIn (fr ro) 0 P (Post B n I μ H w o F' H') a w:=by
 let b:Nat->Act->World->Prop:=λk u w'=>∃I1 A F1 H1,mZ step k F1 H1=M (o,F',H')/\fA I1 A n F1 u.tmps/\dD I1 A H1 w'/\Step I μ H w I1 A H1 w'/\mD B u.defers w'/\B<=w'.heap.size
 let y:Act->World->Nat:=λu w'=>least (λk=>b k u w')
 have d:∀k u w',b k u w'->b (y u w') u w'/\y u w'<=k:=λk u w' hi=>Pt (λk=>b k u w') hi
 refine wpIn_loop (λu w'=>∃k,b k u w') y ⟨k,I,μ,F,H,h,r,s,.refl _ _ _ _,m,f⟩ ?_
 rintro a1 Q ⟨k1,T⟩;have⟨hi,_⟩:=d k1 a1 Q T;generalize l:y a1 Q=kk at hi;have⟨I1,A,F1,H1,S,r1,L,C,W,G⟩:=hi
 cases kk with
 |zero=>grind[mZ]|succ kk=>
  simp only[mZ]at S;split at S
  next X H2 a__=>refine wpIn_mono (D I1 A F1 H1 a1 Q .norm X H2 a__ r1 L W G) ?_;rintro e a2 b__ ⟨rfl,⟨I2,g,r2,i,st2⟩,j⟩;show(∃k,b k a2 b__)/\y a2 b__<kk+1;have z:b kk a2 b__:=⟨I2,g,X,H2,S,r2,i,Step.trans L C st2,j,V? G st2.size⟩;exact⟨⟨kk,z⟩,Nat.lt_succ_of_le (d kk a2 b__ z).2⟩
  rename_i p;refine wpIn_mono (D I1 A F1 H1 a1 Q o F' H' S r1 L W G) ?_;intro e a2 b__ hp;have q:o≠.norm:=by simp_all
  obtain⟨rfl,Y,Z⟩:=hp
  cases o with
  |norm=>grind|exit id=>exact Post.mono L C ⟨rfl,Y,Z⟩|ret=>exact Post.mono L C ⟨_l,Y,Z⟩
def D3(s:dD I μ H w){id:Nat}{r:yS}(h:H[id]?=M (.loop r)):∃p l,μ id=M p/\I p.b=J/\w.heap[p.b]?=M (.loop l)/\yV I μ r l:=s.obs id _ h
def LN{p:aX Out}(hp:p≠M .norm):(p.bind pE=J->p.getD .norm=.norm)/\(∀c,p.bind pE=M c->(c=.ret/\p.getD .norm=.ret)\/∃id,c=.exit id/\p.getD .norm=.exit id):=by cases p with|none=>grind|some o=>cases o with|norm=>grind|ret=>grind[pE]|exit id=>grind[pE]
theorem Nh{call:en}(hc:nC P call){g:UV}{ps:Array Tmp}{assign body:Code}{o:Out}{lf:Nat}
 (h:exec E call lf O n (.rangeFunc g ps assign body) F H=M (o,F',H'))(r:fA I μ n F a.tmps)(s:dD I μ H w)(m:mD B a.defers w)(hB:B<=w.heap.size):
 (Code.rangeFunc g ps assign body).wpIn (fr J) 0 P (Post B n I μ H w o F' H') a w:=by
 cases K:ev F g with
 |none=>simp_all[exec]|some gv=>
 cases gv with
 |clo f x y=>
  simp[exec,K]at h;split at h
  .rename_i ak H2 L;split at h
   .rename_i r2 d__;have W:r2.st≠.busy/\r2.pend.getD .norm=o/\F=F'/\H2.set (_m H) .dead=H':=by
     grind
    obtain⟨W,rfl,rfl,rfl⟩:=W;have⟨u,v,eg,hu,hv⟩:=(dR r K).mC;refine wpIn_rangeFunc λC _=>?_
    have X:∀b,b<w.heap.size->(w.alloc (.deferred (M []))).heap[b]?=w.heap[b]?:=λb hb=>pQ _ b hb
    have j:=s.kept X;have ab:Step I μ H w I μ H (w.alloc (.deferred (M []))):=Step.kept X f? _l ⟨_l,_l,x? _⟩ (λa _=>SN (uO _l) a)
    have ad:yV I μ ⟨.ready,J,F,n,ps.toList,assign,body⟩ {state:=.ready,pending:=J,fn:=C,tmps:=a.tmps,params:=ps,assign,body,defers:=w.heap.size}:=⟨trivial,_l,f?,r,_l,_l,_l⟩
    have⟨a__,st2⟩:=j.push (ob:=.loop ⟨.ready,J,F,n,ps.toList,assign,body⟩)
     (o:=.loop {state:=.ready,pending:=J,fn:=C,tmps:=a.tmps,params:=ps,assign,body,defers:=w.heap.size}) (p:=⟨w.heap.size+1,0,0,0⟩) f?
     ⟨_,_,Mu.iQ _ _ _,by have:=j.BJ;simp_all,by have:=pZ (w:=w.alloc (.deferred (M []))) (.loop {state:=.ready,pending:=J,fn:=C,tmps:=a.tmps,params:=ps,assign,body,defers:=w.heap.size});simp_all,
      ad.mono (cN.le_refl _) (Mu.tY (j.dom _ (x? _)))⟩
    have Q:=(hu.mono (cN.le_refl _) st2.mu).append (.cons (.yld (_m H) ⟨w.heap.size+1,0,0,0⟩ (Mu.iQ _ _ _)) (hv.mono (cN.le_refl _) st2.mu))
    have⟨hf,G⟩:=hc.fn f _ _ _ _ L;refine⟨w.heap.size+1,[{target:=.collected w.heap.size,args:=#[]}],((w.alloc (.deferred (M []))).alloc (.loop {state:=.ready,pending:=J,fn:=C,tmps:=a.tmps,params:=ps,assign,body,defers:=w.heap.size})),{target:=.fn (.func f) v,args:=u++#[.func (.yield (w.heap.size+1)) #[] #[]]},((w.alloc (.deferred (M []))).alloc (.loop {state:=.ready,pending:=J,fn:=C,tmps:=a.tmps,params:=ps,assign,body,defers:=w.heap.size})),f,u++#[.func (.yield (w.heap.size+1)) #[] #[]]++v,((w.alloc (.deferred (M []))).alloc (.loop {state:=.ready,pending:=J,fn:=C,tmps:=a.tmps,params:=ps,assign,body,defers:=w.heap.size})),
     run_enterLoop_outer C a.tmps ps assign body,?_,λ_ _=>trivial,?_,λh=>by grind[fr],?_⟩
    .simp_all[resolve,Deferred.ofValue,Act.eval]
    .exact AB hf _
    have Y:=G _ _ _ _ a__ Q;have S:(u.toList++.func (.yield (w.heap.size+1)) #[] #[]::v.toList).toArray=u++#[.func (.yield (w.heap.size+1)) #[] #[]]++v:=g?
    rw[S]at Y;refine Y.mono ?_;rintro e Z ⟨aj,e__,k,rfl,_,t,T⟩;have⟨p,l,g1,g2,g3,g4⟩:=D3 t d__;have hp:p=⟨w.heap.size+1,0,0,0⟩:=by have:=T.mu _ _ (Mu.iQ μ (_m H) ⟨w.heap.size+1,0,0,0⟩);grind
    subst hp;have b__:l.state≠.busy:=by intro he;have:=g4.st;rw[he]at this;all_goals grind[EB.is]
    refine⟨l.pending,_,run_endLoop g3 b__,?_⟩;have⟨s4,ae⟩:=t.kill d__;have c__:¬jJ k (H2.set (_m H) .dead) (w.heap.size+1):=by rintro⟨id,q,ob,A,R,i,h4⟩;by_cases e:id=_m H;grind[Ob.live];rw[E? (Ne.symm e)]at A;exact e (t.inj id (_m H) ob _ q _ A d__ R _l i g1 h4)
    have s5:dD e__ k (H2.set (_m H) .dead) (iN Z (w.heap.size+1) (.loop {l with state:=.exhausted})):=s4.DF _ g2 c__;have st:=Step.trans j ab (Step.trans a__ st2 (Step.trans t T ae));have af:Step I μ H w e__ k (H2.set (_m H) .dead) (iN Z (w.heap.size+1) (.loop {l with state:=.exhausted})):=st.after _ a?
    have m2:mD B ({target:=.collected w.heap.size,args:=#[]}::a.defers) ((w.alloc (.deferred (M []))).alloc (.loop {state:=.ready,pending:=J,fn:=C,tmps:=a.tmps,params:=ps,assign,body,defers:=w.heap.size})):=by refine⟨?_,?_⟩;intro d hd;rcases mem_cons.1 hd with rfl|hd;refine⟨w.heap.size,_l,hB,?_⟩;rw[pQ _ _ f?];exact pZ _;have⟨q,A,R,i⟩:=m.all d hd;have hq:=(Array.getElem?_eq_some_iff.1 i).1;grind[pQ];refine List.Pairwise.cons ?_ m.apart;intro d hd q hq al;have⟨q2,A,R,i⟩:=m.all d hd;have:=(Array.getElem?_eq_some_iff.1 i).1;grind
    have m3:=m2.step a__ T;have m5:mD B ({target:=.collected w.heap.size,args:=#[]}::a.defers) (iN Z (w.heap.size+1) (.loop {l with state:=.exhausted})):=m3.DF (λq hq e=>g?)
    have ah:=st.le;have ai:=st.mu;have z:∀D:Out,r2.pend.getD .norm=D->Post B n I μ H w D F (H2.set (_m H) .dead) D.Mi {a with defers:=[{target:=.collected w.heap.size,args:=#[]}]++a.defers} (iN Z (w.heap.size+1) (.loop {l with state:=.exhausted})):=λD _=>⟨_l,⟨e__,k,r.mono ah ai,s5,af⟩,m5⟩
    obtain⟨W5,aa⟩:∃W5,Z.putObj (w.heap.size+1) (.loop {l with state:=.exhausted})=W5:=⟨_,_l⟩;have z:∀D:Out,r2.pend.getD .norm=D->Post B n I μ H w D F (H2.set (_m H) .dead) D.Mi {a with defers:=[{target:=.collected w.heap.size,args:=#[]}]++a.defers} W5:=by intro D ho;rw[<-aa];exact z D ho
    rw[aa];have⟨k1,k2⟩:=LN g4.pendOk;rw[g4.pend]
    cases V:r2.pend.bind pE with
    |none=>rw[k1 V];exact z .norm (k1 V)|some c=>
     rcases k2 c V with⟨rfl,e⟩|⟨id,rfl,e⟩
     .rw[e];exact wpIn_ret (z .ret e)
     rw[e];exact wpIn_exit (z (.exit id) e)
   grind
  grind
 |_=>simp[exec,K]at h
def BP(Y:fG P E)(d:P.follows .mixedOrders=U){call:en}(f:nC P call)(lf:Nat)(ro:aX Nat)(T:X')(j:T=ro.isSome)(n:Nat):
 ∀(c:Code)(I:cN)(μ:Mu)(F:WP)(H:bt)(a:Act)(w:World)(o:Out)(F':WP)(H':bt),exec E call lf T n c F H=M (o,F',H')->fA I μ n F a.tmps->dD I μ H w->
  mD B a.defers w->B<=w.heap.size->c.wpIn (fr ro) 0 P (Post B n I μ H w o F' H') a w:=by
 intro c
 induction c with
 |skip=>intro I μ F H a w o F' H' h r s m _;obtain⟨rfl,rfl,rfl⟩:=h;exact wpIn_skip ⟨rfl,⟨I,μ,r,s,.refl _ _ _ _⟩,m⟩|label l=>intro I μ F H a w o F' H' h r s m _;obtain⟨rfl,rfl,rfl⟩:=h;exact wpIn_label ⟨rfl,⟨I,μ,r,s,.refl _ _ _ _⟩,m⟩|region id ops W=>
  intro I μ F H a w o F' H' h r s m _;simp only[exec,ζf]at h;obtain⟨⟨k,H2⟩,h,rfl,rfl,rfl⟩:=h;refine KJ Y d f ro h r s (λa' I' μ' w' b z C X=>⟨_l,⟨I',μ',b,C,X⟩,?_⟩)
  rw[z];exact m.step s X
 |seq x y D G=>
  intro I μ F H a w o F' H' h r s m u;simp[exec]at h;refine wpIn_seq ?_;split at h
  .rename_i F1 H1 b;refine wpIn_mono (D I μ F H a w _ F1 H1 b r s m u) ?_;rintro e a1 q ⟨rfl,⟨I1,Z,r1,i,Q⟩,m1⟩;refine wpIn_mono (G I1 Z F1 H1 a1 q o F' H' h r1 i m1 (V? u Q.size)) ?_
   grind[Post.mono]
  refine wpIn_mono (D I μ F H a w o F' H' h r s m u) ?_;rintro e a1 q ⟨rfl,z,C⟩
  cases o with
  |norm=>grind|exit id=>exact⟨rfl,z,C⟩|ret=>exact⟨rfl,z,C⟩
 |cond c x y D G=>
  intro I μ F H a w o F' H' h r s m u;simp[exec]at h;split at h
  .rename_i t S;have p:=(dR r S).uD
   grind[wpIn_cond]
  grind
 |block id c a__=>
  intro I μ F H a w o F' H' h r s m u;simp[exec]at h;refine wpIn_block ?_;split at h
  .rename_i L F1 H1 b;refine wpIn_mono (a__ I μ F H a w _ F1 H1 b r s m u) ?_;rintro e a1 q ⟨rfl,z,C⟩;show Exit.inBlock id _ (.exit L) a1 q;unfold Exit.inBlock;split at h
   next A=>obtain⟨rfl,rfl,rfl⟩:=h;simp[A];exact⟨_l,z,C⟩
   rename_i A;obtain⟨rfl,rfl,rfl⟩:=h;simp[A];exact⟨_l,z,C⟩
  refine wpIn_mono (a__ I μ F H a w o F' H' h r s m u) ?_;rintro e a1 q ⟨rfl,z,C⟩
  cases o with
  |norm=>exact⟨rfl,z,C⟩|exit L=>grind|ret=>exact⟨rfl,z,C⟩
 |loop c a__=>intro I μ F H a w o F' H' h r s m u;exact QG (λI μ F H a w o F' H' h r s m u=>a__ I μ F H a w o F' H' h r s m u) h r s m u|rangeFunc g ps assign body _ _=>
  intro I μ F H a w o F' H' h r s m u
  cases T with
  |true=>simp[exec]at h|false=>
   cases ro with
   |none=>grind[Nh]|some l=>simp_all
 |exit id=>intro I μ F H a w o F' H' h r s m _;obtain⟨rfl,rfl,rfl⟩:=h;exact wpIn_exit ⟨rfl,⟨I,μ,r,s,.refl _ _ _ _⟩,m⟩|ret=>intro I μ F H a w o F' H' h r s m _;obtain⟨rfl,rfl,rfl⟩:=h;exact wpIn_ret ⟨rfl,⟨I,μ,r,s,.refl _ _ _ _⟩,m⟩|scope body _=>simp_all[exec]|goto l=>simp_all[exec]|refuse ad=>simp_all[exec]
end
end Go.VE
