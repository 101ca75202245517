/- Engine, values. -/
import Derived.RangeFuncLeaves
import Derived.Sort.Defs
import Derived.Lib.BitFns
import Derived.Laws.Sem
import Derived.Laws.World
import Derived.Laws.Append
import Derived.Laws.BytesString
import Derived.OrdersIn
import Derived.RangeFuncRecord
set_option linter.all false
open Option renaming some→M,some→_h,none→G,none→_n,bind→H,bind→_l
open Bool renaming true→O,true→_k,false→U,false→_m
open Decidable renaming decide→_p
open List renaming length→W,length→_j
open Go.IntKind renaming i64→Z,i64→_o
open BitVec renaming ofInt→c7
open Go.IntKind renaming wrap→y?
open Go.Op renaming bytesLess→U!,equal→N!,equalIn→H!,intArith→s3,intBits→D',intCmp→t8,operands→F?
open List renaming all_eq_true→M?,drop_drop→D!,drop_take→i5,eq_of_mem_replicate→b!,finRange→V!,flatten_append→a6,getElem?_drop→R?,getElem?_set_ne→E?,getElem?_take→I?,mem_append→M!,mem_cons_of_mem→C?,mem_filter→a7,mem_flatten→m8,mem_of_getElem?→s?,mem_of_mem_drop→y!,mem_of_mem_take→K?,range→B!,replicate→w?,set_comm→I0,take_append_drop→i!
open Go.Instr renaming checkKey→w!,findAsking→l',findKey→o0,findNow→o6,indexAt→p0,sameBits→f9,sameNow→E',sliceAt→i6,sliceBounds→m9,storeAt→G',sureAddr→f8
open Go.Sem renaming run_bind→A?,run_pure→N?
open Go.Result renaming andThen→W!,andThen_ok→x?
open Bool renaming false_eq_true→v?
open Option renaming getD_some→O!,map_some→B?
open Nat renaming add_assoc→m7,add_mul→t!,add_zero→g',le_refl→z?,le_succ→b5,le_trans→U?,mul_le_mul→u0,mul_le_mul_right→h!,one_mul→q0,zero_le→V?,zero_mul→v'
open Go.Builtin renaming append_→T!,firstCells→q!,nextslicecap→X!,zeroCells→z!
open Go.World renaming frozen?→q8
open Go.Question renaming appendCap→S!
theorem Y.{u}{α:Sort u}{a:α}:a=a:=rfl
theorem _i.{u}{α:Sort u}{a:α}:a=a:=rfl
def J0:=@if_pos
def K':=@if_neg
def L':=@if_true
def M':=@if_false
def N':=@decide_eq_false
def _a:=@decide_eq_true
def _b:=@of_decide_eq_true
def _c:=@absurd
def _d:=@congrArg
def _e:=@decide_eq_true_eq
def _f:=@decide_eq_false_iff_not
def _g:=@beq_iff_eq
open Nat(le)
open Go.IntKind(i64)
open Nat(le)
open List(length mem_cons mem_map)
open Go.Instr(fieldAt fill loadAt sliceBound)
open Go.Sem(run_ite)
open Nat(le)
open Nat(le)
open Option(isSome_iff_exists)
open Nat(mod_lt)
open Go.Builtin(cap_ clear_ lenOf len_ max2 max_ min2 min_)
open Go.World(cell?)
open Go.Question(forced)
namespace Go.VE
abbrev T2:=IntKind
abbrev UV:=Operand
abbrev U':=ByteArray
abbrev V':=Value
abbrev W':=TypeId
abbrev X':=Bool
abbrev Y':=FuncId
def c?{p:Prop}(h:p:=by omega):p:=h
def f?{p:Prop}(h:p:=by simp):p:=h
def g?{p:Prop}(h:p:=by grind):p:=h
def o?{p:Prop}(h:p:=by simp_all):p:=h
def ζa{α:Type _}(a b:α):(M a=M b)=(a=b):=Option.some.injEq a b
def ζb{α β:Type _}(a:α)(f:α->Option β):_l (M a) f=f a:=rfl
def ζc{α β:Type _}(a:α)(b:β)(c:α)(d:β):((a,b)=(c,d))=(a=c/\b=d):=Prod.mk.injEq a b c d
def ζd{α:Type _}{l:List α}{i:Nat}(h:i<W l):l[i]?=M l[i]:=List.getElem?_eq_getElem h
def ζe{α:Type _}{l:List α}{i:Nat}{a:α}:l[i]?=M a↔∃h:i<W l,l[i]=a:=List.getElem?_eq_some_iff
theorem ζf{α β:Type _}{b:β}{x:Option α}{f:α->β}:x.map f=M b↔∃a,x=M a/\f a=b:=Option.map_eq_some_iff
theorem ζg{α β:Type _}{b:β}{x:Option α}{f:α->Option β}:x.bind f=M b↔∃a,x=M a/\f a=M b:=Option.bind_eq_some_iff
def ζh(a b:X'):((a&&b)=O)=(a=O/\b=O):=Bool.and_eq_true a b
def ζi{α:Type _}{a b:List α}:W (a++b)=W a+W b:=List.length_append
abbrev aX:=@List
abbrev R0:=aX Oper
abbrev SW:=aX Int
abbrev ST:=aX Nat
abbrev aY:=@Option
abbrev Ps:=aY Int
inductive V where
 |bool(b:Bool)|int(k:IntKind)(n:Int)|str(s:ByteArray)|dN|bG|fsl(es:Nat)(xs:List (List V))|hsl(id es off len:Nat)|jg|fptr(cs:List V)|hptr(id el off:Nat)|clo(f:FuncId)(first cap:List V)|yld(id:Nat)|ir|vf|fmap(kvs:List (V×V))|hmap(id:Nat)|agg(cs:List V)|tup(vs:List V)
 deriving Inhabited
abbrev So:=aX V
abbrev S':=aX (aX V)
def V.undef:V:=.tup []
def V.one:V->X'
 |.agg _|.tup _=>U|_=>O
def V.cells:V->So
 |.agg cs=>cs|v=>[v]
mutual
def V.scalar:V->X'
 |.bool _|.int ..|.str _|.jg|.ir|.vf|.dN|.bG=>O|.agg cs=>V.c6 cs|.tup cs=>V.c6 cs|_=>U
def V.c6:So->X'
 |[]=>O|v::r=>V.scalar v&&V.c6 r
end
mutual
def V.closed:V->X'
 |.hsl ..|.hptr ..|.yld ..|.hmap ..=>U|.clo _ a b=>V.ji a&&V.ji b|.agg cs=>V.ji cs|.tup cs=>V.ji cs|_=>O
def V.ji:So->X'
 |[]=>O|v::r=>V.closed v&&V.ji r
end
inductive TK where
 |bool|int (k:IntKind)|str|ptr (e:TypeId)|slice (e:TypeId)|struct(fs:List (Nat×TypeId))|array (n:Nat) (e:TypeId)|map (k e:TypeId)|other
 deriving Inhabited
structure TD where
 size:Nat
 bytes:Nat
 zero:List V
 kind:TK
 deriving Inhabited
def TD.agg(d:TD):X':=match d.kind with|.struct _|.array _ _=>O|_=>U
abbrev Frame:=aX V
abbrev WP:=Frame
def get:WP->Nat->V
 |[],_=>.undef|x::_,0=>x|_::r,i+1=>get r i
def set:WP->Nat->V->WP
 |[],0,v=>[v]|[],i+1,v=>.undef::set [] i v|_::r,0,v=>v::r|x::r,i+1,v=>x::set r i v
inductive El where
 |ready|busy|done
inductive Out where
 |norm|exit(id:Nat)|ret
 deriving DecidableEq,Inhabited
structure yZ where
 st:El
 pend:Option Out
 frame:Frame
 nt:Nat
 params:List Nat
 assign:Code
 body:Code
inductive Ob where
 |free|dead|row(es:Nat)(xs:List (List V))|frz(es:Nat)(xs:List (List V))|map(kvs:List (V×V))|loop(r:yZ)
def Ob.rows:Ob->aY (Nat×S')
 |.row es xs|.frz es xs=>M (es,xs)|_=>G
abbrev bl:=aX Ob
structure FI where
 ntmps:Nat
 results:List ResultVar
 body:Code
structure Env where
 tt:TypeId->Option TD
 ft:FuncId->Option FI
 keep:FuncId->Bool
 own:FuncId->Bool
 eqN:TypeId->Option Nat
 sort:FuncId->Bool
 known:FuncId->List V->Option V:=λ_ _=>none
 soft:FuncId->Bool:=λ_=>false
def Env.kindOf(E:Env)(t:W'):aY TK:=(E.tt t).map TD.kind
def ofValue:Nat->V'->aY V
 |0,_=>G|n+1,v=>
  match v with
  |.bool b=>M (.bool b)|.int k n=>M (.int k n)|.string s=>M (.str s)|.pointer G=>M .jg|.slice G 0 0=>M .bG|.map G=>M .ir|.nilFunc=>M .vf|.agg cs=>(cs.toList.mapM (ofValue n)).map .agg|_=>G
class b8 where
 gl:Nat->Option (List V)
 sc:∀g cs,gl g=some cs->∃(k:IntKind)(l:List Int),cs=l.map (V.int k)
variable[b8]
def ev(F:WP):UV->aY V
 |.tmp t=>M (get F t)|.const v=>ofValue 4 v|.func f=>M (.clo f [] [])|.global g=>(b8.gl g).map .fptr
def gm(F:WP):aX UV->aY So
 |[]=>M []|x::r=>match ev F x,gm F r with
  |some v,M vs=>M (v::vs)|_,_=>G
def mk(agg:X')(cs:So):aY V:=if agg then M (.agg cs)else match cs with|[v]=>M v|_=>G
def cut(cs:So)(off n:Nat):aY So:=
 let r:=(cs.drop off).take n
 if W r=n then M r else G
def jE:So->aY SW
 |[]=>M []|.int Z a::r=>(jE r).map (a::·)|_=>G
def mR(az B:So):aY X':=
 match jE az,jE B with
 |some a,M b=>if W a=W b then M (a==b)else G|_,_=>G
def uQ(op:BinOp)(x y:Int):aY X':=
 match op with
 |.eql=>M (x==y)|.neq=>M (x != y)|.lss=>M (_p (x<y))|.leq=>M (_p (x<=y))|.gtr=>M (_p (x>y))|.geq=>M (_p (x>=y))|_=>G
def xR(k:TK)(x y:V):aY X':=
 match k,x,y with
 |.slice _,.bG,.bG=>M O|.slice _,.fsl ..,.bG=>M U|.slice _,.hsl ..,.bG=>M U|.ptr _,.jg,.jg=>M O|.ptr _,.fptr _,.jg=>M U|.ptr _,.hptr ..,.jg=>M U|.map ..,.ir,.ir=>M O|.map ..,.fmap _,.ir=>M U|.map ..,.hmap _,.ir=>M U|_,_,_=>G
def LR(E:Env)(op:BinOp)(t:W')(x y:V):aY V:=
 match x,y with
 |.int k a,.int u b=>
  match op with
  |.shl=>if b<0 then G else M (.int k (k.wrap (a*2 ^ (min b.toNat k.bits))))|.shr=>if b<0 then G else M (.int k (a.fdiv (2 ^ (min b.toNat k.bits))))|_=>if k=u then
   match op with
   |.add=>M (.int k (k.wrap (a+b)))|.sub=>M (.int k (k.wrap (a-b)))|.mul=>M (.int k (k.wrap (a*b)))|.quo=>if b=0 then G else M (.int k (k.wrap (a.tdiv b)))|.rem=>if b=0 then G else M (.int k (a.tmod b))|.and=>M (.int k (k.wrap (c7 k.bits a &&& c7 k.bits b).toNat))|.or=>M (.int k (k.wrap (c7 k.bits a ||| c7 k.bits b).toNat))|.xor=>M (.int k (k.wrap (c7 k.bits a ^^^ c7 k.bits b).toNat))|.andNot=>M (.int k (k.wrap (c7 k.bits a &&& ~~~ c7 k.bits b).toNat))|op=>(uQ op a b).map .bool
   else G
 |.str a,.str b=>
  match op with
  |.add=>if((a.size+b.size:Nat):Int)>i64.max then G else M (.str (a++b))|.eql=>M (.bool (a.toList==b.toList))|.neq=>M (.bool !(a.toList==b.toList))|.lss=>M (.bool (U! a.toList b.toList))|.leq=>M (.bool (U! a.toList b.toList||a.toList==b.toList))|.gtr=>M (.bool !(U! a.toList b.toList||a.toList==b.toList))|.geq=>M (.bool !(U! a.toList b.toList))|_=>G
 |.bool a,.bool b=>
  match E.kindOf t,op with
  |some .bool,.eql=>M (.bool (a==b))|some .bool,.neq=>M (.bool !(a==b))|_,_=>G
 |.agg a,.agg b=>
  match E.eqN t,op with
  |some n,.eql=>if W a=n then(mR a b).map .bool else G|some n,.neq=>if W a=n then(mR a b).map (λt=>.bool !t)else G|_,_=>G
 |x,y=>
  match E.kindOf t,op with
  |some k,.eql=>(xR k x y).map .bool|some k,.neq=>(xR k x y).map λt=>.bool !t|_,_=>G
def wW(place:Nat->aY (Nat×Nat))(cells:So):aX (Nat×V)->aY So
 |[]=>M cells|(i,v)::h?=>
  match place i with
  |none=>G|some (off,size)=>
   if W v.cells≠size||off+W v.cells>W cells then G
   else wW place (cells.take off++v.cells++cells.drop (off+W v.cells)) h?
def oy(F:WP):aX (Nat×UV)->aY (aX (Nat×V))
 |[]=>M []|(i,x)::r=>match ev F x,oy F r with
  |some v,M vs=>M ((i,v)::vs)|_,_=>G
def pP(E:Env):aX (Nat×W')->aY (aX (Nat×Nat))
 |[]=>M []|(off,t)::r=>match E.tt t,pP E r with
  |some d,M ps=>M ((off,d.size)::ps)|_,_=>G
def lS(F:WP):aY UV->aY Ps
 |none=>M G|some x=>match ev F x with
  |some (.int _ n)=>M (M n)|_=>G
def eA(len:Nat)(lo hi:Ps):aY (Nat×Nat):=
 let h:=hi.getD len
 let l:=lo.getD 0
 if 0<=h/\h<=len/\0<=l/\l<=h then M (l.toNat,h.toNat)else G
def EG(a b:Int):Int:=if b>a then b else a
def bS(E:Env)(F:WP)(op:Op):aY V:=
 match op with
 |.move x|.assign x=>ev F x|.pick c a b=>match ev F c with
  |some (.bool t)=>if t then ev F a else ev F b|_=>G
 |.nilCheck x=>match ev F x with
  |some (.hptr id el off)=>M (.hptr id el off)|some (.fptr cs)=>M (.fptr cs)|some (.clo f a b)=>M (.clo f a b)|_=>G
 |.binOp op t x y _=>match ev F x,ev F y with
  |some a,M b=>LR E op t a b|_,_=>G
 |.unOp op _ x=>match op,ev F x with
  |.not,M (.bool b)=>M (.bool !b)|.neg,M (.int k n)=>M (.int k (k.wrap (0-n)))|_,_=>G
 |.convert s d x=>match E.tt s,E.tt d,ev F x with
  |some _,M C,M (.int _ n)=>match C.kind with
   |.int k=>M (.int k (k.wrap n))|_=>G
  |_,_,_=>G
 |.fieldAddr s x f=>match E.kindOf s,ev F x with
  |some (.struct fs),M p=>match fs[f]?with
   |some (off,t)=>match E.tt t with
    |some d=>if d.size=0 then G else match p with
     |.fptr cs=>if off<=W cs then M (.fptr (cs.drop off))else G|.hptr id el o=>M (.hptr id el (o+off))|_=>G
    |none=>G
   |none=>G
  |_,_=>G
 |.field s x f=>match E.kindOf s,ev F x with
  |some (.struct fs),M (.agg cs)=>match fs[f]?with
   |some (off,t)=>match E.tt t with
    |some d=>_l (cut cs off d.size) (mk d.agg)|none=>G
   |none=>G
  |_,_=>G
 |.indexAddr t x i=>match E.kindOf t,ev F x,ev F i with
  |some (.slice e),M s,M (.int _ n)=>match E.tt e with
   |some d=>if n<0 then G else match s with
    |.fsl es u=>if es=d.size then(u[n.toNat]?).map .fptr else G|.hsl id es off len=>if es=d.size/\n.toNat<len then M (.hptr id (off+n.toNat) 0)else G|_=>G
   |none=>G
  |some (.array len e),M p,M (.int _ n)=>match E.tt e with
   |some d=>if 0<=n/\n<len then match p with
    |.fptr cs=>if n.toNat*d.size<=W cs then M (.fptr (cs.drop (n.toNat*d.size)))else G|.hptr id el o=>M (.hptr id el (o+n.toNat*d.size))|_=>G
    else G
   |none=>G
  |_,_,_=>G
 |.index t x i=>match E.kindOf t,ev F x,ev F i with
  |some .str,M (.str s),M (.int _ n)=>if 0<=n then(s[n.toNat]?).map (λb=>.int .u8 b.toNat)else G|some (.array len e),M (.agg cs),M (.int _ n)=>match E.tt e with
   |some d=>if 0<=n/\n<len then(cut cs (n.toNat*d.size) d.size).bind (mk d.agg)else G|none=>G
  |_,_,_=>G
 |.slice t x lo hi D=>match E.kindOf t,ev F x,lS F lo,lS F hi,lS F D with
  |some .str,M (.str s),M l,M h,M G=>(eA s.size l h).map λ(l,h)=>.str (s.extract l h)|some (.slice e),M v,M l,M h,M G=>match E.tt e with
   |some d=>match v with
    |.fsl es u=>if es=d.size then(eA (W u) l h).map λ(l,h)=>.fsl es ((u.take h).drop l)else G|.hsl id es off len=>if es=d.size then(eA len l h).map λ(l,h)=>.hsl id es (off+l) (h-l)else G|.dN=>(eA 0 l h).map λ_=>.dN|.bG=>(eA 0 l h).map λ_=>.bG|_=>G
   |none=>G
  |some (.slice e),M v,M G,M (M 0),M (M 0)=>match E.tt e,v with
   |some _,.fsl ..|some _,.hsl ..|some _,.dN|some _,.bG=>M .dN|_,_=>G
  |_,_,_,_,_=>G
 |.build t ps=>match E.tt t,oy F ps.toList with
  |some d,M w=>match d.kind with
   |.struct fs=>match pP E fs with
    |some pl=>(wW (λi=>pl[i]?) d.zero w).map .agg|none=>G
   |.array _ e=>match E.tt e with
    |some B=>(wW (λi=>M (i*B.size,B.size)) d.zero w).map .agg|none=>G
   |_=>G
  |_,_=>G
 |.makeFunc (.func f) a b=>match gm F a.toList,gm F b.toList with
  |some a,M b=>M (.clo f a b)|_,_=>G
 |.extract x i=>match ev F x with
  |some (.tup w)=>w[i]?|_=>G
 |.call {callee:=.builtin b,args,argTypes}=>match b,gm F args.toList,argTypes[0]?with
  |.len,M [v],M t=>match E.kindOf t,v with
   |some .str,.str s=>M (.int Z s.size)|some (.slice _),.fsl _ u=>M (.int Z (W u))|some (.slice _),.hsl _ _ _ len=>M (.int Z len)|some (.slice _),.dN=>M (.int Z 0)|some (.slice _),.bG=>M (.int Z 0)|_,_=>G
  |.cap,M [v],M t=>match E.kindOf t,v with
   |some (.slice _),.bG=>M (.int Z 0)|some (.slice _),.dN=>M (.int Z 0)|_,_=>G
  |.max,M [.int k a,.int z b],_=>if k=z then M (.int k (if b>a then b else a))else G|.max,M [.int k a,.int k1 b,.int k2 c,.int k3 d],_=>if k=k1/\k=k2/\k=k3 then M (.int k (EG (EG (EG a b) c) d))else G|.min,M [.int k a,.int z b],_=>if k=z then M (.int k (if b<a then b else a))else G|_,_,_=>G
 |_=>G
def fD(H:bl)(p:V)(n:Nat):aY So:=
 match p with
 |.fptr cs=>cut cs 0 n|.hptr id el off=>match(H[id]?).bind Ob.rows with
  |some (_,u)=>match u[el]?with
   |some cs=>cut cs off n|none=>G
  |none=>G
 |_=>G
def Ah:V->V->aY X'
 |.int k a,.int B b=>if k=B then M (a==b)else G|.str a,.str b=>M (a==b)|.agg a,.agg b=>mR a b|_,_=>G
def jd(k:V):aX (V×V)->Nat->aY (aY (Nat×V))
 |[],_=>M G|(B,v)::r,i=>match Ah k B with
  |some O=>M (M (i,v))|some U=>jd k r (i+1)|none=>G
def z_(E:Env)(t:W')(k:V):X':=
 match E.kindOf t,k with
 |some (.int k),.int u _=>k==u|some .str,.str _=>O|some _,.agg cs=>match E.eqN t with|some n=>W cs==n&&(jE cs).isSome|none=>U
 |_,_=>U
def oE(H:bl):V->aY (aX (V×V))
 |.ir=>M []|.fmap B=>M B|.hmap id=>match H[id]?with
  |some (.map B)=>M B|_=>G
 |_=>G
def eH(E:Env)(F:WP)(H:bl)(op:Op):aY V:=
 match op with
 |.load t a=>match E.tt t,ev F a with
  |some d,M p=>_l (fD H p d.size) (mk d.agg)|_,_=>G
 |.lookup t m k ok=>match E.kindOf t,ev F m,ev F k with
  |some (.map w B),M m,M k=>match E.tt B,oE H m with
   |some d,M u=>if z_ E w k then match jd k u 0,mk d.agg d.zero with
    |some (M (_,v)),_=>M (if ok then .tup [v,.bool O]else v)|some G,M z=>M (if ok then .tup [z,.bool U]else z)|_,_=>G
    else G
   |_,_=>G
  |_,_,_=>G
 |_=>G
inductive Mk where
 |ptr|sl (es len:Nat)|map
def Mk.val(id:Nat):Mk->V
 |.ptr=>.hptr id 0 0|.sl es len=>.hsl id es 0 len|.map=>.hmap id
def gz(es:Nat)(xs:S'):aX (Nat×V)->aY S'
 |[]=>M xs|(i,v)::r=>if W v.cells=es/\i<W xs/\v.cells.all V.one=O then gz es (xs.set i v.cells) r else G
def fP(E:Env)(F:WP)(op:Op):aY (Ob×Mk):=
 match op with
 |.alloc t=>(E.tt t).map λd=>(.row d.size [d.zero],.ptr)|.box _ x=>match ev F x with
  |some v=>if v.cells.all V.one then M (.row (W v.cells) [v.cells],.ptr)else G|none=>G
 |.makeSlice t l c=>match E.kindOf t,ev F l,ev F c with
  |some (.slice e),M (.int k n),M (.int u m)=>match E.tt e with
   |some d=>if k=Z/\u=Z/\0<=n/\n<=m/\m<=2147483648/\d.bytes<=4096 then M (.row d.size (w? m.toNat d.zero),.sl d.size n.toNat)else G|none=>G
  |_,_,_=>G
 |.buildSlice t len ps=>match E.kindOf t,oy F ps.toList with
  |some (.slice e),M w=>match E.tt e with
   |some d=>if len*d.size<=16777216 then(gz d.size (w? len d.zero) w).map λz=>(.row d.size z,.sl d.size len)else G|none=>G
  |_,_=>G
 |.makeMap _ G=>M (.map [],.map)|_=>G
def rC(E:Env)(F:WP)(op:Op):aY V:=
 match fP E F op with
 |some (.row es u,.sl w n)=>if w=es/\n=W u/\(u.all λx=>x.all V.scalar)=O then match op with
  |.buildSlice ..=>if u.isEmpty then(if es != 0 then M .dN else G)else M (.fsl es u)|_=>M (.fsl es u)
  else G
 |_=>G
def dX(H:bl)(es:Nat):V->aY S'
 |.dN=>M []|.bG=>M []|.fsl B xs=>if B=es then M xs else G|.hsl id B off len=>if B=es then match(H[id]?).bind Ob.rows with
  |some (_,xs)=>if off+len<=W xs then M ((xs.drop off).take len)else G|none=>G
  else G
 |_=>G
def sJ(k v:V)(B:aX (V×V)):aY (aX (V×V)):=
 match jd k B 0 with
 |some (M (j,_))=>M (B.set j (k,v))|some G=>M (B++[(k,v)])|none=>G
def iE(H:bl):V->aY bl
 |.dN=>M H|.bG=>M H|.hsl id _ _ _=>match H[id]?with
  |some (.row _ _)=>M (H.set id .dead)|_=>G
 |_=>G
def mkApp(H:bl)(size bytes:Nat)(zero:So)(s x:V):aY (V×bl):=
 match s,x with
 |.bG,.int _ n=>if n=0 then M (.bG,H)else if 0<n/\n<=2147483648/\bytes<=4096/\0<bytes then M (.hsl (W H) size 0 n.toNat,H++[.row size (w? n.toNat zero)])else G|_,_=>G
def GV(H:bl)(size:Nat)(zero:So):V->aY (V×bl)
 |.bG|.dN=>M (.undef,H)|.hsl id es off len=>if es=size then match len with
  |0=>M (.undef,H)|len+1=>match H[id]?with
   |some (.row B xs)=>if off+(len+1)<=W xs then M (.undef,H.set id (.row B (xs.take off++w? (len+1) zero++xs.drop (off+(len+1)))))else G|_=>G
  else G
 |_=>G
def cQ(E:Env)(F:WP)(H:bl)(op:Op):aY (V×bl):=
 match op with
 |.store t a x=>match E.tt t,ev F a,ev F x with
  |some d,M (.hptr id el off),M v=>match H[id]?with
   |some (.row es w)=>match w[el]?with
    |some cs=>if W v.cells=d.size/\off+d.size<=W cs/\v.cells.all V.one=O then
     M (.undef,H.set id (.row es (w.set el (cs.take off++v.cells++cs.drop (off+W v.cells)))))else G
    |none=>G
   |_=>G
  |_,_,_=>G
 |.mapUpdate t m k x|.insert t m k x=>match E.kindOf t,ev F m,ev F k,ev F x with
  |some (.map B _),M (.hmap id),M k,M v=>match H[id]?with
   |some (.map u)=>if z_ E B k then(sJ k v u).map λu=>(.undef,H.set id (.map u))else G|_=>G
  |_,_,_,_=>G
 |.call {callee:=.builtin .append,args,argTypes}=>match argTypes.toList,gm F args.toList with
  |[t,C],M [s,x]=>match E.kindOf t,E.kindOf C with
   |some (.slice e),M (.slice _)=>match E.tt e with
    |some d=>match dX H d.size s,dX H d.size x with
     |some _,M []=>M (s,H)|some w,M z=>
      if W w+W z<=2147483648/\d.bytes<=4096/\0<d.bytes then
       (iE H s).map λH1=>(.hsl (W H) d.size 0 (W w+W z),H1++[.row d.size (w++z)])
      else G
     |_,_=>G
    |none=>G
   |some (.slice e),M (.int _)=>match E.tt e with
    |some d=>mkApp H d.size d.bytes d.zero s x|none=>G
   |_,_=>G
  |_,_=>G
 |.call {callee:=.builtin .clear,args,argTypes}=>match argTypes[0]?,gm F args.toList with
  |some t,M [v]=>match E.kindOf t with
   |some (.slice e)=>match E.tt e with
    |some d=>GV H d.size d.zero v|none=>G
   |_=>G
  |_,_=>G
 |_=>G
def nM:S'->aY SW
 |[]=>M []|[.int .u8 n]::r=>(nM r).map (n::·)|_=>G
def lB(l:SW):U':=l.foldl (λr n=>r.push (UInt8.ofNat n.toNat)) ByteArray.empty
def evalConv(E:Env)(F:WP)(H:bl)(op:Op):aY V:=
 match op with
 |.convert s d x=>match E.kindOf s,E.kindOf d,ev F x with
  |some (.slice e),M .str,M v=>match E.kindOf e with
   |some (.int .u8)=>_l (dX H 1 v) λu=>(nM u).map λl=>.str (lB l)|_=>G
  |_,_,_=>G
 |_=>G
def vC(E:Env)(F:WP)(H:bl)(place:aY (Nat×Nat))(op:Op):aY V:=
 match bS E F op with
 |some v=>M v|none=>match place with
  |none=>evalConv E F H op|some _=>G
inductive Callee where
 |fn(f:FuncId)|yld(id:Nat)
def lP(F:WP)(op:Op):aY (Callee×So):=
 match op with
 |.call {callee:=.value f,args,..}=>match ev F f,gm F args.toList with
  |some (.clo g a b),M u=>M (.fn g,a++u++b)|some (.yld id),M u=>M (.yld id,u)|_,_=>G
 |_=>G
inductive XN where
 |pure|read|alloc|loud|call
 deriving DecidableEq
def cV:Op->XN
 |.load ..|.lookup ..=>.read|.alloc ..|.box ..|.makeSlice ..|.buildSlice ..|.makeMap ..=>.alloc|.store ..|.mapUpdate ..|.insert ..=>.loud|.call {callee:=.builtin .append,..}=>.loud|.call {callee:=.builtin .clear,..}=>.loud|.call {callee:=.value _,..}=>.call|_=>.pure
def jw(f:V->aY V):So->aY So
 |[]=>M []|x::r=>match f x,jw f r with
  |some y,M s=>M (y::s)|_,_=>G
def nW(f:V->aY V):S'->aY S'
 |[]=>M []|x::r=>match jw f x,nW f r with
  |some y,M s=>M (y::s)|_,_=>G
def nQ(f:V->aY V):aX (V×V)->aY (aX (V×V))
 |[]=>M []|(k,x)::r=>match f k,f x,nQ f r with
  |some k,M y,M s=>M ((k,y)::s)|_,_,_=>G
def borrow:Nat->bl->V->aY V
 |0,_,x=>if x.closed then M x else G|n+1,H,x=>
  if x.closed then M x else
  match x with
  |.hsl id es off len=>match(H[id]?).bind Ob.rows with
   |some (B,xs)=>if B=es/\off+len<=W xs then(nW (borrow n H) ((xs.drop off).take len)).map (.fsl es)else G|none=>G
  |.hptr id el off=>match(H[id]?).bind Ob.rows with
   |some (_,xs)=>match xs[el]?with
    |some cs=>if off<=W cs then(jw (borrow n H) (cs.drop off)).map .fptr else G|none=>G
   |none=>G
  |.hmap id=>match H[id]?with
   |some (.map D)=>(nQ (borrow n H) D).map .fmap|_=>G
  |.clo f a b=>match jw (borrow n H) a,jw (borrow n H) b with
   |some a,M b=>M (.clo f a b)|_,_=>G
  |.agg cs=>(jw (borrow n H) cs).map .agg|.tup cs=>(jw (borrow n H) cs).map .tup|_=>G
def borrows(n:Nat)(H:bl)(l:So):aY So:=jw (borrow n H) l
def dy(f:V->ST):So->ST
 |[]=>[]|x::r=>f x++dy f r
def cE:Nat->bl->V->ST
 |0,_,_=>[]|n+1,H,x=>
  if x.closed then[]else
  match x with
  |.hsl id _ off len=>id::(match(H[id]?).bind Ob.rows with|some (_,xs)=>dy (cE n H) ((xs.drop off).take len).flatten|none=>[])|.hptr id el off=>id::(match(H[id]?).bind Ob.rows with|some (_,xs)=>dy (cE n H) (((xs[el]?).getD []).drop off)|none=>[])|.hmap id=>id::(match H[id]?with|some (.map B)=>dy (cE n H) (B.map (·.1))++dy (cE n H) (B.map (·.2))|_=>[])|.clo _ a b=>dy (cE n H) a++dy (cE n H) b|.agg cs=>dy (cE n H) cs|.tup cs=>dy (cE n H) cs|_=>[]
def xX(H:bl)(id:Nat):bl:=
 match H[id]?with
 |some (.row es u)=>H.set id (.frz es u)|some (.map _)=>H.set id .dead|_=>H
def c9(H:bl)(l:ST):bl:=l.foldl xX H
structure d_ where
 lv:Nat
 go:Callee->List V->bl->Option (V×bl)
instance:CoeFun d_ λ_=>Callee->So->bl->aY (V×bl):=⟨d_.go⟩
def j8(H:bl)(T:ST):X':=T.all λid=>(_l (H[id]?) Ob.rows).isSome
def cu(call:d_)(f:Y')(args:So)(H:bl):aY V:=
 match borrows call.lv H args with
 |some az=>match call (.fn f) az []with
  |some (r,H1)=>match borrow call.lv H1 r with
   |some y=>if y.closed then M y else G|none=>G
  |none=>G
 |none=>G
def vP(k:Nat)(H1:bl)(id es off len:Nat):aY (V×Ob):=
 match H1[id]?with
 |some (.row u w)=>if u=es/\(w.all λx=>x.all V.scalar)=O then M (.hsl k es off len,.row es w)else G|_=>G
def oq(call:d_)(f:Y')(args:So)(H:bl):aY (V×bl):=
 match borrows call.lv H args with
 |some az=>match call (.fn f) az []with
  |some (r,H1)=>
   if r.scalar then M (r,H)else
   match r with
   |.hsl id es off len=>(vP (W H) H1 id es off len).map λ(v,ob)=>(v,H++[ob])|.tup (.hsl id es off len::h?)=>if V.c6 h? then(vP (W H) H1 id es off len).map λ(v,ob)=>(.tup (v::h?),H++[ob])else G|_=>G
  |none=>G
 |none=>G
def h_(E:Env)(call:d_)(f:Y')(args:So)(H:bl):aY (V×bl):=if E.own f then oq call f args H else call (.fn f) args H
def nE(e:Edge):X':=match e.ground with|.textOnly _|.gcOnly _=>U|_=>O
def Ii(o:Oper)(i:Nat):X':=o.after.any λe=>e.on==i&&nE e
def KO(a:aX ST)(o:Oper):ST:=(o.after.toList.filter nE).foldl (λl e=>(e.on::(a[e.on]?).getD []).foldl (λl k=>if l.contains k then l else k::l) l) []
def L_(ops:R0):aX ST:=ops.foldl (λa o=>a++[KO a o]) []
def before(ops:R0)(i k:Nat):X':=(((L_ ops)[i]?).getD []).contains k
def isApp:Op->X'
 |.call {callee:=.builtin .append,..}=>O|_=>U
def eo(ops:R0)(i:Nat):X':=
 match ops[i]?with
 |some o=>(B! (W ops)).all λk=>match ops[k]?with
  |some p=>k==i||cV p.op==.pure||(if k<i then before ops i k else before ops k i)||(isApp o.op&&cV p.op==.alloc&&_p (i<k))|none=>O
 |none=>U
def dstsOf(ops:R0):ST:=ops.filterMap (·.dst)
def uE(ops:R0)(i k:Nat):X':=if k<i then before ops i k else before ops k i
def J_(g:X')(ops:R0)(i k:Nat):aY ST:=
 match ops[k]?with
 |some p=>
  if k==i||cV p.op==.pure||uE ops i k then M []else
  match p.op with
  |.load _ (.tmp a)=>if(dstsOf ops).contains a then M []else M [a]|o=>if g&&(cV o==.alloc||cV o==.call)then M []else G
 |none=>M []
def ET(g:X')(ops:R0)(i:Nat):ST->aY ST
 |[]=>M []|k::r=>match J_ g ops i k,ET g ops i r with
  |some a,M b=>M (a++b)|_,_=>G
def uq(g:X')(ops:R0)(i:Nat):aY (Nat×ST):=
 match(ops[i]?).map Oper.op with
 |some (.store _ (.tmp a) _)=>if(dstsOf ops).contains a then G else(ET g ops i (B! (W ops))).map λl=>(a,l)|_=>G
def qt(id:Nat):V->X'
 |.hptr B _ _=>B != id|.fptr _=>O|_=>U
def sL(ops:R0)(i:Nat)(F:WP):X':=
 match uq U ops i with
 |some (a,l)=>match get F a with
  |.hptr id _ _=>l.all λs=>qt id (get F s)|_=>U
 |none=>U
def uH(ops:R0)(b i:Nat)(F:WP):X':=
 match uq O ops i with
 |some (a,l)=>match get F a with
  |.hptr id _ _=>_p (id<b)&&l.all λs=>qt id (get F s)|_=>U
 |none=>U
def LM(ops:R0)(k:Nat):X':=(B! (W ops)).any λi=> !uE ops i k&&(uq O ops i).isSome
def zj(ops:R0)(place:aY (Nat×Nat))(args:So):X':=match place with|some (_,i)=> !LM ops i||V.ji args|none=>O
def rz(ops:R0)(k a':Nat):ST:=
 if(dstsOf ops).contains a' then(B! (W ops)).filterMap λi=>match(ops[i]?).map Oper.op with
  |some (.store _ (.tmp a) _)=>if uE ops i k||(dstsOf ops).contains a then G else M a|_=>G
 else[]
def p_(ops:R0)(k:Nat)(F:WP)(op:Op):X':=
 match op with
 |.load _ (.tmp u)=>(rz ops k u).all λa=>match get F a with
  |.hptr id _ _=>qt id (get F u)|_=>O
 |_=>O
def D0(d:Nat)(op:Op):X':=op.operands.any λx=>match x with|.tmp t=>t==d|_=>U
def VN(d:Nat):Op->X'
 |.call {callee:=.builtin .append,args,..}=>match args.toList with
  |.tmp t::r=>t==d&&r.all λx=>match x with|.tmp t=>t != d|_=>O
  |_=>U
 |_=>U
def DG(ops:R0)(i:Nat):X':=
 match ops[i]?with
 |some o=>match o.op,o.dst with
  |.makeSlice ..,M d=>(ops.any λp=>D0 d p.op)&&ops.all λp=> !D0 d p.op||cV p.op==.call|.buildSlice _ len ps,M d=>len==0&&ps.size==0&&((B! (W ops)).any λk=>match ops[k]?with|some p=>D0 d p.op&& !eo ops k|none=>U)&&ops.all λp=> !D0 d p.op||VN d p.op|_,_=>U
 |none=>U
def Wx(E:Env)(ops:R0)(i:Nat):X':=
 match ops[i]?with
 |some o=>match o.op,o.dst with
  |.buildSlice t len _,M d=>_p (0<len)&&(match E.kindOf t with
   |some (.slice e)=>(match E.kindOf e with|some .bool|some (.int _)|some .str=>O|_=>U)|_=>U)&&(ops.any λp=>D0 d p.op)&&ops.all λp=> !D0 d p.op||cV p.op==.call
  |_,_=>U
 |none=>U
def Gr(E:Env)(ops:R0)(i:Nat):X':=DG ops i||Wx E ops i
def pW(E:Env)(ops:R0):aY (Nat×Nat)->X'
 |some (_,i)=>Gr E ops i|none=>U
def mO(E:Env)(ops:R0)(place:aY (Nat×Nat))(f:Y'):X':=E.keep f&&(match place with|none=>O|some (_,i)=>eo ops i|| !(E.own f||E.soft f))
def Ab(ops:R0)(i:Nat):X':=
 match ops[i]?with
 |some o=>isApp o.op&&(B! (W ops)).all λk=>match ops[k]?with
  |some p=>k==i||cV p.op==.pure||uE ops i k||cV p.op==.read||(cV p.op==.alloc&&(DG ops k||decide (i<k)))|none=>O
 |none=>U
def sF(F:WP):Op->X'
 |.call {callee:=.builtin .append,args,..}=>match args.toList with
  |x::_=>match ev F x with|some .dN|some .bG=>O|_=>U
  |_=>U
 |_=>U
def Ds(ops:R0)(i b:Nat)(F:WP)(H:bl)(op:Op):X':=Ab ops i&&(isApp op&&sF F op&&_p (b<=W H))
def eP(E:Env)(call:d_)(ops:R0)(place:aY (Nat×Nat))(f:Y')(args:So)(H:bl):aY (V×bl):=
 if mO E ops place f then
  match place with
  |none=>h_ E call f args H|some (_,i)=>if eo ops i then h_ E call f args H else G
 else match place with
  |none=>match cu call f args H with
   |some y=>M (y,if y.scalar then H else c9 H (dy (cE call.lv H) args))|none=>G
  |some (b,i)=>match cu call f args (H.take b)with
   |some y=>if y.scalar then M (y,H)else if j8 (H.take b) (dy (cE call.lv (H.take b)) args)then M (y,c9 H (dy (cE call.lv (H.take b)) args))else G|none=>if eo ops i then match cu call f args H with
    |some y=>M (y,if y.scalar then H else c9 H (dy (cE call.lv H) args))|none=>G
    else G
def dn(E:Env)(call:d_)(ops:R0)(place:aY (Nat×Nat))(F:WP)(H:bl)(op:Op):aY (V×bl):=
 match cV op with
 |.pure=>(vC E F H place op).map λv=>(v,H)|.read=>match place with
  |none=>(eH E F H op).map λv=>(v,H)|some (b,i)=>if p_ ops i F op then match eH E F (H.take b) op with
   |some v=>M (v,H)|none=>if eo ops i then(eH E F H op).map λv=>(v,H)else G
   else G
 |.alloc=>if pW E ops place then(rC E F op).map λv=>(v,H)else match fP E F op,place with
  |some (ob,m),G=>M (m.val (W H),H++[ob])|some (ob,m),M (b,i)=>match H[b+i]?with
   |some .free=>M (m.val (b+i),H.set (b+i) ob)|_=>G
  |none,_=>G
 |.loud=>match place with
  |none=>cQ E F H op|some (b,i)=>if eo ops i||sL ops i F||uH ops b i F||Ds ops i b F H op then cQ E F H op else G
 |.call=>match lP F op with
  |some (.fn f,args)=>if zj ops place args then eP E call ops place f args H else G|some (.yld id,args)=>match place with
   |none=>call (.yld id) args H|some (_,i)=>if eo ops i then call (.yld id) args H else G
  |none=>G
def lQ(n:Nat)(F:WP)(dst:aY Nat)(v:V):aY WP:=
 match dst with
 |none=>M F|some d=>if d<n then M (set F d v)else G
def gV(ops:R0)(F:WP)(o:Oper):X':=
 match o.guard with
 |none=>O|some (j,b)=>match(ops[j]?).bind (·.dst)with
  |some d=>match get F d with
   |.bool c=>c==b|_=>U
  |none=>U
def iI(E:Env)(call:d_)(n:Nat)(ops:R0)(place:aY (Nat×Nat))(o:Oper)(F:WP)(H:bl):aY (WP×bl):=
 if gV ops F o then
  match dn E call ops place F H o.op with
  |some (v,H')=>(lQ n F o.dst v).map λF'=>(F',H')|none=>G
 else(lQ n F o.dst .undef).map λF'=>(F',H)
def ov(E:Env)(call:d_)(n:Nat)(ops:R0):R0->WP->bl->aY (WP×bl)
 |[],F,H=>M (F,H)|o::r,F,H=>match iI E call n ops G o F H with
  |some (F',H')=>ov E call n ops r F' H'|none=>G
def lR(E:Env)(call:d_)(n:Nat)(ops:R0)(j?:Nat):ST->WP->bl->aY (WP×bl)
 |[],F,H=>M (F,H)|i::r,F,H=>match ops[i]?with
  |some o=>match iI E call n ops (M (j?,i)) o F H with
   |some (F',H')=>lR E call n ops j? r F' H'|none=>G
  |none=>G
def tmpsOf(o:Oper)(ops:R0):ST:=
 (o.op.operands.toList.filterMap λ|.tmp t=>M t|_=>G)++
 (match o.guard with|some (g,_)=>(_l (ops[g]?) (·.dst)).toList|none=>[])
def A4(ops:R0)(a b:Oper):X':=
 (match a.dst with|some d=> !(tmpsOf b ops).contains d&&b.dst != M d|none=>O)&&
 (match b.dst with|some d=> !(tmpsOf a ops).contains d|none=>O)
def zg(ops:R0):X':=
 (B! (W ops)).all λj=>(B! j).all λi=>
  match ops[i]?,ops[j]?with
  |some a,M b=>Ii b i||A4 ops a b|_,_=>U
def C6(ops:R0):X':=
 (B! (W ops)).all λj=>match ops[j]?with
  |some o=>o.after.all λe=> !nE e||decide (e.on<j)|none=>O
def uw(ops:R0):X':=ops.any λo=>cV o.op==.alloc
def kX(E:Env)(call:d_)(n:Nat)(ops:R0)(B:X')(F:WP)(H:bl):aY (WP×bl):=if B then if zg ops&&C6 ops then lR E call n ops (W H) (B! (W ops)) F (if uw ops then H++w? (W ops) .free else H)else G else ov E call n ops ops F H
def mL(step:WP->bl->aY (Out×WP×bl)):Nat->WP->bl->aY (Out×WP×bl)
 |0,_,_=>G|k+1,F,H=>match step F H with
  |some (.norm,F',H')=>mL step k F' H'|r=>r
def oP:Out->aY Code
 |.norm=>G|.ret=>M .ret|.exit id=>M (.exit id)
def exec(E:Env)(call:d_)(lf:Nat)(ro:X')(n:Nat):Code->WP->bl->aY (Out×WP×bl)
 |.skip,F,H=>M (.norm,F,H)|.label _,F,H=>M (.norm,F,H)|.region _ ops B,F,H=>(kX E call n ops.toList B F H).map λ(F',H')=>(.norm,F',H')|.seq a b,F,H=>match exec E call lf ro n a F H with
  |some (.norm,F',H')=>exec E call lf ro n b F' H'|r=>r
 |.cond c x y,F,H=>match ev F c with
  |some (.bool t)=>if t then exec E call lf ro n x F H else exec E call lf ro n y F H|_=>G
 |.block id c,F,H=>match exec E call lf ro n c F H with
  |some (.exit D,F',H')=>if D=id then M (.norm,F',H')else M (.exit D,F',H')|r=>r
 |.loop c,F,H=>mL (exec E call lf ro n c) lf F H|.rangeFunc g ps assign body,F,H=>match ro,ev F g with
  |false,M (.clo f a b)=>
   match call (.fn f) (a++.yld (W H)::b) (H++[.loop ⟨.ready,G,F,n,ps.toList,assign,body⟩])with
   |some (_,H')=>match H'[W H]?with
    |some (.loop r)=>match r.st with
     |.busy=>G|_=>M (r.pend.getD .norm,F,H'.set (W H) .dead)
    |_=>G
   |none=>G
  |_,_=>G
 |.exit id,F,H=>M (.exit id,F,H)|.ret,F,H=>M (.ret,F,H)|_,_,_=>G
def jt(E:Env)(F:WP)(H:bl):aX ResultVar->aY So
 |[]=>M []|.tmp t::r=>(jt E F H r).map (get F t::·)|.cell a t::r=>match E.tt t,jt E F H r with
  |some d,M vs=>(_l (fD H (get F a) d.size) (mk d.agg)).map (·::vs)|_,_=>G
def result:So->V
 |[v]=>v|vs=>.tup vs
def Bc:ST->So->WP->WP
 |t::B,v::vs,F=>Bc B vs (set F t v)|_,_,F=>F
def MM{α:Type}[Inhabited α](lt:α->α->X'):Nat->Nat->Array α->Array α
 |0,_,d=>d|k+1,i,d=>MM lt k (i+1) (Sort.insInner lt 0 i d)
def tu(n:Nat)(lt:Fin (n+1)->Fin (n+1)->X'):Array (Fin (n+1)):=if n<12 then MM lt n 1 (V! (n+1)).toArray else Sort.pdq lt (V! (n+1)).toArray 0 (n+1) (Lib.bitLen (n+1)) O O
def kj(call:d_)(g:Y')(D B:So)(n:Nat)(i j:Fin (n+1)):Ps:=
 match D[i.1]?,D[j.1]?with
 |some a,M b=>match cu call g (a::b::B) []with
  |some (.int Z c)=>M c|_=>G
 |_,_=>G
def rG{n:Nat}(t:Fin (n+1)->Fin (n+1)->Ps)(i j:Fin (n+1)):X':=_p ((t i j).getD 0<0)
def DB{n:Nat}(t:Fin (n+1)->Fin (n+1)->Ps):X':=
 let l:=V! (n+1)
 l.all λi=> !rG t i i&&l.all λj=>(t i j).isSome&&l.all λk=>(!(rG t i j&&rG t j k)||rG t i k)&&((rG t i j||rG t j k)|| !rG t i k)
def ug(xs:S')(off n:Nat)(l:aX (Fin (n+1))):S':=xs.take off++l.map (λi=>(xs[off+i.1]?).getD [])++xs.drop (off+(n+1))
def tq(keep:Y'->X')(call:d_)(args:So)(H:bl):aY (V×bl):=
 match args with
 |[s,c]=>match s with
  |.bG|.dN=>M (.undef,H)|.hsl id es off len=>match len,c with
   |0,_=>M (.undef,H)|n+1,.clo g [] cb=>match H[id]?with
    |some (.row w z)=>if es=1/\w=1/\off+(n+1)<=W z/\n<2147483648/\keep g=U then
     match borrows call.lv (H.set id .dead) ((z.drop off).take (n+1)).flatten,borrows call.lv (H.set id .dead) cb with
     |some B,M u=>if DB (kj call g B u n)then M (.undef,H.set id (.row 1 (ug z off n (tu n (rG (kj call g B u n))).toList)))else G|_,_=>G
     else G
    |_=>G
   |_,_=>G
  |_=>G
 |_=>G
def lz(E:Env)(c:d_)(n:Nat):Callee->So->bl->aY (V×bl)
 |.fn f,args,H=>match E.ft f with
  |some fi=>if W args<=fi.ntmps then
   match exec E c n U fi.ntmps fi.body args H with
   |some (.exit _,_,_)=>G|some (_,F',H')=>(jt E F' H' fi.results).map λvs=>(result vs,H')|none=>G
   else G
  |none=>if E.sort f then tq E.keep c args H else(E.known f args).map λy=>(y,H)
 |.yld id,args,H=>match H[id]?with
  |some (.loop r)=>match r.st with
   |.ready=>if W args=W r.params/\r.params.all (·<r.nt)then
    match exec E c n O r.nt r.assign (Bc r.params args r.frame) H with
    |some (.norm,D,H2)=>match H2[id]?with
     |some (.loop r2)=>match r2.st with
      |.ready=>match exec E c n O r.nt r.body D (H2.set id (.loop {r2 with st:=.busy}))with
       |some (o,_,B)=>match B[id]?with
        |some (.loop r4)=>M (.bool (o==.norm),B.set id (.loop {r4 with st:=(if o==.norm then .ready else .done),pend:=(if o==.norm then G else M o)}))|_=>G
       |none=>G
      |_=>G
     |_=>G
    |_=>G
    else G
   |_=>G
  |_=>G
def run(E:Env):Nat->d_
 |0=>⟨0,λ_ _ _=>G⟩|n+1=>⟨n+1,lz E (run E n) n⟩
def Kj{E:Env}{n:Nat}{x:Callee}{a:So}{H:bl}:run E (n+1) x a H=lz E (run E n) n x a H:=rfl
end Go.VE
namespace Go.VE
variable[b8]
@[simp] def get_nil(i:Nat):get [] i=.undef:=by cases i<;>rfl
@[simp] def vW(F:WP)(i:Nat)(v:V):get (set F i v) i=v:=by
 induction F generalizing i with
 |nil=>induction i with
  |zero=>rfl|succ i u=>grind[set,get]
 |cons x r u=>cases i with
  |zero=>rfl|succ i=>grind[set,get]
theorem kG(F:WP){i j:Nat}(v:V)(h:i≠j):get (set F i v) j=get F j:=by
 induction F generalizing i j with
 |nil=>
  induction i generalizing j with
  |zero=>cases j with
   |zero=>grind|succ j=>simp[set,get]
  |succ i u=>cases j with
   |zero=>simp[set,get]|succ j=>grind[set,get]
 |cons x r u=>cases i with
  |zero=>cases j with
   |zero=>grind|succ j=>simp[set,get]
  |succ i=>cases j with
   |zero=>simp[set,get]|succ j=>grind[set,get]
def Mi(F:WP){i j:Nat}(u v:V)(h:i≠j):set (set F i u) j v=set (set F j v) i u:=by
 induction F generalizing i j with
 |nil=>
  induction i generalizing j with
  |zero=>cases j with
   |zero=>grind|succ j=>simp[set]
  |succ i w=>cases j with
   |zero=>simp[set]|succ j=>grind[set]
 |cons x r w=>cases i with
  |zero=>cases j with
   |zero=>grind|succ j=>simp[set]
  |succ i=>cases j with
   |zero=>simp[set]|succ j=>grind[set]
inductive IC where
 |cells(c:Array Value)|map(es:Array MapEntry)
abbrev cI:=Nat->aY IC
def IC.at(x:IC)(w:World)(b:Nat):Prop:=
 match x with
 |.cells c=>∃el fr,w.heap[b]?=M (.cells c el fr)|.map es=>∃a,w.heap[b]?=M (.map es a)
def cI.le(I I':cI):Prop:=∀b x,I b=M x->I' b=M x
def cI.le_refl(I:cI):cI.le I I:=λ_ _ h=>h
def cI.le_trans{I J K:cI}(h:cI.le I J)(B:cI.le J K):cI.le I K:=λb x e=>B b x (h b x e)
inductive fA(I:cI):V->Value->Prop
 |bool(b:Bool):fA I (.bool b) (.bool b)|int(k:IntKind)(n:Int):fA I (.int k n) (.int k n)|str(s:ByteArray):fA I (.str s) (.string s)|dN(a:Option Addr):fA I .dN (.slice a 0 0)|bG:fA I .bG (.slice none 0 0)|fsl0(es:Nat)(a:Addr)(cap:Nat):fA I (.fsl es []) (.slice (some a) 0 cap)|fsl(es:Nat)(xs:List (List V))(b o cap:Nat)(c:Array Value)(hI:I b=some (.cells c))(hc:xs.length<=cap)
  (hu:∀x∈xs,x.length=es) (ho:∀x∈xs,∀y∈x,V.one y=true) (hb:o+xs.length*es<=c.size)
  (hr:∀(i j:Nat)x y v,xs[i]?=some x->x[j]?=some y->c[o+i*es+j]?=some v->fA I y v):
  fA I (.fsl es xs) (.slice (some ⟨b,o,none⟩) xs.length cap)
 |jg:fA I .jg (.pointer none)|fptr(cs:List V)(b o:Nat)(c:Array Value)(hI:I b=some (.cells c))(hb:o+cs.length<=c.size)
  (hr:∀(j:Nat)y v,cs[j]?=some y->c[o+j]?=some v->fA I y v):fA I (.fptr cs) (.pointer (some ⟨b,o,none⟩))
 |clo(f:FuncId)(x y:List V)(u v:Array Value)(hx:x.length=u.size)(hy:y.length=v.size)
  (h1:∀(j:Nat)a b,x[j]?=some a->u[j]?=some b->fA I a b) (h2:∀(j:Nat)a b,y[j]?=some a->v[j]?=some b->fA I a b):
  fA I (.clo f x y) (.func (.func f) u v)
 |ir:fA I .ir (.map none)|vf:fA I .vf .nilFunc|fmap(kvs:List (V×V))(b:Nat)(es:Array MapEntry)(hI:I b=some (.map es))(hl:kvs.length=es.size)
  (hk:∀(j:Nat)p e,kvs[j]?=some p->es[j]?=some e->fA I p.1 e.key)
  (hv:∀(j:Nat)p e,kvs[j]?=some p->es[j]?=some e->fA I p.2 e.val):fA I (.fmap kvs) (.map (some b))
 |agg(cs:List V)(vs:Array Value)(hl:cs.length=vs.size)(h:∀(j:Nat)a b,cs[j]?=some a->vs[j]?=some b->fA I a b):
  fA I (.agg cs) (.agg vs)
 |tup(cs:List V)(vs:Array Value)(hl:cs.length=vs.size)(h:∀(j:Nat)a b,cs[j]?=some a->vs[j]?=some b->fA I a b):
  fA I (.tup cs) (.tuple vs)
structure Pl where
 b:Nat
 o:Nat
 es:Nat
 sz:Nat
abbrev Mu:=Nat->aY Pl
inductive bN(I:cI)(μ:Mu):V->Value->Prop
 |c(x:V)(v:Value)(h:fA I x v):bN I μ x v|hsl(id off len cap:Nat)(p:Pl)(hm:μ id=some p)(hc:len<=cap)(hb:p.o+(off+cap)*p.es<=p.sz):
  bN I μ (.hsl id p.es off len) (.slice (some ⟨p.b,p.o+off*p.es,none⟩) len cap)
 |hsl0(id es off:Nat)(a:Addr):bN I μ (.hsl id es off 0) (.slice (some a) 0 0)|hptr(id el off:Nat)(p:Pl)(hm:μ id=some p):bN I μ (.hptr id el off) (.pointer (some ⟨p.b,p.o+el*p.es+off,none⟩))|yld(id:Nat)(p:Pl)(hm:μ id=some p):bN I μ (.yld id) (.func (.yield p.b) #[] #[])|hmap(id:Nat)(p:Pl)(hm:μ id=some p):bN I μ (.hmap id) (.map (some p.b))|clo(f:FuncId)(x y:List V)(u v:Array Value)(hx:x.length=u.size)(hy:y.length=v.size)
  (h1:∀(j:Nat)a b,x[j]?=some a->u[j]?=some b->bN I μ a b) (h2:∀(j:Nat)a b,y[j]?=some a->v[j]?=some b->bN I μ a b):
  bN I μ (.clo f x y) (.func (.func f) u v)
 |agg(cs:List V)(vs:Array Value)(hl:cs.length=vs.size)(h:∀(j:Nat)a b,cs[j]?=some a->vs[j]?=some b->bN I μ a b):
  bN I μ (.agg cs) (.agg vs)
 |tup(cs:List V)(vs:Array Value)(hl:cs.length=vs.size)(h:∀(j:Nat)a b,cs[j]?=some a->vs[j]?=some b->bN I μ a b):
  bN I μ (.tup cs) (.tuple vs)
def Mu.le(μ μ':Mu):Prop:=∀id p,μ id=M p->μ' id=M p
def Mu.le_refl(μ:Mu):Mu.le μ μ:=λ_ _ h=>h
def fA.mono{I I':cI}(h:cI.le I I'){x:V}{v:V'}(r:fA I x v):fA I' x v:=by induction r with|bool b=>exact .bool b|int k n=>exact .int k n|str s=>exact .str s|dN a=>exact .dN a|bG=>exact .bG|fsl0 es a cap=>exact .fsl0 es a cap|fsl es i b o cap c C hc hu Q g _ w=>exact .fsl es i b o cap c (h _ _ C) hc hu Q g w|jg=>exact .jg|fptr cs b o c C g _ w=>exact .fptr cs b o c (h _ _ C) g w|clo f x y u v S T _ _ z B=>exact .clo f x y u v S T z B|ir=>exact .ir|vf=>exact .vf|fmap J b es C D _ _ z B=>exact .fmap J b es (h _ _ C) D z B|agg cs L D _ w=>exact .agg cs L D w|tup cs L D _ w=>exact .tup cs L D w
def bN.mono{I I':cI}{μ μ':Mu}(h:cI.le I I')(B:Mu.le μ μ'){x:V}{v:V'}(r:bN I μ x v):bN I' μ' x v:=by induction r with|c x v r=>exact .c _ _ (r.mono h)|hsl id off len cap p w hc L=>exact .hsl id off len cap p (B _ _ w) hc L|hsl0 id es off a=>exact .hsl0 id es off a|hptr id el off p w=>exact .hptr id el off p (B _ _ w)|yld id p w=>exact .yld id p (B _ _ w)|hmap id p w=>exact .hmap id p (B _ _ w)|clo f x y u v i Q _ _ z C=>exact .clo f x y u v i Q z C|agg cs D g _ J=>exact .agg cs D g J|tup cs D g _ J=>exact .tup cs D g J
def cW(I:cI)(μ:Mu)(xs:So)(vs:aX V'):Prop:=W xs=W vs/\∀(j:Nat)a b,xs[j]?=M a->vs[j]?=M b->bN I μ a b
def cW.nil{I:cI}{μ:Mu}:cW I μ [] []:=⟨Y,f?⟩
def cW.cons{I:cI}{μ:Mu}{x:V}{v:V'}{xs:So}{vs:aX V'}(h:bN I μ x v)(r:cW I μ xs vs):cW I μ (x::xs) (v::vs):=by refine⟨by simp[r.1],?_⟩;intro j a b c u;cases j with|zero=>grind|succ j=>exact r.2 j a b g? g?
def cW.cons_inv{I:cI}{μ:Mu}{x:V}{xs:So}{B:aX V'}(r:cW I μ (x::xs) B):∃v vs,B=v::vs/\bN I μ x v/\cW I μ xs vs:=by have⟨u,h⟩:=r;cases B with|nil=>simp_all|cons v vs=>refine⟨v,vs,Y,h 0 x v f? f?,g?,?_⟩;intro j a b c w;exact h (j+1) a b g? g?
def cW.zc{I:cI}{μ:Mu}{B:aX V'}(r:cW I μ [] B):B=[]:=by have:=r.1;grind
def cW.append{I:cI}{μ:Mu}{xs ys:So}{B vs:aX V'}(h:cW I μ xs B)(D:cW I μ ys vs):cW I μ (xs++ys) (B++vs):=by induction xs generalizing B with|nil=>rw[cW.zc h];exact D|cons x xs u=>obtain⟨v,B,rfl,a,b⟩:=h.cons_inv;exact .cons a (u b)
def cW.mono{I I':cI}{μ μ':Mu}(h:cI.le I I')(B:Mu.le μ μ'){xs:So}{vs:aX V'}(r:cW I μ xs vs):cW I' μ' xs vs:=⟨r.1,λj a b c u=>(r.2 j a b c u).mono h B⟩
def cW.take{I:cI}{μ:Mu}{xs:So}{vs:aX V'}(r:cW I μ xs vs)(n:Nat):cW I μ (xs.take n) (vs.take n):=by refine⟨by simp[r.1],λj a b c u=>?_⟩;rw[I?]at c u;split at c<;>simp_all;exact r.2 j a b c u
def cW.drop{I:cI}{μ:Mu}{xs:So}{vs:aX V'}(r:cW I μ xs vs)(n:Nat):cW I μ (xs.drop n) (vs.drop n):=by refine⟨by simp[r.1],λj a b c u=>?_⟩;rw[R?]at c u;exact r.2 _ a b c u
def bN.cells{I:cI}{μ:Mu}{x:V}{v:V'}(r:bN I μ x v):cW I μ x.cells v.cells.toList:=by
 cases r with
 |c x v h=>cases h with|agg cs B w h=>exact⟨by grind[V.cells,Value.cells],λj a b d C=>.c _ _ (h j a b d (by grind[Value.cells]))⟩|bool b=>exact .cons (.c _ _ (.bool b)) .nil|int k n=>exact .cons (.c _ _ (.int k n)) .nil|str s=>exact .cons (.c _ _ (.str s)) .nil|dN a=>exact .cons (.c _ _ (.dN a)) .nil|bG=>exact .cons (.c _ _ .bG) .nil|fsl0 es a cap=>exact .cons (.c _ _ (.fsl0 es a cap)) .nil|fsl es Q b o cap c D hc hu S g hr=>exact .cons (.c _ _ (.fsl es Q b o cap c D hc hu S g hr)) .nil|jg=>exact .cons (.c _ _ .jg) .nil|fptr cs b o c D g hr=>exact .cons (.c _ _ (.fptr cs b o c D g hr)) .nil|clo f x y u v J L d C=>exact .cons (.c _ _ (.clo f x y u v J L d C)) .nil|ir=>exact .cons (.c _ _ .ir) .nil|vf=>exact .cons (.c _ _ .vf) .nil|fmap i b es D w hk hv=>exact .cons (.c _ _ (.fmap i b es D w hk hv)) .nil|tup cs B w h=>exact .cons (.c _ _ (.tup cs B w h)) .nil
 |hsl id off len cap p z hc g=>exact .cons (.hsl id off len cap p z hc g) .nil|hsl0 id es off a=>exact .cons (.hsl0 id es off a) .nil|hptr id el off p z=>exact .cons (.hptr id el off p z) .nil|yld id p z=>exact .cons (.yld id p z) .nil|hmap id p z=>exact .cons (.hmap id p z) .nil|clo f x y u v J L d C=>exact .cons (.clo f x y u v J L d C) .nil|agg cs B w h=>exact⟨by grind[V.cells,Value.cells],λj a b d C=>h j a b d (by grind[Value.cells])⟩|tup cs B w h=>exact .cons (.tup cs B w h) .nil
def bN.Ki{I:cI}{μ:Mu}{cs:So}{vs:Array V'}(h:cW I μ cs vs.toList):bN I μ (.agg cs) (.agg vs):=.agg cs vs (by simpa using h.1) λj a b c u=>h.2 j a b c g?
def bN.Xr{I:cI}{μ:Mu}{cs:So}{vs:Array V'}(h:cW I μ cs vs.toList):bN I μ (.tup cs) (.tuple vs):=.tup cs vs (by simpa using h.1) λj a b c u=>h.2 j a b c g?
section inv
variable{I:cI}{μ:Mu}
def bN.uO{b:X'}{v:V'}(h:bN I μ (.bool b) v):v=.bool b:=by cases h with|c _ _ h=>cases h;rfl
def bN.gC{k:T2}{n:Int}{v:V'}(h:bN I μ (.int k n) v):v=.int k n:=by cases h with|c _ _ h=>cases h;rfl
def bN.wk{s:U'}{v:V'}(h:bN I μ (.str s) v):v=.string s:=by cases h with|c _ _ h=>cases h;rfl
def bN.vk{v:V'}(h:bN I μ .dN v):∃a,v=.slice a 0 0:=by cases h with|c _ _ h=>cases h;grind
def bN.oh{es:Nat}{xs:S'}{v:V'}(h:bN I μ (.fsl es xs) v):fA I (.fsl es xs) v:=by cases h with|c _ _ h=>omega
def bN.ow{cs:So}{v:V'}(h:bN I μ (.fptr cs) v):∃b o c,v=.pointer (M ⟨b,o,G⟩)/\I b=M (.cells c)/\o+W cs<=c.size/\
 (∀(j:Nat)y u,cs[j]?=M y->c[o+j]?=M u->fA I y u):=by
 cases h with|c _ _ h=>cases h with|fptr cs b o c w z hr=>grind
def bN.om{v:V'}(h:bN I μ .bG v):v=.slice G 0 0:=by cases h with|c _ _ h=>cases h;rfl
def bN.UJ{v:V'}(h:bN I μ .ir v):v=.map G:=by cases h with|c _ _ h=>cases h;rfl
def bN.wo{id el off:Nat}{v:V'}(h:bN I μ (.hptr id el off) v):∃p,μ id=M p/\v=.pointer (M ⟨p.b,p.o+el*p.es+off,G⟩):=by cases h with|c _ _ h=>cases h|hptr _ _ _ p u=>grind
def bN.YI{id:Nat}{v:V'}(h:bN I μ (.yld id) v):∃p,μ id=M p/\v=.func (.yield p.b) #[] #[]:=by cases h with|c _ _ h=>cases h|yld _ p u=>grind
def bN.E9{id:Nat}{v:V'}(h:bN I μ (.hmap id) v):∃p,μ id=M p/\v=.map (M p.b):=by cases h with|c _ _ h=>cases h|hmap _ p u=>grind
def bN.oc{id es off len:Nat}{v:V'}(h:bN I μ (.hsl id es off len) v):
 (∃p b,μ id=M p/\p.es=es/\len<=b/\p.o+(off+b)*es<=p.sz/\v=.slice (M ⟨p.b,p.o+off*es,G⟩) len b)\/(len=0/\∃a,v=.slice (M a) 0 0):=by
 cases h with
 |c _ _ h=>cases h|hsl _ _ _ b p u hc w=>simp_all|hsl0 _ _ _ a=>grind
def bN.jP{cs:So}{v:V'}(h:bN I μ (.agg cs) v):∃vs,v=.agg vs/\cW I μ cs vs.toList:=by
 cases h with
 |c _ _ h=>cases h with|agg _ vs u h=>exact⟨vs,rfl,g?,λj a b d w=>.c _ _ (h j a b d g?)⟩
 |agg _ vs u h=>exact⟨vs,Y,g?,λj a b d w=>h j a b d g?⟩
def bN.tc{cs:So}{v:V'}(h:bN I μ (.tup cs) v):∃vs,v=.tuple vs/\cW I μ cs vs.toList:=by
 cases h with
 |c _ _ h=>cases h with|tup _ vs u h=>exact⟨vs,rfl,g?,λj a b d w=>.c _ _ (h j a b d g?)⟩
 |tup _ vs u h=>exact⟨vs,Y,g?,λj a b d w=>h j a b d g?⟩
def bN.l_{f:Y'}{x y:So}{v:V'}(h:bN I μ (.clo f x y) v):∃a b,v=.func (.func f) a b/\cW I μ x a.toList/\cW I μ y b.toList:=by
 cases h with
 |c _ _ h=>cases h with
  |clo _ _ _ u v z B h1 w=>exact⟨u,v,rfl,⟨g?,λj a b p q=>.c _ _ (h1 j a b p g?)⟩,⟨g?,λj a b p q=>.c _ _ (w j a b p g?)⟩⟩
 |clo _ _ _ u v z B h1 w=>exact⟨u,v,Y,⟨g?,λj a b p q=>h1 j a b p g?⟩,⟨g?,λj a b p q=>w j a b p g?⟩⟩
def bN.of_bool{x:V}{b:X'}(h:bN I μ x (.bool b)):x=.bool b:=by cases h with|c _ _ h=>cases h;rfl
end inv
def w6(I:cI):Prop:=∀g cs,b8.gl g=M cs->fA I (.fptr cs) (.pointer (M ⟨g,0,G⟩))
def w6.mono{I I':cI}(h:cI.le I I')(r:w6 I):w6 I':=λg cs a=>(r g cs a).mono h
structure fe(I:cI)(μ:Mu)(n:Nat)(F:Frame)(tmps:Array Value):Prop where
 size:tmps.size=n
 rel:∀t,bN I μ (get F t) (tmps.getD t undef)
 gl:w6 I
theorem bN.undef(I:cI)(μ:Mu):bN I μ .undef Go.undef:=.c _ _ (.tup [] #[] Y f?)
def fe.mono{I I':cI}{μ μ':Mu}{n:Nat}{F:WP}{tmps:Array V'}(h:cI.le I I')(B:Mu.le μ μ')(r:fe I μ n F tmps):fe I' μ' n F tmps:=⟨r.1,λt=>(r.2 t).mono h B,r.gl.mono h⟩
def fe.put{I:cI}{μ:Mu}{n:Nat}{F F':WP}{a:Act}{dst:aY Nat}{x:V}{v:V'}(r:fe I μ n F a.tmps)(h:bN I μ x v)
 (hp:lQ n F dst x=M F'):fe I μ n F' (a.put dst v).tmps:=by
 cases dst with
 |none=>simp[lQ]at hp;subst hp;exact r|some d=>
  simp only[lQ]at hp;split at hp
  .simp at hp;subst hp;refine⟨by simp[Act.put,r.1],λt=>?_,r.gl⟩
   by_cases u:d=t
   .subst u;have:d<a.tmps.size:=by rw[r.1];omega
    simp_all[Act.put]
   have:=r.2 t;rw[kG _ _ u];simp_all[Act.put]
  grind
def Eo{I:cI}:∀(n:Nat)(v:V')(x:V),ofValue n v=M x->fA I x v:=by intro n;induction n with|zero=>grind[ofValue]|succ n B=>intro v x h;unfold ofValue at h;split at h<;>(try (simp at h;subst h;constructor))<;>(try grind);simp at h;obtain⟨C,w,rfl⟩:=h;have key:∀(l:aX V')(u:So),l.mapM (ofValue n)=M u->W u=W l/\∀(j:Nat)a b,u[j]?=M a->l[j]?=M b->fA I a b:=(by intro l;induction l with|nil=>grind|cons v l z=>grind[ζg]);have⟨D,c⟩:=key _ _ w;exact .agg _ _ g? λj a b d g=>c j a b d g?
def dP{I:cI}{μ:Mu}{n:Nat}{F:WP}{a:Act}(r:fe I μ n F a.tmps){o:UV}{x:V}(h:ev F o=M x):bN I μ x (a.eval o):=by cases o with|tmp t=>simp[ev]at h;subst h;exact r.2 t|const v=>exact .c _ _ (Eo 4 _ _ h)|func f=>simp[ev]at h;subst h;exact .c _ _ (.clo f [] [] #[] #[] Y Y f? f?)|global g=>obtain⟨cs,b,rfl⟩:=ζf.1 h;exact .c _ _ (r.gl g cs b)
def qu{I:cI}{μ:Mu}{n:Nat}{F:WP}{a:Act}(r:fe I μ n F a.tmps):∀{l:aX UV}{xs:So},gm F l=M xs->cW I μ xs (l.map a.eval):=by intro l;induction l with|nil=>intro xs h;simp[gm]at h;subst h;exact .nil|cons o l u=>intro xs h;simp[gm]at h;split at h;(next v z b w=>simp at h;subst h;exact .cons (dP r b) (u w));grind
def Qu{I:cI}{μ:Mu}{n:Nat}{F:WP}{a:Act}(r:fe I μ n F a.tmps):∀{l:aX (Nat×UV)}{xs:aX (Nat×V)},oy F l=M xs->
 W xs=W l/\∀(j:Nat)x y,xs[j]?=M x->l[j]?=M y->x.1=y.1/\bN I μ x.2 (a.eval y.2):=by
 intro l
 induction l with
 |nil=>grind[oy]|cons o l z=>
  intro xs h;simp[oy]at h;split at h
  .rename_i v D h1 B;simp at h;subst h;have⟨C,b⟩:=z B;refine⟨by simp[C],λj x y u w=>?_⟩
   cases j with
   |zero=>simp at u w;subst u;subst w;exact⟨rfl,dP r h1⟩|succ j=>grind
  grind
def oB:TypeDesc->TK
 |.bool=>.bool|.int k=>.int k|.string=>.str|.pointer e=>.ptr e|.slice e=>.slice e|.struct fs=>.struct (fs.toList.map λf=>(f.offset,f.type))|.array n e=>.array n e|.map k e=>.map k e|_=>.other
def GR:V'->X'
 |.agg _=>O|_=>U
def uB(P:Program)(t:W'):aY TD:=
 match P.info? t,P.underlying t with
 |some i,M d=>match i.zero with
  |some z=>match z.cells.toList.mapM (ofValue 4)with
   |some cs=>if W cs=i.size/\cs.all V.one=O/\GR z=(TD.mk i.size i.bytes cs (oB d)).agg then M ⟨i.size,i.bytes,cs,oB d⟩else G|none=>G
  |none=>G
 |_,_=>G
def ic(a:SW):Array V':=(a.map (Value.int Z)).toArray
structure rR(P:Program)(t:TypeId)(n:Nat):Prop where
 eq:∀(w:World)(x y:Operand)(a b:List Int),a.length=n->b.length=n->
  (do eqGuard .eql t x y (.agg (ic a)) (.agg (ic b));binOp .eql t (.agg (ic a)) (.agg (ic b))).run P w=.ok (.bool (a==b)) w
 ne:∀(w:World)(x y:Operand)(a b:List Int),a.length=n->b.length=n->
  (do eqGuard .neq t x y (.agg (ic a)) (.agg (ic b));binOp .neq t (.agg (ic a)) (.agg (ic b))).run P w=.ok (.bool !(a==b)) w
 key:∀(w:World)(a b:List Int),a.length=n->b.length=n->(N! t (.agg (ic a)) (.agg (ic b))).run P w=.ok (a==b) w
 check:∀(w:World)(e:Bool)(a:List Int),a.length=n->(w! e 10000 t (.agg (ic a))).run P w=.ok () w
 kind:∃d,P.underlying t=some d/\((∃n e,d=.array n e)\/(∃fs,d=.struct fs))
structure fC(P:Program)(E:Env):Prop where
 tt:∀t d,E.tt t=some d->uB P t=some d
 ft:∀f fi,E.ft f=some fi->∃fn,P.funcs[f]?=some fn/\fn.body=some fi.body/\fn.ntmps=fi.ntmps/\fn.results.toList=fi.results/\(fn.name== "runtime.NumGoroutine")=false
 eqN:∀t n,E.eqN t=some n->rR P t n
structure qM(P:Program)(t:TypeId)(d:TD):Prop where
 info:∃i z,P.info? t=some i/\i.size=d.size/\i.bytes=d.bytes/\i.zero=some z/\(∀I μ,cW I μ d.zero z.cells.toList)/\d.zero.length=d.size/\d.zero.all V.one=true/\GR z=d.agg
 und:∃desc,P.underlying t=some desc/\oB desc=d.kind
def TZ{I:cI}{μ:Mu}:∀(l:aX V')(ys:So),l.mapM (ofValue 4)=M ys->cW I μ ys l:=by intro l;induction l with|nil=>intro ys h;simp at h;subst h;exact .nil|cons v l u=>intro ys h;simp only[List.mapM_cons,Option.pure_def,Option.bind_eq_bind,ζg,ζa]at h;obtain⟨y,w,z,B,rfl⟩:=h;exact .cons (.c _ _ (Eo 4 _ _ w)) (u z B)
def fC.ty{P:Program}{E:Env}(h:fC P E){t:W'}{d:TD}(B:E.tt t=M d):qM P t d:=by
 have:=h.tt t d B;unfold uB at this;split at this;rename_i i a hi hd;split at this;rename_i z u;split at this;rename_i cs b;split at this;next w=>simp only[ζa]at this;subst this;exact⟨⟨i,z,hi,Y,Y,u,λI μ=>TZ _ _ b,w⟩,⟨a,hd,Y⟩⟩
 grind;grind;grind;grind
section runs
variable{P:Program}{w:World}{t:W'}{d:TD}
theorem dR{a:TypeDesc}(h:P.underlying t=M a):(underlying t).run P w=.ok a w:=by simp[underlying,h]
def qO{i:TypeInfo}(h:P.info? t=M i):(typeInfo t).run P w=.ok i w:=by simp[typeInfo,h]
def qM.jq(h:qM P t d):(sizeOf t).run P w=.ok d.size w:=by have⟨i,z,hi,u,_⟩:=h.info;simp_all[sizeOf,qO]
def qM.dR(h:qM P t d):∃a,P.underlying t=M a/\oB a=d.kind/\∀w,(underlying t).run P w=.ok a w:=by have⟨a,b,u⟩:=h.und;grind[VE.dR]
def qM.Gw(h:qM P t d):(isAgg t).run P w=.ok d.agg w:=by have⟨a,b,u⟩:=h.und;unfold isAgg;simp only[A?,VE.dR b,x?];cases a<;>simp[TD.agg,<-u,oB]
def qM.Dv(h:qM P t d):∃z,(∀w,(zeroValue t).run P w=.ok z w)/\(∀I μ,cW I μ d.zero z.cells.toList)/\W d.zero=d.size/\d.zero.all V.one=O:=by have⟨i,z,hi,_,_,u,a,B,b,_⟩:=h.info;simp_all[zeroValue,qO]
end runs
def qM.Ze{P:Program}{t:W'}{d:TD}(h:qM P t d):∃z,(∀w,(zeroValue t).run P w=.ok z w)/\∀I μ x,VE.mk d.agg d.zero=M x->bN I μ x z:=by
 have⟨i,z,hi,_,_,D,a,g,b,u⟩:=h.info;refine⟨z,λw=>by simp_all[zeroValue,qO],λI μ x C=>?_⟩;have B:=a I μ;cases hd:d.agg with|true=>rw[hd]at C u;cases z<;>simp[GR]at u;simp only[VE.mk,L',ζa]at C;subst C;exact .Ki (by grind[Value.cells])|false=>
  rw[hd]at C u;simp only[VE.mk,v?,M']at C;split at C
  .rename_i v hv;simp only[ζa]at C;subst C;rw[hv]at B;have e:z.cells.toList=[z]:=(by cases z<;>first|rfl|grind[GR]);rw[e]at B;exact B.2 0 _ _ Y Y
  simp at C
def gG{E:Env}{t:W'}{k:TK}(h:E.kindOf t=M k):∃d,E.tt t=M d/\d.kind=k:=by grind[Env.kindOf,ζf]
def GP{d:TypeDesc}{k:T2}(h:oB d=.int k):d=.int k:=by cases d<;>simp_all [oB]
def Ot{d:TypeDesc}(h:oB d=.bool):d=.bool:=by cases d<;>simp_all [oB]
def CW{d:TypeDesc}(h:oB d=.str):d=.string:=by cases d<;>simp_all [oB]
def kR{d:TypeDesc}{e:W'}(h:oB d=.slice e):d=.slice e:=by cases d<;>simp_all [oB]
def EM{d:TypeDesc}{n:Nat}{e:W'}(h:oB d=.array n e):d=.array n e:=by cases d<;>simp_all [oB]
def Cz{d:TypeDesc}{k e:W'}(h:oB d=.map k e):d=.map k e:=by cases d<;>simp_all [oB]
def C1{d:TypeDesc}{fs:aX (Nat×W')}(h:oB d=.struct fs):∃B,d=.struct B/\fs=B.toList.map λf=>(f.offset,f.type):=by cases d<;>simp_all [oB]
def DI{I:cI}{μ:Mu}{cs r:So}{vs:aX V'}{off n:Nat}(h:cW I μ cs vs)(a:cut cs off n=M r):
 cW I μ r ((vs.drop off).take n)/\W r=n/\off+n<=W cs\/(n=0/\r=[]):=by
 unfold cut at a;simp only at a;split at a
 .rename_i u;simp only[ζa]at a;subst a
  by_cases w:n=0
  .grind
  left;refine⟨(h.drop off).take n,u,?_⟩
  grind
 simp at a
def Sd{I:cI}{μ:Mu}{cs:So}{x:V}{vs:Array V'}(h:mk O cs=M x)(r:cW I μ cs vs.toList):bN I μ x (.agg vs):=by simp only[mk,L',ζa]at h;subst h;exact .Ki r
def mk_one{I:cI}{μ:Mu}{cs:So}{x:V}{vs:aX V'}(h:mk U cs=M x)(r:cW I μ cs vs):∃v,vs=[v]/\bN I μ x v:=by simp only[mk,v?,M']at h;split at h;simp only[ζa]at h;subst h;obtain⟨v,u,rfl,a,b⟩:=r.cons_inv;exact⟨v,by rw[b.zc],a⟩;simp at h
def LX{P:Program}{w:World}{I:cI}{μ:Mu}{t:W'}{d:TD}{cs r:So}{vs:Array V'}{x:V}{off:Nat}(D:qM P t d)(h:cW I μ cs vs.toList)
 (b:cut cs off d.size=M r)(B:mk d.agg r=M x):∃u,(part t vs off).run P w=.ok u w/\bN I μ x u:=by
 unfold part;simp only[A?,D.Gw,x?]
 cases z:d.agg with
 |true=>
  rw[z]at B;refine⟨.agg (vs.extract off (off+d.size)),by simp[D.jq],?_⟩
  refine Sd B ?_;have e:(vs.extract off (off+d.size)).toList=(vs.toList.drop off).take d.size:=f?
  rw[e];rcases DI h b with⟨a,_⟩|⟨C,rfl⟩
  .exact a
  rw[C];exact .nil
 |false=>
  rw[z]at B;rcases DI h b with⟨a,J,_⟩|⟨C,rfl⟩
  .have⟨v,hv,g⟩:=mk_one B a;refine⟨v,?_,g⟩;have hd:d.size=1:=by
    have:=a.1;rw[hv]at this;grind
   rw[hd]at hv;have:vs[off]?=M v:=by have:=_d (·[0]?) hv;grind
   simp[this]
  grind[mk]
def QD{I:cI}{μ:Mu}:∀(az:So)(a:SW)(B:aX V'),jE az=M a->cW I μ az B->B=a.map (Value.int Z)/\W a=W az:=by intro az;induction az with|nil=>intro a B h u;simp only[jE,ζa]at h;subst h;rw[u.zc];simp|cons x az w=>intro a B h u;obtain⟨v,B,rfl,c,d⟩:=u.cons_inv;have z:∃y,x=.int Z y:=(by cases x with|int k y=>cases k<;>simp[jE]at h⊢|_=>simp[jE]at h);obtain⟨y,rfl⟩:=z;simp only[jE,ζf]at h;obtain⟨b,C,rfl⟩:=h;have⟨g1,g2⟩:=w _ _ C d;have:=c.gC;grind
def sV{I:cI}{μ:Mu}{az:So}{a:SW}{B:Array V'}(h:jE az=M a)(D:cW I μ az B.toList):B=ic a/\W a=W az:=by have⟨b,u⟩:=QD _ _ _ h D;refine⟨?_,u⟩;have:=_d List.toArray b;grind[ic]
def AJ{az B:So}{r:X'}(h:mR az B=M r):∃a b,jE az=M a/\jE B=M b/\W a=W b/\r=(a==b):=by grind[mR]
section
variable{P:Program}{E:Env}{I:cI}{μ:Mu}{n:Nat}{F:WP}{a:Act}{w:World}
def R1(f:BinOp)(t:W')(p q:UV)(k B:T2)(m m':Int):(eqGuard f t p q (.int k m) (.int B m')).run P w=.ok () w:=by simp_all[eqGuard]
def Rs(f:BinOp)(t:W')(p q:UV)(s B:U'):(eqGuard f t p q (.string s) (.string B)).run P w=.ok () w:=by simp_all[eqGuard]
def Qr(f:BinOp)(t:W')(p q:UV)(s B:X'):(eqGuard f t p q (.bool s) (.bool B)).run P w=.ok () w:=by simp_all[eqGuard]
def Ma(d:Nat){t:W'}(x y:X')(h:P.underlying t=M .bool):(H! (d+1) t (.bool x) (.bool y)).run P w=.ok (x==y) w:=by simp_all[H!,dR]
theorem Ho{t:W'}(x y:X')(h:P.underlying t=M .bool):(N! t (.bool x) (.bool y)).run P w=.ok (x==y) w:=Ma 9999 x y h
def AL(d:Nat){t:W'}{k:T2}(x y:Int)(h:P.underlying t=M (.int k)):(H! (d+1) t (.int k x) (.int k y)).run P w=.ok (x==y) w:=by simp_all[H!,dR]
def JZ(d:Nat){t e:W'}(B:aY Addr)(l c:Nat)(h:P.underlying t=M (.slice e)):(H! (d+1) t (.slice B l c) (.slice G 0 0)).run P w=.ok B.isNone w:=by cases B<;>simp only[H!,A?,dR h,x?,N?]<;>rfl
def Nq(d:Nat){t e:W'}(B:aY Addr)(h:P.underlying t=M (.pointer e)):(H! (d+1) t (.pointer B) (.pointer G)).run P w=.ok B.isNone w:=by cases B<;>simp only[H!,A?,dR h,x?,N?]<;>rfl
def Nz(d:Nat){t e D:W'}(B:aY Nat)(h:P.underlying t=M (.map e D)):(H! (d+1) t (.map B) (.map G)).run P w=.ok B.isNone w:=by cases B<;>simp only[H!,A?,dR h,x?,N?]<;>rfl
def Jj(T:fC P E){t:W'}{k:TK}{x y:V}{u v:V'}{b:X'}(i:E.kindOf t=M k)(h:xR k x y=M b)(B:bN I μ x u)(D:bN I μ y v):
 (N! t u v).run P w=.ok b w/\(∀op p q,(eqGuard op t p q u v).run P w=.ok () w)/\binOp .eql t u v=(do pure (.bool (<-N! t u v)))/\binOp .neq t u v=(do pure (.bool (!(<-N! t u v)))):=by
 have⟨d,hd,J⟩:=gG i;have⟨a,m,C,_⟩:=(T.ty hd).dR;rw[J]at C;have j:∀(e:W')(z:aY Addr)(l c:Nat),P.underlying t=M (.slice e)->b=z.isNone->
  (N! t (.slice z l c) (.slice G 0 0)).run P w=.ok b w/\(∀op p q,(eqGuard op t p q (.slice z l c) (.slice G 0 0)).run P w=.ok () w)/\binOp .eql t (.slice z l c) (.slice G 0 0)=(do pure (.bool (<-N! t (.slice z l c) (.slice G 0 0))))/\binOp .neq t (.slice z l c) (.slice G 0 0)=(do pure (.bool (!(<-N! t (.slice z l c) (.slice G 0 0))))):=by
  intro e z l c f o;refine⟨?_,λop p q=>by simp_all[eqGuard],Y,Y⟩
  rw[o];exact JZ 9999 z l c f
 have A:∀(e:W')(z:aY Addr),P.underlying t=M (.pointer e)->b=z.isNone->
  (N! t (.pointer z) (.pointer G)).run P w=.ok b w/\(∀op p q,(eqGuard op t p q (.pointer z) (.pointer G)).run P w=.ok () w)/\binOp .eql t (.pointer z) (.pointer G)=(do pure (.bool (<-N! t (.pointer z) (.pointer G))))/\binOp .neq t (.pointer z) (.pointer G)=(do pure (.bool (!(<-N! t (.pointer z) (.pointer G))))):=by
  intro e z f o;refine⟨?_,λop p q=>by simp_all[eqGuard],Y,Y⟩
  rw[o];exact Nq 9999 z f
 have Q:∀(e L:W')(z:aY Nat),P.underlying t=M (.map e L)->b=z.isNone->
  (N! t (.map z) (.map G)).run P w=.ok b w/\(∀op p q,(eqGuard op t p q (.map z) (.map G)).run P w=.ok () w)/\binOp .eql t (.map z) (.map G)=(do pure (.bool (<-N! t (.map z) (.map G))))/\binOp .neq t (.map z) (.map G)=(do pure (.bool (!(<-N! t (.map z) (.map G))))):=by
  intro e L z f o;refine⟨?_,λop p q=>by simp_all[eqGuard],Y,Y⟩
  rw[o];exact Nz 9999 z f
 unfold xR at h;split at h<;>(try (simp only[ζa]at h;subst h))
 .have:=kR C;subst this;rw[B.om,D.om];grind
 .have:=kR C;subst this;rw[D.om];have S:=B.oh
  cases S with
  |fsl0 _ z g=>grind|fsl=>grind
 .have:=kR C;subst this;rw[D.om];rcases B.oc with⟨p,g,_,_,_,_,N⟩|⟨_,z,N⟩
  all_goals grind
 .obtain⟨e,rfl⟩:∃e,a=.pointer e:=by cases a<;>simp_all [oB]
  cases B with|c _ _ B=>cases B;cases D with|c _ _ D=>cases D;grind
 .obtain⟨e,rfl⟩:∃e,a=.pointer e:=by cases a<;>simp_all [oB]
  cases D with|c _ _ D=>cases D;cases B with|c _ _ B=>cases B;grind
 .obtain⟨e,rfl⟩:∃e,a=.pointer e:=by cases a<;>simp_all [oB]
  cases D with
  |c _ _ D=>
   cases D
   cases B with
   |c _ _ B=>cases B|hptr=>grind
 .have:=Cz C;subst this;cases B with|c _ _ B=>cases B;cases D with|c _ _ D=>cases D;grind
 .have:=Cz C;subst this;cases D with|c _ _ D=>cases D;cases B with|c _ _ B=>cases B;grind
 .have:=Cz C;subst this
  cases D with
  |c _ _ D=>
   cases D
   cases B with
   |c _ _ B=>cases B|hmap=>grind
 cases h
def YK(J:fC P E){op:BinOp}{t:W'}{x y z:V}{u v:V'}(p q:UV)(h:LR E op t x y=M z)(T:bN I μ x u)(a__:bN I μ y v):
 ∃r,(do eqGuard op t p q u v;binOp op t u v).run P w=.ok r w/\bN I μ z r:=by
 unfold LR at h;split at h
 .
  rename_i k m g m';rw[T.gC,a__.gC];simp only[A?,R1,x?];split at h
  .
   split at h
   .simp at h
   rename_i C;simp only[ζa]at h;subst h;exact⟨_,by simp[binOp,Op.shift,C],.c _ _ (.int _ _)⟩
  .split at h
   .simp at h
   rename_i C;simp only[ζa]at h;subst h;exact⟨_,by simp[binOp,Op.shift,C],.c _ _ (.int _ _)⟩
  split at h
  .rename_i X Y a;subst a
   cases op with
   |shl=>grind|shr=>grind|add=>simp only[ζa]at h;subst h;exact⟨_,by simp[binOp,s3],.c _ _ (.int _ _)⟩|sub=>simp only[ζa]at h;subst h;exact⟨_,by simp[binOp,s3],.c _ _ (.int _ _)⟩|mul=>simp only[ζa]at h;subst h;exact⟨_,by simp[binOp,s3],.c _ _ (.int _ _)⟩|quo=>
    simp only at h;split at h
    .simp at h
    rename_i C;simp only[ζa]at h;subst h;exact⟨_,by simp[binOp,Op.intDiv,C],.c _ _ (.int _ _)⟩
   |rem=>
    simp only at h;split at h
    .simp at h
    rename_i C;simp only[ζa]at h;subst h;exact⟨_,by simp[binOp,Op.intDiv,C],.c _ _ (.int _ _)⟩
   |and=>simp only[ζa]at h;subst h;exact⟨_,by simp[binOp,D'],.c _ _ (.int _ _)⟩|or=>simp only[ζa]at h;subst h;exact⟨_,by simp[binOp,D'],.c _ _ (.int _ _)⟩|xor=>simp only[ζa]at h;subst h;exact⟨_,by simp[binOp,D'],.c _ _ (.int _ _)⟩|andNot=>simp only[ζa]at h;subst h;exact⟨_,by simp[binOp,D'],.c _ _ (.int _ _)⟩|eql=>simp only[uQ,B?,ζa]at h;subst h;exact⟨_,by simp[binOp,t8],.c _ _ (.bool _)⟩|neq=>simp only[uQ,B?,ζa]at h;subst h;exact⟨_,by simp[binOp,t8],.c _ _ (.bool _)⟩|lss=>simp only[uQ,B?,ζa]at h;subst h;exact⟨_,by simp[binOp,t8],.c _ _ (.bool _)⟩|leq=>simp only[uQ,B?,ζa]at h;subst h;exact⟨_,by simp[binOp,t8],.c _ _ (.bool _)⟩|gtr=>simp only[uQ,B?,ζa]at h;subst h;exact⟨_,by simp[binOp,t8],.c _ _ (.bool _)⟩|geq=>simp only[uQ,B?,ζa]at h;subst h;exact⟨_,by simp[binOp,t8],.c _ _ (.bool _)⟩
  simp at h
 .
  rename_i s i;rw[T.wk,a__.wk];simp only[A?,Rs,x?];split at h
  .split at h
   .simp at h
   rename_i C;simp only[ζa]at h;subst h;exact⟨_,by simp_all[binOp,Op.stringOp],.c _ _ (.str _)⟩
  all_goals first
   |(simp only[ζa]at h;subst h;exact⟨_,by simp[binOp,Op.stringOp],.c _ _ (.bool _)⟩)|simp at h
 .
  rename_i b j;rw[T.uO,a__.uO];simp only[A?,Qr,x?];split at h
  next a=>have⟨d,hd,D⟩:=gG a;have⟨e,c,B,_⟩:=(J.ty hd).dR;rw[D]at B;have:=Ot B;subst this;simp only[ζa]at h;subst h;exact⟨_,by grind[binOp,A?,Ho,x?,N?],.c _ _ (.bool _)⟩
  next a=>have⟨d,hd,D⟩:=gG a;have⟨e,c,B,_⟩:=(J.ty hd).dR;rw[D]at B;have:=Ot B;subst this;simp only[ζa]at h;subst h;exact⟨_,by grind[binOp,A?,Ho,x?,N?],.c _ _ (.bool _)⟩
  simp at h
 .
  rename_i az l;obtain⟨n,rfl,L⟩:=T.jP;obtain⟨o,rfl,N⟩:=a__.jP;split at h
  .rename_i m A;split at h
   next b__=>simp only[ζf]at h;obtain⟨r,f,rfl⟩:=h;obtain⟨S,W,c,B,Q,rfl⟩:=AJ f;obtain⟨rfl,e1⟩:=sV c L;obtain⟨rfl,e2⟩:=sV B N;exact⟨_,(J.eqN _ _ A).eq w p q S W c? c?,.c _ _ (.bool _)⟩
   simp at h
  .rename_i m A;split at h
   next b__=>simp only[ζf]at h;obtain⟨r,f,rfl⟩:=h;obtain⟨S,W,c,B,Q,rfl⟩:=AJ f;obtain⟨rfl,e1⟩:=sV c L;obtain⟨rfl,e2⟩:=sV B N;exact⟨_,(J.eqN _ _ A).ne w p q S W c? c?,.c _ _ (.bool _)⟩
   simp at h
  simp at h

 split at h
 next k a=>simp only[ζf]at h;obtain⟨b,C,rfl⟩:=h;have⟨c,B,Q,_⟩:=Jj (w:=w) J a C T a__;exact⟨.bool b,by rw[A?,B,Q];simp[W!,c],.c _ _ (.bool _)⟩
 next k a=>simp only[ζf]at h;obtain⟨b,C,rfl⟩:=h;have⟨c,B,_,Q⟩:=Jj (w:=w) J a C T a__;exact⟨.bool !b,by rw[A?,B,Q];simp[W!,c],.c _ _ (.bool _)⟩
 simp at h
def Nd(off:Nat):∀(l:aX V')(k:Nat)(cells:Array V'),off+k+W l<=cells.size->
 ((l.zipIdx k).foldl (λcs(p:V'×Nat)=>cs.setIfInBounds (off+p.2) p.1) cells).toList=cells.toList.take (off+k)++l++cells.toList.drop (off+k+W l):=by
 intro l
 induction l with
 |nil=>simp_all|cons v l u=>
  intro k cells h;simp at h;simp;rw[u (k+1) _ (by simp;omega)]
  grind[List.take_succ_eq_append_getElem,List.take_set_of_le,List.drop_set_of_lt]
def O7{cs xs:So}{cells:Array V'}{v:V'}{off:Nat}(h:cW I μ cs cells.toList)(B:cW I μ xs v.cells.toList)(D:off+W xs<=W cs):
 cW I μ (cs.take off++xs++cs.drop (off+W xs)) (v.cells.zipIdx.foldl (λcs(p:V'×Nat)=>cs.setIfInBounds (off+p.2) p.1) cells).toList:=by
 have e:v.cells.zipIdx.foldl (λcs p=>cs.setIfInBounds (off+p.2) p.1) cells=(v.cells.toList.zipIdx 0).foldl (λcs p=>cs.setIfInBounds (off+p.2) p.1) cells:=by rw[<-Array.foldl_toList];simp
 have a:=h.1;have u:=B.1;rw[e,Nd off _ 0 _ g?]
 rw[<-u];exact((h.take off).append B).append (h.drop _)
def EY{place place':Nat->aY (Nat×Nat)}(hp:∀i p,place i=M p->place' i=M p):∀(vs:aX (Nat×V))(B:aX (Nat×V'))(cs r:So)(cells:Array V'),
 W vs=W B->(∀(j:Nat)x y,vs[j]?=M x->B[j]?=M y->x.1=y.1/\bN I μ x.2 y.2)->cW I μ cs cells.toList->wW place cs vs=M r->
 ∃D,fill place' cells B=M D/\cW I μ r D.toList:=by
 intro vs
 induction vs with
 |nil=>
  intro B cs r cells J _ c w
  cases B with
  |nil=>simp[wW]at w;subst w;exact⟨cells,rfl,c⟩|cons _ _=>simp_all
 |cons x vs L=>
  intro B cs r cells J d c w
  cases B with
  |nil=>simp_all|cons y B=>
   have⟨i,x⟩:=x;have⟨h,y⟩:=y;have⟨C,z⟩:=d 0 (i,x) (h,y) Y Y;subst C;simp only at z;simp only[wW]at w;split at w
   .simp at w
   rename_i off size Q;split at w
   .simp at w
   rename_i S;have u:=z.cells;have g:W x.cells=y.cells.size:=by simpa using u.1
   have T:W cs=cells.size:=by simpa using c.1
   have m:¬(_p (y.cells.size≠size)||decide (off+y.cells.size>cells.size))=O:=by grind
   simp at S;have⟨D,e,o⟩:=L B _ r _ g? (λj a b p q=>d (j+1) a b (by simpa using p) (by simpa using q)) (O7 c u c?) w
   grind[fill]
def R9(ps:Array (Nat×UV))(f:UV->V'):(ps.map λ(i,x)=>(i,f x)).toList=ps.toList.map λp=>(p.1,f p.2):=f?
def Je{ps:Array (Nat×UV)}{vs:aX (Nat×V)}(r:fe I μ n F a.tmps)(h:oy F ps.toList=M vs):
 W vs=W (ps.map λ(i,x)=>(i,a.eval x)).toList/\∀(j:Nat)x y,vs[j]?=M x->(ps.map λ(i,x)=>(i,a.eval x)).toList[j]?=M y->x.1=y.1/\bN I μ x.2 y.2:=by
 have⟨u,b⟩:=Qu r h;rw[R9]
 grind
def Tr(D:fC P E):∀(B:aX Field)(pl:aX (Nat×Nat)),pP E (B.map λf=>(f.offset,f.type))=M pl->
 ((B.mapM λf=>do pure (f.offset,<-sizeOf f.type)):Sem (aX (Nat×Nat))).run P w=.ok pl w:=by
 intro B
 induction B with
 |nil=>simp_all[pP]|cons f B z=>
  intro pl h;simp[pP]at h;split at h
  next d ps hd u=>simp at h;subst h;have:=z _ u;simp only[List.mapM_cons,A?,(D.ty hd).jq,x?,N?,this]
  grind
def QC(D:fC P E)(B:Array Field)(pl:aX (Nat×Nat))(h:pP E (B.toList.map λf=>(f.offset,f.type))=M pl):
 ((B.mapM λf=>do pure (f.offset,<-sizeOf f.type)):Sem (Array (Nat×Nat))).run P w=.ok pl.toArray w:=by
 rw[Array.mapM_eq_mapM_toList];simp only[Sem.run_map,Tr D _ _ h,x?]
def Vm(B:fC P E)(r:fe I μ n F a.tmps){t:W'}{ps:Array (Nat×UV)}{x:V}(h:bS E F (.build t ps)=M x):
 ∃v,(Instr.build t (ps.map λ(i,x)=>(i,a.eval x))).run P w=.ok v w/\bN I μ x v:=by
 simp[bS]at h;split at h
 .rename_i d Q hd D;have⟨S,b⟩:=Je r D;have⟨z,m,u,_⟩:=(B.ty hd).Dv;have⟨c,f,C,o⟩:=(B.ty hd).dR;unfold Instr.build;simp[A?,m,o,x?];split at h
  .rename_i fs hk;rw[hk]at C;obtain⟨X,rfl,rfl⟩:=C1 C;split at h
   .rename_i pl g;simp at h;obtain⟨cs,J,rfl⟩:=h;have⟨L,g1,g2⟩:=EY (place':=λi=>pl.toArray[i]?) g? Q _ d.zero cs z.cells S b (u I μ) J
    refine⟨.agg L,?_,.Ki g2⟩;have:=QC (w:=w) B X pl g;simp_all
   grind
  .rename_i e hk;rw[hk]at C;have:=EM C;subst this;split at h
   .rename_i T j;simp at h;obtain⟨cs,J,rfl⟩:=h;have⟨L,g1,g2⟩:=EY (place':=λi=>M (i*T.size,T.size)) g? Q _ d.zero cs z.cells S b (u I μ) J
    refine⟨.agg L,?_,.Ki g2⟩;simp[A?,(B.ty j).jq,x?];simp_all
   grind
  grind
 grind
def si(b o k:Nat):(⟨b,o,G⟩:Addr).add k=⟨b,o+k,G⟩:=by grind[Addr.add]
theorem It{cs:So}{b o:Nat}{c:Array V'}(k:Nat)(B:I b=M (.cells c))(D:o+W cs<=c.size)
 (a:∀(j:Nat)y u,cs[j]?=M y->c[o+j]?=M u->fA I y u)(d:k<=W cs):bN I μ (.fptr (cs.drop k)) (.pointer (M ⟨b,o+k,G⟩)):=
 .c _ _ (.fptr _ b (o+k) c B (by simp;omega) λj y u e w=>a (k+j) y u g? g?)
def Pn(J:fC P E)(r:fe I μ n F a.tmps){s:W'}{o:UV}{f:Nat}{x:V}(h:bS E F (.fieldAddr s o f)=M x):
 ∃v,(fieldAt s (a.eval o) f).run P w=.ok v w/\bN I μ x v:=by
 simp[bS]at h;split at h
 .rename_i fs p hk Q;have⟨d,hd,B⟩:=gG hk;have⟨i,k,q,S⟩:=(J.ty hd).dR;rw[B]at q;obtain⟨T,rfl,rfl⟩:=C1 q;have j:=dP r Q;split at h
  .rename_i off t L;simp at L;obtain⟨g,A,rfl,rfl⟩:=L;have z:T[f]?=M g:=by grind
   split at h
   .rename_i Y C;split at h
    .simp_all
    rename_i D;have y:∀(b u:Nat),(fieldAt s (.pointer (M ⟨b,u,G⟩)) f).run P w=.ok (.pointer (M ⟨b,u+g.offset,G⟩)) w:=by intro b u;unfold fieldAt;simp[A?,S,x?,z,f8,N?,fieldPlace,(J.ty C).jq,K' D,si]
    split at h
    .split at h
     .rename_i W;simp at h;subst h;have⟨b,u,c,e,N,l,m⟩:=j.ow;rw[e]
      grind[It]
     grind
    .rename_i id el u;simp at h;have⟨p,X,e⟩:=j.wo;rw[e];have:=bN.hptr (I:=I) id el (u+g.offset) p X
     grind
    grind
   grind
  grind
 grind
def VA(D:fC P E)(r:fe I μ n F a.tmps){s:W'}{o:UV}{f:Nat}{x:V}(h:bS E F (.field s o f)=M x):
 ∃v,(Instr.field s (a.eval o) f).run P w=.ok v w/\bN I μ x v:=by
 simp[bS]at h;split at h
 .rename_i fs cs hk m;have⟨d,hd,z⟩:=gG hk;have⟨b,g,j,W⟩:=(D.ty hd).dR;rw[z]at j;obtain⟨Q,rfl,rfl⟩:=C1 j;have⟨X,e,B⟩:=(dP r m).jP;rw[e];split at h
  .rename_i off t J;simp at J;obtain⟨c,S,rfl,rfl⟩:=J;have L:Q[f]?=M c:=by grind
   split at h
   .rename_i N C;simp[ζg]at h;have⟨q,T,y⟩:=h;have⟨u,i,A⟩:=LX (w:=w) (D.ty C) B T y
    grind[Instr.field,A?,x?,asAgg]
   grind
  grind
 grind
def nX(k:T2)(m:Int):(asIntOf (.int k m)).run P w=.ok (k,m) w:=rfl
def PM(T:fC P E)(r:fe I μ n F a.tmps){t:W'}{o i:UV}{x:V}(h:bS E F (.indexAddr t o i)=M x):
 ∃v,(p0 t (a.eval o) (a.eval i)).run P w=.ok v w/\bN I μ x v:=by
 simp[bS]at h;split at h
 .
  rename_i e s k m K W hi;have⟨d,hd,b__⟩:=gG K;have⟨l,h1,Q,X⟩:=(T.ty hd).dR;rw[b__]at Q;have:=kR Q;subst this;have A:=dP r W;have J:=(dP r hi).gC;rw[J];split at h
  .rename_i d__ L;split at h
   .simp_all
   have D:∀(b z len f:Nat),m.toNat<len->(p0 t (.slice (M ⟨b,z,G⟩) len f) (.int k m)).run P w=.ok (.pointer (M ⟨b,z+m.toNat*d__.size,G⟩)) w:=by intro b z len f B;unfold p0;have H:0<=m/\m<(len):=c?;simp[A?,nX,X,x?,N?,(T.ty L).jq,run_ite,J0 H,si]
   split at h
   .rename_i es Y;split at h
    .rename_i C;simp only[ζf]at h;obtain⟨cs,c__,rfl⟩:=h;have B:m.toNat<_j Y:=(ζe.1 c__).1;have N:=A.oh;generalize hg:a.eval o=g at N
     cases N with
     |fsl0=>simp_all|fsl _ _ b z f c hI H hu ho R hr=>refine⟨_,D b z _ _ B,?_⟩;have S:cs∈Y:=s? c__;have aa:=hu cs S;have e__:(m.toNat+1)*es<=_j Y*es:=h! _ B;rw[t!]at e__;rw[<-C];exact .c _ _ (.fptr cs b _ c hI c? λj y u p q=>hr m.toNat j cs y u c__ p q)
    grind
   .rename_i id es off len;split at h
    .rename_i C;simp only[ζa]at h;have⟨C,B⟩:=C;rcases A.oc with⟨p,f,a__,he,H,R,e⟩|⟨h0,_⟩
     .rw[e];have:=bN.hptr (I:=I) (μ:=μ) id (off+m.toNat) 0 p a__
      grind
     omega
    grind
   grind
  grind
 .
  rename_i len e p k m K W hi;have⟨d,hd,b__⟩:=gG K;have⟨l,h1,Q,X⟩:=(T.ty hd).dR;rw[b__]at Q;have:=EM Q;subst this;have A:=dP r W;have J:=(dP r hi).gC;rw[J];split at h
  .rename_i d__ L;split at h
   .rename_i H;have D:∀(b z:Nat),(p0 t (.pointer (M ⟨b,z,G⟩)) (.int k m)).run P w=.ok (.pointer (M ⟨b,z+m.toNat*d__.size,G⟩)) w:=by
     intro b z;unfold p0;simp only[A?,nX,X,x?,N?,f8,(T.ty L).jq,run_ite,J0 H,si]
    split at h
    .split at h
     .rename_i ab;simp only[ζa]at h;subst h;have⟨b,z,c,e,hI,R,hr⟩:=A.ow;rw[e]
      grind[It]
     grind
    .rename_i id el z;simp only[ζa]at h;have⟨p,a__,e⟩:=A.wo;rw[e];have:=bN.hptr (I:=I) (μ:=μ) id el (z+m.toNat*d__.size) p a__
     grind
    grind
   grind
  grind
 grind
def UP(D:fC P E)(r:fe I μ n F a.tmps){t:W'}{o i:UV}{x:V}(h:bS E F (.index t o i)=M x):
 ∃v,(Instr.index t (a.eval o) (a.eval i)).run P w=.ok v w/\bN I μ x v:=by
 simp[bS]at h;split at h
 .rename_i s k m hk y hi;have⟨d,hd,z⟩:=gG hk;have⟨c,g,B,L⟩:=(D.ty hd).dR;rw[z]at B;have:=CW B;subst this;rw[(dP r hi).gC,(dP r y).wk];split at h
  next f=>simp at h;obtain⟨b,T,rfl⟩:=h;refine⟨.int .u8 b.toNat,?_,.c _ _ (.int _ _)⟩;simp_all[Instr.index,nX]
  grind
 .rename_i len e cs k m hk y hi;have⟨d,hd,z⟩:=gG hk;have⟨c,g,B,L⟩:=(D.ty hd).dR;rw[z]at B;have:=EM B;subst this;have⟨N,ev,J⟩:=(dP r y).jP;rw[(dP r hi).gC,ev];split at h
  .rename_i X C;split at h
   next f=>simp[ζg]at h;have⟨q,A,Q⟩:=h;have⟨u,j,S⟩:=LX (w:=w) (D.ty C) J A Q;refine⟨u,?_,S⟩;unfold Instr.index;simp[A?,nX,L,x?,run_ite,J0 f,(D.ty C).jq,j]
   grind
  grind
 grind
def PO(B:fC P E)(r:fe I μ n F a.tmps){s d:W'}{o:UV}{x:V}(h:bS E F (.convert s d o)=M x):
 ∃v,(convert s d (a.eval o)).run P w=.ok v w/\bN I μ x v:=by
 simp[bS]at h;split at h
 .rename_i D g k m z hd C;split at h
  next J b=>simp at h;subst h;have⟨c,g1,_,g3⟩:=(B.ty z).dR;have⟨e,f,u,L⟩:=(B.ty hd).dR;rw[b]at u;have:=GP u;subst this;rw[(dP r C).gC];refine⟨_,?_,.c _ _ (.int _ _)⟩;simp_all[convert,Conv.intToInt]
  grind
 grind
theorem sy(r:fe I μ n F a.tmps){o:aY UV}{m:Ps}(h:lS F o=M m):
 (m=G/\o.map a.eval=G)\/∃k z,m=M z/\o.map a.eval=M (.int k z):=by
 cases o with
 |none=>grind[lS]|some x=>
  simp[lS]at h;split at h
  next k z u=>simp at h;subst h;exact .inr ⟨k,z,Y,by simp[(dP r u).gC]⟩
  grind
theorem yw(k:T2)(z:Int)(y:Nat)(code:BoundsCode)(B:0<=z)(a:z<=y):(sliceBound (.int k z) y code).run P w=.ok z.toNat w:=by simp_all[sliceBound,nX]
def og(r:fe I μ n F a.tmps){lo hi:aY UV}{l h:Ps}(e1:lS F lo=M l)(e2:lS F hi=M h)(D:X')(len b L H:Nat)(c:len<=b)
 (B:eA len l h=M (L,H)):(m9 D len b (lo.map a.eval) (hi.map a.eval) G).run P w=.ok (L,H,b) w/\L<=H/\H<=len:=by
 unfold eA at B;simp only at B;split at B
 .rename_i u;obtain⟨rfl,rfl⟩:=B;have⟨g,J,i,Q⟩:=u;refine⟨?_,c?,c?⟩
  unfold m9;rcases sy r e1 with⟨rfl,z⟩|⟨k1,S,rfl,z⟩<;>rcases sy r e2 with⟨rfl,C⟩|⟨k2,T,rfl,C⟩<;>
   simp only[z,C,O!]at g J i Q⊢
  all_goals grind[N?,x?,A?,yw]
 grind
def HU{es:Nat}{xs:S'}{v:V'}{L H:Nat}(h:fA I (.fsl es xs) v)(d:L<=H)(D:H<=W xs):
 ∃B len a,v=.slice B len a/\len=W xs/\len<=a/\fA I (.fsl es ((xs.take H).drop L)) (.slice (if a=L then B else B.map (·.add (L*es))) (H-L) (a-L)):=by
 cases h with
 |fsl0 _ B a=>
  simp at D;have z:L=0:=c?
  subst D;subst z;refine⟨M B,0,a,Y,Y,V? _,?_⟩;have:=fA.fsl0 (I:=I) es B a
  grind[Addr.add]
 |fsl _ _ b o a c C hc hu g i hr=>
  refine⟨_,_,a,Y,Y,hc,?_⟩;have u:W ((xs.take H).drop L)=H-L:=o?
  by_cases J:H-L=0
  .have:(xs.take H).drop L=[]:=List.eq_nil_of_length_eq_zero g?
   rw[this,J];split
   .exact .fsl0 es _ _
   exact .fsl0 es _ _
  simp[si];have e:fA I (.fsl es ((xs.take H).drop L)) (.slice (M ⟨b,o+L*es,G⟩) (W ((xs.take H).drop L)) (a-L)):=by refine .fsl es _ b (o+L*es) (a-L) c C g? (λx w=>hu x (K? (y! w))) (λx w=>g x (K? (y! w))) ?_ ?_;rw[u];have:L*es+(H-L)*es<=W xs*es:=(by rw[<-t!];simp_all[h!]);omega;grind
  grind
def Vs(i:fC P E)(r:fe I μ n F a.tmps){t:W'}{o:UV}{lo hi Y:aY UV}{x:V}(h:bS E F (.slice t o lo hi Y)=M x):
 ∃v,(i6 t (a.eval o) (lo.map a.eval) (hi.map a.eval) (Y.map a.eval)).run P w=.ok v w/\bN I μ x v:=by
 simp[bS]at h;split at h
 .
  rename_i s l K j m W C a__;obtain⟨d,hd,S⟩:=gG j;obtain⟨f,N,X,y⟩:=(i.ty hd).dR;rw[S]at X;have:=CW X;rw[(dP r m).wk];simp only[ζf]at h;obtain⟨⟨L,H⟩,J,rfl⟩:=h;obtain⟨g,_,_⟩:=og (P:=P) (w:=w) r W C U s.size s.size L H (z? _) J;have R:Y.map a.eval=G:=by grind[sy]
  refine⟨.string (s.extract L H),?_,.c _ _ (.str _)⟩;simp_all[i6,Instr.slice]
 .rename_i e v l K j m W C a__;obtain⟨d,hd,S⟩:=gG j;obtain⟨f,N,X,y⟩:=(i.ty hd).dR;rw[S]at X;have:=kR X;subst this;have c:=dP r m;have R:Y.map a.eval=G:=by grind[sy]
  have B:∀(D:aY Addr)(len b L H:Nat)(c__:TD),E.tt e=M c__->len<=b->eA len l K=M (L,H)->
   (i6 t (.slice D len b) (lo.map a.eval) (hi.map a.eval) (Y.map a.eval)).run P w=.ok (.slice (if b=L then D else D.map (·.add (L*c__.size))) (H-L) (b-L)) w:=by
   intro D len b L H c__ u A J;obtain⟨g,_,_⟩:=og (P:=P) (w:=w) r W C O len b L H A J;unfold i6 Instr.slice;simp[A?,y,x?,R,g,(i.ty u).jq,N?]
  split at h
  .rename_i c__ u;split at h
   .rename_i es xs;split at h
    next e__=>simp only[ζf]at h;obtain⟨⟨L,H⟩,J,rfl⟩:=h;obtain⟨_,T,d__⟩:=og (P:=P) (w:=w) r W C O xs.length xs.length L H (z? _) J;obtain⟨D,len,b,e1,e2,e3,e4⟩:=HU c.oh T d__;rw[e1];subst e2;refine⟨_,B D _ b L H c__ u e3 J,?_⟩;rw[<-e__];exact .c _ _ e4
    grind
   .rename_i id es off len;split at h
    .rename_i e__;simp only[ζf]at h;obtain⟨⟨L,H⟩,J,rfl⟩:=h;obtain⟨_,T,d__⟩:=og (P:=P) (w:=w) r W C O len len L H (z? _) J;rcases c.oc with⟨p,b,ab,he,A,ae,b__⟩|⟨h0,D,b__⟩
     .rw[b__];refine⟨_,B _ _ b L H c__ u A J,?_⟩
      by_cases hz:b=L
      .have:H-L=0:=by omega
       rw[J0 hz,this,show b-L=0 by omega]
       exact .hsl0 id es (off+L) _
      rw[K' hz];simp only[B?,si];rw[<-e__];subst he;have:=bN.hsl (I:=I) (μ:=μ) id (off+L) (H-L) (b-L) p ab c? (by
       grind)
      rwa [t!,<-m7]at this
     grind
    grind
   .simp only[ζf]at h;obtain⟨⟨L,H⟩,J,rfl⟩:=h;obtain⟨_,T,d__⟩:=og (P:=P) (w:=w) r W C O 0 0 L H (z? _) J;obtain⟨D,b__⟩:=c.vk;rw[b__]
    grind
   .simp only[ζf]at h;obtain⟨⟨L,H⟩,J,rfl⟩:=h;obtain⟨_,T,d__⟩:=og (P:=P) (w:=w) r W C O 0 0 L H (z? _) J;have b__:=c.om;rw[b__]
    grind
   grind
  grind
 .rename_i e v j m W C a__;obtain⟨d,hd,S⟩:=gG j;obtain⟨f,N,X,y⟩:=(i.ty hd).dR;rw[S]at X;have:=kR X;subst this;have c:=dP r m;have q1:lo.map a.eval=G:=by grind[sy]
  obtain⟨k2,q2⟩:∃k,hi.map a.eval=M (.int k 0):=by rcases sy r C with⟨q,_⟩|⟨k,z,e,q⟩;all_goals grind
  obtain⟨k3,q3⟩:∃k,Y.map a.eval=M (.int k 0):=by grind[sy]
  have B:∀(D:aY Addr)(len b:Nat)(c__:TD),E.tt e=M c__->∃Q,(i6 t (.slice D len b) (lo.map a.eval) (hi.map a.eval) (Y.map a.eval)).run P w=.ok (.slice Q 0 0) w:=by intro D len b c__ u;refine⟨D,?_⟩;unfold i6 Instr.slice m9;simp only[A?,y,x?,q1,q2,q3,yw k3 0 b _ (Int.le_refl _) c?,yw k2 0 _ _ (Int.le_refl _) f?,(i.ty u).jq];simp
  split at h
  next c__ es xs u=>simp at h;subst h;obtain⟨D,len,b,e1,_⟩:=HU c.oh (z? _) (V? _);rw[e1];obtain⟨Q,g⟩:=B D len b _ u;exact⟨_,g,.c _ _ (.dN _)⟩
  .rename_i c__ id es off len u;simp at h;subst h;rcases c.oc with⟨p,b,_,_,_,_,b__⟩|⟨_,D,b__⟩
   .rw[b__];obtain⟨Q,g⟩:=B _ _ _ _ u;exact⟨_,g,.c _ _ (.dN _)⟩
   rw[b__];obtain⟨Q,g⟩:=B _ _ _ _ u;exact⟨_,g,.c _ _ (.dN _)⟩
  next c__ u=>simp at h;subst h;obtain⟨D,b__⟩:=c.vk;rw[b__];obtain⟨Q,g⟩:=B _ _ _ _ u;exact⟨_,g,.c _ _ (.dN _)⟩
  next c__ u=>simp only[ζa]at h;subst h;have b__:=c.om;rw[b__];obtain⟨Q,g⟩:=B _ _ _ _ u;exact⟨_,g,.c _ _ (.dN _)⟩
  simp at h
 grind
def cW.one{x:V}{vs:aX V'}(h:cW I μ [x] vs):∃v,vs=[v]/\bN I μ x v:=by obtain⟨v,r,rfl,a,b⟩:=h.cons_inv;exact⟨v,by rw[b.zc],a⟩
def cW.two{x y:V}{vs:aX V'}(h:cW I μ [x,y] vs):∃u v,vs=[u,v]/\bN I μ x u/\bN I μ y v:=by obtain⟨u,r,rfl,b,a⟩:=h.cons_inv;obtain⟨v,rfl,c⟩:=a.one;grind
def cW.four{x y z t:V}{vs:aX V'}(h:cW I μ [x,y,z,t] vs):∃u v p q,vs=[u,v,p,q]/\bN I μ x u/\bN I μ y v/\bN I μ z p/\bN I μ t q:=by obtain⟨u,r,rfl,b,a⟩:=h.cons_inv;obtain⟨v,r2,rfl,c,a⟩:=a.cons_inv;obtain⟨p,q,rfl,w,B⟩:=a.two;grind
theorem uW{args:Array UV}{l:aX V'}(h:args.toList.map a.eval=l):args.map a.eval=l.toArray:=by grind
def AA:aY TK->V->aY V
 |some .str,.str s=>M (.int Z s.size)|some (.slice _),.fsl _ xs=>M (.int Z (W xs))|some (.slice _),.hsl _ _ _ len=>M (.int Z len)|some (.slice _),.dN=>M (.int Z 0)|some (.slice _),.bG=>M (.int Z 0)|_,_=>G
def aat(T:fC P E){t:W'}{x z:V}{v:V'}{ty:W'}{D:Array W'}(j:D[0]?=M t)(J:bN I μ x v)
 (h:AA (E.kindOf t) x=M z):∃u,(len_ D ty #[v]).run P w=.ok u w/\bN I μ z u:=by
 cases b:E.kindOf t with
 |none=>rw[b]at h;grind[AA]|some k=>
  rw[b]at h;have⟨d,hd,i⟩:=gG b;have⟨c,f,Q,m⟩:=(T.ty hd).dR;rw[i]at Q
  cases k with
  |str=>
   have:=CW Q;subst this
   cases x with
   |str s=>simp only[AA,ζa]at h;subst h;rw[J.wk];refine⟨_,?_,.c _ _ (.int _ _)⟩;simp_all[len_,goInt]|_=>simp[AA]at h
  |slice e=>
   have:=kR Q;subst this;have B:∀g(len a:Nat),(len_ D ty #[.slice g len a]).run P w=.ok (.int Z len) w:=by simp_all[len_,goInt]
   cases x with
   |fsl es X=>simp only[AA,ζa]at h;subst h;have⟨g,len,a,e1,e2,_⟩:=HU (L:=0) (H:=0) J.oh (z? _) (V? _);rw[e1,<-e2];exact⟨_,B _ _ _,.c _ _ (.int _ _)⟩|hsl id es off len=>
    simp only[AA,ζa]at h;subst h;rcases J.oc with⟨p,a,_,_,_,_,C⟩|⟨S,g,C⟩
    .rw[C];exact⟨_,B _ _ _,.c _ _ (.int _ _)⟩
    rw[C,S];exact⟨_,B _ _ _,.c _ _ (.int _ _)⟩
   |dN=>simp only[AA,ζa]at h;subst h;have⟨g,C⟩:=J.vk;rw[C];exact⟨_,B _ _ _,.c _ _ (.int _ _)⟩|bG=>simp only[AA,ζa]at h;subst h;rw[J.om];exact⟨_,B _ _ _,.c _ _ (.int _ _)⟩|_=>simp[AA]at h
  |_=>simp[AA]at h
def abd:aY TK->V->aY V
 |some (.slice _),.bG=>M (.int Z 0)|some (.slice _),.dN=>M (.int Z 0)|_,_=>G
def aaF(T:fC P E){t:W'}{x z:V}{v:V'}{ty:W'}{B:Array W'}(i:B[0]?=M t)(J:bN I μ x v)
 (h:abd (E.kindOf t) x=M z):∃u,(cap_ B ty #[v]).run P w=.ok u w/\bN I μ z u:=by
 have key:∀e C,E.kindOf t=M (.slice e)->v=.slice C 0 0->(cap_ B ty #[v]).run P w=.ok (.int Z 0) w:=λe C a c=>by have⟨d,hd,D⟩:=gG a;have⟨b,f,g,L⟩:=(T.ty hd).dR;rw[D]at g;have:=kR g;simp_all[cap_,goInt]
 unfold abd at h;split at h
 next _ _ e a=>cases h;exact⟨_,key _ _ a J.om,.c _ _ (.int _ _)⟩
 next _ _ e a=>cases h;have⟨C,q⟩:=J.vk;exact⟨_,key _ _ a q,.c _ _ (.int _ _)⟩
 cases h
theorem fQ{s:Sem V'}{v:V'}{w':World}(h:s.run P w=.ok v w'):(do pure (Next.value (<-s)):Sem Next).run P w=.ok (.value v) w':=by rw[A?,h];rfl
def XK(J:fC P E)(r:fe I μ n F a.tmps)(o:Oper){x:V}(h:bS E F o.op=M x):
 ∃v,(execOp a.eval o).run P w=.ok (.value v) w/\bN I μ x v:=by
 obtain⟨dst,op,ty,pos,after,N⟩:=o;simp only at h
 cases op with
 |move y=>exact⟨_,rfl,dP r (by simp_all[bS])⟩|assign y=>exact⟨_,rfl,dP r (by simp_all[bS])⟩|pick c y z=>
  simp only[bS]at h;simp only[execOp];split at h
  .rename_i t hc;have e:=(dP r hc).uO;simp only[e,asBool,A?,N?,x?]
   cases t with
   |true=>simp only[L']at h⊢;exact⟨_,rfl,dP r h⟩|false=>simp only[v?,M']at h⊢;exact⟨_,rfl,dP r h⟩
  simp at h
 |nilCheck y=>
  simp only[bS]at h;simp only[execOp];split at h
  next id el off D=>simp only[ζa]at h;subst h;have l:=dP r D;obtain⟨p,_,e⟩:=l.wo;rw[e]at l⊢;simp_all
  next cs D=>simp only[ζa]at h;subst h;have l:=dP r D;obtain⟨b,o,c,e,_⟩:=l.ow;rw[e]at l⊢;simp_all
  next f u v D=>simp only[ζa]at h;subst h;have l:=dP r D;obtain⟨b,c,e,_⟩:=l.l_;rw[e]at l⊢;simp_all
  simp at h
 |binOp op t y z d__=>
  simp only[bS]at h;split at h
  next u v A l=>obtain⟨q,b__,H⟩:=YK (w:=w) J y z h (dP r A) (dP r l);exact⟨q,fQ b__,H⟩
  simp at h
 |unOp op t y=>
  simp only[bS]at h;simp only[execOp];split at h
  next b D=>simp only[ζa]at h;subst h;rw[(dP r D).uO];exact⟨_,fQ (by simp_all[Op.unary]),.c _ _ (.bool _)⟩
  next k m D=>simp only[ζa]at h;subst h;rw[(dP r D).gC];exact⟨_,fQ (by simp only[Op.unary,s3];rfl),by simpa using bN.c _ _ (.int k _)⟩
  simp at h
 |convert s d y=>obtain⟨v,g,C⟩:=PO (w:=w) J r h;exact⟨v,fQ g,C⟩|fieldAddr s y f=>obtain⟨v,g,C⟩:=Pn (w:=w) J r h;exact⟨v,fQ g,C⟩|field s y f=>obtain⟨v,g,C⟩:=VA (w:=w) J r h;exact⟨v,fQ g,C⟩|indexAddr t y i=>obtain⟨v,g,C⟩:=PM (w:=w) J r h;exact⟨v,fQ g,C⟩|index t y i=>obtain⟨v,g,C⟩:=UP (w:=w) J r h;exact⟨v,fQ g,C⟩|slice t y lo hi mx=>obtain⟨v,g,C⟩:=Vs (w:=w) J r h;exact⟨v,fQ g,C⟩|build t ps=>obtain⟨v,g,C⟩:=Vm (w:=w) J r h;exact⟨v,fQ g,C⟩|makeFunc f u v=>
  cases f with
  |func f=>
   simp only[bS]at h;split at h
   next Q x2 g C=>simp only[ζa]at h;subst h;have r1:=qu r g;have r2:=qu r C;refine⟨.func (.func f) (u.map a.eval) (v.map a.eval),rfl,?_⟩;refine .clo f _ _ _ _ (by simpa using r1.1) (by simpa using r2.1) (λj p q s t=>r1.2 j p q s (by simpa using t)) (λj p q s t=>r2.2 j p q s (by simpa using t))
   simp at h
  |_=>simp[bS]at h
 |extract y i=>
  simp only[bS]at h;simp only[execOp];split at h
  .rename_i vs D;obtain⟨S,e,T⟩:=(dP r D).tc;rw[e];have c__:=(ζe.1 h).1;have L:i<S.size:=by have:=T.1;grind
   refine⟨S[i],fQ (by simp_all[Instr.extract]),T.2 i x _ h (by simp[L])⟩
  simp at h
 |call c=>
  obtain⟨callee,args,W⟩:=c
  cases callee with
  |builtin b=>
   simp only[bS]at h;simp only[execOp,resolve,A?,N?,x?,invoke];split at h
   .rename_i v t B a__;obtain⟨u,A,H⟩:=(qu r B).one;rw[uW A];obtain⟨q,g,C⟩:=aat (w:=w) (ty:=ty) J a__ H (by rw[<-h];rfl)
    grind[builtin,fQ]
   .rename_i v t B a__;obtain⟨u,A,H⟩:=(qu r B).one;rw[uW A];obtain⟨q,g,C⟩:=aaF (w:=w) (ty:=ty) J a__ H (by rw[<-h];rfl)
    grind[builtin,fQ]
   .rename_i k Q X x2 B;split at h
    next K=>simp only[ζa]at h;subst h;subst K;obtain⟨u,v,e,A,l⟩:=(qu r B).two;rw[uW e,A.gC,l.gC];exact⟨_,by simp_all[builtin,max_,max2],.c _ _ (.int _ _)⟩
    simp at h
   .rename_i k Q k1 x2 k2 x3 k3 x4 B;split at h
    next K=>simp only[ζa]at h;subst h;obtain⟨rfl,rfl,rfl⟩:=K;obtain⟨u,v,p,q,e,A,l,Y,b__⟩:=(qu r B).four;rw[uW e,A.gC,l.gC,Y.gC,b__.gC];exact⟨_,by simp_all[builtin,max_,max2,EG],.c _ _ (.int _ _)⟩
    simp at h
   .rename_i k Q X x2 B;split at h
    next K=>simp only[ζa]at h;subst h;subst K;obtain⟨u,v,e,A,l⟩:=(qu r B).two;rw[uW e,A.gC,l.gC];exact⟨_,by simp_all[builtin,min_,min2],.c _ _ (.int _ _)⟩
    simp at h
   simp at h
  |_=>simp[bS]at h
 |_=>simp[bS]at h
end
structure iA(I:cI)(μ:Mu)(p:Pl)(c:Array Value)(es:Nat)(xs:List (List V)):Prop where
 es_eq:p.es=es
 sz:c.size=p.sz
 rI:∀x∈xs,x.length=es
 one:∀x∈xs,∀y∈x,V.one y=true
 room:p.o+xs.length*es<=c.size
 rel:cW I μ xs.flatten ((c.toList.drop p.o).take (xs.length*es))
def yD(I:cI)(μ:Mu)(B:aX (V×V))(es:Array MapEntry):Prop:=W B=es.size/\∀(j:Nat)q e,B[j]?=M q->es[j]?=M e->bN I μ q.1 e.key/\bN I μ q.2 e.val
def El.is:El->LoopState->Prop
 |.ready,.ready|.busy,.busy|.done,.done=>True|_,_=>False
structure y8(I:cI)(μ:Mu)(r:yZ)(l:Loop):Prop where
 st:r.st.is l.state
 pend:l.pending=r.pend.bind oP
 pendOk:r.pend≠some .norm
 frame:fe I μ r.nt r.frame l.tmps
 params:l.params.toList=r.params
 assign:l.assign=r.assign
 body:l.body=r.body
def Ob.live:Ob->X'
 |.row ..|.map _|.loop _=>O|_=>U
def vR(I:cI)(μ:Mu)(w:World)(id:Nat):Ob->Prop
 |.free=>μ id=G|.dead=>True|.row es xs=>∃p c el,μ id=M p/\I p.b=G/\w.heap[p.b]?=M (.cells c el)/\iA I μ p c es xs|.frz es xs=>∃p c,μ id=M p/\I p.b=M (.cells c)/\iA I μ p c es xs|.map B=>∃p es a,μ id=M p/\I p.b=G/\w.heap[p.b]?=M (.map es a)/\yD I μ B es|.loop r=>∃p l,μ id=M p/\I p.b=G/\w.heap[p.b]?=M (.loop l)/\y8 I μ r l
structure dA(I:cI)(μ:Mu)(H:bl)(w:World):Prop where
 dom:∀id,H.length<=id->μ id=none
 imm:∀b x,I b=some x->x.at w b
 obs:∀id ob,H[id]?=some ob->vR I μ w id ob
 inj:∀id id' ob l? p p',H[id]?=some ob->H[id']?=some l?->ob.live=true->l?.live=true->μ id=some p->μ id'=some p'->p.b=p'.b->id=id'
 gl:w6 I
def jm(μ:Mu)(H:bl)(b:Nat):Prop:=∃id p ob,H[id]?=M ob/\ob.live=O/\μ id=M p/\p.b=b
def Obj.nf(o:Obj):Prop:=∀c t fr,o=.cells c t fr->fr=(0,0)
def wC(c:Array V')(t:W'):Obj.nf (.cells c t):=λ_ _ _ h=>g?
def uv{o:Obj}(h:(match o with|.cells ..=>U|_=>O)=O):Obj.nf o:=λc t fr e=>g?
theorem F_{w w':World}{o:Obj}{b:Nat}(B:Obj.nf o)(d:w'.heap[b]?=M o)(D:∀k,k≠b->w'.heap[k]?=w.heap[k]?)(a:Addr)(h:w.frozen? a=U):w'.frozen? a=U:=by by_cases e:a.block=b;unfold q8;rw[e,d];split;rename_i c t lo hi u;cases u;have:=B _ _ _ Y;grind;rfl;grind[q8]
structure yG(w w':World):Prop where
 out:w'.output=w.output
 tape:w'.tape=w.tape
 dr:w.drawn<=w'.drawn
def yG.refl(w:World):yG w w:=⟨Y,Y,z? _⟩
def yG.trans{w w' w'':World}(h:yG w w')(B:yG w' w''):yG w w'':=⟨B.out.trans h.out,B.tape.trans h.tape,U? h.dr B.dr⟩
structure Step(I:cI)(μ:Mu)(H:bl)(w:World)(I':cI)(μ':Mu)(H':bl)(w':World):Prop where
 le:cI.le I I'
 mu:Mu.le μ μ'
 len:H.length<=H'.length
 size:w.heap.size<=w'.heap.size
 frame:∀b,b<w.heap.size->¬jm μ H b->w'.heap[b]?=w.heap[b]?
 terr:∀b,((I' b).isSome=true\/jm μ' H' b)->(I b).isSome=true\/jm μ H b\/w.heap.size<=b
 os:w'.os=w.os
 out:yG w w'
 fz:∀a:Addr,a.block<w.heap.size->w.frozen? a=false->w'.frozen? a=false
section
variable{I I' I'':cI}{μ μ' μ'':Mu}{H H' H'':bl}{w w' w'':World}{P:Program}{E:Env}{n:Nat}{F:WP}{a:Act}
def IC.yI{x:IC}{b:Nat}(h:x.at w b):b<w.heap.size:=by cases x with|cells c=>have⟨_,_,h⟩:=h;grind|map es=>have⟨_,h⟩:=h;grind
def IC.uV{x:IC}{b:Nat}(h:x.at w b)(e:w'.heap[b]?=w.heap[b]?):x.at w' b:=by cases x with|cells c=>have⟨el,fr,h⟩:=h;exact⟨el,fr,g?⟩|map es=>have⟨a,h⟩:=h;exact⟨a,g?⟩
def Step.refl(I:cI)(μ:Mu)(H:bl)(w:World):Step I μ H w I μ H w:=⟨cI.le_refl _,Mu.le_refl _,z? _,z? _,λ_ _ _=>rfl,λ_ h=>h.elim .inl λh=>.inr (.inl h),Y,.refl _,λ_ _ h=>h⟩
theorem gZ(s:dA I μ H w){b:Nat}(h:jm μ H b):I b=G:=by obtain⟨id,p,ob,h1,C,D,rfl⟩:=h;have:=s.obs id ob h1;cases ob with|row es g=>have⟨q,c,el,u,z,_⟩:=this;grind|map B=>have⟨q,c,el,u,z,_⟩:=this;grind|loop r=>have⟨q,c,u,z,_⟩:=this;grind|_=>grind[Ob.live]
theorem pR(s:dA I μ H w){b:Nat}(h:jm μ H b):b<w.heap.size:=by obtain⟨id,p,ob,h1,D,g,rfl⟩:=h;have:=s.obs id ob h1;cases ob with|row es J=>have⟨q,c,el,u,z,B,_⟩:=this;grind|map C=>have⟨q,c,el,u,z,B,_⟩:=this;grind|loop r=>have⟨q,c,u,z,B,_⟩:=this;grind|_=>grind[Ob.live]
theorem Step.trans(D:dA I' μ' H' w')(c:Step I μ H w I' μ' H' w')(B:Step I' μ' H' w' I'' μ'' H'' w''):Step I μ H w I'' μ'' H'' w'' where
 fz:=λa u h=>B.fz a (Nat.lt_of_lt_of_le u c.size) (c.fz a u h)
 le:=cI.le_trans c.le B.le
 mu:=λid p h=>B.mu id p (c.mu id p h)
 len:=U? c.len B.len
 size:=U? c.size B.size
 frame:=by intro b u C;rw[B.frame b (Nat.lt_of_lt_of_le u c.size) ?_,c.frame b u C];intro z;rcases c.terr b (.inr z)with h|h|h;have:=gZ D z;have⟨x,g⟩:=isSome_iff_exists.1 h;rw[c.le _ _ g]at this;simp_all;all_goals grind
 terr:=by intro b h;rcases B.terr b h with h|h|h;exact c.terr b (.inl h);exact c.terr b (.inr h);exact .inr (.inr (U? c.size h))
 os:=B.os.trans c.os
 out:=c.out.trans B.out
def iA.mono(h:cI.le I I')(B:Mu.le μ μ'){p:Pl}{c:Array V'}{es:Nat}{xs:S'}(r:iA I μ p c es xs):iA I' μ' p c es xs:=⟨r.es_eq,r.sz,r.rI,r.one,r.room,r.rel.mono h B⟩
def yD.mono(h:cI.le I I')(D:Mu.le μ μ'){B:aX (V×V)}{es:Array MapEntry}(r:yD I μ B es):yD I' μ' B es:=⟨r.1,λj q e a b=>⟨(r.2 j q e a b).1.mono h D,(r.2 j q e a b).2.mono h D⟩⟩
def y8.mono(h:cI.le I I')(B:Mu.le μ μ'){r:yZ}{l:Loop}(x:y8 I μ r l):y8 I' μ' r l:=⟨x.st,x.pend,x.pendOk,x.frame.mono h B,x.params,x.assign,x.body⟩
def vR.mono(h:cI.le I I')(B:Mu.le μ μ'){id:Nat}{ob:Ob}(r:vR I μ w id ob)
 (D:∀p,μ id=M p->ob.live=O->w'.heap[p.b]?=w.heap[p.b]?/\I' p.b=G)(J:ob=.free->μ' id=G):vR I' μ' w' id ob:=by
 cases ob with
 |free=>exact J Y|dead=>trivial|row es g=>have⟨p,c,el,a,z,C,u⟩:=r;have⟨g1,g2⟩:=D p a Y;exact⟨p,c,el,B _ _ a,g2,g?,u.mono h B⟩|frz es g=>have⟨p,c,a,z,u⟩:=r;exact⟨p,c,B _ _ a,h _ _ z,u.mono h B⟩|map L=>have⟨p,es,b,a,z,C,u⟩:=r;have⟨g1,g2⟩:=D p a Y;exact⟨p,es,b,B _ _ a,g2,g?,u.mono h B⟩|loop x=>have⟨p,l,a,z,C,u⟩:=r;have⟨g1,g2⟩:=D p a Y;exact⟨p,l,B _ _ a,g2,g?,u.mono h B⟩
def dA.ri(s:dA I μ H w)(e:w'.heap=w.heap):dA I μ H w' where
 dom:=s.dom
 imm:=λb x h=>IC.uV (s.imm b x h) (by rw[e])
 obs:=λid ob h=>(s.obs id ob h).mono (cI.le_refl _) (Mu.le_refl _) (λp u z=>⟨by rw[e],gZ s ⟨id,p,ob,h,z,u,Y⟩⟩) (λB=>by subst B;exact s.obs id _ h)
 inj:=s.inj
 gl:=s.gl
def Step.ri(e:w'.heap=w.heap)(c:w'.os=w.os)(B:yG w w'):Step I μ H w I μ H w':=⟨cI.le_refl _,Mu.le_refl _,z? _,g?,λ_ _ _=>by rw[e],λb h=>h.elim .inl λh=>.inr (.inl h),c,B,λa _ h=>by grind[q8]⟩
def Mu.ij(μ:Mu)(k:Nat)(p:Pl):Mu:=λid=>if id=k then M p else μ id
theorem Mu.iy(μ:Mu)(k:Nat)(p:Pl):μ.ij k p k=M p:=by simp[Mu.ij]
theorem Mu.jR(μ:Mu){k id:Nat}(p:Pl)(h:id≠k):μ.ij k p id=μ id:=by grind[Mu.ij]
def Mu.tU{k:Nat}{p:Pl}(h:μ k=G):Mu.le μ (μ.ij k p):=by intro id q u;grind[Mu.jR]
theorem mq(o:Obj)(b:Nat)(h:b<w.heap.size):(w.alloc o).heap[b]?=w.heap[b]?:=by show(w.heap.push o)[b]?=_;grind
def mW(o:Obj):(w.alloc o).heap[w.heap.size]?=M o:=by show(w.heap.push o)[w.heap.size]?=_;simp
def Rx{o:Obj}(B:Obj.nf o)(a:Addr)(h:w.frozen? a=U):(w.alloc o).frozen? a=U:=
 F_ B (mW o) (λk b=>by
  by_cases u:k<w.heap.size
  .grind[mq]
  show(w.heap.push o)[k]?=_
  grind) a h
def dA.place(s:dA I μ H w){k:Nat}{ob:Ob}{o:Obj}{p:Pl}(c:μ k=G)(J:_j H<=_j H')(j:k<_j H')
 (l:∀id,id≠k->H'[id]?=M .free\/H'[id]?=H[id]?)(T:∀id,id≠k->H'[id]?=M .free->μ id=G)(m:H'[k]?=M ob)(hp:p.b=w.heap.size)
 (n:vR I (μ.ij k p) (w.alloc o) k ob)(d:Obj.nf o):dA I (μ.ij k p) H' (w.alloc o)/\Step I μ H w I (μ.ij k p) H' (w.alloc o):=by
 have f:∀b x,I b=M x->b<w.heap.size:=λb x h=>IC.yI (s.imm b x h)
 have z:∀id u,id≠k->H'[id]?=M u->u≠.free->H[id]?=M u:=by grind
 have L:∀b,jm (μ.ij k p) H' b->jm μ H b\/b=w.heap.size:=by rintro b ⟨id,q,u,h1,A,S,rfl⟩;by_cases e:id=k;grind[Mu.iy];rw[Mu.jR _ _ e]at S;exact .inl ⟨id,q,u,z id u e h1 g?,A,S,_i⟩
 refine⟨⟨?_,?_,?_,?_,s.gl⟩,⟨cI.le_refl _,Mu.tU c,J,f?,?_,?_,_i,⟨_i,_i,z? _⟩,λa _=>F_ (b:=w.heap.size) d (mW o) (λk c=>?_) a⟩⟩
 .intro id h;rw[Mu.jR _ _ c?]
  exact s.dom id c?
 .intro b x h;exact IC.uV (s.imm b x h) (mq o b (f b x h))
 .intro id u h
  by_cases e:id=k
  .grind
  by_cases Q:u=.free
  .subst Q;show(μ.ij k p) id=G;rw[Mu.jR _ _ e];grind
  have N:=z id u e h Q;refine(s.obs id u N).mono (cI.le_refl _) (Mu.tU c) (λq g W=>?_) (λi=>_c i Q)
  have r:jm μ H q.b:=⟨id,q,u,N,W,g,_i⟩
  grind[mq,pR,gZ]
 .intro id B o1 o2 q X h1 A Y a__ C D hb
  by_cases e:id=k<;>by_cases y:B=k
  .simp_all
  .subst e;rw[Mu.iy]at C;cases C;rw[Mu.jR _ _ y]at D;have:=pR s ⟨B,X,o2,z B o2 y A g?,a__,D,_i⟩
   omega
  .subst y;rw[Mu.iy]at D;cases D;rw[Mu.jR _ _ e]at C;have:=pR s ⟨id,q,o1,z id o1 e h1 g?,Y,C,_i⟩
   omega
  rw[Mu.jR _ _ e]at C;rw[Mu.jR _ _ y]at D;exact s.inj id B o1 o2 q X (z id o1 e h1 g?) (z B o2 y A g?) Y a__ C D hb
 .grind[mq]
 .grind
 by_cases W:k<w.heap.size
 .grind[mq]
 show(w.heap.push o)[k]?=_;rw[Array.getElem?_eq_none (by simp;omega),Array.getElem?_eq_none c?]
def dA.push(s:dA I μ H w){ob:Ob}{o:Obj}{p:Pl}(hp:p.b=w.heap.size)(B:vR I (μ.ij (W H) p) (w.alloc o) (W H) ob)(D:Obj.nf o:=by first|exact wC _ _|exact uv rfl):
 dA I (μ.ij (W H) p) (H++[ob]) (w.alloc o)/\Step I μ H w I (μ.ij (W H) p) (H++[ob]) (w.alloc o):=by
 refine s.place (s.dom _ (z? _)) f? f? (λid h=>.inr ?_) (λid h z=>?_) f? hp B D
 .grind
 by_cases u:id<(W H)
 .rw[List.getElem?_append_left u]at z;exact s.obs id _ z
 grind
theorem dA.fill(s:dA I μ H w){k:Nat}{ob:Ob}{o:Obj}{p:Pl}(a:H[k]?=M .free)(hp:p.b=w.heap.size)(B:vR I (μ.ij k p) (w.alloc o) k ob)(D:Obj.nf o:=by first|exact wC _ _|exact uv rfl):
 dA I (μ.ij k p) (H.set k ob) (w.alloc o)/\Step I μ H w I (μ.ij k p) (H.set k ob) (w.alloc o):=by
 have z:=(ζe.1 a).1;refine s.place (s.obs k _ a) f? g? (λid h=>.inr ?_) (λid h u=>?_) o? hp B D
 .grind
 rw[E? (Ne.symm h)]at u;exact s.obs id _ u
def gP(w:World)(b:Nat)(o:Obj):World:={w with heap:=w.heap.setIfInBounds b o}
theorem gq(o:Obj){b B:Nat}(h:B≠b):(gP w b o).heap[B]?=w.heap[B]?:=by grind[gP]
def iV(o:Obj){b:Nat}(h:b<w.heap.size):(gP w b o).heap[b]?=M o:=by grind[gP]
def u5(b:Nat)(o:Obj):(gP w b o).heap.size=w.heap.size:=by simp[gP]
def Rg(b:Nat)(o B:Obj):gP (gP w b o) b B=gP w b B:=by simp[gP]
def aaY{o:Obj}{b:Nat}(B:Obj.nf o)(a:Addr)(h:w.frozen? a=U):(gP w b o).frozen? a=U:=by grind[F_,gP,q8]
def dA.write(s:dA I μ H w){id:Nat}{ob l?:Ob}{o:Obj}{p:Pl}(B:H[id]?=M ob)(T:ob.live=O)(hp:μ id=M p)
 (N:vR I μ (gP w p.b o) id l?)(d:Obj.nf o:=by first|exact wC _ _|exact uv rfl):dA I μ (H.set id l?) (gP w p.b o)/\Step I μ H w I μ (H.set id l?) (gP w p.b o):=by
 have C:jm μ H p.b:=⟨id,p,ob,B,T,hp,Y⟩;have u:∀k x,(H.set id l?)[k]?=M x->∃y,H[k]?=M y/\(x.live=O->y.live=O)/\(k≠id->y=x):=by grind
 have J:∀b,jm μ (H.set id l?) b->jm μ H b:=by rintro b ⟨k,q,x,c,L,X,rfl⟩;have⟨y,j,z,_⟩:=u k x c;exact⟨k,q,y,j,z L,X,Y⟩
 refine⟨⟨?_,?_,?_,?_,s.gl⟩,⟨cI.le_refl _,Mu.le_refl _,f?,by rw[u5];grind,?_,?_,Y,⟨Y,Y,z? _⟩,λa _=>F_ d (iV o (pR s C)) (λk f=>gq o f) a⟩⟩
 .intro k h;exact s.dom k g?
 .intro b x h;refine IC.uV (s.imm b x h) (gq o ?_)
  grind[gZ]
 .intro k x h
  by_cases e:k=id
  .grind
  rw[E? (Ne.symm e)]at h;refine(s.obs k x h).mono (cI.le_refl _) (Mu.le_refl _) (λq m D=>⟨gq o ?_,gZ s ⟨k,q,x,h,D,m,Y⟩⟩) (λA=>by subst A;exact s.obs k _ h)
  intro Q;exact e (s.inj k id x ob q p h B D T m hp Q)
 .intro k W x x' q q' c L l1 l2 m1 m2 Q;have⟨y,j,z,_⟩:=u k x c;have⟨g,S,i,_⟩:=u W x' L;exact s.inj k W y g q q' j S (z l1) (i l2) m1 m2 Q
 all_goals grind[gq]
def dA.kill(s:dA I μ H w){id:Nat}{ob:Ob}(B:H[id]?=M ob):dA I μ (H.set id .dead) w/\Step I μ H w I μ (H.set id .dead) w:=by
 have C:=(ζe.1 B).1;have u:∀k x,(H.set id .dead)[k]?=M x->x.live=O->H[k]?=M x/\k≠id:=by grind[Ob.live]
 refine⟨⟨?_,s.imm,?_,?_,s.gl⟩,⟨cI.le_refl _,Mu.le_refl _,f?,z? _,λ_ _ _=>rfl,?_,Y,.refl _,λ_ _ h=>h⟩⟩;intro k h;exact s.dom k g?;intro k x h;by_cases e:k=id;subst e;rw[List.getElem?_set_self C]at h;cases h;trivial;rw[E? (Ne.symm e)]at h;exact s.obs k x h;intro k D x g q i a z J L Q S T;exact s.inj k D x g q i (u k x a J).1 (u D g z L).1 J L Q S T;rintro b (h|⟨k,q,x,a,z,j,rfl⟩);grind;exact .inr (.inl ⟨k,q,x,(u k x a z).1,z,j,Y⟩)
end
section
variable{P:Program}{E:Env}{I:cI}{μ:Mu}{H:bl}{n:Nat}{F:WP}{a:Act}{w:World}
theorem th{b:Nat}{c:Array V'}{el:W'}{fr:Nat×Nat}(h:w.heap[b]?=M (.cells c el fr))(k:Nat):w.cell? ⟨b,k,G⟩=c[k]?:=by grind[cell?]
def NG{b o:Nat}{c:Array V'}(d:∀k,w.cell? ⟨b,k,G⟩=c[k]?):∀(m i:Nat)(a:Array V'),o+i+m<=c.size->
 (loadCellsFrom ⟨b,o,G⟩ i m a).run P w=.ok (a++((c.toList.drop (o+i)).take m).toArray) w:=by
 intro m
 induction m with
 |zero=>simp_all[loadCellsFrom]|succ m z=>
  intro i a h;have u:o+i<c.size:=c?
  have e:w.cell? ⟨b,o+i,G⟩=M c[o+i]:=by rw[d];simp[u]
  simp only[loadCellsFrom,A?,si,run_load,e,x?];rw[z (i+1) _ c?]
  simp_all[List.drop_eq_getElem_cons,m7]
theorem y_{b o m:Nat}{c:Array V'}(a:∀k,w.cell? ⟨b,k,G⟩=c[k]?)(h:o+m<=c.size\/m=0):
 (loadCells ⟨b,o,G⟩ m).run P w=.ok ((c.toList.drop o).take m).toArray w:=by
 rcases h with h|h
 .have:=NG (P:=P) a m 0 #[] (o:=o) c?
  grind[loadCells]
 simp_all[loadCells,loadCellsFrom]
theorem gQ{es:Nat}{xs:S'}(a:∀x∈xs,W x=es):W xs.flatten=W xs*es:=by induction xs with|nil=>simp|cons x xs u=>grind
def HS{es:Nat}:∀{xs:S'}(_:∀x∈xs,W x=es){el:Nat}{cs:So},xs[el]?=M cs->(xs.flatten.drop (el*es)).take es=cs:=by intro xs;induction xs with|nil=>grind|cons x xs u=>intro a el cs h;have w:W x=es:=a x f?;cases el with|zero=>grind|succ el=>have:=u (λy z=>a y (C? _ z)) (el:=el) (cs:=cs) (by simpa using h);rw[List.flatten_cons,show(el+1)*es=W x+el*es by rw[w,t!];omega,<-D!];grind
def Ln{es:Nat}:∀{xs:S'}(_:∀x∈xs,W x=es){el:Nat}(cs:So),el<W xs->W cs=es->
 (xs.set el cs).flatten=xs.flatten.take (el*es)++cs++xs.flatten.drop (el*es+es):=by
 intro xs
 induction xs with
 |nil=>grind|cons x xs u=>
  intro a el cs h b;have w:W x=es:=a x f?
  cases el with
  |zero=>simp[w]|succ el=>
   have:=u (λy z=>a y (C? _ z)) (el:=el) cs (by simpa using h) b
   grind[t!,List.take_append,List.drop_append,List.drop_eq_nil_of_le,Nat.add_sub_cancel_left]
def zy{es:Nat}{xs:S'}(a:∀x∈xs,W x=es){i j:Nat}{x:So}{y:V}(b:xs[i]?=M x)(B:x[j]?=M y):xs.flatten[i*es+j]?=M y:=by have:=HS a b;grind
def iA.elem{p:Pl}{c:Array V'}{es:Nat}{xs:S'}(r:iA I μ p c es xs){el:Nat}{cs:So}(h:xs[el]?=M cs):
 cW I μ cs ((c.toList.drop (p.o+el*es)).take es)/\W cs=es/\p.o+el*es+es<=c.size:=by
 have u:=(ζe.1 h).1;have z:=r.rI cs (s? h);have a:=(r.rel.drop (el*es)).take es;rw[HS r.rI h]at a;have B:el*es+es<=W xs*es:=by have:=h! es (show el+1<=W xs from u);rwa [t!,q0]at this
 have w:=r.room
 grind[i5,D!]
def iA.span{p:Pl}{c:Array V'}{es:Nat}{xs:S'}(r:iA I μ p c es xs){off len:Nat}(h:off+len<=W xs):
 cW I μ ((xs.drop off).take len).flatten ((c.toList.drop (p.o+off*es)).take (len*es))/\p.o+off*es+len*es<=c.size:=by
 have w:=r.room;have z:off*es+len*es<=W xs*es:=by rw[<-t!];exact h! _ h
 have e1:((xs.drop off).take len).flatten=(xs.flatten.drop (off*es)).take (len*es):=by have u:xs=xs.take off++((xs.drop off).take len++(xs.drop off).drop len):=(by rw[i!,i!]);have g1:W (xs.take off).flatten=off*es:=(by rw[gQ (λx u=>r.rI x (K? u))];rw[List.length_take,Nat.min_eq_left c?]);have g2:W ((xs.drop off).take len).flatten=len*es:=(by rw[gQ (λx u=>r.rI x (y! (K? u))),List.length_take,List.length_drop,Nat.min_eq_left c?]);have B:=_d List.flatten u;grind
 have a:=(r.rel.drop (off*es)).take (len*es);rw[e1]
 grind[i5,D!]
def KF{ob:Ob}{es:Nat}{xs:S'}(h:ob.rows=M (es,xs)):ob=.row es xs\/ob=.frz es xs:=by cases ob<;>simp_all [Ob.rows]
def dA.rows(s:dA I μ H w){id es:Nat}{xs:S'}(h:_l (H[id]?) Ob.rows=M (es,xs)):
 ∃p c,μ id=M p/\(∀k,w.cell? ⟨p.b,k,G⟩=c[k]?)/\iA I μ p c es xs:=by
 have⟨ob,a,u⟩:=ζg.1 h;have:=s.obs id ob a;rcases KF u with rfl|rfl
 .have⟨p,c,el,g1,_,g3,g4⟩:=this
  grind[th]
 have⟨p,c,g1,g2,g4⟩:=this;have⟨el,fr,g3⟩:=s.imm _ _ g2
 grind[th]
def VG(s:dA I μ H w){p:V}{v:V'}(d:bN I μ p v){m:Nat}{cs:So}(h:fD H p m=M cs):
 ∃(b o:Nat)(c:Array V'),v=.pointer (M ⟨b,o,G⟩)/\(∀k,w.cell? ⟨b,k,G⟩=c[k]?)/\(o+m<=c.size\/m=0)/\cW I μ cs ((c.toList.drop o).take m):=by
 unfold fD at h;split at h
 .rename_i z;have⟨b,o,c,e,A,S,i⟩:=d.ow;have⟨el,fr,g⟩:=s.imm _ _ A;refine⟨b,o,c,e,th g,?_⟩;have J:cW I μ z ((c.toList.drop o).take (W z)):=by
   refine⟨by simp;omega,λj x y f L=>?_⟩
   have N:=(ζe.1 f).1;rw[I?,J0 N,R?]at L;exact .c _ _ (i j x y f g?)
  rcases DI J h with⟨g1,g2,g3⟩|⟨g1,g2⟩
  .grind
  refine⟨.inr g1,?_⟩;rw[g2,g1];exact .nil
 .rename_i id el off;split at h
  .rename_i es z u;split at h
   .rename_i Q B;have⟨p,c,g1,g2,g3⟩:=s.rows u;have⟨q,C,e⟩:=d.wo;rw[g1]at C;cases C;refine⟨_,_,c,e,g2,?_⟩;have⟨k1,k2,k3⟩:=g3.elem B;rw[g3.es_eq];rcases DI k1 h with⟨a,D,T⟩|⟨a,D⟩
    .grind[i5,D!]
    refine⟨.inr a,?_⟩;rw[D,a];exact .nil
   simp at h
  simp at h
 simp at h
def Gb(D:fC P E)(s:dA I μ H w){t:W'}{d:TD}(hd:E.tt t=M d){p x:V}{v:V'}(a:bN I μ p v)(h:_l (fD H p d.size) (mk d.agg)=M x):
 ∃u,(loadAt t v).run P w=.ok u w/\bN I μ x u/\∃J,v=.pointer (M J)/\(loadVar t J).run P w=.ok u w:=by
 have⟨cs,f,B⟩:=ζg.1 h;have⟨b,o,c,e,g1,g2,g3⟩:=VG s a f;have key:∃u,(loadVar t ⟨b,o,G⟩).run P w=.ok u w/\bN I μ x u:=by unfold loadVar;simp only[A?,(D.ty hd).Gw,x?];cases z:d.agg with|true=>rw[z]at B;refine⟨.agg ((c.toList.drop o).take d.size).toArray,?_,Sd B g?⟩;simp only[L',A?,(D.ty hd).jq,x?,y_ g1 g2,N?]|false=>rw[z]at B;have⟨u,g,i⟩:=mk_one B g3;refine⟨u,?_,i⟩;have L:d.size≠0:=(by grind);have C:c[o]?=M u:=(by have:=_d (·[0]?) g;grind);simp_all
 grind[loadAt,f8]
def dA.Ms(s:dA I μ H w){b:Nat}{x:IC}(h:I b=M x):b<w.heap.size:=IC.yI (s.imm b x h)
def XH{b es:Nat}{c:Array V'}{xs:S'}(h:cW I μ xs.flatten c.toList)(a:∀x∈xs,W x=es)(B:∀x∈xs,∀y∈x,V.one y=O):
 iA I μ ⟨b,0,es,c.size⟩ c es xs:=by
 have u:W xs*es=c.size:=by rw[<-gQ a,h.1];simp
 exact⟨Y,Y,a,B,by simp[u],by grind[List.take_of_length_le]⟩
structure Xn(I:cI)(μ:Mu)(w:World)(ob:Ob)(m:Mk)(o:Obj)(p:Pl)(u:Value):Prop where
 b:p.b=w.heap.size
 live:ob.live=true
 nf:Obj.nf o
 len:∀es xs,ob=.row es xs->p.sz=xs.length*es
 rel:∀k,μ k=none->vR I (μ.ij k p) (w.alloc o) k ob/\bN I (μ.ij k p) (m.val k) u
def dA.BF(s:dA I μ H w):I w.heap.size=G:=by cases h:I w.heap.size with|none=>rfl|some x=>have:=s.Ms h;omega
def Am(s:dA I μ H w){es:Nat}{xs:S'}{c:Array V'}{el:W'}{m:Mk}{u:V'}(h:cW I μ xs.flatten c.toList)(a:∀x∈xs,W x=es)
 (B:∀x∈xs,∀y∈x,V.one y=O)(d:∀k,bN I (μ.ij k ⟨w.heap.size,0,es,c.size⟩) (m.val k) u):Xn I μ w (.row es xs) m (.cells c el) ⟨w.heap.size,0,es,c.size⟩ u where
 nf:=wC _ _
 b:=rfl
 live:=rfl
 len:=λz C e=>by cases e;rw[<-gQ a,h.1];simp
 rel:=λk f=>⟨⟨_,c,el,Mu.iy _ _ _,s.BF,mW _,(XH h a B).mono (cI.le_refl _) (Mu.tU f)⟩,d k⟩
def Ig(t:W')(v:V'):(newVar t v).run P w=.ok ⟨w.heap.size,0,G⟩ (w.alloc (.cells v.cells t)):=by simp[newVar,newRow]
def Ac{z:So}{B:Array V'}(h:cW I μ z B.toList)(m:Nat):
 cW I μ (w? m z).flatten (((Array.range (m*B.size)).map (λi=>B[i % B.size]!)).toList):=by
 have C:W z=B.size:=by simpa using h.1
 have c:∀x∈w? m z,W x=W z:=λx J=>by rw[b! J]
 have w:=gQ c;simp only[List.length_replicate]at w;refine⟨by rw[w,C];simp,λj x y a L=>?_⟩
 have g:=(ζe.1 a).1;rw[w]at g;have u:0<W z:=by grind
 have hi:j / W z<m:=(Nat.div_lt_iff_lt_mul u).2 g;have b:j % W z<W z:=mod_lt _ u;have e1:=zy c (i:=j / W z) (j:=j % W z) (x:=z) (y:=z[j % W z]) (by simp[hi]) (by simp[b])
 rw[Nat.mul_comm,Nat.div_add_mod]at e1;rw[e1]at a;cases a;have D:j % B.size<B.size:=by rw[<-C];exact b
 have e2:y=B[j % B.size]:=by grind
 rw[e2];exact h.2 (j % W z) _ _ (by simp[b]) (by rw[C];simp[D])
def JW{es:Nat}:∀(vs:aX (Nat×V))(xs ys:S'),(∀x∈xs,W x=es)->(∀x∈xs,∀y∈x,V.one y=O)->gz es xs vs=M ys->
 wW (λi=>M (i*es,es)) xs.flatten vs=M ys.flatten/\(∀x∈ys,W x=es)/\(∀x∈ys,∀y∈x,V.one y=O)/\W ys=W xs:=by
 intro vs
 induction vs with
 |nil=>intro xs ys a z h;simp only[gz,ζa]at h;subst h;exact⟨rfl,a,z,rfl⟩|cons v vs C=>
  intro xs ys a z h;have⟨i,v⟩:=v;simp only[gz]at h;split at h
  .rename_i hc;have⟨b,B,I⟩:=hc;have u:∀x∈xs.set i v.cells,W x=es:=λx D=>by
    grind
   have w:∀x∈xs.set i v.cells,∀y∈x,V.one y=O:=λx D=>by grind
   have⟨g1,g2,g3,g4⟩:=C _ ys u w h;refine⟨?_,g2,g3,g?⟩
   rw[Ln a _ B b]at g1;have J:i*es+es<=W xs*es:=by have:=h! es (show i+1<=W xs from B);rwa [t!,q0]at this
   have g:=gQ a
   grind[wW]
  simp at h
def EX(J:fC P E)(r:fe I μ n F a.tmps)(s:dA I μ H w)(o:Oper){ob:Ob}{m:Mk}(h:fP E F o.op=M (ob,m)):
 ∃x p u,(execOp a.eval o).run P w=.ok (.value u) (w.alloc x)/\Xn I μ w ob m x p u:=by
 have⟨dst,op,ty,pos,after,j⟩:=o;simp only at h
 cases op with
 |alloc t=>
  simp only[fP,ζf,ζc]at h;obtain⟨d,hd,rfl,rfl⟩:=h;have⟨z,a__,b,T,e__⟩:=(J.ty hd).Dv;refine⟨.cells z.cells t,_,.pointer (M ⟨w.heap.size,0,G⟩),?_,Am s g? (by simp[T]) g? (λk=>?_)⟩
  .simp_all[execOp,Instr.alloc,Ig]
  have:=bN.hptr (I:=I) k 0 0 _ (Mu.iy μ k ⟨w.heap.size,0,d.size,z.cells.size⟩);simp only[v',g']at this;exact this
 |box t x=>
  simp only[fP]at h;split at h
  .rename_i v hv;split at h
   .rename_i e__;simp only[ζa,ζc]at h;obtain⟨rfl,rfl⟩:=h;have b:=dP r hv;refine⟨.cells (a.eval x).cells t,_,.pointer (M ⟨w.heap.size,0,G⟩),?_,Am s (by simpa using b.cells) f? g? (λk=>?_)⟩
    .simp_all[execOp,Instr.box,Ig]
    have:=bN.hptr (I:=I) k 0 0 _ (Mu.iy μ k ⟨w.heap.size,0,_j v.cells,(a.eval x).cells.size⟩);simp only[v',g']at this;exact this
   simp at h
  simp at h
 |makeSlice t l c=>
  simp only[fP]at h;split at h
  .rename_i e k1 ln k2 B g T hc;have⟨d,hd,L⟩:=gG g;have⟨f,V,d__,q⟩:=(J.ty hd).dR;rw[L]at d__;have:=kR d__;subst this;split at h
   .rename_i D C;split at h
    .rename_i c__;obtain⟨rfl,rfl,am,an,hm,ao⟩:=c__;simp only[ζa,ζc]at h;obtain⟨rfl,rfl⟩:=h;have⟨z,a__,b,Q,e__⟩:=(J.ty C).Dv;have⟨i,_,hi,aj,ap,_⟩:=(J.ty C).info;have b__:z.cells.size=D.size:=by have:=(b I μ).1;grind
     have ak:(0:Int)<=B:=c?
     have w1:i64.wrap ln=ln:=by grind[y?,IntKind.bits]
     have w2:i64.wrap B=B:=by grind[y?,IntKind.bits]
     have al:∀y:Int,0<=y->y<=2147483648->((i.bytes:Int)*y>2 ^ 48)=False:=by
      intro y aa hy;simp only[eq_iff_iff,iff_false,Int.not_lt,gt_iff_lt];have ab:(i.bytes:Int)<=4096:=c?
      calc (i.bytes:Int)*y<=4096*2147483648:=Int.mul_le_mul ab hy aa c?
       _<=2 ^ 48:=by decide
     have W:(Instr.makeSlice t (.int Z ln) (.int Z B)).run P w=
      .ok (.slice (M ⟨w.heap.size,0,G⟩) ln.toNat B.toNat) (w.alloc (.cells ((Array.range (B.toNat*z.cells.size)).map (λi=>z.cells[i % z.cells.size]!)) e)):=by
      unfold Instr.makeSlice;have t1:(_p (B<0)||decide ((i.bytes:Int)*B>2 ^ 48))=U:=by
       rw[Bool.or_eq_false_iff]
       grind
      have q1:(((_p (B<0)||decide ((i.bytes:Int)*B>2 ^ 48))||decide (ln<0))||decide (ln>B))=U:=by rw[t1];simp;omega
      simp only[A?,q,x?,asInt,nX,N?,qO hi,w1,w2,q1,v?,M',run_askRoom,(J.ty C).jq];rw[b__]
      by_cases Y:B.toNat*D.size=0
      .have K:Array.range 0=(#[]:Array Nat):=rfl;simp[Y,newRow,K]
      simp_all[newRow]
     refine⟨.cells ((Array.range (B.toNat*z.cells.size)).map (λi=>z.cells[i % z.cells.size]!)) e,_,.slice (M ⟨w.heap.size,0,G⟩) ln.toNat B.toNat,?_,Am s (Ac (b I μ) B.toNat) (λx S=>by rw[b! S,Q]) (λx S=>by rw[b! S];grind) (λk=>?_)⟩
     .simp only[execOp];refine fQ ?_;rw[(dP r T).gC,(dP r hc).gC];exact W
     have:=bN.hsl (I:=I) (μ:=μ.ij k ⟨w.heap.size,0,D.size,((Array.range (B.toNat*z.cells.size)).map (λi=>z.cells[i % z.cells.size]!)).size⟩) k 0 ln.toNat B.toNat _ (Mu.iy _ _ _) c? (by simp[b__])
     grind[Mk.val]
    simp at h
   simp at h
  simp at h
 |buildSlice t len ps=>
  simp only[fP]at h;split at h
  .rename_i e vs g ad;have⟨d,hd,L⟩:=gG g;have⟨f,V,d__,q⟩:=(J.ty hd).dR;rw[L]at d__;have:=kR d__;subst this;split at h
   .rename_i D C;split at h
    .rename_i ae;simp only[ζf,ζc]at h;obtain⟨ys,af,rfl,rfl⟩:=h;have⟨z,a__,b,Q,e__⟩:=(J.ty C).Dv;have b__:z.cells.size=D.size:=by have:=(b I μ).1;grind
     have⟨T,ah⟩:=Je r ad;have⟨g1,g2,g3,g4⟩:=JW vs _ ys (λx S=>by rw[b! S,Q]) (λx S=>by rw[b! S];grind) af
     have⟨A,N,R⟩:=EY (place':=λi=>M (i*D.size,D.size)) (λi p hp=>hp) vs _ _ _ ((Array.range (len*z.cells.size)).map (λi=>z.cells[i % z.cells.size]!)) T ah (Ac (b I μ) len) g1
     have X:A.size=len*D.size:=by
      have e1:=R.1;rw[gQ g2,g4]at e1
      grind
     refine⟨.cells A e,_,.slice (M ⟨w.heap.size,0,G⟩) len len,?_,Am s R g2 g3 (λk=>?_)⟩
     .simp only[execOp];refine fQ ?_;unfold Instr.buildSlice;have ai:¬(len*D.size>2 ^ 24):=by omega
      simp only[A?,q,x?,(J.ty C).jq,K' ai]
      by_cases Y:len*D.size=0
      .have e0:(Array.range (len*z.cells.size)).map (λi=>z.cells[i % z.cells.size]!)=#[]:=by rw[b__,Y];simp
       rw[e0]at N;have K:Array.range 0=(#[]:Array Nat):=rfl;simp only[Y,L',N?,x?,K,Array.map_empty];rw[N];simp[newRow]
      simp_all[newRow]
     have:=bN.hsl (I:=I) (μ:=μ.ij k ⟨w.heap.size,0,D.size,A.size⟩) k 0 len len _ (Mu.iy _ _ _) (z? _) (by simp[X])
     grind[Mk.val]
    simp at h
   simp at h
  simp at h
 |makeMap t r=>
  cases r with
  |none=>
   simp only[fP,ζa,ζc]at h;obtain⟨rfl,rfl⟩:=h;refine⟨.map #[] 0,⟨w.heap.size,0,0,0⟩,.map (M w.heap.size),?_,⟨_i,_i,uv _i,λ_ _ e=>(nomatch e),λk g=>⟨⟨_,#[],0,Mu.iy _ _ _,s.BF,mW _,_i,f?⟩,?_⟩⟩⟩
   .simp_all[execOp,Instr.makeMap]
   exact bN.hmap (I:=I) k ⟨w.heap.size,0,0,0⟩ (Mu.iy _ _ _)
  |some x=>grind[fP]
 |_=>simp[fP]at h
end
section
variable{P:Program}{E:Env}{I:cI}{μ:Mu}{H H':bl}{n:Nat}{F:WP}{a:Act}{w:World}
def bN.one{x:V}{v:V'}(h:bN I μ x v)(B:x.one=O):v.oneCell'=O:=by
 cases h with
 |c _ _ h=>cases h<;>first|rfl|grind[V.one]
 |agg=>grind[V.one]|tup=>grind[V.one]|_=>rfl
def cW.Uu{xs:So}{vs:aX V'}(h:cW I μ xs vs)(B:∀x∈xs,V.one x=O):∀v∈vs,v.oneCell'=O:=by
 intro v a;obtain⟨j,w,rfl⟩:=List.mem_iff_getElem.1 a;have u:j<W xs:=by rw[h.1];exact w
 exact(h.2 j xs[j] vs[j] (by simp[u]) (by simp[w])).one (B _ (List.getElem_mem u))
def Tj{b:Nat}{o:Obj}(h:w.heap[b]?=M o):gP w b o=w:=by
 unfold gP;have:w.heap.setIfInBounds b o=w.heap:=by grind
 rw[this]
def LJ{b o:Nat}{c:Array V'}{el:W'}{v:V'}(h:w.heap[b]?=M (.cells c el)):
 w.setCell ⟨b,o,G⟩ v=gP w b (.cells (c.setIfInBounds o v) el):=by
 unfold World.setCell gP
 congr 1
 grind
def qQ{b o:Nat}{el:W'}:∀(vs:aX V')(i:Nat)(w:World)(c:Array V'),w.heap[b]?=M (.cells c el)->(∀v∈vs,v.oneCell'=O)->o+i+W vs<=c.size->
 ∃c',(storeCells ⟨b,o,G⟩ vs i).run P w=.ok () (gP w b (.cells c' el))/\c'.toList=c.toList.take (o+i)++vs++c.toList.drop (o+i+W vs):=by
 intro vs
 induction vs with
 |nil=>simp_all[storeCells,Tj]|cons v vs D=>
  intro i w c h C g;simp only[List.length_cons]at g;have z:o+i<c.size:=c?
  have u:w.cell? ⟨b,o+i,G⟩=M c[o+i]:=by rw[th h];simp[z]
  have B:w.frozen? ⟨b,o+i,G⟩=U:=by grind[q8]
  have I:=(Array.getElem?_eq_some_iff.1 h).1;have⟨c',g1,g2⟩:=D (i+1) (gP w b (.cells (c.setIfInBounds (o+i) v) el)) (c.setIfInBounds (o+i) v) (iV _ I) (λx J=>C x (C? _ J)) (by simp;omega)
  refine⟨c',?_,?_⟩
  .simp only[storeCells,A?,si,run_store P w _ v _ (C v f?),u,B,v?,M',x?,LJ h]
   rw[g1,Rg]
  grind[List.take_succ_eq_append_getElem,List.take_set_of_le,List.drop_set_of_lt]
structure FA(P:Program)(I:cI)(μ:Mu)(H:bl)(w:World)(s:Sem Next)(x:V)(H':bl):Prop where
 run:∃nx u w' μ',s.run P w=.ok nx w'/\(nx=.value u\/(nx=.skip/\u=undef))/\bN I μ' x u/\dA I μ' H' w'/\Step I μ H w I μ' H' w'
def ED{α:Type}(L vs:aX α)(o m k:Nat)(D:o+m<=W L)(a:k+W vs<=m):
 ((L.take (o+k)++vs++L.drop (o+k+W vs)).drop o).take m=((L.drop o).take m).take k++vs++((L.drop o).take m).drop (k+W vs):=by
 obtain⟨A,B,C,rfl,u,w⟩:∃A B C:aX α,L=A++(B++C)/\W A=o/\W B=m:=⟨L.take o,(L.drop o).take m,(L.drop o).drop m,by rw[i!,i!],by simp;omega,by simp;omega⟩
 subst u;subst w;have e1:(A++(B++C)).take (W A+k)=A++B.take k:=by rw[List.take_append,List.take_of_length_le c?,Nat.add_sub_cancel_left,List.take_append_of_le_length c?]
 have e2:(A++(B++C)).drop (W A+k+W vs)=B.drop (k+W vs)++C:=by rw[List.drop_append,List.drop_eq_nil_of_le c?,List.nil_append,List.drop_append_of_le_length c?];grind
 have e3:((A++(B++C)).drop (W A)).take (W B)=B:=f?
 rw[e1,e2,e3];simp only[List.append_assoc,List.drop_left];have z:W (B.take k++(vs++B.drop (k+W vs)))=W B:=by simp;omega
 grind
def iA.splice{p:Pl}{c c':Array V'}{es el off:Nat}{xs:S'}{cs ys:So}{vs:aX V'}(r:iA I μ p c es xs)(B:xs[el]?=M cs)(T:cW I μ ys vs)
 (m:∀y∈ys,V.one y=O)(o:off+W ys<=W cs)(a:c'.toList=c.toList.take (p.o+el*es+off)++vs++c.toList.drop (p.o+el*es+off+W vs)):
 iA I μ p c' es (xs.set el (cs.take off++ys++cs.drop (off+W ys))):=by
 have⟨k1,k2,k3⟩:=r.elem B;have z:=(ζe.1 B).1;have J:=T.1;have L:=r.room;have X:el*es+es<=W xs*es:=by have:=h! es (show el+1<=W xs from z);rwa [t!,q0]at this
 have C:c'.size=c.size:=by have:=_d length a;grind
 have i:W (cs.take off++ys++cs.drop (off+W ys))=es:=by simp;omega
 have u:∀x∈xs.set el (cs.take off++ys++cs.drop (off+W ys)),x∈xs\/x=cs.take off++ys++cs.drop (off+W ys):=λx D=>List.mem_or_eq_of_mem_set D
 refine⟨r.es_eq,by rw[C];exact r.sz,?_,?_,by rw[C];grind,?_⟩
 .intro x D;rcases u x D with h|h
  .exact r.rI x h
  grind
 .intro x D y g;rcases u x D with h|h
  .exact r.one x h y g
  rw[h]at g;have S:=r.one cs (s? B)
  grind
 rw[Ln r.rI _ z i,a,List.length_set];have w:=r.rel;have Q:=HS r.rI B;have e:List.take (W xs*es) (List.drop p.o (List.take (p.o+el*es+off) c.toList++vs++List.drop (p.o+el*es+off+W vs) c.toList))=
  (((c.toList.drop p.o).take (W xs*es)).take (el*es+off))++vs++(((c.toList.drop p.o).take (W xs*es)).drop (el*es+off+W vs)):=by
  have:=ED c.toList vs p.o (W xs*es) (el*es+off) g? c?
  grind
 rw[e];have e2:xs.flatten.take (el*es)++(cs.take off++ys++cs.drop (off+W ys))++xs.flatten.drop (el*es+es)=
  xs.flatten.take (el*es+off)++ys++xs.flatten.drop (el*es+off+W ys):=by
  have j:=gQ r.rI;have b:xs.flatten.take (el*es+off)=xs.flatten.take (el*es)++cs.take off:=by rw[<-Q,List.take_add,List.take_take,Nat.min_eq_left c?]
  grind[i5,D!,i!]
 rw[e2,<-J];exact((w.take _).append T).append (w.drop _)
def VI(T:fC P E)(r:fe I μ n F a.tmps)(s:dA I μ H w){t:W'}{p q:UV}{x:V}(h:cQ E F H (.store t p q)=M (x,H')):
 FA P I μ H w (do G' t (a.eval p) (a.eval q);pure .skip) x H':=by
 simp only[cQ]at h;split at h
 .rename_i d id el off v hd Q S;split at h
  .rename_i es J z;split at h
   .rename_i cs B;split at h
    .rename_i hc;have⟨N,W,X⟩:=hc;simp only[ζa,ζc]at h;obtain⟨rfl,rfl⟩:=h;have⟨pl,c,ty,g1,g2,g3,g4⟩:=s.obs id _ z;have⟨Y,L,e⟩:=(dP r Q).wo;rw[g1]at L;cases L;have u:=(dP r S).cells;have A:∀y∈v.cells,V.one y=O:=by grind
     have⟨k1,k2,k3⟩:=g4.elem B;have a__:=u.1;have b:pl.o+el*es+off+0+_j (a.eval q).cells.toList<=c.size:=c?
     have⟨c',f,j⟩:=qQ (P:=P) (o:=pl.o+el*es+off) (a.eval q).cells.toList 0 w c g3 (u.Uu A) b;have C:iA I μ pl c' es (J.set el (cs.take off++v.cells++cs.drop (off+_j v.cells))):=g4.splice B u A c? g?
     have D:=(Array.getElem?_eq_some_iff.1 g3).1;have⟨g,i⟩:=s.write (l?:=.row es (J.set el (cs.take off++v.cells++cs.drop (off+_j v.cells)))) (o:=.cells c' ty) z _i g1
      ⟨pl,c',ty,g1,g2,iV _ D,C⟩
     refine⟨.skip,undef,_,μ,?_,.inr ⟨_i,_i⟩,.undef I μ,g,i⟩;rw[e];have m:¬((a.eval q).cells.size≠d.size):=g?
     rw[g4.es_eq];unfold G' storeVar;simp only[A?,f8,N?,x?,(T.ty hd).jq,K' m,f]
    simp at h
   simp at h
  simp at h
 simp at h
def Di(s:dA I μ H w){x:V}{v:V'}(T:bN I μ x v){es:Nat}{ys:S'}(h:dX H es x=M ys):
 ∃B a arr,v=.slice B (_j ys) a/\_j ys<=a/\(∀J:World,J.heap=w.heap->(q! es (_j ys) v).run P J=.ok arr J)/\cW I μ ys.flatten arr.toList/\(∀y∈ys,_j y=es)/\
  (∀y∈ys,∀z∈y,V.one z=O):=by
 have C:∀(B:aY Addr)(a:Nat)(J:World),J.heap=w.heap->(q! es 0 (.slice B 0 a)).run P J=.ok #[] J:=by intro B a J _;cases B with|none=>rfl|some B=>simp[q!,loadCells,loadCellsFrom]
 cases x with
 |dN=>simp only[dX,ζa]at h;subst h;obtain⟨B,rfl⟩:=T.vk;exact⟨B,0,#[],rfl,z? _,C B 0,.nil,f?,f?⟩|bG=>simp only[dX,ζa]at h;subst h;rw[T.om];exact⟨G,0,#[],rfl,z? _,C G 0,.nil,f?,f?⟩|fsl u L=>
  simp only[dX]at h;split at h
  .rename_i S;simp only[ζa]at h;subst h;subst S;have k:=T.oh
   cases k with
   |fsl0 _ B a=>exact⟨M B,a,#[],rfl,V? _,C (M B) a,.nil,f?,f?⟩|fsl _ _ b o a c hI g hu ho n hr=>
    have⟨el,fr,t⟩:=s.imm _ _ hI;refine⟨_,a,((c.toList.drop o).take (_j L*u)).toArray,_i,g,?_,?_,hu,ho⟩
    .grind[q!,y_,th]
    have b__:=gQ hu;refine⟨g?,λj p q d l=>?_⟩
    have W:=(ζe.1 d).1;rw[b__]at W;have D:0<u:=by grind
    have hi:j / u<_j L:=(Nat.div_lt_iff_lt_mul D).2 W;have X:j % u<u:=mod_lt _ D;have A:=hu _ (List.getElem_mem hi);have e1:=zy hu (i:=j / u) (j:=j % u) (x:=L[j / u]) (y:=(L[j / u])[j % u]) (by simp[hi]) g?
    have f:j / u*u+j % u=j:=by rw[Nat.mul_comm,Nat.div_add_mod]
    rw[f,d]at e1;cases e1;simp only[I?,J0 W,R?]at l;refine .c _ _ (hr (j / u) (j % u) L[j / u] _ q (by simp[hi]) g? ?_)
    rw[m7,f]
    grind
  simp at h
 |hsl id u off len=>
  simp only[dX]at h;split at h
  .rename_i S;subst S;split at h
   .rename_i a__ L Q;split at h
    .rename_i Y;simp only[ζa]at h;subst h;have⟨p,c,g1,g2,g3⟩:=s.rows Q;have N:_j ((L.drop off).take len)=len:=by simp;omega
     rcases T.oc with⟨q,a,X,m,g,n,e⟩|⟨r,B,e⟩
     .rw[g1]at X;cases X;have D:a__=u:=by rw[<-g3.es_eq,m]
      subst D;have⟨k1,k2⟩:=g3.span Y;refine⟨_,a,((c.toList.drop (p.o+off*a__)).take (len*a__)).toArray,by rw[e,N],c?,?_,g?,?_,?_⟩
      .grind[q!,y_,cell?]
      .exact λy c__=>g3.rI y (y! (K? c__))
      exactλy c__=>g3.one y (y! (K? c__))
     subst r;simp only[List.take_zero]at N⊢;exact⟨_,0,#[],by rw[e];rfl,z? _,by rw[e];grind,.nil,f?,f?⟩
    simp at h
   simp at h
  simp at h
 |_=>simp[dX]at h
def tw(z:Array V')(k:Nat):(z! z k).size=k*z.size:=by simp[z!]
def dA.drew(s:dA I μ H w):dA I μ H w.drew:=s.ri Y
def DF(s:dA I μ H w){es B:Nat}{xs ys:S'}{old new h?:Array V'}{el:W'}(i:cW I μ xs.flatten old.toList)(j:cW I μ ys.flatten new.toList)
 (J:∀x∈xs,W x=es)(T:∀x∈ys,W x=es)(m:∀x∈xs,∀y∈x,V.one y=O)(b:∀x∈ys,∀y∈x,V.one y=O)
 (D:W xs+W ys<=B)(a:h?.size=(B-(W xs+W ys))*es):
 ∃μ',bN I μ' (.hsl (W H) es 0 (W xs+W ys)) (.slice (M ⟨w.heap.size,0,G⟩) (W xs+W ys) B)/\dA I μ' (H++[.row es (xs++ys)]) (w.alloc (.cells (old++new++h?) el))/\
  Step I μ H w I μ' (H++[.row es (xs++ys)]) (w.alloc (.cells (old++new++h?) el)):=by
 have L:=gQ J;have h:=gQ T;have u:=i.1;have z:=j.1;simp only[Array.length_toList]at u z;have Q:(old++new++h?).size=B*es:=by simp only[Array.size_append];rw[<-u,<-z,L,h,a,<-t!,<-t!];grind
 have C:(W xs+W ys)*es<=B*es:=h! _ D;rw[t!]at C;have g:iA I μ ⟨w.heap.size,0,es,(old++new++h?).size⟩ (old++new++h?) es (xs++ys):=by refine⟨Y,Y,?_,?_,?_,?_⟩;grind;grind;rw[Q];simp_all[t!];have e:((old++new++h?).toList.drop 0).take (W (xs++ys)*es)=old.toList++new.toList:=(by grind[t!]);rw[e,a6];exact i.append j
 have⟨S,X⟩:=s.push (ob:=.row es (xs++ys)) (o:=.cells (old++new++h?) el) (p:=⟨w.heap.size,0,es,(old++new++h?).size⟩) Y
  ⟨_,_,el,Mu.iy _ _ _,s.BF,mW _,g.mono (cI.le_refl _) (Mu.tU (s.dom _ (z? _)))⟩
 refine⟨_,?_,S,X⟩;have:=bN.hsl (I:=I) (W H) 0 (W xs+W ys) B _ (Mu.iy μ (W H) ⟨w.heap.size,0,es,(old++new++h?).size⟩) D g?
 grind
def Qj(s:dA I μ H w){id:Nat}{ob l?:Ob}{p p':Pl}{o:Obj}(B:H[id]?=M ob)(T:ob.live=O)(hp:μ id=M p)(i:p'.b=p.b)
 (W:vR I (μ.ij (_j H) p') (gP w p.b o) (_j H) l?)(l:Obj.nf o:=by first|exact wC _ _|exact uv rfl):dA I (μ.ij (_j H) p') (H.set id .dead++[l?]) (gP w p.b o)/\Step I μ H w I (μ.ij (_j H) p') (H.set id .dead++[l?]) (gP w p.b o):=by
 have n:=(ζe.1 B).1;have y:jm μ H p.b:=⟨id,p,ob,B,T,hp,_i⟩;have c:=s.dom (_j H) (z? _);have u:∀k x,(H.set id .dead++[l?])[k]?=M x->(k=_j H/\x=l?)\/(k≠_j H/\k=id/\x=.dead)\/(k≠_j H/\k≠id/\H[k]?=M x):=by grind
 have L:∀b,jm (μ.ij (_j H) p') (H.set id .dead++[l?]) b->jm μ H b:=by rintro b ⟨k,q,x,d,A,X,rfl⟩;rcases u k x d with⟨rfl,rfl⟩|⟨_,_,rfl⟩|⟨e,Q,h⟩;rw[Mu.iy]at X;grind;grind[Ob.live];rw[Mu.jR _ _ e]at X;exact⟨k,q,x,h,A,X,_i⟩
 refine⟨⟨?_,?_,?_,?_,s.gl⟩,⟨cI.le_refl _,Mu.tU c,f?,by rw[u5];grind,?_,?_,_i,⟨_i,_i,z? _⟩,λa _=>F_ (b:=p.b) l (iV o (pR s y)) (λk c=>gq o c) a⟩⟩
 .intro k h;simp at h;rw[Mu.jR _ _ c?]
  exact s.dom k c?
 .intro b x h;refine IC.uV (s.imm b x h) (gq o ?_)
  grind[gZ]
 .intro k x h;rcases u k x h with⟨rfl,rfl⟩|⟨_,_,rfl⟩|⟨e,Q,h⟩
  .exact W
  .trivial
  refine(s.obs k x h).mono (cI.le_refl _) (Mu.tU c) (λq a__ J=>⟨gq o ?_,gZ s ⟨k,q,x,h,J,a__,_i⟩⟩) (λm=>?_)
  .intro Y;exact Q (s.inj k id x ob q p h B J T a__ hp Y)
  subst m;rw[Mu.jR _ _ e];exact s.obs k _ h
 .intro k S x N q q' d A l1 l2 C D z;rcases u k x d with⟨rfl,rfl⟩|⟨_,_,rfl⟩|⟨e,Q,h⟩
  .rcases u S N A with⟨rfl,rfl⟩|⟨_,_,rfl⟩|⟨f,j,g⟩
   .rfl
   .grind[Ob.live]
   rw[Mu.iy]at C;cases C;rw[Mu.jR _ _ f]at D;exact _c (s.inj S id N ob q' p g B l2 T D hp (by rw[<-z,i])) j
  .grind[Ob.live]
  rcases u S N A with⟨rfl,rfl⟩|⟨_,_,rfl⟩|⟨f,j,g⟩
  .rw[Mu.iy]at D;cases D;rw[Mu.jR _ _ e]at C;exact _c (s.inj k id x ob q p h B l1 T C hp (by rw[z,i])) Q
  .grind[Ob.live]
  rw[Mu.jR _ _ e]at C;rw[Mu.jR _ _ f]at D;exact s.inj k S x N q q' h g l1 l2 C D z
 .intro b _ hn;refine gq o ?_
  grind
 grind
def G7(f:fC P E){t g e:W'}{d:TD}{D:TypeDesc}(h:P.underlying t=M (.slice e))(Y:P.underlying g=M D)(k:∃j,D=.slice j)(hd:E.tt e=M d)
 (W T:aY Addr)(sl sc B c:Nat)(new:Array V')(l:(q! d.size B (.slice T B c)).run P w=.ok new w)(ty:W'):
 (sl+B<=sc->∀w',(match W with|some b=>(storeCells (b.add (sl*d.size)) new.toList).run P w=.ok () w'|none=>w'=w)->
  (T! #[t,g] ty #[.slice W sl sc,.slice T B c]).run P w=.ok (.slice W (sl+B) sc) w')/\
 (sc<sl+B->sl+B<=2147483648->d.bytes<=4096->0<d.bytes->∀old,(∀N,N.heap=w.heap->(q! d.size sl (.slice W sl sc)).run P N=.ok old N)->
  (∀N,N.heap=w.heap->(q! d.size B (.slice T B c)).run P N=.ok new N)->
  ∃J h?,sl+B<=J/\h?.size=(J-(sl+B))*d.size/\
   (T! #[t,g] ty #[.slice W sl sc,.slice T B c]).run P w=.ok (.slice (M ⟨w.heap.size,0,G⟩) (sl+B) J) (w.drew.alloc (.cells (old++new++h?) e))):=by
 have⟨i,z,hi,X,n,o,I,p,_⟩:=(f.ty hd).info;have u:∀w,(zeroValue e).run P w=.ok z w:=λw=>by simp_all[zeroValue,qO]
 have L:z.cells.size=d.size:=by have:=(I (λ_=>G) (λ_=>G)).1;grind
 obtain⟨j,rfl⟩:=k;constructor
 .intro A w' ai;unfold T!;simp only[A?,List.getElem?_toArray,List.getElem?_cons_zero,List.getElem?_cons_succ,dR h,dR Y,x?,(f.ty hd).jq,N?,lenOf,v?,M',Bool.not_false,L',J0 A,l]
  cases W with
  |none=>simp_all|some b=>simp_all
 intro Q a__ q r old a C;have S:=nextslicecap_le Q;have m:¬(X! (sl+B) sc*i.bytes>2 ^ 48):=by have:X! (sl+B) sc*i.bytes<=(2*2147483648)*4096:=u0 c? c?;omega
 have y:¬(sl+B<=sc):=c?
 refine⟨(S! (sl+B) sc e).cut (w.tape w.drawn (S! (sl+B) sc e)),z! z.cells (((S! (sl+B) sc e).cut (w.tape w.drawn (S! (sl+B) sc e)))-(sl+B)),?_,?_,?_⟩
 .simp[Question.cut]
 .rw[tw,L]
 unfold T!;simp only[A?,List.getElem?_toArray,List.getElem?_cons_zero,List.getElem?_cons_succ,dR h,dR Y,x?,(f.ty hd).jq,N?,lenOf,v?,M',Bool.not_false,L',K' y,qO hi];rw[K' g?]
 simp only[A?,qO hi,K' m,run_choose,forced,v?,M',x?,run_askRoom,u,newRow,run_newObj,N?];rw[a {w with drawn:=w.drawn+1} rfl];simp only[x?];rw[C {w with drawn:=w.drawn+1} rfl];rfl
def wrap_small{m:Nat}(h:m<=2147483648):i64.wrap (m:Int)=m:=by grind[y?,IntKind.bits]
def Jc(T:fC P E){t N e:W'}{d:TD}{kk k:T2}(Y:P.underlying t=M (.slice e))(J:P.underlying N=M (.int kk))(hd:E.tt e=M d)(ty:W')(m:Nat)(D:m<=2147483648):
 (m=0->(T! #[t,N] ty #[.slice G 0 0,.int k m]).run P w=.ok (.slice G 0 0) w)/\
 (0<m->d.bytes<=4096->0<d.bytes->∃B z h?,m<=B/\h?.size=(B-m)*d.size/\cW I μ d.zero z.toList/\
  (T! #[t,N] ty #[.slice G 0 0,.int k m]).run P w=.ok (.slice (M ⟨w.heap.size,0,G⟩) m B) (w.drew.alloc (.cells (#[]++z! z m++h?) e))):=by
 have⟨i,z,hi,X,g,j,C,l,_⟩:=(T.ty hd).info;have u:∀w,(zeroValue e).run P w=.ok z w:=λw=>by simp_all[zeroValue,qO]
 have A:z.cells.size=d.size:=by have:=(C (λ_=>G) (λ_=>G)).1;grind
 have a:=wrap_small D;constructor
 .rintro rfl;unfold T!;have Q:i64.wrap 0=0:=by omega
  simp[dR Y,dR J,(T.ty hd).jq,asInt,qO hi,nX,Q]
 intro a__ n o;have S:X! (0+m) 0<=2*(0+m):=nextslicecap_le c?
 have b:¬(X! (0+m) 0*i.bytes>2 ^ 48):=by have:X! (0+m) 0*i.bytes<=(2*2147483648)*4096:=u0 c? c?;omega
 have c:¬(m*(i.bytes:Int)>2 ^ 48):=by have p:m*i.bytes<=2147483648*4096:=u0 D c?;grind
 have f:¬((0+m:Nat)>i64.max):=by have:i64.max=9223372036854775807:=(by rfl);omega
 have y:¬(0+m<=0):=c?
 have L:¬((m:Int)<0):=c?
 refine⟨(S! (0+m) 0 e).cut (w.tape w.drawn (S! (0+m) 0 e)),z.cells,z! z.cells (((S! (0+m) 0 e).cut (w.tape w.drawn (S! (0+m) 0 e)))-(0+m)),?_,?_,C _ _,?_⟩
 .simp[Question.cut]
 .rw[tw,A,Nat.zero_add]
 unfold T!;have W:(if m*d.size=0 then pure #[]else do pure (z! (<-zeroValue e).cells m))=(do pure (z! (<-zeroValue e).cells m))\/(m*d.size=0/\z! z.cells m=#[]):=by by_cases h:m*d.size=0;all_goals simp_all[Array.eq_empty_of_size_eq_zero,tw]
 simp only[A?,List.getElem?_toArray,List.getElem?_cons_zero,List.getElem?_cons_succ,dR Y,dR J,x?,(T.ty hd).jq,N?,L',asInt,nX,a,K' L,qO hi,K' c,Int.toNat_natCast,K' y,M'];rw[K' (λh=>f h.1)]
 simp only[A?,qO hi,K' b,run_choose,forced,x?,u,newRow,q!];rcases W with h|⟨h,q⟩
 all_goals simp_all
def S9(g:fC P E)(r:fe I μ n F a.tmps)(s:dA I μ H w){args:Array UV}{T:Array W'}{x:V}{ty:W'}
 (h:cQ E F H (.call {callee:=.builtin .append,args,argTypes:=T})=M (x,H')):
 FA P I μ H w (do let d<-resolve a.eval {callee:=.builtin .append,args,argTypes:=T} ty;invoke d.target d.args) x H':=by
 simp[cQ]at h;split at h
 .rename_i t t' vs vx aQ ae;obtain⟨us,ux,Q,i,j⟩:=(qu r ae).two;split at h
  .rename_i e e' hk af;obtain⟨d0,ah,ai⟩:=gG hk;obtain⟨N,R,h2,h3⟩:=(g.ty ah).dR;rw[ai]at h2;have:=kR h2;subst this;obtain⟨d1,kE,S⟩:=gG af;obtain⟨aj,g1,g2,g3⟩:=(g.ty kE).dR;rw[S]at g2;have:=kR g2;subst this;have C:∀v w',(T! #[t,t'] ty #[us,ux]).run P w=.ok v w'->
    (do let d<-resolve a.eval {callee:=.builtin .append,args,argTypes:=T} ty;invoke d.target d.args).run P w=.ok (.value v) w':=by
    simp[resolve,A?,N?,x?,invoke,builtin];rw[uW Q];have ea:T=#[t,t']:=g?
    simp_all
   split at h
   .rename_i d hd;split at h
    .
     rename_i xs B ak;obtain⟨ad,f,arr,e1,e2,e3,e4,_⟩:=Di (P:=P) s i B;obtain⟨al,d__,D,a__,f2,A,l,_⟩:=Di s j ak;simp at a__ A;have aR:D=#[]:=by have:=l.1;grind
     have A:=A w rfl;rw[a__]at A;have key:=(G7 g R g1 ⟨_,rfl⟩ hd ad al xs.length f 0 d__ D A ty).1 c? w
      (by
       cases ad with
       |none=>rfl|some b=>simp_all[storeCells])
     rw[<-a__,<-e1,g',<-e1]at key;have am:x=vs/\H'=H:=by grind
     obtain⟨rfl,rfl⟩:=am;exact⟨_,us,w,μ,C _ _ key,.inl rfl,i,s,.refl _ _ _ _⟩
    .rename_i xs ys aT B ak;obtain⟨ad,f,arr,e1,e2,e3,e4,e5,e6⟩:=Di s i B;obtain⟨al,d__,D,a__,f2,A,l,f5,f6⟩:=Di s j ak;split at h
     .rename_i hc;obtain⟨av,an,ao⟩:=hc;have aD:0<ys.length:=by
       grind
      have key:=G7 g R g1 ⟨_,rfl⟩ hd ad al xs.length f ys.length d__ D (by rw[<-a__];exact A w rfl) ty
      rw[<-a__,<-e1]at key;have L:f<xs.length+ys.length->∃b__ h?,xs.length+ys.length<=b__/\h?.size=(b__-(xs.length+ys.length))*d.size/\
       (T! #[t,t'] ty #[us,ux]).run P w=.ok (.slice (M ⟨w.heap.size,0,G⟩) (xs.length+ys.length) b__) (w.drew.alloc (.cells (arr++D++h?) e)):=by
       intro ap;refine key.2 ap av an ao arr ?_ ?_
       .intro w2 aE;exact e3 w2 aE
       grind
      simp at h;obtain⟨H1,J,rfl,rfl⟩:=h
      cases vs with
      |dN=>
       simp[iE]at J;subst J;simp[dX]at B;subst B;obtain⟨aF,q⟩:=i.vk;have aw:f=0:=by rw[q]at e1;cases e1;rfl
       obtain⟨b__,h?,k1,k2,k3⟩:=L (by simp;omega)
       obtain⟨μ',m1,o,K⟩:=DF s.drew e4 l e5 f5 e6 f6 k1 k2;refine⟨_,_,_,μ',C _ _ k3,.inl rfl,m1,o,?_⟩;exact Step.trans s.drew (Step.ri rfl rfl ⟨rfl,rfl,b5 _⟩) K
      |bG=>
       simp[iE]at J;subst J;simp[dX]at B;subst B;have q:=i.om;have aw:f=0:=by rw[q]at e1;cases e1;rfl
       obtain⟨b__,h?,k1,k2,k3⟩:=L (by simp;omega)
       obtain⟨μ',m1,o,K⟩:=DF s.drew e4 l e5 f5 e6 f6 k1 k2;refine⟨_,_,_,μ',C _ _ k3,.inl rfl,m1,o,?_⟩;exact Step.trans s.drew (Step.ri rfl rfl ⟨rfl,rfl,b5 _⟩) K
      |hsl id es off len=>
       simp[iE]at J;split at J
       .rename_i u aG e__;simp at J;subst J;have ax:(H[id]?).bind Ob.rows=M (u,aG):=by rw[e__];rfl
        have aS:=B;simp only[dX]at B;split at B
        .rename_i aH;rw[ax]at B;simp only at B;split at B
         .rename_i aI;simp at B;obtain⟨p,c,ay,q1,q2,q3,q4⟩:=s.obs id _ e__;have W:xs.length=len:=by rw[<-B];simp;omega
          have aq:f<xs.length+ys.length->FA P I μ H w (do let d<-resolve a.eval {callee:=.builtin .append,args,argTypes:=T} ty;invoke d.target d.args)
           (.hsl H.length d.size 0 (xs.length+ys.length)) (H.set id .dead++[.row d.size (xs++ys)]):=by
           intro ap;obtain⟨b__,h?,k1,k2,k3⟩:=L ap;obtain⟨s1,s2⟩:=s.drew.kill e__;obtain⟨μ',m1,o,K⟩:=DF s1 e4 l e5 f5 e6 f6 k1 k2;rw[List.length_set]at m1;exact⟨_,_,_,μ',C _ _ k3,.inl rfl,m1,o,Step.trans s.drew (Step.ri rfl rfl ⟨rfl,rfl,b5 _⟩) (Step.trans s1 s2 K)⟩
          rcases i.oc with⟨p',c__,hm,aJ,aU,aK,ee⟩|⟨h0,aF,ee⟩
          .rw[q1]at hm;cases hm;have ar:c__=f/\ad=M ⟨p.b,p.o+off*es,G⟩:=by rw[ee]at e1;grind
           obtain⟨rfl,rfl⟩:=ar
           by_cases ab:xs.length+ys.length<=c__
           .have aA:u=es:=by rw[<-q4.es_eq,aJ]
            subst aA;have X:=aH;obtain⟨r1,r2⟩:=q4.span aI;rw[B]at r1;have aa:=l.1;simp only[Array.length_toList]at aa;rw[gQ f5]at aa;have aL:(len+ys.length)*u<=c__*u:=h! _ c?
            rw[t!]at aL;rw[t!]at aK;have aM:=q4.sz;rw[<-X]at aa;have au:p.o+off*u+len*u+0+D.toList.length<=c.size:=by simp;omega
            obtain⟨c',u1,u2⟩:=qQ D.toList 0 w c q3 (l.Uu (λx j=>by
             grind[m8])) au
            have aB:c'.size=c.size:=by have:=_d length u2;grind
            have aC:=key.1 ab (gP w p.b (.cells c' ay)) (by
             simp[si,W];rw[<-X];exact u1)
            have Y:iA I μ ⟨p.b,p.o+off*u,u,p.sz⟩ c' u (xs++ys):=by refine⟨rfl,by rw[aB];exact aM,?_,?_,?_,?_⟩;grind;grind;rw[aB,ζi,W,t!];grind;have e:(c'.toList.drop (p.o+off*u)).take ((xs++ys).length*u)=(c.toList.drop (p.o+off*u)).take (len*u)++D.toList:=(by rw[u2,ζi,W,t!,aa];simp only[g'];have aN:(List.take (p.o+off*u+len*u) c.toList).length=p.o+off*u+len*u:=(by simp;omega);rw[List.append_assoc,List.drop_append_of_le_length (by rw[aN];omega),i5,show p.o+off*u+len*u-(p.o+off*u)=len*u by omega];grind[List.take_left']);rw[e,a6];exact r1.append l
            obtain⟨s1,s2⟩:=Qj (l?:=.row u (xs++ys)) (p':=⟨p.b,p.o+off*u,u,p.sz⟩) s e__ rfl q1 rfl
             ⟨_,c',ay,Mu.iy _ _ _,q2,iV _ (Array.getElem?_eq_some_iff.1 q3).1,Y.mono (cI.le_refl _) (Mu.tU (s.dom _ (z? _)))⟩
            rw[<-X];refine⟨_,_,_,_,C _ _ aC,.inl rfl,?_,s1,s2⟩;have:=bN.hsl (I:=I) H.length 0 (xs.length+ys.length) c__ _ (Mu.iy μ H.length ⟨p.b,p.o+off*u,u,p.sz⟩) ab (by simp;omega)
            grind
           grind
          grind
         grind
        grind
       grind
      |_=>simp[iE]at J
     grind
    grind
   grind
  .
   rename_i e kk hk af;obtain⟨d0,ah,ai⟩:=gG hk;obtain⟨N,R,h2,h3⟩:=(g.ty ah).dR;rw[ai]at h2;have:=kR h2;subst this;obtain⟨d1,kE,S⟩:=gG af;obtain⟨aj,g1,g2,g3⟩:=(g.ty kE).dR;rw[S]at g2;have:=GP g2;subst this;have C:∀v w',(T! #[t,t'] ty #[us,ux]).run P w=.ok v w'->
    (do let d<-resolve a.eval {callee:=.builtin .append,args,argTypes:=T} ty;invoke d.target d.args).run P w=.ok (.value v) w':=by
    intro v w' hv;simp[resolve,A?,N?,x?,invoke,builtin];rw[uW Q];have ea:T=#[t,t']:=g?
    rw[ea,hv];rfl
   split at h
   .rename_i d hd;unfold mkApp at h;split at h
    .rename_i k m;have q:=i.om;subst q;have q:=j.gC;subst q;split at h
     .rename_i h0;subst h0;cases h;have key:=(Jc (μ:=μ) (I:=I) (w:=w) (k:=k) g R g1 hd ty 0 c?).1 rfl
      exact⟨_,_,w,μ,C _ _ key,.inl rfl,i,s,.refl _ _ _ _⟩
     split at h
     .rename_i hc;obtain⟨aO,av,an,ao⟩:=hc;cases h;obtain⟨m,rfl⟩:=Int.eq_ofNat_of_zero_le (Int.le_of_lt aO);obtain⟨b__,z,h?,k1,k2,k3,k4⟩:=(Jc g R g1 hd ty m c?).2 c? an ao
      have aP:=(g.ty hd).info.choose_spec.choose_spec.2.2.2.2.2.1;have aV:=(g.ty hd).info.choose_spec.choose_spec.2.2.2.2.2.2.1;have hu:∀x∈w? m d.zero,x.length=d.size:=λx j=>by rw[b! j];exact aP
      have ho:∀x∈w? m d.zero,∀y∈x,V.one y=O:=λx j y hy=>by rw[b! j]at hy;grind
      obtain⟨μ',m1,o,K⟩:=DF (xs:=[]) (ys:=w? m d.zero) (old:=#[]) (new:=z! z m) (h?:=h?) s.drew .nil (Ac k3 m) f? hu f? ho (by simpa using k1) g?
      simp at m1 o K;refine⟨_,_,_,μ',C _ _ k4,.inl rfl,g?,by simpa using o,?_⟩
      exact Step.trans s.drew (Step.ri rfl rfl ⟨rfl,rfl,b5 _⟩) g?
     cases h
    cases h
   cases h
  grind
 grind
def Dc{es:Nat}{xs:S'}(a:∀x∈xs,W x=es)(k:Nat)(b:k<=W xs):(xs.take k).flatten=xs.flatten.take (k*es)/\(xs.drop k).flatten=xs.flatten.drop (k*es):=by grind[i!,gQ]
theorem VP (hE:fC P E) (r:fe I μ n F a.tmps) (s:dA I μ H w) {args:Array Operand} {D:Array TypeId} {x:V} {ty:TypeId}
 (h:cQ E F H (.call { callee:=.builtin .clear,args,argTypes:=D })=some (x,H')) :
 FA P I μ H w (do let d <-resolve a.eval { callee:=.builtin .clear,args,argTypes:=D } ty;invoke d.target d.args) x H':=by
 simp[cQ]at h;split at h
 .rename_i t v ab L;obtain⟨u,hu,hr⟩:=(qu r L).one;split at h
  .rename_i e hk;obtain⟨d0,ae,af⟩:=gG hk;obtain⟨desc,h1,h2,h3⟩:=(hE.ty ae).dR;rw[af]at h2;have:=kR h2;split at h
   .rename_i d hd;obtain⟨i,z,hi,an,ap,hz,S,ah,aq,_⟩:=(hE.ty hd).info;have ai:∀w,(zeroValue e).run P w=.ok z w:=λw=>by simp_all[zeroValue,qO]
    have aj:z.cells.size=d.size:=by have:=(S (λ_=>none) (λ_=>none)).1;grind
    have J:∀v w',(Builtin.clear_ D ty #[u]).run P w=.ok v w' ->
     (do let d <-resolve a.eval { callee:=.builtin .clear,args,argTypes:=D } ty;invoke d.target d.args).run P w=.ok (.value v) w':=by
     grind[resolve,Sem.run_bind,Sem.run_pure,Result.andThen_ok,invoke,builtin,uW]
    have T:∀m cap,u=.slice m 0 cap->FA P I μ H w (do let d <-resolve a.eval { callee:=.builtin .clear,args,argTypes:=D } ty;invoke d.target d.args) .undef H:=λm cap q=>by
     subst q;refine⟨_,.tuple #[],w,μ,J (.tuple #[]) w ?_,.inl rfl,bN.undef _ _,s,.refl _ _ _ _⟩;unfold Builtin.clear_;cases m <;> simp[ab,h3]
    unfold GV at h;split at h
    .cases h;exact T _ _ hr.om
    .obtain⟨m,q⟩:=hr.vk;grind
    .rename_i id es off len;split at h
     .rename_i j;subst j;split at h
      .rcases hr.oc with⟨p,cap,_,_,_,_,q⟩|⟨_,m,q⟩
       all_goals grind
      rename_i len;split at h
      .rename_i ak Q W;split at h
       .rename_i X;cases h;obtain⟨p,c,el,hp,hI,C,B⟩:=s.obs id _ W;rcases hr.oc with⟨q,cap,hq,al,ao,am,rfl⟩|⟨h0,_⟩
        .rw[hp]at hq;cases hq;have j:ak=d.size:=by rw[<-B.es_eq,al]
         subst j;have ar:(Builtin.zeroCells z.cells (len+1)).size=(len+1)*d.size:=by rw[tw,aj]
         have au:=B.room;have Y:(off+(len+1))*d.size<=Q.length*d.size:=Nat.mul_le_mul_right _ X;rw[Nat.add_mul]at Y;have g:=Ac   (S I μ) (len+1);have av:∀x∈List.replicate (len+1) d.zero,x.length=d.size:=λx hx=>by rw[List.eq_of_mem_replicate hx];exact ah
         have aw:∀x∈List.replicate (len+1) d.zero,∀y∈x,V.one y=true:=λx hx y hy=>by rw[List.eq_of_mem_replicate hx]at hy;grind
         obtain⟨c',u1,u2⟩:=qQ (P:=P) (o:=p.o+off*d.size) (Builtin.zeroCells z.cells (len+1)).toList 0 w c C (cW.Uu g (λx hx=>by
          grind[List.mem_flatten])) g?
         rw[Nat.add_zero]at u2;have A:c'.size=c.size:=by
          have:=_d List.length u2
          grind
         obtain⟨s2,st2⟩:=s.write  (l?:=.row d.size (Q.take off++List.replicate (len+1) d.zero++Q.drop (off+(len+1)))) W rfl hp
          ⟨p,c',el,hp,hI,iV _ (Array.getElem?_eq_some_iff.1 C).1,by
           have aa:(Q.take off++List.replicate (len+1) d.zero++Q.drop (off+(len+1))).length=Q.length:=by simp;omega
           refine⟨B.es_eq,by rw[A];exact B.sz,?_,?_,by rw[aa,A];grind,?_⟩
           .intro x hx;rcases List.mem_append.1 hx with hx|hx
            .rcases List.mem_append.1 hx with hx|hx
             .exact B.rI x (List.mem_of_mem_take hx)
             grind
            exact B.rI x (List.mem_of_mem_drop hx)
           .intro x hx;rcases List.mem_append.1 hx with hx|hx
            .rcases List.mem_append.1 hx with hx|hx
             .exact B.one x (List.mem_of_mem_take hx)
             grind
            exact B.one x (List.mem_of_mem_drop hx)
           rw[aa,u2];have hL:=ED c.toList (Builtin.zeroCells z.cells (len+1)).toList p.o (Q.length*d.size) (off*d.size) (by simp;omega) g?
           rw[hL,List.flatten_append,List.flatten_append,(Dc B.rI off c?).1,(Dc B.rI _ X).2]
           have e:off*d.size+(Builtin.zeroCells z.cells (len+1)).toList.length=(off+(len+1))*d.size:=by grind
           rw[e];exact((B.rel.take _).append g).append (B.rel.drop _)⟩
         refine⟨_,.tuple #[],_,μ,J (.tuple #[]) (gP w p.b (.cells c' el)) ?_,.inl rfl,bN.undef _ _,s2,st2⟩;simp_all[Builtin.clear_]
        simp_all
       simp_all
      simp_all
     simp_all
    simp_all
   simp_all
  simp_all
 simp_all
theorem acp(s t:U')(h:(s==t)=O):s=t:=by
 cases s with|mk a=>cases t with|mk b=>
 have u:(a==b)=O:=h;grind
inductive BQ(P:Program)(E:Env)(t:TypeId):V->Value->Prop
 |int(k:IntKind)(m:Int)(h:P.underlying t=some (.int k)):BQ P E t (.int k m) (.int k m)|str(s:ByteArray)(h:P.underlying t=some .string):BQ P E t (.str s) (.string s)|agg(m:Nat)(cs:List V)(l:List Int)(h:rR P t m)(hl:l.length=m)(hi:jE cs=some l):BQ P E t (.agg cs) (.agg (ic l))
def RX(B:fC P E){t:W'}{k:V}{v:V'}(h:z_ E t k=O)(b:bN I μ k v):BQ P E t k v:=by
 unfold z_ at h;split at h;rename_i k1 k2 m c;have⟨d,hd,u⟩:=gG c;have⟨a,f,w,D⟩:=(B.ty hd).dR;rw[u]at w;have:=GP w;subst this;have e:k1=k2:=by grind
 subst e;rw[b.gC];exact .int _ _ f;next s c=>have⟨d,hd,u⟩:=gG c;have⟨a,f,w,D⟩:=(B.ty hd).dR;rw[u]at w;have:=CW w;subst this;rw[b.wk];exact .str _ f
 rename_i cs _;split at h;next m z=>simp[isSome_iff_exists]at h;have⟨g,l,hi⟩:=h;obtain⟨J,rfl,C⟩:=b.jP;obtain⟨rfl,e⟩:=sV hi C;exact .agg m cs l (B.eqN _ _ z) c? hi
 grind;grind
theorem SA(d:Nat)(e:X'){t:W'}{k:T2}{m:Int}(h:P.underlying t=M (.int k)):(w! e (d+1) t (.int k m)).run P w=.ok () w:=by simp[w!,A?,dR h,x?,N?]
theorem Ty(d:Nat)(e:X'){t:W'}{m:U'}(h:P.underlying t=M .string):(w! e (d+1) t (.string m)).run P w=.ok () w:=by simp[w!,A?,dR h,x?,N?]
def BB{t:W'}{k:V}{v:V'}(h:BQ P E t k v)(e:X'):(w! e 10000 t v).run P w=.ok () w:=by cases h with|int k m h=>grind[SA]|str s h=>grind[Ty]|agg m cs l h u hi=>exact h.check w e l u
def ot(I:cI)(μ:Mu)(es:aX MapEntry)(i:Nat):aY (Nat×V)->aY (Nat×V')->Prop
 |none,G=>True|some (j,x),M (B,v)=>j=B/\bN I μ x v/\i<=j/\∃e,es[j-i]?=M e/\e.val=v|_,_=>False
def He{d:TypeDesc}{k:V}{v:V'}(hd:(∃kk m,d=.int kk/\k=.int kk m/\v=.int kk m)\/(∃s,d=.string/\k=.str s/\v=.string s)):
 ∀(B:aX (V×V))(es:aX MapEntry)(i:Nat)(r:aY (Nat×V)),_j B=_j es->(∀(j:Nat)q e,B[j]?=M q->es[j]?=M e->bN I μ q.1 e.key/\bN I μ q.2 e.val)->
 jd k B i=M r->∃D,o6 d v es i=M D/\ot I μ es i r D/\∀j x,r=M (j,x)->∃e,es[j-i]?=M e/\e.key=v:=by
 intro B
 induction B with
 |nil=>
  intro es i r N _ h
  cases es with
  |nil=>simp only[jd,ζa]at h;subst h;exact⟨G,rfl,trivial,f?⟩|cons _ _=>simp_all
 |cons q B Q=>
  intro es i r N c h
  cases es with
  |nil=>simp_all|cons e es=>
   have⟨C,S⟩:=q;have⟨g1,g2⟩:=c 0 (C,S) e _i _i;simp only[jd]at h;have u:∀b,Ah k C=M b->E' d v e.key=M b/\(b=O->e.key=v):=by
    intro b w;rcases hd with⟨kk,m,rfl,rfl,rfl⟩|⟨s,rfl,rfl,rfl⟩
    .cases C<;>simp only[Ah]at w<;>(try grind);rename_i k2 Y;split at w;rename_i A;simp only[ζa]at w;subst w;subst A;rw[g1.gC];grind[E'];grind
    cases C<;>simp only[Ah]at w<;>(try (simp at w;done));simp only[ζa]at w;subst w;rw[g1.wk];grind[E',acp]
   split at h
   .rename_i hk;have⟨f,b__⟩:=u O hk;simp only[ζa]at h;subst h;refine⟨M (i,e.val),by grind[o6],⟨_i,g2,z? _,e,f?,_i⟩,?_⟩
    grind
   .rename_i hk;have⟨f,_⟩:=u U hk;have⟨D,p1,p2,p3⟩:=Q es (i+1) r g? (λj a b x y=>c (j+1) a b (by simpa using x) (by simpa using y)) h
    refine⟨D,by grind[o6],?_,?_⟩
    .cases r with
     |none=>all_goals grind[ot]|some z=>
      cases D with
      |none=>grind[ot]|some T=>have⟨a__,W,g,J,l,X⟩:=p2;exact⟨a__,W,c?,J,by rw[show z.1-i=(z.1-(i+1))+1 by omega];grind,X⟩
    intro j x L;have⟨J,n,o⟩:=p3 j x L;subst L;have:i+1<=j:=by cases D with|none=>grind[ot]|some T=>exact p2.2.2.1
    grind
   grind
def O4{t:W'}{m:Nat}(T:rR P t m){cs:So}{l:SW}(b__:_j l=m)(hi:jE cs=M l):
 ∀(B:aX (V×V))(es:aX MapEntry)(i:Nat)(r:aY (Nat×V)),_j B=_j es->(∀(j:Nat)q e,B[j]?=M q->es[j]?=M e->bN I μ q.1 e.key/\bN I μ q.2 e.val)->
 jd (.agg cs) B i=M r->∃D,(l' t (.agg (ic l)) es i).run P w=.ok D w/\ot I μ es i r D/\∀j x,r=M (j,x)->∃e,es[j-i]?=M e/\e.key=.agg (ic l):=by
 intro B
 induction B with
 |nil=>
  intro es i r C _ h
  cases es with
  |nil=>simp[jd]at h;subst h;exact⟨G,rfl,trivial,f?⟩|cons _ _=>simp_all
 |cons q B W=>
  intro es i r C c h
  cases es with
  |nil=>simp_all|cons e es=>
   have⟨N,X⟩:=q;have⟨g1,g2⟩:=c 0 (N,X) e _i _i;simp[jd]at h;have u:∀b,Ah (.agg cs) N=M b->(N! t (.agg (ic l)) e.key).run P w=.ok b w/\(b=O->e.key=.agg (ic l)):=by intro b J;cases N<;>simp[Ah]at J<;>(try (simp at J));obtain⟨n,Y,a__,x2,o,rfl⟩:=AJ J;rw[hi]at a__;cases a__;have⟨p,ev,L⟩:=g1.jP;obtain⟨rfl,e2⟩:=sV x2 L;rw[ev];refine⟨T.key w l Y b__ c?,?_⟩;grind
   split at h
   .rename_i hk;have⟨d,s⟩:=u O hk;simp at h;subst h;refine⟨M (i,e.val),by simp[l',d],⟨_i,g2,z? _,e,f?,_i⟩,?_⟩
    grind
   .rename_i hk;have⟨d,_⟩:=u U hk;have⟨D,p1,p2,p3⟩:=W es (i+1) r g? (λj a b x y=>c (j+1) a b g? (by simpa using y)) h
    refine⟨D,by simp_all[l'],?_,?_⟩
    .cases r with
     |none=>all_goals grind[ot]|some z=>
      cases D with
      |none=>grind[ot]|some c__=>have⟨f,g,v,Q,A,k⟩:=p2;exact⟨f,g,c?,Q,by rw[show z.1-i=(z.1-(i+1))+1 by omega];grind,k⟩
    intro j x S;have⟨Q,E,F⟩:=p3 j x S;subst S;have:=by cases D with|none=>grind[ot]|some c__=>exact p2.2.2.1
    grind
   grind
def yM{t:W'}{k:V}{v:V'}(h:BQ P E t k v){B:aX (V×V)}{es:Array MapEntry}(a:yD I μ B es){r:aY (Nat×V)}(J:jd k B 0=M r):
 ∃D,(o0 t v es.toList).run P w=.ok D w/\ot I μ es.toList 0 r D/\∀j x,r=M (j,x)->∃e,es[j]?=M e/\e.key=v:=by
 have u:=by simpa using a.1
 have z:∀(j:Nat)q e,B[j]?=M q->es.toList[j]?=M e->bN I μ q.1 e.key/\bN I μ q.2 e.val:=λj q e x y=>a.2 j q e x g?
 have fin:∀(D:aY (Nat×V')),(∀j x,r=M (j,x)->∃e,es.toList[j-0]?=M e/\e.key=v)->∀j x,r=M (j,x)->∃e,es[j]?=M e/\e.key=v:=by grind
 cases h with
 |int kk m h=>have⟨D,g1,g2,g3⟩:=He (.inl ⟨kk,m,Y,Y,Y⟩) B es.toList 0 r u z J;simp_all[o0,dR]|str s h=>have⟨D,g1,g2,g3⟩:=He (.inr ⟨s,Y,Y,Y⟩) B es.toList 0 r u z J;simp_all[o0,dR]|agg m cs l h g hi=>
  have⟨D,g1,g2,g3⟩:=O4 (w:=w) h g hi B es.toList 0 r u z J;have⟨d,hd,L⟩:=h.kind;refine⟨D,?_,g2,fin D g3⟩;simp[o0,A?,dR hd,x?]
  cases C:es.toList with
  |nil=>
   rw[C]at g1
   grind[o6,l']
  |cons e h?=>simp_all[o6,E']
def Cs{b:Nat}{o:Obj}(h:w.heap[b]?=M o)(B:∀c e f,o≠.cells c e f):(getObj b).run P w=.ok o w:=by grind[getObj,Sem.run]
def VJ(s:dA I μ H w){m:V}{v:V'}(d:bN I μ m v){B:aX (V×V)}(h:oE H m=M B):
 (v=.map G/\B=[])\/∃b es a,v=.map (M b)/\w.heap[b]?=M (.map es a)/\yD I μ B es:=by
 cases m with
 |ir=>simp only[oE,ζa]at h;exact .inl ⟨d.UJ,h.symm⟩|fmap k=>
  simp[oE]at h;subst h
  cases d with
  |c _ _ d=>cases d with
   |fmap _ b es C D hk u=>have⟨f,g⟩:=s.imm _ _ C;exact .inr ⟨b,es,f,rfl,g,D,λj q e x y=>⟨.c _ _ (hk j q e x y),.c _ _ (u j q e x y)⟩⟩
 |hmap id=>
  simp[oE]at h;split at h
  .rename_i i z;simp at h;have⟨p,es,f,g1,g2,g3,g4⟩:=s.obs id _ z;have⟨q,J,e⟩:=d.E9
   grind
  grind
 |_=>simp[oE]at h
def Rk(T:fC P E)(r:fe I μ n F a.tmps)(s:dA I μ H w){t:W'}{m k:UV}{ok:X'}{x:V}(h:eH E F H (.lookup t m k ok)=M x):
 ∃v,(Instr.lookup t (a.eval m) (a.eval k) ok).run P w=.ok v w/\bN I μ x v:=by
 simp[eH]at h;split at h
 .rename_i kt et mv kv hk hm N;obtain⟨d,hd,Q⟩:=gG hk;obtain⟨c,l,b__,e⟩:=(T.ty hd).dR;rw[Q]at b__;have:=Cz b__;subst this;split at h
  .rename_i de S a__ J;split at h
   .rename_i W;have D:=RX T W (dP r N);obtain⟨z,f,X⟩:=(T.ty a__).Ze;obtain⟨es,L,A⟩:∃es:Array MapEntry,yD I μ S es/\∀u,(o0 kt (a.eval k) es.toList).run P w=.ok u w->(Instr.lookup t (a.eval m) (a.eval k) ok).run P w=
     .ok (if ok then .tuple #[(u.map (·.2)).getD z,.bool u.isSome]else(u.map (·.2)).getD z) w:=by
     rcases VJ s (dP r hm) J with⟨e1,rfl⟩|⟨b,es,o,e1,e2,e3⟩
     .refine⟨#[],⟨rfl,f?⟩,λu C=>?_⟩
      unfold Instr.lookup;rw[e1];simp[A?,e,x?,N?,BB D,C];cases u<;>cases ok<;>simp[f]
     refine⟨es,e3,λu C=>?_⟩
     unfold Instr.lookup;rw[e1];simp[A?,e,x?,N?,Cs e2 f?,BB D,C]
     cases u<;>cases ok<;>simp[f]
    split at h
    .rename_i j y _ B;simp at h;obtain⟨u,Y,g,_⟩:=yM D L B
     cases u with
     |none=>grind[ot]|some q=>
      obtain⟨_,i,_⟩:=g;refine⟨_,A _ Y,?_⟩;subst h
      cases ok with
      |true=>exact .Xr (.cons i (.cons (.c _ _ (.bool _)) .nil))|false=>exact i
    .rename_i y B hy;simp at h;obtain⟨u,Y,g,_⟩:=yM D L B
     cases u with
     |some q=>grind[ot]|none=>
      refine⟨_,A _ Y,?_⟩;subst h
      cases ok with
      |true=>exact .Xr (.cons (X _ _ _ hy) (.cons (.c _ _ (.bool _)) .nil))|false=>grind
    grind
   grind
  grind
 grind
theorem Nw(l:SW)(d:Nat):f9 (d+2) (.agg (ic l)) (.agg (ic l))=O:=by simp only[f9,beq_self_eq_true,Bool.true_and,M?];intro p u;obtain⟨j,w,rfl⟩:=List.mem_iff_getElem.1 u;simp[ic,f9]
def Wi{t:W'}{k:V}{v:V'}(h:BQ P E t k v):(Instr.keyThatStays v v).run P w=.ok v w:=by
 have:f9 10000 v v=O:=by cases h with|int k m h=>simp[f9]|str s h=>simp[f9];exact(by cases s;exact beq_self_eq_true (α:=Array UInt8) _)|agg m cs l h u hi=>grind[Nw]
 simp_all[Instr.keyThatStays]
def Js{b:Nat}{es:Array MapEntry}{a:Nat}(o:Obj)(h:w.heap[b]?=M (.map es a)):(setObj b o).run P w=.ok () (gP w b o):=by simp only[setObj,Sem.run,h];rfl
def DA(A:fC P E)(r:fe I μ n F a.tmps)(s:dA I μ H w){t:W'}{m k y:UV}{x:V}(h:cQ E F H (.mapUpdate t m k y)=M (x,H')):
 FA P I μ H w (do Instr.mapUpdate t (a.eval m) (a.eval k) (a.eval y);pure .skip) x H':=by
 simp only[cQ]at h;split at h
 .rename_i kt et id X Y hk hm T hy;have⟨d,hd,e__⟩:=gG hk;have⟨K,b,D,a__⟩:=(A.ty hd).dR;rw[e__]at D;have:=Cz D;subst this;split at h
  .rename_i C S;split at h
   .rename_i aa;simp only[ζf,ζc]at h;obtain⟨af,u,rfl,rfl⟩:=h;have b__:=RX A aa (dP r T);have⟨p,es,c,g1,g2,g3,g4⟩:=s.obs id _ S;have⟨q,N,R⟩:=(dP r hm).E9;rw[g1]at N;cases N;have Q:=(Array.getElem?_eq_some_iff.1 g3).1;have ah:∀(f:Unit->Sem Next),True:=λ_=>trivial
    unfold sJ at u;have ab:=dP r T;have ad:=dP r hy;split at u
    .rename_i j z B;simp only[ζa]at u;subst u;have⟨J,g,q2,q3⟩:=yM (w:=w) b__ g4 B
     cases J with
     |none=>grind[ot]|some J=>
      have⟨j',zv⟩:=J;obtain⟨rfl,_,_,e',ai,_⟩:=q2;have⟨e2,d__,aj⟩:=q3 j z _i;have hj:=(Array.getElem?_eq_some_iff.1 d__).1;have L:yD I μ (C.set j (X,Y)) (es.modify j λe=>{e with key:=a.eval k,val:=a.eval y}):=by refine⟨by simpa using g4.1,λi q e b D=>?_⟩;by_cases c__:i=j;grind;rw[E? (Ne.symm c__)]at b;rw[Array.getElem?_modify]at D;rw[K' (Ne.symm c__)]at D;exact g4.2 i q e b D
      have⟨l,v⟩:=s.write (l?:=.map (C.set j (X,Y))) (o:=.map (es.modify j λe=>{e with key:=a.eval k,val:=a.eval y}) c) S _i g1
       ⟨p,_,c,g1,g2,iV _ Q,L⟩
      refine⟨.skip,undef,_,μ,?_,.inr ⟨_i,_i⟩,.undef I μ,l,v⟩;unfold Instr.mapUpdate;rw[R];have W:((es[j]?).map (·.key)).getD (a.eval k)=a.eval k:=by rw[d__];grind
      simp only[A?,a__,x?,Cs g3 f?,BB b__,g,W,Wi b__,Js _ g3,N?]
    .rename_i B;simp only[ζa]at u;subst u;have⟨J,g,q2,q3⟩:=yM (w:=w) b__ g4 B
     cases J with
     |some q=>grind[ot]|none=>
      have L:yD I μ (C++[(X,Y)]) (es.push {key:=a.eval k,val:=a.eval y,born:=c}):=by refine⟨by simp[g4.1],λi q e b D=>?_⟩;by_cases c__:i<_j C;rw[List.getElem?_append_left c__]at b;rw[Array.getElem?_push]at D;rw[K' (by rw[<-g4.1];omega)]at D;exact g4.2 i q e b D;have ae:=(ζe.1 b).1;simp at ae;have:i=_j C:=c?;subst this;simp at b;subst b;rw[Array.getElem?_push,J0 g4.1]at D;grind
      have⟨l,v⟩:=s.write (l?:=.map (C++[(X,Y)])) (o:=.map (es.push {key:=a.eval k,val:=a.eval y,born:=c}) (c+1)) S _i g1
       ⟨p,_,_,g1,g2,iV _ Q,L⟩
      refine⟨.skip,undef,_,μ,?_,.inr ⟨_i,_i⟩,.undef I μ,l,v⟩;unfold Instr.mapUpdate;rw[R];simp only[A?,a__,x?,Cs g3 f?,BB b__,g,Js _ g3,N?]
    grind
   simp at h
  simp at h
 simp at h
theorem X9(B:fC P E)(r:fe I μ n F a.tmps)(s:dA I μ H w)(o:Oper){x:V}(h:eH E F H o.op=M x):
 ∃v,(execOp a.eval o).run P w=.ok (.value v) w/\bN I μ x v:=by
 have⟨dst,op,ty,pos,after,b⟩:=o;simp only at h
 cases op with
 |load t p=>
  simp only[eH]at h;split at h
  next d D hd C=>have⟨u,c,z,_⟩:=Gb B s hd (dP r C) h;exact⟨u,fQ c,z⟩
  simp at h
 |lookup t m k ok=>have⟨u,c,z⟩:=Rk B r s h;exact⟨u,fQ c,z⟩|_=>simp[eH]at h
def Zi(B:fC P E)(r:fe I μ n F a.tmps)(s:dA I μ H w)(o:Oper){x:V}(h:cQ E F H o.op=M (x,H')):FA P I μ H w (execOp a.eval o) x H':=by
 have⟨dst,op,ty,pos,after,d⟩:=o;simp only at h
 cases op with
 |store t p q=>exact VI B r s h|mapUpdate t m k y=>exact DA B r s h|insert t m k y=>exact DA (t:=t) (m:=m) (k:=k) (y:=y) B r s h|call c=>
  have⟨callee,args,u⟩:=c
  cases callee with
  |builtin b=>cases b with|append=>exact S9 B r s h|clear=>exact VP B r s h|_=>simp[cQ]at h
  |_=>grind[cQ]
 |_=>simp[cQ]at h
end
def xu{xs:So}(h:V.ji xs=O):∀x∈xs,V.closed x=O:=by induction xs with|nil=>simp|cons x r u=>grind[V.ji]
def xx{xs:So}(h:V.c6 xs=O):∀x∈xs,V.scalar x=O:=by induction xs with|nil=>simp|cons x r u=>grind[V.c6]
section
variable{I I':cI}{μ:Mu}{H H':bl}{w:World}
def bN.closed{x:V}{v:V'}(h:bN I μ x v)(d:x.closed=O):fA I x v:=by induction h with|c x v h=>omega|hsl id off len cap p w h1 i=>grind[V.closed]|hsl0 id es off a=>grind[V.closed]|hptr id el off p w=>grind[V.closed]|yld id p w=>grind[V.closed]|hmap id p w=>grind[V.closed]|clo f x y u v J L _ _ z B=>simp[V.closed]at d;exact .clo f x y u v J L (λj a b p q=>z j a b p q (xu d.1 a (s? p))) (λj a b p q=>B j a b p q (xu d.2 a (s? p)))|agg cs C D _ g=>exact .agg cs C D λj a b p q=>g j a b p q (xu d a (s? p))|tup cs C D _ g=>exact .tup cs C D λj a b p q=>g j a b p q (xu d a (s? p))
def fA.scalar{x:V}{v:V'}(h:fA I x v)(B:x.scalar=O):fA I' x v:=by induction h with|bool b=>exact .bool b|int k n=>exact .int k n|str s=>exact .str s|dN a=>exact .dN a|bG=>exact .bG|jg=>exact .jg|ir=>exact .ir|vf=>exact .vf|agg cs u w _ z=>exact .agg cs u w λj a b p q=>z j a b p q (xx B a (s? p))|tup cs u w _ z=>exact .tup cs u w λj a b p q=>z j a b p q (xx B a (s? p))|_=>grind[V.scalar]
def ki{f:V->aY V}:∀{xs ys:So},jw f xs=M ys->W ys=W xs/\∀(j:Nat)y,ys[j]?=M y->∃x,xs[j]?=M x/\f x=M y:=by intro xs;induction xs with|nil=>grind[jw]|cons x xs u=>grind[jw]
def QG{f:V->aY V}:∀{xs ys:S'},nW f xs=M ys->W ys=W xs/\∀(j:Nat)y,ys[j]?=M y->∃x,xs[j]?=M x/\jw f x=M y:=by intro xs;induction xs with|nil=>grind[nW]|cons x xs u=>grind[nW]
def Q2{f:V->aY V}:∀{xs ys:aX (V×V)},nQ f xs=M ys->W ys=W xs/\∀(j:Nat)y,ys[j]?=M y->∃x,xs[j]?=M x/\f x.1=M y.1/\f x.2=M y.2:=by intro xs;induction xs with|nil=>grind[nQ]|cons x xs u=>grind[nQ]
def Obj.ic:Obj->aY IC
 |.cells c _ _=>M (.cells c)|.map es _=>M (.map es)|_=>G
def D1(μ:Mu)(H:bl)(T:ST)(b:Nat):Prop:=∃id p ob,id∈T/\H[id]?=M ob/\ob.live=O/\μ id=M p/\p.b=b
open Classical in
noncomputable def plus(I:cI)(μ:Mu)(H:bl)(w:World)(T:ST):cI:=λb=>
 match I b with
 |some x=>M x|none=>if D1 μ H T b then(w.heap[b]?).bind Obj.ic else G
def qX(I:cI)(μ:Mu)(H:bl)(w:World)(T:ST):cI.le I (plus I μ H w T):=by intro b x h;grind[plus]
theorem wA(s:dA I μ H w)(T:ST):∀b x,plus I μ H w T b=M x->x.at w b:=by
 intro b x h;unfold plus at h;split at h;next y B=>cases h;exact s.imm b _ B
 split at h;have⟨o,z,u⟩:=ζg.1 h;cases o<;>simp[Obj.ic]at u;subst u;exact⟨_,_,z⟩;subst u;exact⟨_,z⟩;grind
theorem BD{T:ST}{b:Nat}(h:(plus I μ H w T b).isSome=O):(I b).isSome=O\/D1 μ H T b:=by grind[plus]
theorem Eb{T:ST}{b:Nat}(h:D1 μ H T b):jm μ H b:=by have⟨id,p,ob,_,h1,u,w,z⟩:=h;exact⟨id,p,ob,h1,u,w,z⟩
def Fh(s:dA I μ H w){T:ST}{id es:Nat}{xs:S'}(B:id∈T)(h:_l (H[id]?) Ob.rows=M (es,xs)):
 ∃p c,μ id=M p/\plus I μ H w T p.b=M (.cells c)/\iA I μ p c es xs:=by
 have⟨ob,a,z⟩:=ζg.1 h;have u:=s.obs id ob a;rcases KF z with rfl|rfl
 .have⟨p,c,el,g1,g2,g3,g4⟩:=u;refine⟨p,c,g1,?_,g4⟩;have C:D1 μ H T p.b:=⟨id,p,_,B,a,Y,g1,Y⟩
  grind[plus,Obj.ic]
 have⟨p,c,g1,g2,g4⟩:=u;exact⟨p,c,g1,qX _ _ _ _ _ _ _ g2,g4⟩
def iA.idx{p:Pl}{c:Array V'}{es:Nat}{xs:S'}(r:iA I μ p c es xs){i j:Nat}{x:So}{y:V}{v:V'}(a:xs[i]?=M x)(B:x[j]?=M y)
 (D:c[p.o+i*es+j]?=M v):bN I μ y v:=by
 have w:=zy r.rI a B;refine r.rel.2 (i*es+j) y v w ?_;have u:=(ζe.1 w).1;rw[gQ r.rI]at u
 grind
def mm{f:V->ST}{xs:So}{x:V}{k:Nat}(B:x∈xs)(a:k∈f x):k∈dy f xs:=by induction xs with|nil=>simp_all|cons y r u=>grind[dy]
theorem kK(n:Nat)(H:bl){x:V}(h:x.closed=O):borrow n H x=M x:=by cases n<;>simp[borrow,h]
theorem xM (s:dA I μ H w) (T:aX Nat):∀(n:Nat) (x y:V) (v:Value),borrow n H x=some y->(∀k∈cE n H x,k∈T)->bN I μ x v ->
 fA (plus I μ H w T) y v/\(x.one=true->y.one=true):=by
 intro n
 induction n with
 | zero=>
  intro x y v h _ hv;simp only[borrow]at h;split at h
  next hc=>simp  at h;subst h;exact⟨(hv.closed hc).mono (qX _ _ _ _ _),id⟩
  grind
 | succ n ih=>
  intro x y v h m hv;simp[borrow]at h;split at h
  next hc=>simp  at h;subst h;exact⟨(hv.closed hc).mono (qX _ _ _ _ _),id⟩
  rename_i al;simp[cE,K' al]at m;split at h
  .
   rename_i id es off len;split at h
   .rename_i B xs J;split at h
    .rename_i hc;obtain⟨rfl,am⟩:=hc;simp only[J]at m;simp  at h;obtain⟨o,hz,rfl⟩:=h;obtain⟨ab,W⟩:=QG hz;refine⟨?_,λ_=>rfl⟩
     have aj:o.length=len:=by grind
     rcases hv.oc with⟨p,cap,hm,hp,ar,hb,rfl⟩|⟨h0,a,rfl⟩
     .obtain⟨p',c,g1,g2,g3⟩:=Fh s  (m id f?) J
      rw[hm]at g1;cases g1;have X:∀i z,o[i]? = some z->∃Q,xs[off+i]? = some Q/\jw (borrow n H) Q=some z:=by
       grind
      have ak:∀i Q,i<len->xs[off+i]? = some Q->∀q∈Q,∀k∈cE n H q,k∈T:=by
       intro i Q hi an q hq k hk;refine m k ?_;refine List.mem_cons_of_mem _ (mm (List.mem_flatten.2 ⟨Q,List.mem_of_getElem? (i:=i) ?_,hq⟩) hk);rw[List.getElem?_take,J0 hi,List.getElem?_drop];exact an
      have au:fA (plus I μ H w T) (.fsl B o) (.slice (some ⟨p.b,p.o+off*B,none⟩) o.length cap):=by
       refine .fsl B o p.b (p.o+off*B) cap c g2 c? ?_ ?_ ?_ ?_
       .intro z af;obtain⟨i,hi⟩:=List.mem_iff_getElem?.1 af;obtain⟨Q,g,Y⟩:=X i z hi;rw[(ki Y).1];exact g3.rI Q (List.mem_of_getElem? g)
       .intro z af q hq;obtain⟨i,hi⟩:=List.mem_iff_getElem?.1 af;obtain⟨Q,g,Y⟩:=X i z hi;obtain⟨j,hj⟩:=List.mem_iff_getElem?.1 hq;obtain⟨L,D,A⟩:=(ki Y).2 j q hj;have ad:=List.mem_of_getElem? g;have ae:=List.mem_of_getElem? D;have ao:=g3.room;have aw:=g3.rI Q ad;have ax:=(ζe.1 D).1;have ap:=(ζe.1 g).1;have av:(off+i)*B+B<=xs.length*B:=by
         have:=Nat.mul_le_mul_right B (ap)
         grind
        have aq  := by omega
        have aa:=g3.idx g D (v:=c[p.o+(off+i)*B+j]) (by simp[aq])
        exact(ih L q _ A (ak i Q (by have:=(ζe.1 hi).1;omega) g L ae) aa).2 (g3.one Q ad L ae)
       .have h1:=(g3.span am).2
        grind
       intro i j z q u hi hj hu;obtain⟨Q,g,Y⟩:=X i z hi;obtain⟨L,D,A⟩:=(ki Y).2 j q hj;have aa:=g3.idx g D (v:=u) g?
       exact(ih L q u A (ak i Q (by have:=(ζe.1 hi).1;omega) g L (List.mem_of_getElem? D)) aa).1
      grind
     subst h0;have  := List.eq_nil_of_length_eq_zero aj;subst this;exact .fsl0 B _ _
    grind
   grind
  .
   rename_i id el off;split at h
   .rename_i B xs J;split at h
    .rename_i cs ah;split at h
     .simp only[J]at m;simp  at h;obtain⟨o,hz,rfl⟩:=h;obtain⟨ab,W⟩:=ki hz;refine⟨?_,λ_=>rfl⟩
      obtain⟨p,hm,rfl⟩:=hv.wo;obtain⟨p',c,g1,g2,g3⟩:=Fh s  (m id f?) J
      rw[hm]at g1;cases g1;obtain⟨k1,k2,k3⟩:=g3.elem ah;rw[g3.es_eq];refine .fptr o p.b _ c g2 ?_ ?_
      .rw[ab,List.length_drop];omega
      intro j q u hj hu;obtain⟨L,D,A⟩:=W j q hj;rw[List.getElem?_drop]at D;have aa:=g3.idx ah D  (by rw[<-Nat.add_assoc];exact hu)
      refine(ih L q u A (λk hk=>m k ?_) aa).1
      exact List.mem_cons_of_mem _ (mm (List.mem_of_getElem? (i:=j) (by rw[ah,Option.getD_some,List.getElem?_drop];exact D)) hk)
     simp at h
    simp at h
   simp at h
  .
   rename_i id;split at h
   .rename_i ay ai;simp  at h;obtain⟨o,hz,rfl⟩:=h;simp only[ai]at m;obtain⟨ab,W⟩:=Q2 hz;refine⟨?_,λ_=>rfl⟩
    obtain⟨p,hm,rfl⟩:=hv.E9;obtain⟨p',es,cl,g1,g2,g3,g4⟩:=s.obs id _ ai;rw[hm]at g1;cases g1;have ht:D1 μ H T p.b:=⟨id,p,_,m id f?,ai,rfl,hm,rfl⟩
    have hI:plus I μ H w T p.b=some (.map es):=by
     grind[plus,Obj.ic]
    refine .fmap o p.b es hI (by rw[ab];exact g4.1) ?_ ?_
    .intro j q e hj he;obtain⟨L,h1,h2,h3⟩:=W j q hj;refine(ih L.1 q.1 e.key h2 (λk hk=>m k ?_) (g4.2 j L e h1 he).1).1
     exact List.mem_cons_of_mem _ (List.mem_append.2 (.inl (mm (List.mem_map.2 ⟨L,List.mem_of_getElem? h1,rfl⟩) hk)))
    intro j q e hj he;obtain⟨L,h1,h2,h3⟩:=W j q hj;refine(ih L.2 q.2 e.val h3 (λk hk=>m k ?_) (g4.2 j L e h1 he).2).1
    exact List.mem_cons_of_mem _ (List.mem_append.2 (.inr (mm (List.mem_map.2 ⟨L,List.mem_of_getElem? h1,rfl⟩) hk)))
   simp at h
  .rename_i f p q;split at h
   .rename_i p' q' hp hq;simp  at h;subst h;obtain⟨u1,u2,rfl,r1,r2⟩:=hv.l_;obtain⟨l1,m1⟩:=ki hp;obtain⟨l2,m2⟩:=ki hq;refine⟨.clo f p' q' u1 u2 (by rw[l1];simpa using r1.1) (by rw[l2];simpa using r2.1) ?_ ?_,λ_=>rfl⟩
    .intro j a b ha hb;obtain⟨a0,C,S⟩:=m1 j a ha;exact(ih a0 a b S (λk hk=>m k (List.mem_append.2 (.inl (mm (List.mem_of_getElem? C) hk)))) (r1.2 j a0 b C g?)).1
    intro j a b ha hb;obtain⟨a0,C,S⟩:=m2 j a ha;exact(ih a0 a b S (λk hk=>m k (List.mem_append.2 (.inr (mm (List.mem_of_getElem? C) hk)))) (r2.2 j a0 b C g?)).1
   simp at h
  .rename_i cs;simp  at h;obtain⟨o,hz,rfl⟩:=h;obtain⟨l1,m1⟩:=ki hz;obtain⟨u1,rfl,r1⟩:=hv.jP;refine⟨.agg o u1 (by rw[l1];simpa using r1.1) ?_,λh=>by grind[V.one]⟩
   intro j a b ha hb;obtain⟨a0,C,S⟩:=m1 j a ha;exact(ih a0 a b S (λk hk=>m k (mm (List.mem_of_getElem? C) hk)) (r1.2 j a0 b C g?)).1
  .rename_i cs;simp  at h;obtain⟨o,hz,rfl⟩:=h;obtain⟨l1,m1⟩:=ki hz;obtain⟨u1,rfl,r1⟩:=hv.tc;refine⟨.tup o u1 (by rw[l1];simpa using r1.1) ?_,λh=>by grind[V.one]⟩
   intro j a b ha hb;obtain⟨a0,C,S⟩:=m1 j a ha;exact(ih a0 a b S (λk hk=>m k (mm (List.mem_of_getElem? C) hk)) (r1.2 j a0 b C g?)).1
  grind
end
def fr(ro:aY Nat):Fence:={fn:=λ_=>True,depth:=G,alive:=U,round:=ro}
def AX(I:cI)(μ:Mu)(H:bl)(w:World)(r:V)(H':bl):Ending->World->Prop:=λe w'=>∃u I' μ',e=.returned u/\bN I' μ' r u/\dA I' μ' H' w'/\Step I μ H w I' μ' H' w'
def Bw(P:Program)(f:Y'):Prop:=∃fn,P.funcs[f]?=M fn/\fn.body.isSome=O/\(fn.name== "runtime.NumGoroutine")=U
structure mV(P:Program)(call:d_):Prop where
 fn:∀f args H r H',call (.fn f) args H=some (r,H')->Bw P f/\∀I μ w vs,dA I μ H w->cW I μ args vs->CallsIn (fr none) 0 P f vs.toArray w (AX I μ H w r H')
 yld:∀id args H r H',call (.yld id) args H=some (r,H')->∀I μ w vs p,dA I μ H w->cW I μ args vs->μ id=some p->
  ∃l f tmps assign body,(Instr.yield p.b vs.toArray).run P w=.ok (.round l f tmps assign body) w/\RoundIn (fr none) 0 P l f tmps assign body w (AX I μ H w r H')
def vD:Ob->Ob
 |.row es xs=>.frz es xs|.map _=>.dead|o=>o
theorem JU(H:bl)(k id:Nat):(xX H k)[id]?=(H[id]?).map λob=>if id=k then vD ob else ob:=by
 unfold xX;by_cases e:id=k;subst e;cases h:H[id]?with|none=>simp[h]|some ob=>have u:=(ζe.1 h).1;cases ob<;>simp[vD,u]<;>exact(ζe.1 h).2
 grind
theorem Nb(o:Ob):vD (vD o)=vD o:=by cases o<;>rfl
theorem jO:∀(T:ST)(H:bl)(id:Nat),(c9 H T)[id]?=(H[id]?).map λob=>if id∈T then vD ob else ob:=by intro T;induction T with|nil=>simp[c9]|cons k T u=>intro H id;have:=u (xX H k) id;grind[c9,JU,Nb]
theorem nL(T:ST)(H:bl):W (c9 H T)=W H:=by induction T generalizing H with|nil=>rfl|cons k T u=>simp[c9]at u⊢;rw[u];grind[xX]
section
variable{P:Program}{I I':cI}{μ μ':Mu}{H H':bl}{w w':World}
def dA.kept(s:dA I μ H w)(a:∀b,b<w.heap.size->w'.heap[b]?=w.heap[b]?):dA I μ H w' where
 dom:=s.dom
 imm:=λb x h=>IC.uV (s.imm b x h) (a b (s.Ms h))
 obs:=λid ob h=>(s.obs id ob h).mono (cI.le_refl _) (Mu.le_refl _) (λp u z=>by
  have C:jm μ H p.b:=⟨id,p,ob,h,z,u,Y⟩
  grind[pR,gZ]) (λB=>by subst B;exact s.obs id _ h)
 inj:=s.inj
 gl:=s.gl
theorem uk(μ:Mu)(b:Nat):¬jm μ [] b:=by rintro⟨id,p,ob,h,_⟩;simp_all
def FT{call:d_}(M:mV P call){f:Y'}{args:So}{y:V}(h:cu call f args H=_h y)(s:dA I μ H w){vs:aX V'}(n:cW I μ args vs):
 Bw P f/\CallsIn (fr G) 0 P f vs.toArray w (AX I μ H w y (if y.scalar then H else c9 H (dy (cE call.lv H) args))):=by
 unfold cu at h;split at h
 .rename_i az has;split at h
  .rename_i r H1 S;split at h
   .rename_i y' hy;split at h
    .rename_i aa;simp at h;subst h;generalize N:dy (cE call.lv H) args=T;obtain⟨R,D⟩:=ki has;have s0:dA (plus I μ H w T) (λ_=>G) [] w:=⟨λ_ _=>rfl,wA s T,f?,f?,s.gl.mono (qX I μ H w T)⟩
     have c__:cW (plus I μ H w T) (λ_=>G) az vs:=by refine⟨R.trans n.1,λj a b d z=>?_⟩;obtain⟨x,Y,af⟩:=D j a d;refine .c _ _ (xM s T call.lv x a b af (λk o=>?_) (n.2 j x b Y z)).1;rw[<-N];exact mm (s? Y) o
     obtain⟨hf,L⟩:=M.fn f az [] r H1 S;refine⟨hf,(L _ _ w vs s0 c__).mono ?_⟩;rintro e w' ⟨u,I1,t,rfl,hr,v,st⟩;have B:=λb D=>st.frame b D (uk _ _)
     generalize ak:cE call.lv H1 r=T1;have A:=(xM v T1 call.lv r y' u hy (λk o=>g?) hr).1
     cases ah:y'.scalar with
     |true=>exact⟨u,I,μ,rfl,.c _ _ (A.scalar ah),s.kept B,⟨cI.le_refl _,Mu.le_refl _,z? _,st.size,λb D _=>B b D,λ_ h=>h.elim .inl λh=>.inr (.inl h),st.os,st.out,st.fz⟩⟩|false=>
      simp only[v?,M']
      let I2:=plus I1 t H1 w' T1
      have a__:cI.le I I2:=cI.le_trans (qX I μ H w T) (cI.le_trans st.le (qX _ _ _ _ _));have W:∀b,(I2 b).isSome=O->(I b).isSome=O\/D1 μ H T b\/w.heap.size<=b:=by intro b D;have d:(I1 b).isSome=O\/jm t H1 b:=(by rcases BD D with h|h;all_goals grind[Eb]);rcases st.terr b d with h|h|h;all_goals grind[BD,uk]
      have X:∀id ob p,H[id]?=_h ob->ob.live=O->id∉T->μ id=_h p->I2 p.b=G:=by intro id ob p d z h3 h4;cases E:I2 p.b with|none=>rfl|some x=>have F:jm μ H p.b:=⟨id,p,ob,d,z,h4,rfl⟩;rcases W p.b g? with h|⟨b__,p',ai,g0,g1,g2,g3,g4⟩|h;rw[gZ s F]at h;cases h;have:=s.inj b__ id ai ob p' p g1 d g2 z g3 h4 g4;simp_all;have:=pR s F;omega
      have Q:∀id x,(c9 H T)[id]?=_h x->∃ob,H[id]?=_h ob/\x=(if id∈T then vD ob else ob):=by grind[jO]
      have C:∀id x,(c9 H T)[id]?=_h x->x.live=O->H[id]?=_h x/\(id∉T\/∃r,x=.loop r):=by intro id x Y g;obtain⟨ob,d,z⟩:=Q id x Y;by_cases d__:id∈T;rw[J0 d__]at z;cases ob<;>simp[vD]at z<;>subst z<;>simp[Ob.live]at g;grind;grind
      refine⟨u,I2,μ,rfl,.c _ _ A,⟨?_,?_,?_,?_,s.gl.mono a__⟩,⟨a__,Mu.le_refl _,by rw[nL];grind,st.size,λb D _=>B b D,?_,st.os,st.out,st.fz⟩⟩
      .intro id h;rw[nL]at h;exact s.dom id h
      .grind[wA]
      .intro id x Y;obtain⟨ob,d,z⟩:=Q id x Y;have J:=s.obs id ob d
       by_cases d__:id∈T
       .rw[J0 d__]at z
        cases ob with
        |row es xs=>
         subst z;obtain⟨p,c,g1,g2,g3⟩:=Fh s d__ (by rw[d];rfl)
         exact⟨p,c,g1,qX _ _ _ _ _ _ _ (st.le _ _ g2),g3.mono a__ (Mu.le_refl _)⟩
        |frz es xs=>subst z;exact J.mono a__ (Mu.le_refl _) (λp _ g=>by grind[Ob.live]) (λi=>by cases i)|map al=>subst z;trivial|free=>simp[vD]at z;subst z;exact J|dead=>subst z;trivial|loop r=>
         simp[vD]at z;subst z;obtain⟨p,l,g1,g2,g3,g4⟩:=J;refine⟨p,l,g1,?_,?_,g4.mono a__ (Mu.le_refl _)⟩
         .
          cases E:I2 p.b with
          |none=>rfl|some x=>
           have K:=wA v T1 p.b x E;have aj:=(Array.getElem?_eq_some_iff.1 g3).1;have m:=B p.b aj;rw[g3]at m
           cases x with
           |cells c=>obtain⟨_,_,q⟩:=K;rw[m]at q;cases q|map es=>obtain⟨_,q⟩:=K;rw[m]at q;cases q
         grind
       rw[K' d__]at z;subst z;refine J.mono a__ (Mu.le_refl _) (λp hp g=>⟨B _ (pR s ⟨id,p,x,d,g,hp,rfl⟩),X id x p d g d__ hp⟩) (λi=>by subst i;exact J)
      .intro id b__ o1 o2 p p' d z l1 l2 m1 m2 D;exact s.inj id b__ o1 o2 p p' (C id o1 d l1).1 (C b__ o2 z l2).1 l1 l2 m1 m2 D
      intro b D;rcases D with h|⟨id,p,x,d,z,h3,rfl⟩
      .grind[Eb]
      exact .inr (.inl ⟨id,p,x,(C id x d z).1,z,h3,rfl⟩)
    grind
   grind
  grind
 grind
def bN.scalar{x:V}{v:V'}(h:bN I μ x v)(B:x.scalar=O):bN I' μ' x v:=by
 have key:∀(l:So)(u:aX V'),(∀x∈l,∀v,bN I μ x v->x.scalar=O->bN I' μ' x v)->V.c6 l=O->(∀(j:Nat)a b,l[j]?=M a->u[j]?=M b->bN I μ a b)->
  ∀(j:Nat)a b,l[j]?=M a->u[j]?=M b->bN I' μ' a b:=by
  intro l
  induction l with
  |nil=>grind|cons x l z=>
   intro u f J L j a b C D;simp only[V.c6,ζh]at J
   cases j with
   |zero=>grind|succ j=>
    cases u with
    |nil=>simp at D|cons v u=>exact z u (λy w=>f y (C? _ w)) J.2 (λj a b p q=>L (j+1) a b g? g?) j a b g? g?
 have d:∀(k:Nat)(x:V)(v:V'),SizeOf.sizeOf x<k->bN I μ x v->x.scalar=O->bN I' μ' x v:=by intro k;induction k with|zero=>grind|succ k z=>intro x v g h B;cases h with|c _ _ h=>exact .c _ _ (h.scalar B)|agg cs u i h=>refine .agg cs u i (λj a b C D=>key cs u.toList (λy w v e B=>z y v ?_ e B) B (λj a b p q=>h j a b p (by simpa using q)) j a b C g?);have:=List.sizeOf_lt_of_mem w;grind|tup cs u i h=>refine .tup cs u i (λj a b C D=>key cs u.toList (λy w v e B=>z y v ?_ e B) B (λj a b p q=>h j a b p (by simpa using q)) j a b C g?);have:=List.sizeOf_lt_of_mem w;grind|_=>grind[V.scalar]
 exact d (SizeOf.sizeOf x+1) x v c? h B
def dA.Qj(s:dA I μ H w){ob:Ob}{p:Pl}(T:ob≠.free)(b:I p.b=G)(J:¬jm μ H p.b)(j:vR I (μ.ij (W H) p) w (W H) ob):
 dA I (μ.ij (W H) p) (H++[ob]) w:=by
 have a:=s.dom _ (z? _);have u:∀id x,(H++[ob])[id]?=M x->(id≠W H/\H[id]?=M x)\/(id=W H/\x=ob):=by grind
 refine⟨?_,s.imm,?_,?_,s.gl⟩
 .intro id h;simp at h;rw[Mu.jR _ _ c?];exact s.dom id c?
 .intro id x h;rcases u id x h with⟨e,h⟩|⟨rfl,rfl⟩
  .refine(s.obs id x h).mono (cI.le_refl _) (Mu.tU a) (λq Q S=>?_) (λo=>by subst o;rw[Mu.jR _ _ e];exact s.obs id _ h)
   exact⟨Y,gZ s ⟨id,q,x,h,S,Q,Y⟩⟩
  grind
 intro id z o1 o2 q g h1 X L i B C D;rcases u id o1 h1 with⟨e1,k1⟩|⟨a1,m⟩<;>rcases u z o2 X with⟨e2,k2⟩|⟨y,c⟩
 .rw[Mu.jR _ _ e1]at B;rw[Mu.jR _ _ e2]at C;exact s.inj id z o1 o2 q g k1 k2 L i B C D
 .subst y;rw[Mu.jR _ _ e1]at B;rw[Mu.iy]at C;cases C;exact _c ⟨id,q,o1,k1,L,B,D⟩ J
 .subst a1;rw[Mu.jR _ _ e2]at C;rw[Mu.iy]at B;cases B;exact _c ⟨z,g,o2,k2,i,C,D.symm⟩ J
 grind
theorem aba{call:d_}(hc:mV P call){f:Y'}{args:So}{y:V}(h:oq call f args H=M (y,H'))(s:dA I μ H w){vs:aX V'}(F:cW I μ args vs):
 Bw P f/\CallsIn (fr G) 0 P f vs.toArray w (AX I μ H w y H'):=by
 unfold oq at h;split at h
 .rename_i az has;split at h
  .rename_i r H1 L;generalize hT:dy (cE call.lv H) args=T;have⟨W,D⟩:=ki has;have s0:dA (plus I μ H w T) (λ_=>G) [] w:=⟨λ_ _=>rfl,wA s T,f?,f?,s.gl.mono (qX I μ H w T)⟩
   have c__:cW (plus I μ H w T) (λ_=>G) az vs:=by refine⟨W.trans F.1,λj a b d m=>?_⟩;have⟨x,d__,aa⟩:=D j a d;refine .c _ _ (xM s T call.lv x a b aa (λk hk=>?_) (F.2 j x b d__ m)).1;rw[<-hT];exact mm (s? d__) hk
   have⟨hf,b__⟩:=hc.fn f az [] r H1 L;refine⟨hf,(b__ _ _ w vs s0 c__).mono ?_⟩;rintro e w' ⟨u,I1,μ1,rfl,n,s1,st⟩;have z:∀b,b<w.heap.size->w'.heap[b]?=w.heap[b]?:=λb D=>st.frame b D (uk _ _)
   have K:dA I μ H w':=s.kept z;have ab:Step I μ H w I μ H w':=⟨cI.le_refl _,Mu.le_refl _,z? _,st.size,λb D _=>z b D,λ_ h=>h.elim .inl λh=>.inr (.inl h),st.os,st.out,st.fz⟩
   split at h
   next ae=>simp only[ζa,ζc]at h;obtain⟨rfl,rfl⟩:=h;exact⟨u,I,μ,_i,n.scalar ae,K,ab⟩

   have key:∀(id es off len:Nat)(v:V)(ob:Ob)(u:V'),vP (_j H) H1 id es off len=M (v,ob)->bN I1 μ1 (.hsl id es off len) u->
    ∃p,bN I (μ.ij (_j H) p) v u/\dA I (μ.ij (_j H) p) (H++[ob]) w'/\Step I μ H w I (μ.ij (_j H) p) (H++[ob]) w':=by
    intro id es off len v ob u B hu;unfold vP at B;split at B
    .rename_i X xs J;split at B
     .rename_i Q;obtain⟨rfl,am⟩:=Q;obtain⟨rfl,rfl⟩:=B;have⟨p,c,el,g1,g2,g3,g4⟩:=s1.obs id _ J;have an:w.heap.size<=p.b:=by
       rcases st.terr p.b (.inr ⟨id,p,_,J,rfl,g1,rfl⟩)with h|h|h
       .have⟨x,d__⟩:=isSome_iff_exists.1 h;have:=st.le _ _ d__
        grind
       all_goals grind[uk]
      have a__:I p.b=G:=by cases d__:I p.b with|none=>rfl|some x=>have:=s.Ms d__;omega
      have hn:¬jm μ H p.b:=λho=>by have:=pR s ho;omega
      have af:iA I (μ.ij (_j H) p) p c X xs:=by refine⟨g4.es_eq,g4.sz,g4.rI,g4.one,g4.room,g4.rel.1,λj a b B D=>(g4.rel.2 j a b B D).scalar ?_⟩;have g:=s? B;rw[m8]at g;grind
      have sa:=K.Qj (ob:=.row X xs) f? a__ hn ⟨p,c,el,Mu.iy _ _ _,a__,g3,af⟩
      refine⟨p,?_,sa,⟨cI.le_refl _,Mu.tU (s.dom _ (z? _)),f?,st.size,λb D _=>z b D,?_,st.os,st.out,st.fz⟩⟩
      .rcases hu.oc with⟨p',o,g,ah,ai,aj,t⟩|⟨h0,ad,t⟩
       .rw[g1]at g;cases g;rw[t];subst ah;exact .hsl _ off len o p (Mu.iy _ _ _) ai aj
       rw[t,h0];exact .hsl0 _ _ _ _
      rintro b (h|⟨k,q,x,d,m,N,rfl⟩)
      .exact .inl h
      by_cases e:k=(_j H)
      .grind[Mu.iy]
      rw[Mu.jR _ _ e]at N;have ak:k<_j H:=by have:=(ζe.1 d).1;grind
      rw[List.getElem?_append_left ak]at d;exact .inr (.inl ⟨k,q,x,d,m,N,_i⟩)
     grind
    grind
   split at h
   next id es off len _=>simp only[ζf]at h;obtain⟨⟨v,ob⟩,B,rfl,rfl⟩:=h;have⟨p,k1,k2,k3⟩:=key id es off len v ob u B n;exact⟨u,I,_,_i,k1,k2,k3⟩
   .rename_i id es off len h? _;split at h
    .rename_i S;simp only[ζf,ζc]at h;obtain⟨⟨v,ob⟩,B,rfl,rfl⟩:=h;obtain⟨A,rfl,C⟩:=n.tc;have Y:0<_j A.toList:=by have:=C.1;grind
     obtain⟨i,E,e__⟩:∃i E,A.toList=i::E:=by cases hl:A.toList with|nil=>rw[hl]at Y;simp at Y|cons a b=>grind
     rw[e__]at C;have⟨p,k1,k2,k3⟩:=key id es off len v ob i B (C.2 0 _ _ _i _i);refine⟨_,I,_,_i,.tup _ _ ?_ ?_,k2,k3⟩
     .have:=C.1;grind
     intro j a b R D;have al:(i::E)[j]?=M b:=by rw[<-e__];grind
     cases j with
     |zero=>grind|succ j=>
      simp at R al;refine(C.2 (j+1) a b g? g?).scalar ?_
      have:∀(l:So),V.c6 l=O->∀x∈l,x.scalar=O:=by intro l;induction l with|nil=>grind|cons y l ih=>simp_all[V.c6]
      exact this h? S a (s? R)
    simp at h
   grind
  grind
 grind
def abu{E:Env}{call:d_}(a:mV P call){f:Y'}{args:So}{y:V}(h:h_ E call f args H=M (y,H'))(s:dA I μ H w){vs:aX V'}(b:cW I μ args vs):
 Bw P f/\CallsIn (fr G) 0 P f vs.toArray w (AX I μ H w y H'):=by
 unfold h_ at h;split at h
 .grind[aba]
 have⟨k1,k2⟩:=a.fn f args H y H' h
 grind
end
def Ob.mp:Ob->aY (aX (V×V))
 |.map B=>M B|_=>G
def o8(H H2:bl):Prop:=∀id:Nat,_l (H[id]?) Ob.rows=_l (H2[id]?) Ob.rows/\_l (H[id]?) Ob.mp=_l (H2[id]?) Ob.mp
def o8.refl(H:bl):o8 H H:=λ_=>⟨Y,Y⟩
def o8.symm{H H2:bl}(h:o8 H H2):o8 H2 H:=λid=>⟨(h id).1.symm,(h id).2.symm⟩
def o8.trans{H H2 B:bl}(h:o8 H H2)(k:o8 H2 B):o8 H B:=λid=>⟨(h id).1.trans (k id).1,(h id).2.trans (k id).2⟩
theorem o8.of_eq{H H2:bl}(h:H=H2):o8 H H2:=by subst h;exact .refl _
theorem Nk{H H2:bl}(h:o8 H H2):∀n,borrow n H=borrow n H2:=by
 intro n
 induction n with
 |zero=>funext x;rfl|succ n u=>
  funext x
  cases x with
  |hsl id es off len=>simp only[borrow,(h id).1,u]|hptr id el off=>simp only[borrow,(h id).1,u]|hmap id=>have:=(h id).2;simp only[borrow,u];split;rfl;cases a:H[id]?with|none=>grind[Ob.mp]|some o=>cases w:H2[id]?with|none=>rw[a,w]at this;all_goals grind[Ob.mp]|some o2=>rw[a,w]at this;cases o<;>cases o2<;>simp[Ob.mp]at this<;>first|rfl|grind
  |_=>simp only[borrow,u]
theorem PA{H H2:bl}(h:o8 H H2):∀n,cE n H=cE n H2:=by
 intro n
 induction n with
 |zero=>funext x;rfl|succ n u=>
  funext x
  cases x with
  |hsl id es off len=>simp only[cE,(h id).1,u]|hptr id el off=>simp only[cE,(h id).1,u]|hmap id=>have:=(h id).2;simp only[cE,u];split;rfl;cases a:H[id]?with|none=>grind[Ob.mp]|some o=>cases w:H2[id]?with|none=>rw[a,w]at this;all_goals grind[Ob.mp]|some o2=>rw[a,w]at this;cases o<;>cases o2<;>simp[Ob.mp]at this<;>first|rfl|grind
  |_=>simp only[cE,u]
theorem Co{H H2:bl}(h:o8 H H2)(call:d_)(f:Y')(args:So):cu call f args H=cu call f args H2:=by grind[cu,borrows,Nk]
def ME{H H2:bl}(h:o8 H H2)(p:V)(n:Nat):fD H p n=fD H2 p n:=by cases p with|hptr id el off=>simp only[fD,(h id).1]|_=>rfl
def Ph{H H2:bl}(h:o8 H H2)(p:V):oE H p=oE H2 p:=by
 cases p with
 |hmap id=>have:=(h id).2;simp only[oE];cases a:H[id]?with|none=>grind[Ob.mp]|some o=>cases u:H2[id]?with|none=>rw[a,u]at this;all_goals grind[Ob.mp]|some o2=>rw[a,u]at this;cases o<;>cases o2<;>simp[Ob.mp]at this<;>first|rfl|grind
 |_=>rfl
theorem Ce{E:Env}{F:WP}{H H2:bl}(h:o8 H H2)(op:Op):eH E F H op=eH E F H2 op:=by cases op<;>simp only[eH,ME h,Ph h]
theorem yB{H H2:bl}(h:o8 H H2)(T:ST):j8 H T=j8 H2 T:=by unfold j8;congr 1;funext id;rw[(h id).1]
def Cu{H:bl}{T:ST}(h:j8 H T=O){id:Nat}(hi:id∈T):∃es xs,H[id]?=M (.row es xs)\/H[id]?=M (.frz es xs):=by unfold j8 at h;rw[M?]at h;have:=h id hi;cases a:H[id]?with|none=>rw[a]at this;simp at this|some o=>rw[a]at this;cases o<;>simp[Ob.rows]at this<;>exact⟨_,_,by first|exact .inl Y|exact .inr Y⟩
def Aa{H:bl}{b id:Nat}:(H.take b)[id]?=if id<b then H[id]?else G:=by rw[I?]
def tQ{H:bl}{T:ST}{b:Nat}(h:j8 (H.take b) T=O):o8 (c9 H T) H:=by intro id;rw[jO];by_cases hi:id∈T;have⟨es,w,u⟩:=Cu h hi;rw[Aa]at u;grind[vD,Ob.rows,Ob.mp];grind
def o8.take{H H2:bl}(h:o8 H H2)(b:Nat):o8 (H.take b) (H2.take b):=by intro id;rw[Aa,Aa];by_cases u:id<b;rw[J0 u,J0 u];exact h id;grind
def C3{H:bl}{T:ST}{b:Nat}(h:j8 (H.take b) T=O){id:Nat}(hi:id∈T):id<b:=by have⟨es,w,u⟩:=Cu h hi;rw[Aa]at u;grind
def Ga{H:bl}{T:ST}{k:Nat}{ob:Ob}(h:k∉T):c9 (H.set k ob) T=(c9 H T).set k ob:=by apply List.ext_getElem?;intro i;rw[jO];by_cases e:i=k;grind[nL];simp_all[Ne.symm,jO]
def M7(H:bl)(T B:ST):c9 (c9 H T) B=c9 (c9 H B) T:=by apply List.ext_getElem?;grind[jO]
def QA{H:bl}{b:Nat}:∀(n:Nat)(x:V),(∀id∈cE n (H.take b) x,id<b)->cE n H x=cE n (H.take b) x:=by intro n;induction n with|zero=>intro x _;rfl|succ n z=>have u:∀l:So,(∀id∈dy (cE n (H.take b)) l,id<b)->dy (cE n H) l=dy (cE n (H.take b)) l:=(by intro l;induction l with|nil=>intro _;rfl|cons x r w=>grind[dy]);intro x h;simp only[cE]at h⊢;split;all_goals grind
def wV{H:bl}{b n:Nat}:∀(l:So),(∀id∈dy (cE n (H.take b)) l,id<b)->dy (cE n H) l=dy (cE n (H.take b)) l
 |[],_=>rfl|x::r,h=>by simp only[dy,M!]at h⊢;rw[QA n x λid hi=>h id (.inl hi),wV r λid hi=>h id (.inr hi)]
def JM{H:bl}{b id es:Nat}{xs:S'}(h:_l ((H.take b)[id]?) Ob.rows=M (es,xs)):_l (H[id]?) Ob.rows=M (es,xs):=by grind
theorem Mr{H:bl}{b:Nat}{p:V}{n:Nat}{cs:So}(h:fD (H.take b) p n=M cs):fD H p n=M cs:=by unfold fD at h⊢;grind
theorem Qp{H:bl}{b:Nat}{m:V}{B:aX (V×V)}(h:oE (H.take b) m=M B):oE H m=M B:=by unfold oE at h⊢;grind
def Cg{E:Env}{F:WP}{H:bl}{b:Nat}{op:Op}{x:V}(h:eH E F (H.take b) op=M x):eH E F H op=M x:=by cases op with|load t a=>grind[eH,ζg,Mr]|lookup t m k ok=>grind[eH,Qp]|_=>simp[eH]at h
theorem vQ{f g:V->aY V}(B:∀x y,f x=M y->g x=M y):∀{xs ys:So},jw f xs=M ys->jw g xs=M ys:=by intro xs;induction xs with|nil=>intro ys h;exact h|cons x xs u=>grind[jw]
theorem NB{f g:V->aY V}(B:∀x y,f x=M y->g x=M y):∀{xs ys:S'},nW f xs=M ys->nW g xs=M ys:=by intro xs;induction xs with|nil=>intro ys h;exact h|cons x xs u=>grind[nW,vQ]
theorem NK{f g:V->aY V}(B:∀x y,f x=M y->g x=M y):∀{xs ys:aX (V×V)},nQ f xs=M ys->nQ g xs=M ys:=by intro xs;induction xs with|nil=>intro ys h;exact h|cons x xs u=>grind[nQ]
theorem Ew{H:bl}{b:Nat}:∀(n:Nat)(x y:V),borrow n (H.take b) x=M y->borrow n H x=M y:=by intro n;induction n with|zero=>intro x y h;exact h|succ n z=>intro x y h;simp[borrow]at h⊢;split at h;grind;rename_i c;rw[K' c];split at h;split at h;rename_i a;simp only[JM a];split at h;rename_i u;rw[J0 u];grind[ζf,NB];grind;grind;split at h;rename_i a;simp[JM a];split at h;split at h;rename_i w;rw[J0 w];grind[ζf,vQ];grind;grind;grind;all_goals grind[ζf,NK,vQ]
theorem sn{call:d_}{f:Y'}{args:So}{H:bl}{b:Nat}{y:V}(h:cu call f args (H.take b)=M y):cu call f args H=M y:=by grind[cu,borrows,vQ,Ew]
theorem Dj(n:Nat)(H:bl){x:V}(h:x.closed=O):cE n H x=[]:=by cases n with|zero=>rfl|succ n=>simp[cE,h]
def J6(n:Nat)(H:bl){xs:So}(h:V.ji xs=O):dy (cE n H) xs=[]:=by induction xs with|nil=>rfl|cons x r u=>grind[V.ji,dy,Dj]
section
variable{P:Program}{E:Env}{I I':cI}{μ μ':Mu}{H H':bl}{n:Nat}{F:WP}{a:Act}{w w':World}
def As{f:Y'}(h:Bw P f)(args:Array V'):(callFunc f args).run P w=.ok (.enter f args) w:=by have⟨fn,a,B,u⟩:=h;unfold callFunc;have z:fn.body.isNone=U:=o?;simp only[A?,run_program,x?,a,u,z,v?,M',N?]
theorem Gg{o:Oper}{ro:aY Nat}{K:Act->World->Prop}{Q:Exit->Act->World->Prop}{f:Y'}{args:Array V'}{r:V}
 (B:CallsIn (fr G) 0 P f args w (AX I μ H w r H'))(D:∀u I' μ' w',bN I' μ' r u->dA I' μ' H' w'->Step I μ H w I' μ' H' w'->K (a.put o.dst u) w'):
 o.uponIn (fr ro) 0 P a K Q (.ok (.enter f args) w):=by
 refine⟨λh=>by grind[fr],?_⟩
 have z:=B;refine z.mono ?_;rintro e w' ⟨u,I',μ',rfl,b,z,C⟩
 grind
def JY{x:V}(h:x.scalar=O){I:cI}{μ:Mu}{v:V'}(r:bN I μ x v):fA I x v:=by induction r with|c x v B=>omega|agg cs u w _ z=>exact .agg cs u w λj a b p q=>z j a b p q (xx h a (s? p))|tup cs u w _ z=>exact .tup cs u w λj a b p q=>z j a b p q (xx h a (s? p))|_=>grind[V.scalar]
theorem Yl (hE:fC P E) (r:fe I μ n F a.tmps) (s:dA I μ H w) (o:Oper) {x:V} (h:rC E F o.op=some x) :
 ∃u I' w',(execOp a.eval o).run P w=.ok (.value u) w'/\bN I' μ x u/\dA I' μ H w'/\Step I μ H w I' μ H w':=by
 unfold rC at h;split at h
 rotate_left
 .cases h
 rename_i es C B n Y;split at h
 rotate_left
 .cases h
 rename_i hc;obtain⟨rfl,rfl,N⟩:=hc;obtain⟨obj,p,u,h1,W⟩:=EX hE r s o Y;have aa:=W.len _ _ rfl;obtain⟨⟨q,c,el,g1,g2,g3,g4⟩,gv⟩:=W.rel _ (s.dom _ (Nat.le_refl _));rw[Mu.iy]at g1;cases g1;have m:=W.b;have Q:obj=.cells c el:=by
  rw[m,mW]at g3;cases g3;rfl
 subst Q
 let I':cI:=λb=>if b=w.heap.size then some (.cells c)else I b
 have D:cI.le I I':=λb y L=>by
  grind
 have g:I' p.b=some (.cells c):=by grind
 have ab:∀y∈C,∀z∈y,z.scalar=true:=λy L z hz=>List.all_eq_true.1 (List.all_eq_true.1 N y L) z hz
 have hw:∀b,b<w.heap.size->(w.alloc (.cells c el)).heap[b]? = w.heap[b]? := λb S=>mq _ b S
 have af:∀b,b<w.heap.size->I' b=I b:=λb S=>by grind
 refine⟨u,I',_,h1,?_,⟨s.dom,?_,?_,s.inj,s.gl.mono D⟩,⟨D,Mu.le_refl _,Nat.le_refl _,by simp,λb S _=>hw b S,?_,rfl,⟨rfl,rfl,Nat.le_refl _⟩,λa S=>Rx W.nf a⟩⟩
 .refine .c _ _ ?_;have ah:∀cap,C.length<=cap->p.o+(0+cap)*B<=p.sz->u=.slice (some ⟨p.b,p.o+0*B,none⟩) C.length cap->fA I' x u:=by
   rintro cap k1 k2 rfl;rw[Nat.zero_mul,Nat.add_zero];have hf:fA I' (.fsl B C) (.slice (some ⟨p.b,p.o,none⟩) C.length cap):=.fsl B C p.b p.o cap c g k1 g4.rI g4.one g4.room λi j y z v m1 m2 m3=>
    fA.mono D (JY (ab y (List.mem_of_getElem? m1) z (List.mem_of_getElem? m2)) (g4.idx m1 m2 m3))
   split at h
   .split at h
    .rename_i X;split at h
     rotate_left
     .cases h
     rename_i T;simp only[ζa]at h;subst h;simp only[List.isEmpty_iff,bne_iff_ne,ne_eq]at X T;subst X;have:cap=0:=by
      simp only[List.length_nil,Nat.zero_mul]at aa;rcases Nat.eq_zero_or_pos cap with k|k
      .exact k
      have:=Nat.mul_pos k (Nat.pos_of_ne_zero T);rw[Nat.zero_add]at k2;omega
     subst this;exact .dN _
    grind
   grind
  have hp:p.es=B:=g4.es_eq;change bN I _ (.hsl H.length B 0 C.length) u at gv;generalize ad:C.length=ln at gv
  cases gv with
  | c _ _ ae=>cases ae
  | hsl id off len cap p' hm k1 k2=>
   rw[Mu.iy]at hm;grind
  | hsl0 id es off a=>
   have X:C=[]:=List.length_eq_zero_iff.1 ad;subst X;split at h
   .split at h
    .split at h
     .simp only[ζa]at h;subst h;exact .dN _
     cases h
    grind
   simp only[ζa]at h;subst h;exact .fsl0 _ _ _
 .intro b y L
  by_cases e:b=w.heap.size
  .subst e;have:y=.cells c:=by have:=g;rw[m]at this;rw[this]at L;cases L;rfl
   subst this;exact⟨el,_,mW _⟩
  have A:I b=some y:=by have:(if b=w.heap.size then some (IC.cells c)else I b)=some y:=L;rw[K' e]at this;exact this
  exact IC.uV (s.imm b y A) (hw b (IC.yI (s.imm b y A)))
 .intro id ob J;refine(s.obs id ob J).mono D (Mu.le_refl _) (λq hq hl=>?_) (λe=>by subst e;exact s.obs id _ J)
  have ho:jm μ H q.b:=⟨id,q,ob,J,hl,hq,rfl⟩;have ai:=pR s ho
  grind[gZ]
 grind
def IL:∀{ys:S'}{l:SW},nM ys=M l->ys.flatten=l.map (V.int .u8)/\W l=W ys
 |[],l,h=>by cases h;grind|x::r,l,h=>by unfold nM at h;split at h;grind;rename_i n B e;cases e;obtain⟨k,a,rfl⟩:=ζf.1 h;have⟨u,w⟩:=IL a;grind;cases h
def Ym(T:fC P E)(r:fe I μ n F a.tmps)(s:dA I μ H w)(o:Oper){x:V}(h:evalConv E F H o.op=M x):∃u,(execOp a.eval o).run P w=.ok (.value u) w/\bN I μ x u:=by
 unfold evalConv at h;split at h;rename_i st a__ y B;split at h;rename_i e v Q hd f;split at h;rename_i S;obtain⟨D,g,b__⟩:=ζg.1 h;obtain⟨l,W,rfl⟩:=ζf.1 b__;obtain⟨X,i⟩:=IL W;have C:∀{t:W'}{k:TK},E.kindOf t=M k->∃d b,E.tt t=M d/\P.underlying t=M b/\oB b=k:=λ{t k}hk=>by unfold Env.kindOf at hk;obtain⟨d,g1,g2⟩:=ζf.1 hk;obtain⟨b,N,J,_⟩:=(T.ty g1).dR;grind
 obtain⟨_,m,_,p1,N⟩:=C Q;obtain⟨_,p,_,p2,J⟩:=C hd;obtain⟨_,A,_,p3,Y⟩:=C S;rw[kR N]at p1;rw[CW J]at p2;rw[GP Y]at p3;obtain⟨L,c,arr,e1,_,e2,e3,_⟩:=Di s (dP r f) g;have z:arr=(l.map (Value.int .u8)).toArray:=by apply Array.ext';rw[X]at e3;refine List.ext_getElem (by simpa using e3.1.symm) λj g1 g2=>?_;have g3:j<l.length:=g?;have:=e3.2 j (V.int .u8 l[j]) arr.toList[j] (by simp[g3]) (ζd g1);rw[this.gC];simp
 refine⟨.string (lB l),?_,.c _ _ (.str _)⟩;rw[show execOp a.eval o=_ from by unfold execOp;rw[B]];refine fQ ?_;rw[e1];rw[run_convert_bytes_string w st a__ e L D.length c p1 p3 p2];cases L with|none=>have:=e2 w rfl;rw[e1]at this;simp only[q!,N?]at this;cases this;have c__:l=[]:=(by have:=_d Array.size z;grind);subst c__;rfl|some q=>have:=e2 w rfl;rw[e1]at this;simp only[q!,Nat.mul_one]at this;rw[z]at this;exact run_bytesToString w q D.length c l this
 cases h;cases h;cases h
def T6(Y:fC P E){call:d_}(k:mV P call){ops:R0}{place:aY (Nat×Nat)}{o:Oper}{x:V}(h:dn E call ops place F H o.op=M (x,H'))
 (r:fe I μ n F a.tmps)(s:dA I μ H w)(ro:aY Nat){K:Act->World->Prop}{Q:Exit->Act->World->Prop}
 (t:∀u I' μ' w',bN I' μ' x u->dA I' μ' H' w'->Step I μ H w I' μ' H' w'->K (a.put o.dst u) w'):o.wpIn (fr ro) 0 P a w K Q:=by
 refine⟨λ_ _=>trivial,?_⟩
 have aa:∀c,o.op≠.defer c:=by intro c ab;rw[ab]at h;simp[dn,cV,vC,bS]at h;all_goals grind[evalConv]
 show o.uponIn (fr ro) 0 P a K Q ((o.semAt ro a.eval).run P w);rw[Oper.semAt_eq ro a.eval o aa];have ae:∀v,(execOp a.eval o).run P w=.ok (.value v) w->bN I μ x v->H'=H->o.uponIn (fr ro) 0 P a K Q ((execOp a.eval o).run P w):=by intro v e j hH;rw[e,Oper.uponIn_value];subst hH;exact t v I μ w j s (.refl _ _ _ _)
 unfold dn at h;split at h
 .
  simp at h;obtain⟨v,j,rfl,rfl⟩:=h;unfold vC at j;split at j
  .rename_i hp;cases j;have⟨u,d,B⟩:=XK (w:=w) Y r o hp
   grind
  split at j
  .have⟨u,d,B⟩:=Ym Y r s o j
   grind
  cases j
 .
  have hr:eH E F H o.op=M x/\H'=H:=by split at h;simp at h;grind;split at h;split at h;(next v j=>obtain⟨rfl,rfl⟩:=h;exact⟨Cg j,_i⟩);split at h;simp at h;grind;grind;grind
  grind[X9]
 .
  by_cases b__:pW E ops place=O
  .rw[J0 b__]at h
   grind[ζf,Yl,Oper.uponIn_value]
  rw[K' b__]at h;split at h
  .rename_i ob m T;have⟨obj,p,u,d,B⟩:=EX Y r s o T;rw[d,Oper.uponIn_value];have⟨g1,g2⟩:=B.rel _ (s.dom _ (z? _));have⟨s1,s2⟩:=s.push B.b g1 B.nf
   grind
  .rename_i ob m b i T;split at h
   .rename_i J;have⟨obj,p,u,d,B⟩:=EX Y r s o T;rw[d,Oper.uponIn_value];have⟨g1,g2⟩:=B.rel _ (s.obs _ _ J);have⟨s1,s2⟩:=s.fill J B.b g1 B.nf
    grind
   grind
  grind
 .
  have hl:cQ E F H o.op=M (x,H'):=by grind
  have⟨nx,u,w',μ',d,B,e__,A,R⟩:=(Zi Y r s o hl).run;rw[d];rcases B with rfl|⟨rfl,rfl⟩
  .exact t u I μ' w' e__ A R
  exact t _ I μ' w' e__ A R

 have z:∀c args,lP F o.op=M (c,args)->∃c__:aX V',cW I μ args c__/\
  (∀f,c=.fn f->Bw P f->(execOp a.eval o).run P w=.ok (.enter f c__.toArray) w)/\
  (∀id,c=.yld id->∃p,μ id=M p/\(execOp a.eval o).run P w=(Instr.yield p.b c__.toArray).run P w):=by
  intro c args C;have⟨dst,op,ty,pos,after,a__⟩:=o
  cases op with
  |call cl=>
   have⟨callee,L,ai⟩:=cl
   cases callee with
   |value f=>
    simp only[lP]at C;split at C
    .rename_i g p q c__ hf d__;obtain⟨rfl,rfl⟩:=C;have⟨u,v,ef,hu,j⟩:=(dP r hf).l_;have D:=qu r d__;refine⟨u.toList++L.toList.map a.eval++v.toList,(hu.append D).append j,?_,f?⟩
     simp_all[execOp,resolve,Deferred.ofValue,invoke,As]
    .rename_i id c__ hf d__;simp at C;obtain⟨rfl,rfl⟩:=C;have⟨p,N,ef⟩:=(dP r hf).YI;have D:=qu r d__;refine⟨L.toList.map a.eval,D,f?,?_⟩
     intro aj X;cases X;refine⟨p,N,?_⟩;simp[execOp,resolve,A?];rw[ef];simp[Deferred.ofValue,N?,x?,invoke]
     congr 1
     congr 1
     grind
    grind
   |_=>grind[lP]
  |_=>simp[lP]at C
 have S:∀f args y,lP F o.op=M (.fn f,args)->cu call f args H=M y->x=y->H'=(if y.scalar then H else c9 H (dy (cE call.lv H) args))->
  o.uponIn (fr ro) 0 P a K Q ((execOp a.eval o).run P w):=by
  intro f args y d B e__ A;have⟨c__,g1,g2,_⟩:=z _ _ d;have⟨k1,k2⟩:=FT k B s g1;rw[g2 f _i k1]
  grind[Gg]
 have af:∀f args,lP F o.op=M (.fn f,args)->h_ E call f args H=M (x,H')->o.uponIn (fr ro) 0 P a K Q ((execOp a.eval o).run P w):=by intro f args d B;have⟨c__,g1,g2,_⟩:=z _ _ d;have⟨k1,k2⟩:=abu k B s g1;rw[g2 f _i k1];grind[Gg]
 have ah:∀id args,lP F o.op=M (.yld id,args)->call (.yld id) args H=M (x,H')->o.uponIn (fr ro) 0 P a K Q ((execOp a.eval o).run P w):=by intro id args d B;have⟨c__,g1,_,g3⟩:=z _ _ d;have⟨p,N,e⟩:=g3 id _i;have⟨l,f,tmps,assign,body,k1,k2⟩:=k.yld id args H x H' B I μ w c__ p s g1 N;rw[e,k1,Oper.uponIn_round];refine⟨λh=>by grind[fr],?_⟩;have B:=k2;refine B.mono ?_;rintro e w' ⟨u,I',μ',rfl,d,B,e__⟩;grind
 split at h
 .rename_i f args C;split at h
  rotate_left
  .cases h
  unfold eP at h;split at h
  .grind
  split at h
  .grind
  split at h
  .rename_i y hy;split at h
   next W=>simp at h;refine S f args y C (sn hy) h.1.symm ?_;rw[<-h.2,J0 W]
   rename_i W;split at h
   next ad=>simp at h;refine S f args y C (sn hy) h.1.symm ?_;rw[<-h.2,K' W,wV _ λid hi=>C3 ad hi]
   simp at h
  grind
 all_goals grind
end
structure mb(B:Nat)(ds:List Deferred)(w:World):Prop where
 all:∀d∈ds,∃r,d.target=.collected r/\B<=r/\w.heap[r]?=some (.deferred (some []))
 apart:ds.Pairwise λd d'=>∀r,d.target=.collected r->d'.target≠.collected r
section
variable{P:Program}{E:Env}{I I' I'':cI}{μ μ' μ'':Mu}{H H' H'':bl}{n B:Nat}{F F':WP}{a:Act}{w w' w'':World}
def xN(s:dA I μ H w){r:Nat}{c:aY (aX Deferred)}(h:w.heap[r]?=M (.deferred c)):¬jm μ H r:=by rintro⟨id,p,ob,h1,D,z,rfl⟩;have:=s.obs id ob h1;cases ob with|row es g=>have⟨q,c,el,u,_,B,_⟩:=this;rw[z]at u;grind|map C=>have⟨q,c,el,u,_,B,_⟩:=this;rw[z]at u;grind|loop x=>have⟨q,c,u,_,B,_⟩:=this;rw[z]at u;grind|_=>grind[Ob.live]
def mb.step{ds:aX Deferred}(h:mb B ds w)(s:dA I μ H w)(st:Step I μ H w I' μ' H' w'):mb B ds w' where
 all:=by intro d hd;have⟨r,a,z,u⟩:=h.all d hd;refine⟨r,a,z,?_⟩;rw[st.frame r (Array.getElem?_eq_some_iff.1 u).1 (xN s u)];exact u
 apart:=h.apart
def SR(r:fe I μ n F a.tmps)(ops:Array Oper)(o:Oper):gV ops.toList F o=Region.wanted o (yielded ops a.tmps):=by
 unfold gV Region.wanted;cases i:o.guard with|none=>rfl|some g=>
  have⟨j,b⟩:=g;simp only;unfold yielded;have e:ops.toList[j]?=ops[j]?:=f?;rw[e];cases hd:_l (ops[j]?) (·.dst)with|none=>simp|some d=>
   simp only[ζb];have f:=r.2 d;by_cases w:d<a.tmps.size
   .have u:a.tmps[d]?=M a.tmps[d]:=(by simp[w]);have z:a.tmps.getD d undef=a.tmps[d]:=(by simp[w]);rw[z]at f;rw[u];cases B:get F d with|bool c=>rw[B]at f;rw[f.uO];all_goals grind|_=>cases h:a.tmps[d]with|bool c=>rw[h]at f;have:=f.of_bool;rw[B]at this;cases this|_=>rfl
   have u:a.tmps[d]?=G:=Array.getElem?_eq_none (Nat.le_of_not_lt w);have z:a.tmps.getD d undef=undef:=by simp[w]
   rw[z]at f;rw[u];cases B:get F d with|bool c=>rw[B]at f;have:=f.uO;grind[undef]|_=>rfl
def F8(T:fC P E){call:d_}(b:mV P call){ops:Array Oper}{place:aY (Nat×Nat)}{o:Oper}(h:iI E call n ops.toList place o F H=M (F',H'))
 (r:fe I μ n F a.tmps)(s:dA I μ H w)(ro:aY Nat){K:Act->World->Prop}{Q:Exit->Act->World->Prop}
 (J:∀a' I' μ' w',fe I' μ' n F' a'.tmps->a'.defers=a.defers->dA I' μ' H' w'->Step I μ H w I' μ' H' w'->K a' w'):
 if Region.wanted o (yielded ops a.tmps)then o.wpIn (fr ro) 0 P a w K Q else(∀f,o.about P w a.eval=M f->(fr ro).fn f)/\K (a.put o.dst undef) w:=by
 unfold iI at h;rw[<-SR r];have z:∀v,(a.put o.dst v).defers=a.defers:=λv=>by cases o.dst<;>rfl
 split at h
 .rename_i C;rw[J0 C];split at h
  .rename_i x H2 D;simp only[ζf,ζc]at h;obtain⟨L,g,rfl,rfl⟩:=h;refine T6 T b D r s ro (λu I' μ' w' i S B=>?_)
   exact J _ I' μ' w' ((r.mono B.le B.mu).put i g) (z u) S B
  simp at h
 rename_i C;rw[K' C];simp only[ζf,ζc]at h;obtain⟨L,g,rfl,rfl⟩:=h;exact⟨λ_ _=>trivial,J _ I μ w (r.put (.undef I μ) g) (z _) s (.refl _ _ _ _)⟩
def R3(D:fC P E){call:d_}(b:mV P call){ops:Array Oper}(ro:aY Nat){Q:Exit->Act->World->Prop}:∀(h?:R0)(k:Nat)(I:cI)(μ:Mu)(F:WP)(H:bl)(a:Act)(w:World),
 (∀j,h?[j]?=ops[k+j]?)->ov E call n ops.toList h? F H=M (F',H')->fe I μ n F a.tmps->dA I μ H w->
 (∀a' I' μ' w',fe I' μ' n F' a'.tmps->a'.defers=a.defers->dA I' μ' H' w'->Step I μ H w I' μ' H' w'->Q .normal a' w')->
 wpOpsIn (fr ro) 0 P ops Q (List.range' k (W h?)) a w:=by
 intro h?
 induction h? with
 |nil=>intro k I μ F H a w _ h r s B;simp only[ov,ζa,ζc]at h;obtain⟨rfl,rfl⟩:=h;exact B a I μ w r Y s (.refl _ _ _ _)|cons o h? C=>
  intro k I μ F H a w u h r s B;simp only[ov]at h;split at h
  .rename_i F1 H1 z;have g:ops[k]?=M o:=by simpa using(u 0).symm
   simp only[List.length_cons,List.range'_succ,wpOpsIn,g];refine F8 D b z r s ro (λa' I' μ' w' c hd J L=>?_)
   refine C (k+1) I' μ' F1 H1 a' w' (λj=>by have:=u (j+1);grind) h c J ?_
   grind[Step.trans]
  simp at h
end
def qn(F F':WP)(op:Op):Prop:=∀x∈op.operands,ev F x=ev F' x
def vc{F F':WP}:∀{l:aX UV},(∀x∈l,ev F x=ev F' x)->gm F l=gm F' l:=by intro l;induction l with|nil=>intro _;rfl|cons x l u=>grind[gm]
def Cp{F F':WP}:∀{l:aX (Nat×UV)},(∀x∈l,ev F x.2=ev F' x.2)->oy F l=oy F' l:=by intro l;induction l with|nil=>intro _;rfl|cons x l u=>grind[oy]
def AE{F F':WP}{o:aY UV}(h:∀x∈o.toArray,ev F x=ev F' x):lS F o=lS F' o:=by cases o with|none=>rfl|some x=>grind[lS]
def HR{E:Env}{F F':WP}{op:Op}(h:qn F F' op):bS E F op=bS E F' op:=by
 cases op with
 |move x=>exact h x (by simp[F?])|assign x=>exact h x (by simp[F?])|pick c a b=>simp[bS];rw[h c (by simp[F?]),h a (by simp[F?]),h b (by simp[F?])]|nilCheck x=>simp[bS];rw[h x (by simp[F?])]|binOp op t x y B=>simp[bS];rw[h x (by simp[F?]),h y (by simp[F?])]|unOp op t x=>simp[bS];rw[h x (by simp[F?])]|convert s d x=>simp[bS];rw[h x (by simp[F?])]|fieldAddr s x f=>simp[bS];rw[h x (by simp[F?])]|field s x f=>simp[bS];rw[h x (by simp[F?])]|indexAddr t x i=>simp[bS];rw[h x (by simp[F?]),h i (by simp[F?])]|index t x i=>simp[bS];rw[h x (by simp[F?]),h i (by simp[F?])]|slice t x lo hi C=>
  simp[bS];rw[h x (by simp[F?]),AE (λy w=>h y (by grind[F?])),AE (λy w=>h y (by grind[F?])),
   AE (λy w=>h y (by grind[F?]))]
 |build t ps=>simp[bS];rw[Cp (λx u=>h x.2 (by grind[F?]))]|makeFunc f a b=>cases f with|func f=>simp[bS];rw[vc (λx u=>h x (by grind[F?])),vc (λx u=>h x (by grind[F?]))]|_=>rfl
 |extract x i=>simp[bS];rw[h x (by simp[F?])]|call c=>have⟨callee,args,z⟩:=c;cases callee with|builtin b=>simp[bS];rw[vc (λx u=>h x (by grind[F?,Call.operands]))]|_=>rfl
 |_=>rfl
def Bm{E:Env}{F F':WP}{H:bl}{op:Op}(h:qn F F' op):eH E F H op=eH E F' H op:=by cases op with|load t x=>simp[eH];rw[h x (by simp[F?])]|lookup t m k ok=>simp[eH];rw[h m (by simp[F?]),h k (by simp[F?])]|_=>rfl
theorem Ak{E:Env}{F F':WP}{op:Op}(h:qn F F' op):fP E F op=fP E F' op:=by cases op with|alloc t=>rfl|box t x=>simp[fP];rw[h x (by simp[F?])]|makeSlice t l c=>simp[fP];rw[h l (by simp[F?]),h c (by simp[F?])]|buildSlice t len ps=>simp[fP];rw[Cp (λx u=>h x.2 (by grind[F?]))]|makeMap t r=>cases r<;>rfl|_=>rfl
def HG{E:Env}{F F':WP}{H:bl}{op:Op}(h:qn F F' op):cQ E F H op=cQ E F' H op:=by
 cases op with
 |store t p x=>simp[cQ];rw[h p (by simp[F?]),h x (by simp[F?])]|mapUpdate t m k x=>simp[cQ];rw[h m (by simp[F?]),h k (by simp[F?]),h x (by simp[F?])]|insert t m k x=>simp[cQ];rw[h m (by simp[F?]),h k (by simp[F?]),h x (by simp[F?])]|call c=>
  have⟨callee,args,u⟩:=c
  cases callee with
  |builtin b=>cases b with|append=>simp[cQ];rw[vc (λx w=>h x (by grind[F?,Call.operands]))]|clear=>simp[cQ];rw[vc (λx w=>h x (by grind[F?,Call.operands]))]|_=>rfl
  |_=>rfl
 |_=>rfl
def HB{F F':WP}{op:Op}(h:qn F F' op):lP F op=lP F' op:=by
 cases op with
 |call c=>have⟨callee,args,u⟩:=c;cases callee with|value f=>simp[lP];rw[h f (by simp[F?,Call.operands]),vc (λx w=>h x (by grind[F?,Call.operands]))]|_=>rfl
 |_=>rfl
def No{E:Env}{F F':WP}{op:Op}(h:qn F F' op):rC E F op=rC E F' op:=by grind[rC,Ak]
def QZ{F F':WP}{ops:R0}{i b:Nat}{H:bl}{op:Op}(h:qn F F' op):Ds ops i b F H op=Ds ops i b F' H op:=by
 have:sF F op=sF F' op:=by
  unfold sF;split;rename_i args _;split;rename_i x r u;rw[h x (by
   have:x∈args.toList:=by rw[u];simp
   grind[F?,Call.operands])]
  rfl;rfl
 grind[Ds]
def Nx{E:Env}{place:aY (Nat×Nat)}{F F':WP}{H:bl}{op:Op}(h:qn F F' op):vC E F H place op=vC E F' H place op:=by
 unfold vC;rw[HR h];have:evalConv E F H op=evalConv E F' H op:=by unfold evalConv;split;rw[h _ (by simp[F?])];rfl
 rw[this]
def Hp{E:Env}{b:Nat×Nat}{F:WP}{H:bl}{op:Op}:vC E F H (M b) op=bS E F op:=by grind[vC]
def Hl{E:Env}{call:d_}{ops:R0}{place:aY (Nat×Nat)}{F F':WP}{H:bl}{op:Op}(h:qn F F' op)(B:∀b i,place=M (b,i)->sL ops i F=sL ops i F'/\uH ops b i F=uH ops b i F'/\p_ ops i F op=p_ ops i F' op):dn E call ops place F H op=dn E call ops place F' H op:=by
 unfold dn;rw[Nx h,Ak h,HG h,HB h,Bm (H:=H) h,No h];split<;>(try rfl)
 .split<;>(try rfl);rename_i i;rw[Bm h,(B _ i Y).2.2]
 split<;>(try rfl);rename_i b i;rw[(B _ i Y).1,(B _ i Y).2.1,QZ h]
section
variable{E:Env}{call:d_}{n:Nat}{ops:R0}{j?:Nat}
theorem Qh {o:Oper} {t:Nat} (h:.tmp t∈o.op.operands):t∈tmpsOf o ops:=by
 refine List.mem_append.2 (.inl (List.mem_filterMap.2 ⟨.tmp t,by grind,rfl⟩))
def IJ{F F':WP}{o:Oper}{dst:aY Nat}{v:V}(hp:lQ n F dst v=M F')(h:∀d,dst=M d->d∉tmpsOf o ops):qn F' F o.op:=by
 intro x u
 cases x with
 |tmp t=>cases dst with|none=>grind[lQ]|some d=>simp only[lQ]at hp;split at hp;simp at hp;subst hp;have w:d≠t:=λe=>h d Y (by rw[e];exact Qh u);grind[ev,kG];grind
 |const v=>rfl|func f=>rfl|global g=>rfl
def Ed{F F':WP}{o:Oper}{dst:aY Nat}{v:V}(hp:lQ n F dst v=M F')(h:∀d,dst=M d->d∉tmpsOf o ops):gV ops F' o=gV ops F o:=by unfold gV;cases a:o.guard with|none=>rfl|some g=>have⟨j,b⟩:=g;simp only;cases hd:_l (ops[j]?) (·.dst)with|none=>rfl|some t=>simp only;cases dst with|none=>grind[lQ]|some d=>simp only[lQ]at hp;split at hp;simp at hp;subst hp;have u:d≠t:=λe=>h d Y (by grind[tmpsOf]);rw[kG _ _ u];grind
def Sq{F F1 J:WP}{d D:aY Nat}{u v:V}(a:lQ n F d u=M F1)(g:lQ n F1 D v=M J)(T:∀x,d=M x->D≠M x):
 ∃B,lQ n F D v=M B/\lQ n B d u=M J:=by
 cases d with
 |none=>simp_all[lQ]|some x=>
  cases D with
  |none=>simp_all[lQ]|some y=>simp_all[lQ,Mi]
def NC{i k:Nat}{B ok:Oper}(h:eo ops i=O)(hi:ops[i]?=M B)(a:ops[k]?=M ok)(D:k≠i):cV ok.op=.pure\/(if k<i then before ops i k else before ops k i)=O\/(isApp B.op=O/\cV ok.op=.alloc/\i<k):=by grind[eo]
theorem Jb{H:bl}{j es:Nat}{ob:Ob}{x:V}{xs:S'}(B:H[j]?=M .free)(h:dX H es x=M xs):dX (H.set j ob) es x=M xs:=by unfold dX at h⊢;all_goals grind[Ob.rows]
def T_{H H1:bl}{j:Nat}{ob:Ob}{x:V}(h:iE H x=M H1):W H1=W H/\(H1[j]?=M .free->H[j]?=M .free)/\(H[j]?=M .free->iE (H.set j ob) x=M (H1.set j ob)):=by unfold iE at h⊢;split at h;grind;grind;rename_i id a b c;split at h;rename_i d;cases h;refine⟨f?,λh=>?_,λh=>?_⟩;grind;have e:id≠j:=λe=>g?;rw[E? (Ne.symm e),d];rw[I0 _ _ e];simp_all;simp_all
def V_{H:bl}{o:Ob}{j:Nat}(B:o≠.free)(h:(H++[o])[j]?=M .free):j<W H/\H[j]?=M .free:=by grind
def ZC{F:WP}{H H1:bl}{op:Op}{v:V}{j:Nat}{ob:Ob}(B:isApp op=O)(h:cQ E F H op=M (v,H1))(D:H1[j]?=M .free):H[j]?=M .free/\cQ E F (H.set j ob) op=M (v,H1.set j ob):=by unfold isApp at B;split at B;simp only[cQ]at h⊢;split at h;split at h;rename_i e _ u w;split at h;rename_i d hd;split at h;simp_all[Jb];rename_i L i C Q S;split at h;obtain⟨H0,a,g⟩:=ζf.1 h;obtain⟨rfl,rfl⟩:=g;obtain⟨I,z⟩:=V_ f? D;obtain⟨g1,g2,g3⟩:=T_ (ob:=ob) a;have J:=g2 z;grind[Jb];simp_all;simp_all;simp_all;rename_i e _ u w;split at h;rename_i d hd;unfold mkApp at h;split at h;split at h;simp_all[mkApp];split at h;obtain⟨rfl,rfl⟩:=h;grind[mkApp];simp_all;simp_all;simp_all;simp_all;simp_all;simp_all
def w8{i:Nat}{F:WP}{H H':bl}{op:Op}{v:V}(h:dn E call ops (M (j?,i)) F H op=M (v,H'))(o:eo ops i=U)(B:cV op≠.loud):
 (H'=H/\∀H2:bl,o8 (H2.take j?) (H.take j?)->dn E call ops (M (j?,i)) F H2 op=M (v,H2))\/
 (∃ob,H[j?+i]?=M .free/\H'=H.set (j?+i) ob/\∀H2:bl,H2[j?+i]?=M .free->dn E call ops (M (j?,i)) F H2 op=M (v,H2.set (j?+i) ob))\/
 (∃T,j8 (H.take j?) T=O/\H'=c9 H T/\∀H2:bl,o8 (H2.take j?) (H.take j?)->dn E call ops (M (j?,i)) F H2 op=M (v,c9 H2 T)):=by
 unfold dn at h;split at h
 next j=>simp at h;obtain⟨x,L,rfl,rfl⟩:=h;simp_all[Hp,dn]
 .rename_i B;simp only at h;split at h
  .rename_i Q;split at h
   .rename_i x L;obtain⟨rfl,rfl⟩:=h;refine .inl ⟨Y,λH2 D=>?_⟩
    grind[dn,Ce]
   grind
  grind
 .split at h
  .have⟨x,L,e⟩:=ζf.1 h;simp_all[dn]
  split at h
  .grind
  .rename_i ob m A X S g;obtain⟨rfl,rfl⟩:=g;split at h
   .rename_i w;obtain⟨rfl,rfl⟩:=h;refine .inr (.inl ⟨ob,w,Y,λH2 D=>?_⟩)
    grind[dn]
   grind
  grind
 .grind
 rename_i B;split at h
 .rename_i f args z;split at h
  rotate_left
  .cases h
  rename_i C;unfold eP at h;split at h
  .grind
  rename_i u;simp only at h;split at h
  .rename_i y q;split at h
   .rename_i I;obtain⟨rfl,rfl⟩:=h;refine .inl ⟨Y,λH2 D=>?_⟩
    unfold dn eP;rw[B];simp only[z,J0 C];rw[K' u]
    grind[Co]
   split at h
   .rename_i J;obtain⟨rfl,rfl⟩:=h;refine .inr (.inr ⟨_,J,Y,λH2 D=>?_⟩)
    unfold dn eP;rw[B];simp only[z,J0 C];rw[K' u]
    grind[Co,PA,yB]
   grind
  grind
 all_goals grind
def IM{g:X'}{i:Nat}:∀{r l:ST},ET g ops i r=M l->∀k∈r,∃a,J_ g ops i k=M a/\∀s∈a,s∈l
 |[],l,h,k,c=>o?|q::r,l,h,k,c=>by simp[ET]at h;split at h;rename_i a b d B;simp at h;rcases mem_cons.1 c with rfl|c;grind;have⟨a',g1,g2⟩:=IM B k c;exact⟨a',g1,λs u=>g?⟩;grind
theorem KG {g:Bool} {i:Nat}:∀{r l:aX Nat},ET g ops i r=some l->∀s∈l,s∉dstsOf ops
 | [],l,h,s,hs=>by grind[ET]
 | q::r,l,h,s,hs=>by
  simp[ET]at h;split at h
  .rename_i a b h1 B;simp  at h;subst h;rcases List.mem_append.1 hs with hs|hs
   .grind[J_]
   exact KG B s hs
  grind
def sG{g:X'}{i a:Nat}{l:ST}{B:Oper}(hi:ops[i]?=M B)(h:uq g ops i=M (a,l)):(∃t x,B.op=.store t (.tmp a) x)/\a∉dstsOf ops/\(∀s∈l,s∉dstsOf ops)/\
 ∀k ok,ops[k]?=M ok->k≠i->cV ok.op=.pure\/(if k<i then before ops i k else before ops k i)=O\/(∃D a',ok.op=.load D (.tmp a')/\(a'∈l\/a'∈dstsOf ops))\/(g=O/\(cV ok.op=.alloc\/cV ok.op=.call)):=by
 unfold uq at h;rw[hi]at h;simp at h;split at h
 .rename_i t a0 x w;simp at w;split at h
  .simp_all
  have⟨j,z,e⟩:=ζf.1 h;obtain⟨rfl,rfl⟩:=e;refine⟨⟨t,x,w⟩,g?,KG z,λk ok d C=>?_⟩
  have⟨b,c,I⟩:=IM z k (List.mem_range.2 (ζe.1 d).1);unfold J_ at c;rw[d]at c;simp only at c;split at c
  .rename_i u;simp at u;rcases u with(u|u)|u
   .grind
   .grind
   exact .inr (.inl u)
  grind
 grind
def K9{F F':WP}{dst:aY Nat}{v:V}{s:Nat}(hp:lQ n F dst v=M F')(h:∀d,dst=M d->s≠d):get F' s=get F s:=by unfold lQ at hp;split at hp;grind;rename_i d;split at hp;simp at hp;subst hp;simp_all[kG,Ne.symm];grind
def Mq{k d:Nat}{ok:Oper}(a:ops[k]?=M ok)(hd:ok.dst=M d):d∈dstsOf ops:=List.mem_filterMap.2 ⟨ok,s? a,hd⟩
def B_{F F':WP}{k i:Nat}{ok B:Oper}{v:V}(c:ops[k]?=M ok)(hi:ops[i]?=M B)(hp:lQ n F ok.dst v=M F'):sL ops i F'=sL ops i F/\∀b,uH ops b i F'=uH ops b i F:=by
 have f:∀s,s∉dstsOf ops->get F' s=get F s:=λs z=>K9 hp λd hd e=>z (e▸Mq c hd);refine⟨?_,λb=>?_⟩;unfold sL;cases u:uq U ops i with|none=>rfl|some w=>have⟨a,l⟩:=w;have⟨_,C,D,_⟩:=sG hi u;grind
 unfold uH;cases u:uq O ops i with|none=>rfl|some w=>have⟨a,l⟩:=w;have⟨_,C,D,_⟩:=sG hi u;grind
def Tz{i k a a':Nat}{t:W'}{x:UV}{B:Oper}(hi:ops[i]?=M B)(e1:B.op=.store t (.tmp a) x)(b:a'∈dstsOf ops)(D:a∉dstsOf ops)(J:uE ops i k=U):a∈rz ops k a':=by grind[rz]
theorem Hq{k a' s:Nat}(h:s∈rz ops k a'):s∉dstsOf ops/\∃i B t x,ops[i]?=M B/\B.op=.store t (.tmp s) x/\uE ops i k=U:=by grind[rz]
def Jx{F F':WP}{k i:Nat}{ok:Oper}{op:Op}{v:V}(a:ops[k]?=M ok)(hp:lQ n F ok.dst v=M F')(B:qn F' F op):p_ ops i F' op=p_ ops i F op:=by
 have b:∀s,s∉dstsOf ops->get F' s=get F s:=λs h=>K9 hp λd hd e=>h (e▸Mq a hd);unfold p_;split;rename_i t u;have w:=by have:=B (.tmp u) (by simp[F?]);simpa[ev]using this
 rw[w,Bool.eq_iff_iff];grind[Hq];rfl
def FM{k a':Nat}{ok:Oper}{t:W'}(a:ops[k]?=M ok)(e:ok.op=.load t (.tmp a'))(h:eo ops k=O):rz ops k a'=[]:=by refine List.eq_nil_iff_forall_not_mem.2 λs w=>?_;have⟨_,i,B,C,x,b,z,D⟩:=Hq w;have u:i≠k:=λe2=>g?;rcases NC h a b u with g|g|g;rw[z]at g;cases g;all_goals grind[uE,isApp]
def Ay{F:WP}{H H':bl}{t:W'}{a:Nat}{x:UV}{id el off:Nat}{u:V}(B:get F a=.hptr id el off)(h:cQ E F H (.store t (.tmp a) x)=M (u,H')):∃r,H'=H.set id r:=by grind[cQ,ev]
theorem QK{F:WP}{H:bl}{t:W'}{a id b:Nat}{r:Ob}(B:qt id (get F a)=O):eH E F ((H.set id r).take b) (.load t (.tmp a))=eH E F (H.take b) (.load t (.tmp a)):=by
 have:∀m,fD ((H.set id r).take b) (get F a) m=fD (H.take b) (get F a) m:=λm=>by unfold qt at B;grind[fD]
 grind[eH,ev]
theorem Jn {i:Nat} {B:Oper} (hi:ops[i]? = some B) (W:cV B.op=.loud) (Y:eo ops i=false) (T:isApp B.op=false) {F:Frame} {m J:bl} {u:V} (D:dn E call ops (some (j?,i)) F m B.op=some (u,J)) :
 ∃g a l id el off t x,uq g ops i=some (a,l)/\B.op=.store t (.tmp a) x/\get F a=.hptr id el off/\(∀s∈l,qt id (get F s)=true)/\(g=true->id<j?)/\cQ E F m B.op=some (u,J)/\∀H,dn E call ops (some (j?,i)) F H B.op=cQ E F H B.op:=by
 have key:(sL ops i F||uH ops j? i F)=true/\cQ E F m B.op=some (u,J)/\∀H,dn E call ops (some (j?,i)) F H B.op=cQ E F H B.op:=by
  have T:∀F b H,Ds ops i b F H B.op=false:=λF b H=>by grind[Ds]
  have e:∀H,dn E call ops (some (j?,i)) F H B.op=if sL ops i F||uH ops j? i F then cQ E F H B.op else none:=λH=>by
   unfold dn;rw[W];simp only[Y,Bool.false_or,T,Bool.or_false]
  rw[e]at D;split at D
  next hc=>exact⟨hc,D,λH=>by rw[e,J0 hc]⟩
  cases D
 obtain⟨h1,C,j⟩:=key;rcases Bool.or_eq_true_iff.1 h1 with hf|hf
 .unfold sL at hf;split at hf
  .rename_i a l w;split at hf
   next id el off hg=>obtain⟨⟨t,x,z⟩,-⟩:=sG hi w;exact⟨false,a,l,id,el,off,t,x,w,z,hg,λs D=>List.all_eq_true.1 hf s D,λh=>(by cases h),C,j⟩
   cases hf
  cases hf
 unfold uH at hf;split at hf
 .rename_i a l w;split at hf
  next id el off hg=>obtain⟨⟨t,x,z⟩,-⟩:=sG hi w;simp only[ζh,_e]at hf;exact⟨true,a,l,id,el,off,t,x,w,z,hg,λs D=>List.all_eq_true.1 hf.2 s D,λ_=>hf.1,C,j⟩
  cases hf
 cases hf
def K8{g:X'}{k i a a' id el off:Nat}{l:ST}{ok j:Oper}{t o:W'}{x:UV}(d:ops[k]?=M ok)(hi:ops[i]?=M j)(e:(if k<i then before ops i k else before ops k i)=U)(lk:eo ops k=U)
 (J:uq g ops i=M (a,l))(T:j.op=.store t (.tmp a) x){F:WP}(f:get F a=.hptr id el off)(m:∀s∈l,qt id (get F s)=O)(D:ok.op=.load o (.tmp a'))(b:a'∈l\/a'∈dstsOf ops)
 {H0 H1:bl}{v:V}(B:dn E call ops (M (j?,k)) F H0 ok.op=M (v,H1)):
 H1=H0/\(∀(H:bl)(r:Ob),eH E F ((H.set id r).take j?) ok.op=eH E F (H.take j?) ok.op)/\cV ok.op=.read/\eH E F (H0.take j?) ok.op=M v/\p_ ops k F ok.op=O:=by
 obtain⟨-,z,-,-⟩:=sG hi J;unfold dn at B;rw[D]at B;simp only[cV]at B;split at B
 rotate_left
 .simp at B
 rename_i u;have C:qt id (get F a')=O:=by rcases b with b|b;exact m a' b;have w:uE ops i k=U:=(by grind[uE]);have h:=Tz hi T b z w;grind[p_]
 split at B
 next I c=>simp only[ζa,ζc]at B;obtain⟨rfl,rfl⟩:=B;exact⟨Y,λH r=>by rw[D];grind[QK],by rw[D];rfl,by rw[D];exact c,by rw[D];exact u⟩
 grind
def I8{F:WP}{H:bl}{t:W'}{a:Nat}{x:UV}{id el off j:Nat}{ob:Ob}(D:get F a=.hptr id el off)(B:id≠j):cQ E F (H.set j ob) (.store t (.tmp a) x)=(cQ E F H (.store t (.tmp a) x)).map λp=>(p.1,p.2.set j ob):=by
 have b:(H.set j ob)[id]?=H[id]?:=E? (Ne.symm B);have c:∀r,(H.set j ob).set id r=(H.set id r).set j ob:=λr=>I0 _ _ (Ne.symm B);simp only[cQ,ev,D];split
 .rename_i h1 u w;cases u;rw[b];(repeat' split)<;>first|rfl|simp only[c,B?]
 rfl
def EC{i:Nat}{F:WP}{H H':bl}{op:Op}{v:V}(B:cV op=.alloc)(D:pW E ops (M (j?,i))=U)(h:dn E call ops (M (j?,i)) F H op=M (v,H')):
 ∃ob,H[j?+i]?=M .free/\H'=H.set (j?+i) ob/\∀H2:bl,H2[j?+i]?=M .free->dn E call ops (M (j?,i)) F H2 op=M (v,H2.set (j?+i) ob):=by
 unfold dn at h;rw[B]at h;simp only[D,v?,M']at h;split at h
 .grind
 .rename_i ob m g I w z;obtain⟨rfl,rfl⟩:=z;split at h
  .rename_i u;obtain⟨rfl,rfl⟩:=h;refine⟨ob,u,Y,λH2 C=>?_⟩
   unfold dn;rw[B];simp only[D,v?,M',w,C]
  cases h
 cases h
def wF(n:Nat)(H:bl):∀{l:So},V.ji l=O->borrows n H l=M l
 |[],_=>rfl|x::r,h=>by simp only[V.ji,ζh]at h;have:=wF n H h.2;unfold borrows at this⊢;simp only[jw,kK n H h.1,this]
def FO{k i:Nat}{a:Nat}{l:ST}{F:WP}{H H':bl}{op:Op}{v:V}(B:cV op=.call)(lk:eo ops k=U)(D:uq O ops i=M (a,l))(J:i<W ops)(T:uE ops i k=U)(h:dn E call ops (M (j?,k)) F H op=M (v,H')):
 H'=H/\∀H2:bl,dn E call ops (M (j?,k)) F H2 op=M (v,H2):=by
 have z:LM ops k=O:=by unfold LM;rw[List.any_eq_true];exact⟨i,List.mem_range.2 J,by simp[T,D]⟩
 unfold dn at h;rw[B]at h;simp only at h;split at h
 .rename_i f args C;split at h
  .rename_i u;have b:V.ji args=O:=by
    unfold zj at u;simpa[z]using u
   have w:∀H2,cu call f args H2=cu call f args []:=λH2=>by unfold cu;rw[wF _ _ b,wF _ _ b]
   have g:∀n H2,dy (cE n H2) args=[]:=λn H2=>J6 n H2 b
   have e:∀H2,dn E call ops (M (j?,k)) F H2 op=eP E call ops (M (j?,k)) f args H2:=λH2=>by unfold dn;rw[B];simp only[C,J0 u]
   have I:∀H2:bl,c9 H2 []=H2:=λ_=>rfl
   have L:mO E ops (M (j?,k)) f=U:=by cases c:mO E ops (M (j?,k)) f with|false=>rfl|true=>unfold eP at h;rw[J0 c]at h;simp only[lk,v?,M']at h;cases h
   have e2:∀H2,eP E call ops (M (j?,k)) f args H2=(cu call f args []).map λy=>(y,H2):=λH2=>by unfold eP;simp only[L,v?,M',w,g,I,lk];cases cu call f args []with|none=>rfl|some y=>simp[j8]
   rw[e2]at h;have⟨y,j,e3⟩:=ζf.1 h;cases e3;exact⟨Y,λH2=>by rw[e,e2,j];rfl⟩
  cases h
 .simp only[lk,v?,M']at h;cases h
 cases h
def GG{place:Nat×Nat}{F:WP}{H H':bl}{op:Op}{v:V}(B:cV op=.pure\/cV op=.alloc/\pW E ops (M place)=O)(h:dn E call ops (M place) F H op=M (v,H')):
 H'=H/\∀H2:bl,dn E call ops (M place) F H2 op=M (v,H2):=by
 rcases B with B|⟨B,u⟩
 rotate_left
 .unfold dn at h;rw[B]at h;simp only[u]at h;have⟨x,w,e⟩:=ζf.1 h;simp_all[dn]
 unfold dn at h;rw[B]at h;simp at h;obtain⟨x,w,rfl,rfl⟩:=h;simp_all[Hp,dn]
theorem take_set_of_le{H:bl}{b k:Nat}{x:Ob}(h:b<=k):(H.set k x).take b=H.take b:=List.take_set_of_le h
def apart_spec{a b:Oper}(h:A4 ops a b=O):(∀d,a.dst=M d->d∉tmpsOf b ops/\b.dst≠M d)/\(∀d,b.dst=M d->d∉tmpsOf a ops):=by grind[A4]
def FQ{i k:Nat}{ok:Oper}(h:Ab ops i=O)(a:ops[k]?=M ok)(B:k≠i)(D:uE ops i k=U):cV ok.op=.pure\/cV ok.op=.read\/cV ok.op=.alloc/\(DG ops k=O\/i<k):=by grind[Ab]
def Dx{op:Op}(h:isApp op=O):cV op=.loud:=by unfold isApp at h;split at h;rfl;cases h
theorem Mf{F:WP}{H H1:bl}{op:Op}{v:V}{b:Nat}(B:isApp op=O)(D:sF F op=O)(J:b<=W H)(h:cQ E F H op=M (v,H1)):H1.take b=H.take b:=by
 unfold isApp at B;split at B;rotate_left;cases B;rename_i args u;simp only[cQ]at h;split at h;rotate_left;cases h;rename_i t g s x w z;have C:s=.dN\/s=.bG:=by grind[sF,gm]
 have a:∀H2,iE H s=M H2->H2=H:=λH2 h=>by rcases C with rfl|rfl<;>(grind[iE])
 split at h;grind[ζf];split at h;unfold mkApp at h;grind;cases h;cases h
def HM{i:Nat}{F:WP}{H H':bl}{op:Op}{u:V}(D:isApp op=O)(J:eo ops i=U)(hi:(ops[i]?).map Oper.op=M op)(h:dn E call ops (M (j?,i)) F H op=M (u,H')):
 Ab ops i=O/\sF F op=O/\j?<=W H/\cQ E F H op=M (u,H'):=by
 unfold dn at h;rw[Dx D]at h;have w:∀g,uq g ops i=G:=λg=>by unfold uq;rw[hi];grind[isApp]
 have z:sL ops i F=U:=by unfold sL;rw[w]
 have B:uH ops j? i F=U:=by unfold uH;rw[w]
 simp only[J,z,B,Bool.false_or]at h
 grind[Ds]
theorem SP{i:Nat}{F:WP}{H H':bl}{op:Op}{u:V}(B:isApp op=O)(h:cQ E F H op=M (u,H'))(a:eo ops i=O\/Ab ops i=O/\sF F op=O/\j?<=W H):dn E call ops (M (j?,i)) F H op=M (u,H'):=by unfold dn;rw[Dx B];grind[Ds]
def GJ{i:Nat}{F:WP}{H H':bl}{op:Op}{v:V}(B:cV op=.read)(D:eo ops i=U)(h:dn E call ops (M (j?,i)) F H op=M (v,H')):
 H'=H/\∀H2:bl,o8 (H2.take j?) (H.take j?)->dn E call ops (M (j?,i)) F H2 op=M (v,H2):=by
 unfold dn at h;rw[B]at h;simp only at h;split at h
 .rename_i u;split at h
  .rename_i x w;simp only[ζa,ζc]at h;obtain⟨rfl,rfl⟩:=h;refine⟨Y,λH2 z=>?_⟩
   unfold dn;rw[B];simp only[Ce z,w,u,L']
  grind
 simp at h
def swap{k i:Nat}{ok J:Oper}(p:ops[k]?=M ok)(hi:ops[i]?=M J)(ae:k<i)(W:before ops i k=U)(d__:A4 ops ok J=O){F F1 R:WP}{H H1 H2:bl}
 (N:iI E call n ops (M (j?,k)) ok F H=M (F1,H1))(y:iI E call n ops (M (j?,i)) J F1 H1=M (R,H2)):
 ∃B D,iI E call n ops (M (j?,i)) J F H=M (B,D)/\iI E call n ops (M (j?,k)) ok B D=M (R,H2):=by
 obtain⟨a1,a2⟩:=apart_spec d__;have af:∃v,lQ n F ok.dst v=M F1/\((gV ops F ok=O/\dn E call ops (M (j?,k)) F H ok.op=M (v,H1))\/(gV ops F ok=U/\v=.undef/\H1=H)):=by unfold iI at N;split at N;rename_i hw;split at N;rename_i v H' hd;simp only[ζf,ζc]at N;grind;simp at N;rename_i hw;simp only[ζf,ζc]at N;grind
 have ah:∃v,lQ n F1 J.dst v=M R/\((gV ops F1 J=O/\dn E call ops (M (j?,i)) F1 H1 J.op=M (v,H2))\/(gV ops F1 J=U/\v=.undef/\H2=H1)):=by unfold iI at y;split at y;rename_i hw;split at y;rename_i v H' hd;simp only[ζf,ζc]at y;grind;simp at y;rename_i hw;simp only[ζf,ζc]at y;grind
 obtain⟨v,c__,kE⟩:=af;obtain⟨u,ax,an⟩:=ah;have ay:gV ops F1 J=gV ops F J:=Ed c__ λd hd=>(a1 d hd).1
 have ao:qn F1 F J.op:=IJ c__ λd hd=>(a1 d hd).1
 have aA:∀(b j:Nat),(M (j?,i):aY (Nat×Nat))=M (b,j)->sL ops j F1=sL ops j F/\uH ops b j F1=uH ops b j F/\p_ ops j F1 J.op=p_ ops j F J.op:=λb j e=>by cases e;exact⟨(B_ p hi c__).1,(B_ p hi c__).2 _,Jx p c__ ao⟩
 rw[ay,Hl ao aA]at an;obtain⟨B,Q,aB⟩:=Sq c__ ax λx hx=>(a1 x hx).2
 have aC:gV ops B ok=gV ops F ok:=Ed Q λd hd=>a2 d hd
 have ap:qn B F ok.op:=IJ Q λd hd=>a2 d hd
 have aD:∀(b j:Nat),(M (j?,k):aY (Nat×Nat))=M (b,j)->sL ops j B=sL ops j F/\uH ops b j B=uH ops b j F/\p_ ops j B ok.op=p_ ops j F ok.op:=λb j e=>by cases e;exact⟨(B_ hi p Q).1,(B_ hi p Q).2 _,Jx hi Q ap⟩
 have fin:∀D,((gV ops F J=O/\dn E call ops (M (j?,i)) F H J.op=M (u,D))\/(gV ops F J=U/\u=.undef/\D=H))->
  ((gV ops F ok=O/\dn E call ops (M (j?,k)) F D ok.op=M (v,H2))\/(gV ops F ok=U/\v=.undef/\H2=D))->
  ∃B D,iI E call n ops (M (j?,i)) J F H=M (B,D)/\iI E call n ops (M (j?,k)) ok B D=M (R,H2):=by
  intro D e1 e2;refine⟨B,D,?_,?_⟩
  .grind[iI]
  unfold iI;rw[aC];rcases e2 with⟨x1,x2⟩|⟨x1,x2,x3⟩
  .rw[J0 x1,Hl ap aD,x2];simp[aB]
  grind
 rcases kE with⟨b__,s⟩|⟨b__,rfl,rfl⟩
 .rcases an with⟨I,f⟩|⟨I,rfl,rfl⟩
  .by_cases pk:cV ok.op=.pure\/cV ok.op=.alloc/\pW E ops (M (j?,k))=O
   .obtain⟨rfl,q⟩:=GG pk s
    grind
   by_cases pi:cV J.op=.pure\/cV J.op=.alloc/\pW E ops (M (j?,i))=O
   .obtain⟨rfl,q⟩:=GG pi f
    grind
   by_cases d__:isApp ok.op=O/\cV J.op=.alloc
   .
    obtain⟨d__,aE⟩:=d__;have aH:=Dx d__;have aq:(eo ops k=O\/Ab ops k=O/\sF F ok.op=O/\j?<=H.length)/\cQ E F H ok.op=M (v,H1):=by cases hl:eo ops k with|true=>simp_all[dn]|false=>obtain⟨a,b,c,d⟩:=HM d__ hl (by rw[p];rfl) s;grind
    obtain⟨aq,e1⟩:=aq;have V:pW E ops (M (j?,i))=U:=by grind
    have e2:∃ob m,fP E F J.op=M (ob,m)/\H1[j?+i]?=M .free/\u=m.val (j?+i)/\H2=H1.set (j?+i) ob:=by unfold dn at f;rw[aE]at f;grind
    obtain⟨ob,m,aI,ai,rfl,rfl⟩:=e2;obtain⟨f0,P⟩:=ZC (ob:=ob) d__ e1 ai;refine fin (H.set (j?+i) ob) (.inl ⟨I,?_⟩) (.inl ⟨b__,?_⟩)
    .grind[dn]
    grind[SP]
   have lk:eo ops k=U:=by grind[eo]
   have K:eo ops i=U:=by grind[eo]
   by_cases ar:isApp J.op=O
   .obtain⟨g1,g2,g3,g4⟩:=HM ar K (by rw[hi];rfl) f
    rcases FQ g1 p c? (by grind[uE])with h|h|⟨h,y⟩
    .grind
    .obtain⟨rfl,q⟩:=GJ h lk s
     grind[o8.of_eq,Mf]
    rcases y with y|y
    .exact _c (.inr ⟨h,show(DG ops k||Wx E ops k)=O by rw[y];rfl⟩) pk
    omega
   by_cases au:isApp ok.op=O
   .obtain⟨g1,g2,g3,g4⟩:=HM au lk (by rw[p];rfl) s
    rcases FQ g1 hi c? (by grind[uE])with h|h|⟨h,y⟩
    .grind
    .obtain⟨rfl,q⟩:=GJ h K f
     grind[o8.of_eq,Mf]
    grind
   by_cases L:cV J.op=.loud
   .obtain⟨g,a,l,id,el,off,t,x,C,w,hg,S,aj,he,ak⟩:=Jn hi L K (by simpa using ar) f
    obtain⟨r,hr⟩:=Ay hg (by rw[<-w];exact he)
    obtain⟨-,-,-,h4⟩:=sG hi C;rcases h4 k ok p c? with h|h|⟨t',a',al,Y⟩|⟨rfl,h|h⟩
    .exact _c (.inl h) pk
    .rw[J0 ae,W]at h;cases h
    .obtain⟨rfl,q1,q3,q4,q5⟩:=K8 p hi (by rw[J0 ae];exact W) lk C w hg S al Y s
     refine fin H2 (.inl ⟨I,f⟩) (.inl ⟨b__,?_⟩);unfold dn;rw[q3];subst hr;simp only[q1,q4,q5,L']
    .have V:pW E ops (M (j?,k))=U:=by
      cases hc:pW E ops (M (j?,k))with
      |false=>rfl|true=>exact _c (.inr ⟨h,hc⟩) pk
     obtain⟨ob,P,rfl,A⟩:=EC h V s;have aF:=aj rfl;rw[w,I8 hg (show id≠j?+k by omega)]at he
     obtain⟨⟨u',H'⟩,e1,e2⟩:=ζf.1 he;cases e2;obtain⟨r',rfl⟩:=Ay hg e1;exact fin (H.set id r') (.inl ⟨I,by rw[ak,w];exact e1⟩) (.inl ⟨b__,A _ (by rw[E? c?];exact P)⟩)
    obtain⟨rfl,A⟩:=FO h lk C (ζe.1 hi).1 (by unfold uE;rw[J0 ae];exact W) s
    exact fin H2 (.inl ⟨I,f⟩) (.inl ⟨b__,A H2⟩)
   by_cases ad:cV ok.op=.loud
   .obtain⟨g,a,l,id,el,off,t,x,C,w,hg,S,aj,he,ak⟩:=Jn p ad lk (by simpa using au) s
    obtain⟨r,hr⟩:=Ay hg (by rw[<-w];exact he)
    obtain⟨-,-,-,h4⟩:=sG p C;rcases h4 i J hi c? with h|h|⟨t',a',al,Y⟩|⟨rfl,h|h⟩
    .exact _c (.inl h) pi
    .rw[K' c?,W]at h;cases h
    .obtain⟨rfl,q1,q3,q4,q5⟩:=K8 hi p (by rw[K' c?];exact W) K C w hg S al Y f
     refine fin H (.inl ⟨I,?_⟩) (.inl ⟨b__,s⟩);unfold dn;rw[q3];subst hr;rw[q1]at q4;simp only[q4,q5,L']
    .have V:pW E ops (M (j?,i))=U:=by
      cases hc:pW E ops (M (j?,i))with
      |false=>rfl|true=>exact _c (.inr ⟨h,hc⟩) pi
     obtain⟨ob,P,rfl,z⟩:=EC h V f;have aF:=aj rfl;subst hr;rw[E? c?]at P
     refine fin (H.set (j?+i) ob) (.inl ⟨I,z H P⟩) (.inl ⟨b__,?_⟩);rw[ak,w,I8 hg (show id≠j?+i by omega),<-w,he];rfl
    obtain⟨rfl,z⟩:=FO h K C (ζe.1 p).1 (by unfold uE;rw[K' c?];exact W) f
    exact fin H (.inl ⟨I,z H⟩) (.inl ⟨b__,s⟩)
   have tk:∀(X:bl)(k:Nat)(o:Ob),o8 ((X.set (j?+k) o).take j?) (X.take j?):=λX k o=>o8.of_eq (take_set_of_le c?)
   rcases w8 s lk ad with⟨rfl,A⟩|⟨ob,fk,rfl,A⟩|⟨T,tr,rfl,A⟩
   .rcases w8 f K L with⟨rfl,z⟩|⟨am,fi,rfl,z⟩|⟨a__,e__,rfl,z⟩
    .grind
    .grind
    exact fin _ (.inl ⟨I,f⟩) (.inl ⟨b__,A _ ((tQ e__).take j?)⟩)
   .rcases w8 f K L with⟨rfl,z⟩|⟨am,fi,rfl,z⟩|⟨a__,e__,rfl,z⟩
    .refine fin H (.inl ⟨I,z H (tk _ _ _).symm⟩) (.inl ⟨b__,s⟩)
    .grind[I0]
    have aa:j8 (H.take j?) a__=O:=by rw[<-yB (tk H k ob)];exact e__
    have av:j?+k∉a__:=λhm=>_c (C3 aa hm) c?
    refine fin (c9 H a__) (.inl ⟨I,z H (tk _ _ _).symm⟩) (.inl ⟨b__,?_⟩);rw[A _ (by rw[jO,fk];simp[av]),Ga av]
   rcases w8 f K L with⟨rfl,z⟩|⟨am,fi,rfl,z⟩|⟨a__,e__,rfl,z⟩
   .refine fin H (.inl ⟨I,z H ((tQ tr).take j?).symm⟩) (.inl ⟨b__,s⟩)
   .have aw:j?+i∉T:=λhm=>_c (C3 tr hm) c?
    have aG:H[j?+i]?=M .free:=by rw[jO]at fi;obtain⟨o,ho,hf⟩:=ζf.1 fi;rw[K' aw]at hf;rw[ho,hf]
    refine fin (H.set (j?+i) am) (.inl ⟨I,z H aG⟩) (.inl ⟨b__,?_⟩);rw[A _ (tk _ _ _),Ga aw]
   have aa:j8 (H.take j?) a__=O:=by rw[<-yB ((tQ tr).take j?)];exact e__
   refine fin (c9 H a__) (.inl ⟨I,z H ((tQ tr).take j?).symm⟩) (.inl ⟨b__,?_⟩);rw[A _ ((tQ aa).take j?),M7]
  grind
 grind
theorem Na(h:zg ops=O){k i:Nat}{ok B:Oper}(a:ops[k]?=M ok)(hi:ops[i]?=M B)(D:k<i):Ii B k=O\/A4 ops ok B=O:=by unfold zg at h;simp at h;grind
def Uq(hd:zg ops=O){i:Nat}{B:Oper}(hi:ops[i]?=M B):∀(l r:ST),(∀k∈l,k<i/\Ii B k=U/\before ops i k=U)->∀{F F':WP}{H H':bl},
 lR E call n ops j? (l++i::r) F H=M (F',H')->lR E call n ops j? (i::(l++r)) F H=M (F',H'):=by
 intro l
 induction l with
 |nil=>grind|cons k l D=>
  intro r C F F' H H' h;have⟨u,g,w⟩:=C k f?
  simp[lR]at h;split at h
  .rename_i ok hk;split at h
   .rename_i F1 H1 h1;have:=D r (λx I=>C x (C? _ I)) h
    simp[lR,hi]at this;split at this
    .rename_i Q H2 J;have z:A4 ops ok B=O:=by
      grind[Na]
     have⟨L,j,g1,g2⟩:=swap hk hi u w z h1 J
     grind[lR]
    grind
   grind
  grind
inductive Reach(ops:List Oper):Nat->Nat->Prop
 |one(i k:Nat)(o:Oper)(e:Edge)(hi:ops[i]?=some o)(he:e∈o.after)(hb:nE e=true)(hk:e.on=k):Reach ops i k|more(i j k:Nat)(o:Oper)(e:Edge)(hi:ops[i]?=some o)(he:e∈o.after)(hb:nE e=true)(hk:e.on=j)(h:Reach ops j k):Reach ops i k
def FF:∀(B l:ST)(k:Nat),k∈B.foldl (λl k=>if l.contains k then l else k::l) l->k∈B\/k∈l
 |[],_,_,h=>.inr h|x::B,l,k,h=>by rcases FF B _ k h with h|h;all_goals grind
def Pb{a:aX ST}{o:Oper}{k:Nat}(h:k∈KO a o):∃e∈o.after,nE e=O/\(k=e.on\/∃S,a[e.on]?=M S/\k∈S):=by
 have key:∀(es:aX Edge)(l:ST),k∈es.foldl (λl e=>(e.on::(a[e.on]?).getD []).foldl (λl k=>if l.contains k then l else k::l) l) l->k∈l\/∃e∈es,k=e.on\/∃S,a[e.on]?=M S/\k∈S:=by
  intro es;induction es with|nil=>grind|cons e es u=>
   intro l h;rcases u _ h with h|⟨z,b,w⟩
   .rcases FF _ _ _ h with h|h;all_goals grind
   grind
 rcases key _ _ h with h|⟨e,b,w⟩;all_goals grind
def AV(ops:R0):∀(l:R0)(a:aX ST)(pre:R0),ops=pre++l->W a=W pre->(∀(i:Nat)S,a[i]?=M S->∀k∈S,Reach ops i k)->
 ∀(i:Nat)S,(l.foldl (λa o=>a++[KO a o]) a)[i]?=M S->∀k∈S,Reach ops i k
 |[],_,_,_,_,h=>h|o::l,a,pre,D,J,h=>by refine AV ops l _ (pre++[o]) o? o? ?_;intro i S c k b;by_cases hi:i<W a;grind;rw[List.getElem?_append_right c?]at c;have B:i=W a:=(by grind);subst B;simp at c;subst c;have u:ops[W a]?=M o:=g?;have⟨e,w,z,b⟩:=Pb b;rcases b with b|⟨S,c,b⟩;exact .one _ _ o e u w z b.symm;exact .more _ e.on _ o e u w z Y (h _ S c k b)
def MC{i k:Nat}(h:before ops i k=O):Reach ops i k:=by unfold before at h;cases a:(L_ ops)[i]?with|none=>grind|some S=>exact AV ops ops [] [] Y Y f? i S a k g?
end
section
variable{P:Program}{E:Env}{I I':cI}{μ μ':Mu}{H H':bl}{n B:Nat}{F F':WP}{a:Act}{w w':World}
def Jf(e:Edge):Region.binds .any e=nE e:=by unfold Region.binds nE;grind
def todo(ops:Array Oper)(a:Array X'):ST:=(B! ops.size).filter λi=> !a.getD i O
def AB(ops:Array Oper)(a:Array X'):(todo ops a).Pairwise (·<·):=List.pairwise_lt_range.filter _
def Wm{ops:Array Oper}{a:Array X'}{i:Nat}(J:a.size=ops.size)(hi:i<ops.size){B D:ST}(h:todo ops a=B++i::D):
 todo ops (a.setIfInBounds i O)=B++D:=by
 have g:∀j∈B! ops.size,(!(a.setIfInBounds i O).getD j O)=((!a.getD j O)&&(j != i)):=by intro j _;by_cases e:j=i;simp_all;have:(a.setIfInBounds i O).getD j O=a.getD j O:=(by simp[Array.getElem?_setIfInBounds_ne (Ne.symm e)]);grind
 have:todo ops (a.setIfInBounds i O)=(todo ops a).filter (· != i):=by unfold todo;rw[List.filter_filter];grind
 rw[this,h];have u:=AB ops a;rw[h]at u;rw[List.pairwise_append]at u;have⟨_,z,C⟩:=u;rw[List.pairwise_cons]at z;rw[List.filter_append,List.filter_cons];simp;rw[List.filter_eq_self.2 (λx w=>by have:=C x w i f?;simp;omega),List.filter_eq_self.2 (λx w=>g?)]
def Down(ops:Array Oper)(a:Array X'):Prop:=∀j o,a.getD j U=O->ops[j]?=M o->∀e∈o.after,nE e=O->a.getD e.on U=O
def O5{ops:Array Oper}{a:Array X'}(hd:Down ops a){i k:Nat}(h:Reach ops.toList i k)(hi:∀o,ops[i]?=M o->∀e∈o.after,nE e=O->a.getD e.on U=O):a.getD k U=O:=by induction h with|one i k o e B w z hk=>grind|more i j k o e B w z hk _ C=>subst hk;exact C λD u=>hd _ _ (hi o g? e w z) u
def IU(hE:fC P E){call:d_}(hc:mV P call){ops:Array Oper}(hd:zg ops.toList=O)(p:C6 ops.toList=O)(ro:aY Nat){Q:Exit->Act->World->Prop}(j?:Nat):
 ∀(D:Nat)(b:Array X')(I:cI)(μ:Mu)(F:WP)(H:bl)(a:Act)(w:World),b.size=ops.size->Down ops b->_j (todo ops b)=D->
 lR E call n ops.toList j? (todo ops b) F H=M (F',H')->fe I μ n F a.tmps->dA I μ H w->
 (∀a' I' μ' w',fe I' μ' n F' a'.tmps->a'.defers=a.defers->dA I' μ' H' w'->Step I μ H w I' μ' H' w'->Q .normal a' w')->
 wpAnyIn (fr ro) 0 P .any ops Q D b a w:=by
 intro D
 induction D with
 |zero=>
  intro b I μ F H a w c__ L c h r s q;have S:todo ops b=[]:=List.eq_nil_of_length_eq_zero c;rw[S]at h;obtain⟨rfl,rfl⟩:=h;refine⟨?_,q a I μ w r _i s (.refl _ _ _ _)⟩;unfold Region.ready;rw[List.filter_eq_nil_iff];intro i hi;have:i∉todo ops b:=g?
  unfold todo at this
  grind
 |succ D ih=>
  intro b I μ F H a w c__ L c h r s q;have W:∀i,i∈Region.ready .any ops b->i<ops.size/\i∈todo ops b/\∃o,ops[i]?=M o/\∀e∈o.after,nE e=O->b.getD e.on U=O:=by intro i hi;unfold Region.ready at hi;rw[a7]at hi;have⟨t,h2⟩:=hi;simp only[ζh]at h2;have b__:i<ops.size:=g?;refine⟨b__,by unfold todo;grind,ops[i],o?,?_⟩;have K:(ops[i].after.all λe=> !Region.binds .any e||b.getD e.on U)=O:=(by grind);rw[Array.all_eq_true_iff_forall_mem]at K;intro e d__ X;have:=K e d__;rw[Jf,X]at this;grind
  refine⟨?_,?_⟩
  .
   intro S
   cases Y:todo ops b with
   |nil=>rw[Y]at c;simp at c|cons e__ h?=>
    have z:e__∈todo ops b:=by rw[Y];simp
    have f:=AB ops b;rw[Y,List.pairwise_cons]at f;unfold todo at z;rw[a7]at z;have b__:e__<ops.size:=by simpa using z.1
    have:e__∈Region.ready .any ops b:=by unfold Region.ready;rw[a7];refine⟨z.1,?_⟩;simp only[ζh];refine⟨z.2,?_⟩;have e0:ops[e__]?=M ops[e__]:=(by simp[b__]);rw[e0];simp only[B?,O!];rw[Array.all_eq_true_iff_forall_mem];intro e d__;rw[Jf];cases am:nE e with|false=>simp|true=>simp only[Bool.not_true];have an:e.on<e__:=(by unfold C6 at p;simp only[M?]at p;have:=p e__ (by simpa using b__);have e1:ops.toList[e__]?=M ops[e__]:=(by simp[b__]);rw[e1]at this;simp only[Array.all_eq_true_iff_forall_mem]at this;have:=this e d__;rw[am]at this;simpa using this);cases ao:b.getD e.on U with|true=>rfl|false=>exfalso;have a__:e.on∈todo ops b:=(by unfold todo;rw[a7];refine⟨by simp;omega,?_⟩;have aj:e.on<b.size:=c?;have:b.getD e.on O=b.getD e.on U:=(by simp[aj]);rw[this,ao];rfl);rw[Y]at a__;rcases mem_cons.1 a__ with h|h;omega;have:=f.1 _ h;omega
    rw[S]at this;simp at this
  intro i hi;have⟨b__,z,o,g,C⟩:=W i hi;have⟨N,l2,u⟩:=List.append_of_mem z;have J:=AB ops b;rw[u,List.pairwise_append]at J;have aa:∀k∈N,k<i/\Ii o k=U/\before ops.toList i k=U:=by intro k v;have ap:b.getD k U=U:=(by have B:k∈todo ops b:=(by rw[u];simp[v]);unfold todo at B;rw[a7]at B;have x:k<b.size:=(by rw[c__];simpa using B.1);have:b.getD k O=b.getD k U:=(by simp[x]);rw[this]at B;simpa using B.2);refine⟨J.2.2 k v i f?,?_,?_⟩;rotate_left;(cases aq:before ops.toList i k with|false=>rfl|true=>have:=O5 L (MC aq) (λo' l=>by rw[g]at l;cases l;exact C);rw[ap]at this;cases this);cases d__:Ii o k with|false=>rfl|true=>exfalso;unfold Ii at d__;rw[Array.any_eq_true]at d__;have⟨ix,ar,m⟩:=d__;have R:o.after[ix]∈o.after:=Array.getElem_mem ar;generalize o.after[ix]=e at R m;simp only[ζh,_g]at m;have t:=C e R m.2;rw[m.1]at t;have B:k∈todo ops b:=(by rw[u];simp[v]);unfold todo at B;rw[a7]at B;have x:k<b.size:=(by rw[c__];simpa using B.1);have:b.getD k O=b.getD k U:=(by simp[x]);rw[this,t]at B;simp at B
  rw[u]at h;have d:=Uq hd (by simpa using g) N l2 aa h
  simp only[lR]at d;have l:ops.toList[i]?=M o:=by simpa using g
  rw[l]at d;simp only at d;split at d
  .rename_i F1 H1 af;unfold wpOpIn;rw[g];simp only;refine F8 hE hc af r s ro (λa' I' μ' w' hr au f av=>?_)
   have V:=Wm c__ b__ u;refine ih (b.setIfInBounds i O) I' μ' F1 H1 a' w' (by simpa using c__) ?_ ?_ (by rw[V];exact d) hr f ?_
   .have T:∀j,b.getD j U=O->(b.setIfInBounds i O).getD j U=O:=by
     intro j y
     by_cases e:i=j
     .subst e;simp[c__,b__]
     simpa[Array.getD_eq_getD_getElem?,Array.getElem?_setIfInBounds_ne e]using y
    intro j oj y A e d__ X
    by_cases e':i=j
    .subst e';rw[g]at A;cases A;exact T _ (C e d__ X)
    refine T _ (L j oj ?_ A e d__ X);simpa[Array.getD_eq_getD_getElem?,Array.getElem?_setIfInBounds_ne e']using y
   .rw[V];rw[u]at c;simp at c⊢;omega
   intro a2 I2 μ2 w2 aw ax ay al;exact q a2 I2 μ2 w2 aw (ax.trans au) ay (Step.trans f av al)
  simp at d
def dA.Kp(s:dA I μ H w)(k:Nat):dA I μ (H++w? k .free) w:=by
 have u:∀id ob,(H++w? k Ob.free)[id]?=M ob->H[id]?=M ob\/(ob=.free/\W H<=id):=by grind
 refine⟨λid h=>s.dom id g?,s.imm,?_,?_,s.gl⟩;intro id ob h;rcases u id ob h with h|⟨rfl,z⟩;exact s.obs id ob h;exact s.dom id z;intro id B ob C p J a z D g;rcases u id ob a with a|⟨rfl,_⟩;rcases u B C z with z|⟨rfl,_⟩;exact s.inj id B ob C p J a z D g;simp[Ob.live]at g;simp[Ob.live]at D
def NF(k:Nat)(b:Nat):jm μ (H++w? k .free) b↔jm μ H b:=by constructor;rintro⟨id,p,ob,h1,u,w,z⟩;by_cases B:id<W H;rw[List.getElem?_append_left B]at h1;exact⟨id,p,ob,h1,u,w,z⟩;rw[List.getElem?_append_right c?,List.getElem?_replicate]at h1;split at h1;simp at h1;subst h1;simp[Ob.live]at u;grind;rintro⟨id,p,ob,h1,u,w,z⟩;exact⟨id,p,ob,g?,u,w,z⟩
def Step.Kp(k:Nat):Step I μ H w I μ (H++w? k .free) w:=⟨cI.le_refl _,Mu.le_refl _,f?,z? _,λ_ _ _=>rfl,λb h=>h.elim .inl λh=>.inr (.inl ((NF k b).1 h)),Y,.refl _,λ_ _ h=>h⟩
def Lw(D:fC P E)(T:P.follows .mixedOrders=O){call:d_}(b:mV P call){id:Nat}{ops:Array Oper}{B:X'}(ro:aY Nat){Q:Exit->Act->World->Prop}
 (h:kX E call n ops.toList B F H=M (F',H'))(r:fe I μ n F a.tmps)(s:dA I μ H w)
 (J:∀a' I' μ' w',fe I' μ' n F' a'.tmps->a'.defers=a.defers->dA I' μ' H' w'->Step I μ H w I' μ' H' w'->Q .normal a' w'):
 (Code.region id ops B).wpIn (fr ro) 0 P Q a w:=by
 unfold kX at h
 cases B with
 |false=>refine wpIn_region ?_;rw[List.range_eq_range',<-Array.length_toList];exact R3 D b ro ops.toList 0 I μ F H a w f? h r s J|true=>
  simp only[L']at h;split at h
  .rename_i u;simp at u;refine wpIn_region_draw λt=>?_
   simp[Region.schedule,T];have s0:dA I μ H {w with drawn:=w.drawn+1}:=s.ri Y;have st0:Step I μ H w I μ H {w with drawn:=w.drawn+1}:=Step.ri Y Y ⟨Y,Y,b5 _⟩;have z:todo ops (Array.replicate ops.size U)=B! (W ops.toList):=by unfold todo;simp_all
   have C:Down ops (Array.replicate ops.size U):=by intro j o S;simp[Array.getElem?_replicate]at S;grind
   refine wpAnyIn_sound ops.size t _ a _ ?_;split at h
   .refine IU D b u.1 u.2 ro (W H) ops.size _ I μ F (H++w? (W ops.toList) .free) a _ f? C g? (by rw[z];omega) r (s0.Kp _) ?_
    intro a' I' μ' w' c g L i;exact J a' I' μ' w' c g L (Step.trans s0 st0 (Step.trans (s0.Kp _) (Step.Kp _) i))
   refine IU D b u.1 u.2 ro (W H) ops.size _ I μ F H a _ f? C g? (by rw[z];omega) r s0 ?_
   intro a' I' μ' w' c g L i;exact J a' I' μ' w' c g L (Step.trans s0 st0 i)
  grind
end
def Out.L0:Out->Exit
 |.norm=>.normal|.exit id=>.exit id|.ret=>.ret
def exists_least(p:Nat->Prop):∀k,p k->∃m,p m/\∀j,p j->m<=j:=by intro k;induction k using Nat.strongRecOn with|_ k u=>grind
open Classical in
noncomputable def least(p:Nat->Prop):Nat:=if h:∃m,p m/\∀j,p j->m<=j then h.choose else 0
def QT(p:Nat->Prop){k:Nat}(a:p k):p (least p)/\least p<=k:=by have h:=exists_least p k a;grind[least]
section
variable{P:Program}{E:Env}{I I':cI}{μ μ':Mu}{H H':bl}{n B:Nat}{F F':WP}{a:Act}{w w':World}
def Post(B n:Nat)(I:cI)(μ:Mu)(H:bl)(w:World)(o:Out)(F':WP)(H':bl):Exit->Act->World->Prop:=λe u w'=>e=o.L0/\(∃I' μ',fe I' μ' n F' u.tmps/\dA I' μ' H' w'/\Step I μ H w I' μ' H' w')/\mb B u.defers w'
theorem Post.mono{I1:cI}{D:Mu}{H1:bl}{J:World}{o:Out}(T:dA I1 D H1 J)(st:Step I μ H w I1 D H1 J){e:Exit}{a':Act}{w':World}(h:Post B n I1 D H1 J o F' H' e a' w'):
 Post B n I μ H w o F' H' e a' w':=by
 have⟨a,⟨I',μ',u,z,C⟩,g⟩:=h;exact⟨a,⟨I',μ',u,z,Step.trans T st C⟩,g⟩
def dA.DM(s:dA I μ H w){b:Nat}(o:Obj)(D:I b=G)(J:¬jm μ H b):dA I μ H (gP w b o)where
 dom:=s.dom
 imm:=λu x h=>IC.uV (s.imm u x h) (gq o g?)
 obs:=λid ob h=>(s.obs id ob h).mono (cI.le_refl _) (Mu.le_refl _) (λp z B=>by
  have g:jm μ H p.b:=⟨id,p,ob,h,B,z,Y⟩
  grind[gq,gZ]) (λC=>by subst C;exact s.obs id _ h)
 inj:=s.inj
 gl:=s.gl
def Zo(s:dA I μ H w){b:Nat}{o:Obj}(h:w.heap[b]?=M o)(a:∀c e f,o≠.cells c e f)(B:∀es c,o≠.map es c):I b=G:=by cases u:I b with|none=>rfl|some x=>have:=s.imm b x u;cases x with|cells c=>have⟨_,_,q⟩:=this;rw[h]at q;grind|map es=>have⟨_,q⟩:=this;rw[h]at q;grind
def Step.kept(c:∀b,b<w.heap.size->w'.heap[b]?=w.heap[b]?)(B:w.heap.size<=w'.heap.size)(d:w'.os=w.os)(D:yG w w')(J:∀a:Addr,a.block<w.heap.size->w.frozen? a=U->w'.frozen? a=U):Step I μ H w I μ H w':=⟨cI.le_refl _,Mu.le_refl _,z? _,B,λb u _=>c b u,λ_ h=>h.elim .inl λh=>.inr (.inl h),d,D,J⟩
def Step.after(st:Step I μ H w I' μ' H' w'){b:Nat}(o:Obj)(B:w.heap.size<=b)(D:Obj.nf o:=by first|exact wC _ _|exact uv rfl):Step I μ H w I' μ' H' (gP w' b o):=⟨st.le,st.mu,st.len,by rw[u5];exact st.size,λz u C=>by rw[gq o c?];exact st.frame z u C,st.terr,st.os,⟨st.out.out,st.out.tape,st.out.dr⟩,λa B g=>aaY D a (st.fz a B g)⟩
def mb.DM{ds:aX Deferred}(h:mb B ds w){b:Nat}{o:Obj}(D:∀r,w.heap[r]?=M (.deferred (M []))->r≠b):mb B ds (gP w b o):=
 ⟨λd hd=>by
  have⟨r,a,u,z⟩:=h.all d hd
  grind[gq],h.apart⟩
def QW{step:WP->bl->aY (Out×WP×bl)}{c:Code}{ro:aY Nat}{o:Out}
 (D:∀I μ F H a w o F' H',step F H=M (o,F',H')->fe I μ n F a.tmps->dA I μ H w->mb B a.defers w->B<=w.heap.size->c.wpIn (fr ro) 0 P (Post B n I μ H w o F' H') a w)
 {k:Nat}(h:mL step k F H=M (o,F',H'))(r:fe I μ n F a.tmps)(s:dA I μ H w)(m:mb B a.defers w)(g:B<=w.heap.size):
 (Code.loop c).wpIn (fr ro) 0 P (Post B n I μ H w o F' H') a w:=by
 let b:Nat->Act->World->Prop:=λk u w'=>∃I1 J F1 H1,mL step k F1 H1=M (o,F',H')/\fe I1 J n F1 u.tmps/\dA I1 J H1 w'/\Step I μ H w I1 J H1 w'/\mb B u.defers w'/\B<=w'.heap.size
 let y:Act->World->Nat:=λu w'=>least (λk=>b k u w')
 have d:∀k u w',b k u w'->b (y u w') u w'/\y u w'<=k:=λk u w' hi=>QT (λk=>b k u w') hi
 refine wpIn_loop (λu w'=>∃k,b k u w') y ⟨k,I,μ,F,H,h,r,s,.refl _ _ _ _,m,g⟩ ?_
 rintro a1 S ⟨k1,a__⟩;have⟨hi,_⟩:=d k1 a1 S a__;generalize p:y a1 S=kk at hi;have⟨I1,J,F1,H1,T,r1,L,C,X,A⟩:=hi
 cases kk with
 |zero=>grind[mL]|succ kk=>
  simp only[mL]at T;split at T
  next Y H2 W=>refine wpIn_mono (D I1 J F1 H1 a1 S .norm Y H2 W r1 L X A) ?_;rintro e N Q ⟨rfl,⟨I2,i,r2,j,st2⟩,l⟩;show(∃k,b k N Q)/\y N Q<kk+1;have z:b kk N Q:=⟨I2,i,Y,H2,T,r2,j,Step.trans L C st2,l,U? A st2.size⟩;exact⟨⟨kk,z⟩,Nat.lt_succ_of_le (d kk N Q z).2⟩
  rename_i q;refine wpIn_mono (D I1 J F1 H1 a1 S o F' H' T r1 L X A) ?_;intro e N Q hp;have t:o≠.norm:=by simp_all
  obtain⟨rfl,b__,f⟩:=hp
  cases o with
  |norm=>grind|exit id=>exact Post.mono L C ⟨rfl,b__,f⟩|ret=>exact Post.mono L C ⟨_i,b__,f⟩
def DZ(s:dA I μ H w){id:Nat}{r:yZ}(h:H[id]?=M (.loop r)):∃p l,μ id=M p/\I p.b=G/\w.heap[p.b]?=M (.loop l)/\y8 I μ r l:=s.obs id _ h
def LY{p:aY Out}(hp:p≠M .norm):(p.bind oP=G->p.getD .norm=.norm)/\(∀c,p.bind oP=M c->(c=.ret/\p.getD .norm=.ret)\/∃id,c=.exit id/\p.getD .norm=.exit id):=by cases p with|none=>grind|some o=>cases o with|norm=>grind|ret=>grind[oP]|exit id=>grind[oP]
theorem NI{call:d_}(hc:mV P call){g:UV}{ps:Array Tmp}{assign body:Code}{o:Out}{lf:Nat}
 (h:exec E call lf U n (.rangeFunc g ps assign body) F H=M (o,F',H'))(r:fe I μ n F a.tmps)(s:dA I μ H w)(m:mb B a.defers w)(hB:B<=w.heap.size):
 (Code.rangeFunc g ps assign body).wpIn (fr G) 0 P (Post B n I μ H w o F' H') a w:=by
 cases K:ev F g with
 |none=>simp_all[exec]|some gv=>
 cases gv with
 |clo f x y=>
  simp[exec,K]at h;split at h
  .rename_i ak H2 L;split at h
   .rename_i r2 c__;have W:r2.st≠.busy/\r2.pend.getD .norm=o/\F=F'/\H2.set (_j H) .dead=H':=by
     grind
    obtain⟨W,rfl,rfl,rfl⟩:=W;have⟨u,v,eg,hu,hv⟩:=(dP r K).l_;refine wpIn_rangeFunc λC _=>?_
    have X:∀b,b<w.heap.size->(w.alloc (.deferred (M []))).heap[b]?=w.heap[b]?:=λb hb=>mq _ b hb
    have j:=s.kept X;have ab:Step I μ H w I μ H (w.alloc (.deferred (M []))):=Step.kept X f? _i ⟨_i,_i,z? _⟩ (λa _=>Rx (uv _i) a)
    have ad:y8 I μ ⟨.ready,G,F,n,ps.toList,assign,body⟩ {state:=.ready,pending:=G,fn:=C,tmps:=a.tmps,params:=ps,assign,body,defers:=w.heap.size}:=⟨trivial,_i,f?,r,_i,_i,_i⟩
    have⟨a__,st2⟩:=j.push (ob:=.loop ⟨.ready,G,F,n,ps.toList,assign,body⟩)
     (o:=.loop {state:=.ready,pending:=G,fn:=C,tmps:=a.tmps,params:=ps,assign,body,defers:=w.heap.size}) (p:=⟨w.heap.size+1,0,0,0⟩) f?
     ⟨_,_,Mu.iy _ _ _,by have:=j.BF;simp_all,by have:=mW (w:=w.alloc (.deferred (M []))) (.loop {state:=.ready,pending:=G,fn:=C,tmps:=a.tmps,params:=ps,assign,body,defers:=w.heap.size});simp_all,
      ad.mono (cI.le_refl _) (Mu.tU (j.dom _ (z? _)))⟩
    have Q:=(hu.mono (cI.le_refl _) st2.mu).append (.cons (.yld (_j H) ⟨w.heap.size+1,0,0,0⟩ (Mu.iy _ _ _)) (hv.mono (cI.le_refl _) st2.mu))
    have⟨hf,b__⟩:=hc.fn f _ _ _ _ L;refine⟨w.heap.size+1,[{target:=.collected w.heap.size,args:=#[]}],((w.alloc (.deferred (M []))).alloc (.loop {state:=.ready,pending:=G,fn:=C,tmps:=a.tmps,params:=ps,assign,body,defers:=w.heap.size})),{target:=.fn (.func f) v,args:=u++#[.func (.yield (w.heap.size+1)) #[] #[]]},((w.alloc (.deferred (M []))).alloc (.loop {state:=.ready,pending:=G,fn:=C,tmps:=a.tmps,params:=ps,assign,body,defers:=w.heap.size})),f,u++#[.func (.yield (w.heap.size+1)) #[] #[]]++v,((w.alloc (.deferred (M []))).alloc (.loop {state:=.ready,pending:=G,fn:=C,tmps:=a.tmps,params:=ps,assign,body,defers:=w.heap.size})),
     run_enterLoop_outer C a.tmps ps assign body,?_,λ_ _=>trivial,?_,λh=>by grind[fr],?_⟩
    .simp_all[resolve,Deferred.ofValue,Act.eval]
    .exact As hf _
    have Y:=b__ _ _ _ _ a__ Q;have S:(u.toList++.func (.yield (w.heap.size+1)) #[] #[]::v.toList).toArray=u++#[.func (.yield (w.heap.size+1)) #[] #[]]++v:=g?
    rw[S]at Y;refine Y.mono ?_;rintro e e__ ⟨aj,N,k,rfl,_,t,T⟩;have⟨p,l,g1,g2,g3,g4⟩:=DZ t c__;have hp:p=⟨w.heap.size+1,0,0,0⟩:=by have:=T.mu _ _ (Mu.iy μ (_j H) ⟨w.heap.size+1,0,0,0⟩);grind
    subst hp;have J:l.state≠.busy:=by intro he;have:=g4.st;rw[he]at this;all_goals grind[El.is]
    refine⟨l.pending,_,run_endLoop g3 J,?_⟩;have⟨s4,ae⟩:=t.kill c__;have d__:¬jm k (H2.set (_j H) .dead) (w.heap.size+1):=by rintro⟨id,q,ob,A,R,i,h4⟩;by_cases e:id=_j H;grind[Ob.live];rw[E? (Ne.symm e)]at A;exact e (t.inj id (_j H) ob _ q _ A c__ R _i i g1 h4)
    have s5:dA N k (H2.set (_j H) .dead) (gP e__ (w.heap.size+1) (.loop {l with state:=.exhausted})):=s4.DM _ g2 d__;have st:=Step.trans j ab (Step.trans a__ st2 (Step.trans t T ae));have af:Step I μ H w N k (H2.set (_j H) .dead) (gP e__ (w.heap.size+1) (.loop {l with state:=.exhausted})):=st.after _ c?
    have m2:mb B ({target:=.collected w.heap.size,args:=#[]}::a.defers) ((w.alloc (.deferred (M []))).alloc (.loop {state:=.ready,pending:=G,fn:=C,tmps:=a.tmps,params:=ps,assign,body,defers:=w.heap.size})):=by refine⟨?_,?_⟩;intro d hd;rcases mem_cons.1 hd with rfl|hd;refine⟨w.heap.size,_i,hB,?_⟩;rw[mq _ _ f?];exact mW _;have⟨q,A,R,i⟩:=m.all d hd;have hq:=(Array.getElem?_eq_some_iff.1 i).1;grind[mq];refine List.Pairwise.cons ?_ m.apart;intro d hd q hq al;have⟨q2,A,R,i⟩:=m.all d hd;have:=(Array.getElem?_eq_some_iff.1 i).1;grind
    have m3:=m2.step a__ T;have m5:mb B ({target:=.collected w.heap.size,args:=#[]}::a.defers) (gP e__ (w.heap.size+1) (.loop {l with state:=.exhausted})):=m3.DM (λq hq e=>g?)
    have ah:=st.le;have ai:=st.mu;have z:∀D:Out,r2.pend.getD .norm=D->Post B n I μ H w D F (H2.set (_j H) .dead) D.L0 {a with defers:=[{target:=.collected w.heap.size,args:=#[]}]++a.defers} (gP e__ (w.heap.size+1) (.loop {l with state:=.exhausted})):=λD _=>⟨_i,⟨N,k,r.mono ah ai,s5,af⟩,m5⟩
    obtain⟨W5,aa⟩:∃W5,e__.putObj (w.heap.size+1) (.loop {l with state:=.exhausted})=W5:=⟨_,_i⟩;have z:∀D:Out,r2.pend.getD .norm=D->Post B n I μ H w D F (H2.set (_j H) .dead) D.L0 {a with defers:=[{target:=.collected w.heap.size,args:=#[]}]++a.defers} W5:=by intro D ho;rw[<-aa];exact z D ho
    rw[aa];have⟨k1,k2⟩:=LY g4.pendOk;rw[g4.pend]
    cases V:r2.pend.bind oP with
    |none=>rw[k1 V];exact z .norm (k1 V)|some c=>
     rcases k2 c V with⟨rfl,e⟩|⟨id,rfl,e⟩
     .rw[e];exact wpIn_ret (z .ret e)
     rw[e];exact wpIn_exit (z (.exit id) e)
   grind
  grind
 |_=>simp[exec,K]at h
def BP(Y:fC P E)(d:P.follows .mixedOrders=O){call:d_}(f:mV P call)(lf:Nat)(ro:aY Nat)(T:X')(j:T=ro.isSome)(n:Nat):
 ∀(c:Code)(I:cI)(μ:Mu)(F:WP)(H:bl)(a:Act)(w:World)(o:Out)(F':WP)(H':bl),exec E call lf T n c F H=M (o,F',H')->fe I μ n F a.tmps->dA I μ H w->
  mb B a.defers w->B<=w.heap.size->c.wpIn (fr ro) 0 P (Post B n I μ H w o F' H') a w:=by
 intro c
 induction c with
 |skip=>intro I μ F H a w o F' H' h r s m _;obtain⟨rfl,rfl,rfl⟩:=h;exact wpIn_skip ⟨rfl,⟨I,μ,r,s,.refl _ _ _ _⟩,m⟩|label l=>intro I μ F H a w o F' H' h r s m _;obtain⟨rfl,rfl,rfl⟩:=h;exact wpIn_label ⟨rfl,⟨I,μ,r,s,.refl _ _ _ _⟩,m⟩|region id ops W=>
  intro I μ F H a w o F' H' h r s m _;simp only[exec,ζf]at h;obtain⟨⟨k,H2⟩,h,rfl,rfl,rfl⟩:=h;refine Lw Y d f ro h r s (λa' I' μ' w' b z C X=>⟨_i,⟨I',μ',b,C,X⟩,?_⟩)
  rw[z];exact m.step s X
 |seq x y D q=>
  intro I μ F H a w o F' H' h r s m u;simp[exec]at h;refine wpIn_seq ?_;split at h
  .rename_i F1 H1 b;refine wpIn_mono (D I μ F H a w _ F1 H1 b r s m u) ?_;rintro e a1 J ⟨rfl,⟨I1,a__,r1,i,Q⟩,m1⟩;refine wpIn_mono (q I1 a__ F1 H1 a1 J o F' H' h r1 i m1 (U? u Q.size)) ?_
   grind[Post.mono]
  refine wpIn_mono (D I μ F H a w o F' H' h r s m u) ?_;rintro e a1 J ⟨rfl,z,C⟩
  cases o with
  |norm=>grind|exit id=>exact⟨rfl,z,C⟩|ret=>exact⟨rfl,z,C⟩
 |cond c x y D q=>
  intro I μ F H a w o F' H' h r s m u;simp[exec]at h;split at h
  .rename_i t S;have p:=(dP r S).uO
   grind[wpIn_cond]
  grind
 |block id c A=>
  intro I μ F H a w o F' H' h r s m u;simp[exec]at h;refine wpIn_block ?_;split at h
  .rename_i L F1 H1 b;refine wpIn_mono (A I μ F H a w _ F1 H1 b r s m u) ?_;rintro e a1 J ⟨rfl,z,C⟩;show Exit.inBlock id _ (.exit L) a1 J;unfold Exit.inBlock;split at h
   next N=>obtain⟨rfl,rfl,rfl⟩:=h;simp[N];exact⟨_i,z,C⟩
   rename_i N;obtain⟨rfl,rfl,rfl⟩:=h;simp[N];exact⟨_i,z,C⟩
  refine wpIn_mono (A I μ F H a w o F' H' h r s m u) ?_;rintro e a1 J ⟨rfl,z,C⟩
  cases o with
  |norm=>exact⟨rfl,z,C⟩|exit L=>grind|ret=>exact⟨rfl,z,C⟩
 |loop c A=>intro I μ F H a w o F' H' h r s m u;exact QW (λI μ F H a w o F' H' h r s m u=>A I μ F H a w o F' H' h r s m u) h r s m u|rangeFunc g ps assign body _ _=>
  intro I μ F H a w o F' H' h r s m u
  cases T with
  |true=>simp[exec]at h|false=>
   cases ro with
   |none=>grind[NI]|some l=>simp_all
 |exit id=>intro I μ F H a w o F' H' h r s m _;obtain⟨rfl,rfl,rfl⟩:=h;exact wpIn_exit ⟨rfl,⟨I,μ,r,s,.refl _ _ _ _⟩,m⟩|ret=>intro I μ F H a w o F' H' h r s m _;obtain⟨rfl,rfl,rfl⟩:=h;exact wpIn_ret ⟨rfl,⟨I,μ,r,s,.refl _ _ _ _⟩,m⟩|scope body _=>simp_all[exec]|goto l=>simp_all[exec]|refuse ad=>simp_all[exec]
end
end Go.VE
