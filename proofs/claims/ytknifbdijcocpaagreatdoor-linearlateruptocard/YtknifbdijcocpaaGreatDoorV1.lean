/-
 The engine: operations of the loaded code on values without a heap; a run of it is a run of the program.
-/
import Derived.RangeFuncLeaves
import Derived.Sort.Defs
import Derived.Lib.BitFns
import Derived.Laws.Sem
import Derived.Laws.World
import Derived.Laws.Append
import Derived.Laws.BytesString
import Derived.OrdersIn
set_option linter.all false
open BitVec(ofInt)
open Go.IntKind(i64 signed wrap)
open Go.Op(bytesLess equal equalIn intArith intBits intCmp operands)
open List(all_eq_true append_assoc drop_drop drop_take eq_of_mem_replicate finRange flatten_append flatten_cons getElem?_append_left getElem?_cons_zero getElem?_drop getElem?_set_ne getElem?_set_self getElem?_take length length_cons length_set length_take mem_append mem_cons mem_cons_of_mem mem_cons_self mem_filter mem_flatten mem_map mem_of_getElem? mem_of_mem_drop mem_of_mem_take range replicate set_comm take take_append_drop take_take)
open Array(ext' getD_eq_getD_getElem? getElem?_eq_none length_toList)
open Go.Instr(checkKey fieldAt fill findAsking findKey findNow indexAt loadAt sameBits sameNow sliceAt sliceBound sliceBounds storeAt sureAddr)
open Go.Sem(run_bind run_ite run_pure)
open Go.Result(andThen andThen_ok)
open Bool(false_eq_true)
open Option(getD_some isSome_iff_exists map_some)
open Nat(add_assoc add_mul add_zero eq_zero_or_pos le_refl le_succ le_trans min_eq_left mod_lt mul_le_mul mul_le_mul_right one_mul zero_add zero_le zero_mul)
open Go.Builtin(append_ cap_ clear_ firstCells lenOf len_ max2 max_ min2 min_ nextslicecap zeroCells)
open Go.World(cell? frozen?)
open Go.Question(appendCap forced)
namespace Go.VE
abbrev L':=@List
abbrev Lk:=@Option
theorem Zaa{p:Prop}(h:p:=by omega):p:=h
theorem Zab{p:Prop}(h:p:=by simp):p:=h
theorem Zac{p:Prop}(h:p:=by grind):p:=h
theorem ζa{α:Type _}(a b:α):(some a=some b)=(a=b):=Option.some.injEq a b
theorem ζb{α β:Type _}(a:α)(f:α->Lk β):(some a).bind f=f a:=rfl
theorem ζc{α β:Type _}(a:α)(b:β)(c:α)(d:β):((a,b)=(c,d))=(a=c/\b=d):=Prod.mk.injEq a b c d
theorem ζd{α:Type _}{l:L' α}{i:Nat}(h:i<l.length):l[i]?=some l[i]:=List.getElem?_eq_getElem h
theorem ζe{α:Type _}{l:L' α}{i:Nat}{a:α}:l[i]?=some a↔∃h:i<l.length,l[i]=a:=List.getElem?_eq_some_iff
theorem ζf{α β:Type _}{b:β}{x:Lk α}{f:α->β}:x.map f=some b↔∃a,x=some a/\f a=b:=Option.map_eq_some_iff
theorem ζg{α β:Type _}{b:β}{x:Lk α}{f:α->Lk β}:x.bind f=some b↔∃a,x=some a/\f a=some b:=Option.bind_eq_some_iff
theorem ζh(a b:Bool):((a&&b)=true)=(a=true/\b=true):=Bool.and_eq_true a b
theorem ζi{α:Type _}{a b:L' α}:(a++b).length=a.length+b.length:=List.length_append
inductive V where
 |bool(b:Bool)|int(k:IntKind)(n:Int)|str(s:ByteArray)|dL|bM|fsl(es:Nat)(xs:List (List V))|hsl(id es off len:Nat)|iI|fptr(cs:List V)|hptr(id el off:Nat)|clo(f:FuncId)(first cap:List V)|yld(id:Nat)|gD|tF|fmap(kvs:List (V×V))|hmap(id:Nat)|agg(cs:List V)|tup(vs:List V)
 deriving Inhabited
def V.undef:V:=.tup []
def V.one:V->Bool
 |.agg _|.tup _=>false|_=>true
def V.cells:V->L' V
 |.agg cs=>cs|v=>[v]
mutual
def V.scalar:V->Bool
 |.bool _|.int ..|.str _|.iI|.gD|.tF|.dL|.bM=>true|.agg cs=>V.cV cs|.tup cs=>V.cV cs|_=>false
def V.cV:L' V->Bool
 |[]=>true|v::r=>V.scalar v&&V.cV r
end
mutual
def V.closed:V->Bool
 |.hsl ..|.hptr ..|.yld ..|.hmap ..=>false|.clo _ a b=>V.lY a&&V.lY b|.agg cs=>V.lY cs|.tup cs=>V.lY cs|_=>true
def V.lY:L' V->Bool
 |[]=>true|v::r=>V.closed v&&V.lY r
end
inductive TK where
 |bool|int (k:IntKind)|str|ptr (e:TypeId)|slice (e:TypeId)|struct(fs:List (Nat×TypeId))|array (n:Nat) (e:TypeId)|map (k e:TypeId)|other
 deriving Inhabited
structure TD where
 size:Nat
 bytes:Nat
 zero:List V
 kind:TK
 deriving Inhabited
def TD.agg(d:TD):Bool:=match d.kind with|.struct _|.array _ _=>true|_=>false
abbrev Frame:=L' V
def get:Frame->Nat->V
 |[],_=>.undef|x::_,0=>x|_::r,i+1=>get r i
def set:Frame->Nat->V->Frame
 |[],0,v=>[v]|[],i+1,v=>.undef::set [] i v|_::r,0,v=>v::r|x::r,i+1,v=>x::set r i v
inductive CM where
 |ready|busy|done
inductive Out where
 |norm|exit(id:Nat)|ret
 deriving DecidableEq,Inhabited
structure wZ where
 st:CM
 pend:Option Out
 frame:Frame
 nt:Nat
 params:List Nat
 assign:Code
 body:Code
inductive Ob where
 |free|dead|row(es:Nat)(xs:List (List V))|frz(es:Nat)(xs:List (List V))|map(kvs:List (V×V))|loop(r:wZ)
def Ob.rows:Ob->Lk (Nat×L' (L' V))
 |.row es xs|.frz es xs=>some (es,xs)|_=>none
abbrev bn:=L' Ob
structure FI where
 ntmps:Nat
 results:List ResultVar
 body:Code
structure Env where
 tt:TypeId->Option TD
 ft:FuncId->Option FI
 keep:FuncId->Bool
 own:FuncId->Bool
 eqN:TypeId->Option Nat
 sort:FuncId->Bool
 known:FuncId->List V->Option V:=λ_ _=>none
def Env.kindOf(E:Env)(t:TypeId):Lk TK:=(E.tt t).map TD.kind
def ofValue:Nat->Value->Lk V
 |0,_=>none|n+1,v=>
  match v with
  |.bool b=>some (.bool b)|.int k n=>some (.int k n)|.string s=>some (.str s)|.pointer none=>some .iI|.slice none 0 0=>some .bM|.map none=>some .gD|.nilFunc=>some .tF|.agg cs=>(cs.toList.mapM (ofValue n)).map .agg|_=>none
class bY where
 gl:Nat->Option (List V)
 sc:∀g cs,gl g=some cs->∃(k:IntKind)(l:List Int),cs=l.map (V.int k)
variable[bY]
def ev(F:Frame):Operand->Lk V
 |.tmp t=>some (get F t)|.const v=>ofValue 4 v|.func f=>some (.clo f [] [])|.global g=>(bY.gl g).map .fptr
def fI(F:Frame):L' Operand->Lk (L' V)
 |[]=>some []|x::r=>match ev F x,fI F r with
  |some v,some vs=>some (v::vs)|_,_=>none
def mk(agg:Bool)(cs:L' V):Lk V:=if agg then some (.agg cs)else match cs with|[v]=>some v|_=>none
def cut(cs:L' V)(off n:Nat):Lk (L' V):=
 let r:=(cs.drop off).take n
 if r.length=n then some r else none
def iS:L' V->Lk (L' Int)
 |[]=>some []|.int .i64 a::r=>(iS r).map (a::·)|_=>none
def lM(az B:L' V):Lk Bool:=
 match iS az,iS B with
 |some a,some b=>if a.length=b.length then some (a==b)else none|_,_=>none
def oR(op:BinOp)(x y:Int):Lk Bool:=
 match op with
 |.eql=>some (x==y)|.neq=>some (x != y)|.lss=>some (decide (x<y))|.leq=>some (decide (x<=y))|.gtr=>some (decide (x>y))|.geq=>some (decide (x>=y))|_=>none
def vr(k:TK)(x y:V):Lk Bool:=
 match k,x,y with
 |.slice _,.bM,.bM=>some true|.slice _,.fsl ..,.bM=>some false|.slice _,.hsl ..,.bM=>some false|.ptr _,.iI,.iI=>some true|.ptr _,.fptr _,.iI=>some false|.ptr _,.hptr ..,.iI=>some false|.map ..,.gD,.gD=>some true|.map ..,.fmap _,.gD=>some false|.map ..,.hmap _,.gD=>some false|_,_,_=>none
def JQ(E:Env)(op:BinOp)(t:TypeId)(x y:V):Lk V:=
 match x,y with
 |.int k a,.int u b=>
  match op with
  |.shl=>if b<0 then none else some (.int k (k.wrap (a*2 ^ (min b.toNat k.bits))))|.shr=>if b<0 then none else some (.int k (a.fdiv (2 ^ (min b.toNat k.bits))))|_=>if k=u then
   match op with
   |.add=>some (.int k (k.wrap (a+b)))|.sub=>some (.int k (k.wrap (a-b)))|.mul=>some (.int k (k.wrap (a*b)))|.quo=>if b=0 then none else some (.int k (k.wrap (a.tdiv b)))|.rem=>if b=0 then none else some (.int k (a.tmod b))|.and=>some (.int k (k.wrap (ofInt k.bits a &&& ofInt k.bits b).toNat))|.or=>some (.int k (k.wrap (ofInt k.bits a ||| ofInt k.bits b).toNat))|.xor=>some (.int k (k.wrap (ofInt k.bits a ^^^ ofInt k.bits b).toNat))|.andNot=>some (.int k (k.wrap (ofInt k.bits a &&& ~~~ ofInt k.bits b).toNat))|op=>(oR op a b).map .bool
   else none
 |.str a,.str b=>
  match op with
  |.add=>if((a.size+b.size:Nat):Int)>i64.max then none else some (.str (a++b))|.eql=>some (.bool (a.toList==b.toList))|.neq=>some (.bool !(a.toList==b.toList))|.lss=>some (.bool (bytesLess a.toList b.toList))|.leq=>some (.bool (bytesLess a.toList b.toList||a.toList==b.toList))|.gtr=>some (.bool !(bytesLess a.toList b.toList||a.toList==b.toList))|.geq=>some (.bool !(bytesLess a.toList b.toList))|_=>none
 |.bool a,.bool b=>
  match E.kindOf t,op with
  |some .bool,.eql=>some (.bool (a==b))|some .bool,.neq=>some (.bool !(a==b))|_,_=>none
 |.agg a,.agg b=>
  match E.eqN t,op with
  |some n,.eql=>if a.length=n then(lM a b).map .bool else none|some n,.neq=>if a.length=n then(lM a b).map (λt=>.bool !t)else none|_,_=>none
 |x,y=>
  match E.kindOf t,op with
  |some k,.eql=>(vr k x y).map .bool|some k,.neq=>(vr k x y).map λt=>.bool !t|_,_=>none
def vg(place:Nat->Lk (Nat×Nat))(cells:L' V):L' (Nat×V)->Lk (L' V)
 |[]=>some cells|(i,v)::rest=>
  match place i with
  |none=>none|some (off,size)=>
   if v.cells.length≠size||off+v.cells.length>cells.length then none
   else vg place (cells.take off++v.cells++cells.drop (off+v.cells.length)) rest
def ng(F:Frame):L' (Nat×Operand)->Lk (L' (Nat×V))
 |[]=>some []|(i,x)::r=>match ev F x,ng F r with
  |some v,some vs=>some ((i,v)::vs)|_,_=>none
def od(E:Env):L' (Nat×TypeId)->Lk (L' (Nat×Nat))
 |[]=>some []|(off,t)::r=>match E.tt t,od E r with
  |some d,some ps=>some ((off,d.size)::ps)|_,_=>none
def kz(F:Frame):Lk Operand->Lk (Lk Int)
 |none=>some none|some x=>match ev F x with
  |some (.int _ n)=>some (some n)|_=>none
def dX(len:Nat)(lo hi:Lk Int):Lk (Nat×Nat):=
 let h:=hi.getD len
 let l:=lo.getD 0
 if 0<=h/\h<=len/\0<=l/\l<=h then some (l.toNat,h.toNat)else none
def Dc(a b:Int):Int:=if b>a then b else a
def bQ(E:Env)(F:Frame)(op:Op):Lk V:=
 match op with
 |.move x|.assign x=>ev F x|.pick c a b=>match ev F c with
  |some (.bool t)=>if t then ev F a else ev F b|_=>none
 |.nilCheck x=>match ev F x with
  |some (.hptr id el off)=>some (.hptr id el off)|some (.fptr cs)=>some (.fptr cs)|some (.clo f a b)=>some (.clo f a b)|_=>none
 |.binOp op t x y _=>match ev F x,ev F y with
  |some a,some b=>JQ E op t a b|_,_=>none
 |.unOp op _ x=>match op,ev F x with
  |.not,some (.bool b)=>some (.bool !b)|.neg,some (.int k n)=>some (.int k (k.wrap (0-n)))|_,_=>none
 |.convert s d x=>match E.tt s,E.tt d,ev F x with
  |some _,some C,some (.int _ n)=>match C.kind with
   |.int k=>some (.int k (k.wrap n))|_=>none
  |_,_,_=>none
 |.fieldAddr s x f=>match E.kindOf s,ev F x with
  |some (.struct fs),some p=>match fs[f]?with
   |some (off,t)=>match E.tt t with
    |some d=>if d.size=0 then none else match p with
     |.fptr cs=>if off<=cs.length then some (.fptr (cs.drop off))else none|.hptr id el o=>some (.hptr id el (o+off))|_=>none
    |none=>none
   |none=>none
  |_,_=>none
 |.field s x f=>match E.kindOf s,ev F x with
  |some (.struct fs),some (.agg cs)=>match fs[f]?with
   |some (off,t)=>match E.tt t with
    |some d=>(cut cs off d.size).bind (mk d.agg)|none=>none
   |none=>none
  |_,_=>none
 |.indexAddr t x i=>match E.kindOf t,ev F x,ev F i with
  |some (.slice e),some s,some (.int _ n)=>match E.tt e with
   |some d=>if n<0 then none else match s with
    |.fsl es u=>if es=d.size then(u[n.toNat]?).map .fptr else none|.hsl id es off len=>if es=d.size/\n.toNat<len then some (.hptr id (off+n.toNat) 0)else none|_=>none
   |none=>none
  |some (.array len e),some p,some (.int _ n)=>match E.tt e with
   |some d=>if 0<=n/\n<len then match p with
    |.fptr cs=>if n.toNat*d.size<=cs.length then some (.fptr (cs.drop (n.toNat*d.size)))else none|.hptr id el o=>some (.hptr id el (o+n.toNat*d.size))|_=>none
    else none
   |none=>none
  |_,_,_=>none
 |.index t x i=>match E.kindOf t,ev F x,ev F i with
  |some .str,some (.str s),some (.int _ n)=>if 0<=n then(s[n.toNat]?).map (λb=>.int .u8 b.toNat)else none|some (.array len e),some (.agg cs),some (.int _ n)=>match E.tt e with
   |some d=>if 0<=n/\n<len then(cut cs (n.toNat*d.size) d.size).bind (mk d.agg)else none|none=>none
  |_,_,_=>none
 |.slice t x lo hi D=>match E.kindOf t,ev F x,kz F lo,kz F hi,kz F D with
  |some .str,some (.str s),some l,some h,some none=>(dX s.size l h).map λ(l,h)=>.str (s.extract l h)|some (.slice e),some v,some l,some h,some none=>match E.tt e with
   |some d=>match v with
    |.fsl es u=>if es=d.size then(dX u.length l h).map λ(l,h)=>.fsl es ((u.take h).drop l)else none|.hsl id es off len=>if es=d.size then(dX len l h).map λ(l,h)=>.hsl id es (off+l) (h-l)else none|.dL=>(dX 0 l h).map λ_=>.dL|.bM=>(dX 0 l h).map λ_=>.bM|_=>none
   |none=>none
  |some (.slice e),some v,some none,some (some 0),some (some 0)=>match E.tt e,v with
   |some _,.fsl ..|some _,.hsl ..|some _,.dL|some _,.bM=>some .dL|_,_=>none
  |_,_,_,_,_=>none
 |.build t ps=>match E.tt t,ng F ps.toList with
  |some d,some w=>match d.kind with
   |.struct fs=>match od E fs with
    |some pl=>(vg (λi=>pl[i]?) d.zero w).map .agg|none=>none
   |.array _ e=>match E.tt e with
    |some B=>(vg (λi=>some (i*B.size,B.size)) d.zero w).map .agg|none=>none
   |_=>none
  |_,_=>none
 |.makeFunc (.func f) a b=>match fI F a.toList,fI F b.toList with
  |some a,some b=>some (.clo f a b)|_,_=>none
 |.extract x i=>match ev F x with
  |some (.tup w)=>w[i]?|_=>none
 |.call {callee:=.builtin b,args,argTypes}=>match b,fI F args.toList,argTypes[0]?with
  |.len,some [v],some t=>match E.kindOf t,v with
   |some .str,.str s=>some (.int .i64 s.size)|some (.slice _),.fsl _ u=>some (.int .i64 u.length)|some (.slice _),.hsl _ _ _ len=>some (.int .i64 len)|some (.slice _),.dL=>some (.int .i64 0)|some (.slice _),.bM=>some (.int .i64 0)|_,_=>none
  |.cap,some [v],some t=>match E.kindOf t,v with
   |some (.slice _),.bM=>some (.int .i64 0)|some (.slice _),.dL=>some (.int .i64 0)|_,_=>none
  |.max,some [.int k a,.int z b],_=>if k=z then some (.int k (if b>a then b else a))else none|.max,some [.int k a,.int k1 b,.int k2 c,.int k3 d],_=>if k=k1/\k=k2/\k=k3 then some (.int k (Dc (Dc (Dc a b) c) d))else none|.min,some [.int k a,.int z b],_=>if k=z then some (.int k (if b<a then b else a))else none|_,_,_=>none
 |_=>none
def ey(H:bn)(p:V)(n:Nat):Lk (L' V):=
 match p with
 |.fptr cs=>cut cs 0 n|.hptr id el off=>match(H[id]?).bind Ob.rows with
  |some (_,u)=>match u[el]?with
   |some cs=>cut cs off n|none=>none
  |none=>none
 |_=>none
def xZ:V->V->Lk Bool
 |.int k a,.int B b=>if k=B then some (a==b)else none|.str a,.str b=>some (a==b)|.agg a,.agg b=>lM a b|_,_=>none
def iK(k:V):L' (V×V)->Nat->Lk (Lk (Nat×V))
 |[],_=>some none|(B,v)::r,i=>match xZ k B with
  |some true=>some (some (i,v))|some false=>iK k r (i+1)|none=>none
def Ci(E:Env)(t:TypeId)(k:V):Bool:=
 match E.kindOf t,k with
 |some (.int k),.int u _=>k==u|some .str,.str _=>true|some _,.agg cs=>match E.eqN t with|some n=>cs.length==n&&(iS cs).isSome|none=>false
 |_,_=>false
def ny(H:bn):V->Lk (L' (V×V))
 |.gD=>some []|.fmap B=>some B|.hmap id=>match H[id]?with
  |some (.map B)=>some B|_=>none
 |_=>none
def dZ(E:Env)(F:Frame)(H:bn)(op:Op):Lk V:=
 match op with
 |.load t a=>match E.tt t,ev F a with
  |some d,some p=>(ey H p d.size).bind (mk d.agg)|_,_=>none
 |.lookup t m k ok=>match E.kindOf t,ev F m,ev F k with
  |some (.map w B),some m,some k=>match E.tt B,ny H m with
   |some d,some u=>if Ci E w k then match iK k u 0,mk d.agg d.zero with
    |some (some (_,v)),_=>some (if ok then .tup [v,.bool true]else v)|some none,some z=>some (if ok then .tup [z,.bool false]else z)|_,_=>none
    else none
   |_,_=>none
  |_,_,_=>none
 |_=>none
inductive Mk where
 |ptr|sl (es len:Nat)|map
def Mk.val(id:Nat):Mk->V
 |.ptr=>.hptr id 0 0|.sl es len=>.hsl id es 0 len|.map=>.hmap id
def fG(es:Nat)(xs:L' (L' V)):L' (Nat×V)->Lk (L' (L' V))
 |[]=>some xs|(i,v)::r=>if v.cells.length=es/\i<xs.length/\v.cells.all V.one=true then fG es (xs.set i v.cells) r else none
def e_(E:Env)(F:Frame)(op:Op):Lk (Ob×Mk):=
 match op with
 |.alloc t=>(E.tt t).map λd=>(.row d.size [d.zero],.ptr)|.box _ x=>match ev F x with
  |some v=>if v.cells.all V.one then some (.row v.cells.length [v.cells],.ptr)else none|none=>none
 |.makeSlice t l c=>match E.kindOf t,ev F l,ev F c with
  |some (.slice e),some (.int k n),some (.int u m)=>match E.tt e with
   |some d=>if k=.i64/\u=.i64/\0<=n/\n<=m/\m<=2147483648/\d.bytes<=4096 then some (.row d.size (replicate m.toNat d.zero),.sl d.size n.toNat)else none|none=>none
  |_,_,_=>none
 |.buildSlice t len ps=>match E.kindOf t,ng F ps.toList with
  |some (.slice e),some w=>match E.tt e with
   |some d=>if len*d.size<=16777216 then(fG d.size (replicate len d.zero) w).map λz=>(.row d.size z,.sl d.size len)else none|none=>none
  |_,_=>none
 |.makeMap _ none=>some (.map [],.map)|_=>none
def qp(E:Env)(F:Frame)(op:Op):Lk V:=
 match e_ E F op with
 |some (.row es u,.sl w n)=>if w=es/\n=u.length/\(u.all λx=>x.all V.scalar)=true then match op with
  |.buildSlice ..=>if u.isEmpty then(if es != 0 then some .dL else none)else some (.fsl es u)|_=>some (.fsl es u)
  else none
 |_=>none
def dM(H:bn)(es:Nat):V->Lk (L' (L' V))
 |.dL=>some []|.bM=>some []|.fsl B xs=>if B=es then some xs else none|.hsl id B off len=>if B=es then match(H[id]?).bind Ob.rows with
  |some (_,xs)=>if off+len<=xs.length then some ((xs.drop off).take len)else none|none=>none
  else none
 |_=>none
def qU(k v:V)(B:L' (V×V)):Lk (L' (V×V)):=
 match iK k B 0 with
 |some (some (j,_))=>some (B.set j (k,v))|some none=>some (B++[(k,v)])|none=>none
def iy(H:bn):V->Lk bn
 |.dL=>some H|.bM=>some H|.hsl id _ _ _=>match H[id]?with
  |some (.row _ _)=>some (H.set id .dead)|_=>none
 |_=>none
def mkApp(H:bn)(size bytes:Nat)(zero:L' V)(s x:V):Lk (V×bn):=
 match s,x with
 |.bM,.int _ n=>if n=0 then some (.bM,H)else if 0<n/\n<=2147483648/\bytes<=4096/\0<bytes then some (.hsl H.length size 0 n.toNat,H++[.row size (replicate n.toNat zero)])else none|_,_=>none
def DU(H:bn)(size:Nat)(zero:L' V):V->Lk (V×bn)
 |.bM|.dL=>some (.undef,H)|.hsl id es off len=>if es=size then match len with
  |0=>some (.undef,H)|len+1=>match H[id]?with
   |some (.row B xs)=>if off+(len+1)<=xs.length then some (.undef,H.set id (.row B (xs.take off++replicate (len+1) zero++xs.drop (off+(len+1)))))else none|_=>none
  else none
 |_=>none
def dm(E:Env)(F:Frame)(H:bn)(op:Op):Lk (V×bn):=
 match op with
 |.store t a x=>match E.tt t,ev F a,ev F x with
  |some d,some (.hptr id el off),some v=>match H[id]?with
   |some (.row es w)=>match w[el]?with
    |some cs=>if v.cells.length=d.size/\off+d.size<=cs.length/\v.cells.all V.one=true then
     some (.undef,H.set id (.row es (w.set el (cs.take off++v.cells++cs.drop (off+v.cells.length)))))else none
    |none=>none
   |_=>none
  |_,_,_=>none
 |.mapUpdate t m k x|.insert t m k x=>match E.kindOf t,ev F m,ev F k,ev F x with
  |some (.map B _),some (.hmap id),some k,some v=>match H[id]?with
   |some (.map u)=>if Ci E B k then(qU k v u).map λu=>(.undef,H.set id (.map u))else none|_=>none
  |_,_,_,_=>none
 |.call {callee:=.builtin .append,args,argTypes}=>match argTypes.toList,fI F args.toList with
  |[t,C],some [s,x]=>match E.kindOf t,E.kindOf C with
   |some (.slice e),some (.slice _)=>match E.tt e with
    |some d=>match dM H d.size s,dM H d.size x with
     |some _,some []=>some (s,H)|some w,some z=>
      if w.length+z.length<=2147483648/\d.bytes<=4096/\0<d.bytes then
       (iy H s).map λH1=>(.hsl H.length d.size 0 (w.length+z.length),H1++[.row d.size (w++z)])
      else none
     |_,_=>none
    |none=>none
   |some (.slice e),some (.int _)=>match E.tt e with
    |some d=>mkApp H d.size d.bytes d.zero s x|none=>none
   |_,_=>none
  |_,_=>none
 |.call {callee:=.builtin .clear,args,argTypes}=>match argTypes[0]?,fI F args.toList with
  |some t,some [v]=>match E.kindOf t with
   |some (.slice e)=>match E.tt e with
    |some d=>DU H d.size d.zero v|none=>none
   |_=>none
  |_,_=>none
 |_=>none
def mh:L' (L' V)->Lk (L' Int)
 |[]=>some []|[.int .u8 n]::r=>(mh r).map (n::·)|_=>none
def nj(l:L' Int):ByteArray:=l.foldl (λr n=>r.push (UInt8.ofNat n.toNat)) ByteArray.empty
def evalConv(E:Env)(F:Frame)(H:bn)(op:Op):Lk V:=
 match op with
 |.convert s d x=>match E.kindOf s,E.kindOf d,ev F x with
  |some (.slice e),some .str,some v=>match E.kindOf e with
   |some (.int .u8)=>(dM H 1 v).bind λu=>(mh u).map λl=>.str (nj l)|_=>none
  |_,_,_=>none
 |_=>none
def tX(E:Env)(F:Frame)(H:bn)(place:Lk (Nat×Nat))(op:Op):Lk V:=
 match bQ E F op with
 |some v=>some v|none=>match place with
  |none=>evalConv E F H op|some _=>none
inductive Callee where
 |fn(f:FuncId)|yld(id:Nat)
def kC(F:Frame)(op:Op):Lk (Callee×L' V):=
 match op with
 |.call {callee:=.value f,args,..}=>match ev F f,fI F args.toList with
  |some (.clo g a b),some u=>some (.fn g,a++u++b)|some (.yld id),some u=>some (.yld id,u)|_,_=>none
 |_=>none
inductive WB where
 |pure|read|alloc|loud|call
 deriving DecidableEq
def dw:Op->WB
 |.load ..|.lookup ..=>.read|.alloc ..|.box ..|.makeSlice ..|.buildSlice ..|.makeMap ..=>.alloc|.store ..|.mapUpdate ..|.insert ..=>.loud|.call {callee:=.builtin .append,..}=>.loud|.call {callee:=.builtin .clear,..}=>.loud|.call {callee:=.value _,..}=>.call|_=>.pure
def iU(f:V->Lk V):L' V->Lk (L' V)
 |[]=>some []|x::r=>match f x,iU f r with
  |some y,some s=>some (y::s)|_,_=>none
def mC(f:V->Lk V):L' (L' V)->Lk (L' (L' V))
 |[]=>some []|x::r=>match iU f x,mC f r with
  |some y,some s=>some (y::s)|_,_=>none
def mI(f:V->Lk V):L' (V×V)->Lk (L' (V×V))
 |[]=>some []|(k,x)::r=>match f k,f x,mI f r with
  |some k,some y,some s=>some ((k,y)::s)|_,_,_=>none
def borrow:Nat->bn->V->Lk V
 |0,_,x=>if x.closed then some x else none|n+1,H,x=>
  if x.closed then some x else
  match x with
  |.hsl id es off len=>match(H[id]?).bind Ob.rows with
   |some (B,xs)=>if B=es/\off+len<=xs.length then(mC (borrow n H) ((xs.drop off).take len)).map (.fsl es)else none|none=>none
  |.hptr id el off=>match(H[id]?).bind Ob.rows with
   |some (_,xs)=>match xs[el]?with
    |some cs=>if off<=cs.length then(iU (borrow n H) (cs.drop off)).map .fptr else none|none=>none
   |none=>none
  |.hmap id=>match H[id]?with
   |some (.map D)=>(mI (borrow n H) D).map .fmap|_=>none
  |.clo f a b=>match iU (borrow n H) a,iU (borrow n H) b with
   |some a,some b=>some (.clo f a b)|_,_=>none
  |.agg cs=>(iU (borrow n H) cs).map .agg|.tup cs=>(iU (borrow n H) cs).map .tup|_=>none
def borrows(n:Nat)(H:bn)(l:L' V):Lk (L' V):=iU (borrow n H) l
def cW(f:V->L' Nat):L' V->L' Nat
 |[]=>[]|x::r=>f x++cW f r
def cn:Nat->bn->V->L' Nat
 |0,_,_=>[]|n+1,H,x=>
  if x.closed then[]else
  match x with
  |.hsl id _ off len=>id::(match(H[id]?).bind Ob.rows with|some (_,xs)=>cW (cn n H) ((xs.drop off).take len).flatten|none=>[])|.hptr id el off=>id::(match(H[id]?).bind Ob.rows with|some (_,xs)=>cW (cn n H) (((xs[el]?).getD []).drop off)|none=>[])|.hmap id=>id::(match H[id]?with|some (.map B)=>cW (cn n H) (B.map (·.1))++cW (cn n H) (B.map (·.2))|_=>[])|.clo _ a b=>cW (cn n H) a++cW (cn n H) b|.agg cs=>cW (cn n H) cs|.tup cs=>cW (cn n H) cs|_=>[]
def vF(H:bn)(id:Nat):bn:=
 match H[id]?with
 |some (.row es u)=>H.set id (.frz es u)|some (.map _)=>H.set id .dead|_=>H
def cM(H:bn)(l:L' Nat):bn:=l.foldl vF H
structure dG where
 lv:Nat
 go:Callee->List V->bn->Option (V×bn)
instance:CoeFun dG λ_=>Callee->L' V->bn->Lk (V×bn):=⟨dG.go⟩
def jh(H:bn)(T:L' Nat):Bool:=T.all λid=>((H[id]?).bind Ob.rows).isSome
def cm(call:dG)(f:FuncId)(args:L' V)(H:bn):Lk V:=
 match borrows call.lv H args with
 |some az=>match call (.fn f) az []with
  |some (r,H1)=>match borrow call.lv H1 r with
   |some y=>if y.closed then some y else none|none=>none
  |none=>none
 |none=>none
def sq(k:Nat)(H1:bn)(id es off len:Nat):Lk (V×Ob):=
 match H1[id]?with
 |some (.row u w)=>if u=es/\(w.all λx=>x.all V.scalar)=true then some (.hsl k es off len,.row es w)else none|_=>none
def lu(call:dG)(f:FuncId)(args:L' V)(H:bn):Lk (V×bn):=
 match borrows call.lv H args with
 |some az=>match call (.fn f) az []with
  |some (r,H1)=>
   if r.scalar then some (r,H)else
   match r with
   |.hsl id es off len=>(sq H.length H1 id es off len).map λ(v,ob)=>(v,H++[ob])|.tup (.hsl id es off len::rest)=>if V.cV rest then(sq H.length H1 id es off len).map λ(v,ob)=>(.tup (v::rest),H++[ob])else none|_=>none
  |none=>none
 |none=>none
def fq(E:Env)(call:dG)(f:FuncId)(args:L' V)(H:bn):Lk (V×bn):=if E.own f then lu call f args H else call (.fn f) args H
def mg(e:Edge):Bool:=match e.ground with|.textOnly _|.gcOnly _=>false|_=>true
def Ga(o:Oper)(i:Nat):Bool:=o.after.any λe=>e.on==i&&mg e
def Ku(a:L' (L' Nat))(o:Oper):L' Nat:=(o.after.toList.filter mg).foldl (λl e=>(e.on::(a[e.on]?).getD []).foldl (λl k=>if l.contains k then l else k::l) l) []
def Ko(ops:L' Oper):L' (L' Nat):=ops.foldl (λa o=>a++[Ku a o]) []
def before(ops:L' Oper)(i k:Nat):Bool:=(((Ko ops)[i]?).getD []).contains k
def isApp:Op->Bool
 |.call {callee:=.builtin .append,..}=>true|_=>false
def dJ(ops:L' Oper)(i:Nat):Bool:=
 match ops[i]?with
 |some o=>(range ops.length).all λk=>match ops[k]?with
  |some p=>k==i||dw p.op==.pure||(if k<i then before ops i k else before ops k i)||(isApp o.op&&dw p.op==.alloc&&decide (i<k))|none=>true
 |none=>false
def dstsOf(ops:L' Oper):L' Nat:=ops.filterMap (·.dst)
def xD(ops:L' Oper)(i k:Nat):Bool:=if k<i then before ops i k else before ops k i
def Iq(ops:L' Oper)(i k:Nat):Lk (L' Nat):=
 match ops[k]?with
 |some p=>
  if k==i||dw p.op==.pure||xD ops i k then some []else
  match p.op with
  |.load _ (.tmp a)=>if(dstsOf ops).contains a then some []else some [a]|_=>none
 |none=>some []
def DI(ops:L' Oper)(i:Nat):L' Nat->Lk (L' Nat)
 |[]=>some []|k::r=>match Iq ops i k,DI ops i r with
  |some a,some b=>some (a++b)|_,_=>none
def Bc(ops:L' Oper)(i:Nat):Lk (Nat×L' Nat):=
 match(ops[i]?).map Oper.op with
 |some (.store _ (.tmp a) _)=>if(dstsOf ops).contains a then none else(DI ops i (range ops.length)).map λl=>(a,l)|_=>none
def rX(id:Nat):V->Bool
 |.hptr B _ _=>B != id|.fptr _=>true|_=>false
def sP(ops:L' Oper)(i:Nat)(F:Frame):Bool:=
 match Bc ops i with
 |some (a,l)=>match get F a with
  |.hptr id _ _=>l.all λs=>rX id (get F s)|_=>false
 |none=>false
def qx(ops:L' Oper)(k a':Nat):L' Nat:=
 if(dstsOf ops).contains a' then(range ops.length).filterMap λi=>match(ops[i]?).map Oper.op with
  |some (.store _ (.tmp a) _)=>if xD ops i k||(dstsOf ops).contains a then none else some a|_=>none
 else[]
def o_(ops:L' Oper)(k:Nat)(F:Frame)(op:Op):Bool:=
 match op with
 |.load _ (.tmp u)=>(qx ops k u).all λa=>match get F a with
  |.hptr id _ _=>rX id (get F u)|_=>true
 |_=>true
def Ct(d:Nat)(op:Op):Bool:=op.operands.any λx=>match x with|.tmp t=>t==d|_=>false
def TC(d:Nat):Op->Bool
 |.call {callee:=.builtin .append,args,..}=>match args.toList with
  |.tmp t::r=>t==d&&r.all λx=>match x with|.tmp t=>t != d|_=>true
  |_=>false
 |_=>false
def Cy(ops:L' Oper)(i:Nat):Bool:=
 match ops[i]?with
 |some o=>match o.op,o.dst with
  |.makeSlice ..,some d=>(ops.any λp=>Ct d p.op)&&ops.all λp=> !Ct d p.op||dw p.op==.call|.buildSlice _ len ps,some d=>len==0&&ps.size==0&&((range ops.length).any λk=>match ops[k]?with|some p=>Ct d p.op&& !dJ ops k|none=>false)&&ops.all λp=> !Ct d p.op||TC d p.op|_,_=>false
 |none=>false
def TU(E:Env)(ops:L' Oper)(i:Nat):Bool:=
 match ops[i]?with
 |some o=>match o.op,o.dst with
  |.buildSlice t len _,some d=>decide (0<len)&&(match E.kindOf t with
   |some (.slice e)=>(match E.kindOf e with|some .bool|some (.int _)|some .str=>true|_=>false)|_=>false)&&(ops.any λp=>Ct d p.op)&&ops.all λp=> !Ct d p.op||dw p.op==.call
  |_,_=>false
 |none=>false
def D2(E:Env)(ops:L' Oper)(i:Nat):Bool:=Cy ops i||TU E ops i
def sL(E:Env)(ops:L' Oper):Lk (Nat×Nat)->Bool
 |some (_,i)=>D2 E ops i|none=>false
def mo(E:Env)(ops:L' Oper)(place:Lk (Nat×Nat))(f:FuncId):Bool:=E.keep f&&(match place with|none=>true|some (_,i)=>dJ ops i|| !E.own f)
def yB(ops:L' Oper)(i:Nat):Bool:=
 match ops[i]?with
 |some o=>isApp o.op&&(range ops.length).all λk=>match ops[k]?with
  |some p=>k==i||dw p.op==.pure||xD ops i k||dw p.op==.read||(dw p.op==.alloc&&(Cy ops k||decide (i<k)))|none=>true
 |none=>false
def qQ(F:Frame):Op->Bool
 |.call {callee:=.builtin .append,args,..}=>match args.toList with
  |x::_=>match ev F x with|some .dL|some .bM=>true|_=>false
  |_=>false
 |_=>false
def AA(ops:L' Oper)(i b:Nat)(F:Frame)(H:bn)(op:Op):Bool:=yB ops i&&(isApp op&&qQ F op&&decide (b<=H.length))
def dF(E:Env)(call:dG)(ops:L' Oper)(place:Lk (Nat×Nat))(F:Frame)(H:bn)(op:Op):Lk (V×bn):=
 match dw op with
 |.pure=>(tX E F H place op).map λv=>(v,H)|.read=>match place with
  |none=>(dZ E F H op).map λv=>(v,H)|some (b,i)=>if o_ ops i F op then match dZ E F (H.take b) op with
   |some v=>some (v,H)|none=>if dJ ops i then(dZ E F H op).map λv=>(v,H)else none
   else none
 |.alloc=>if sL E ops place then(qp E F op).map λv=>(v,H)else match e_ E F op,place with
  |some (ob,m),none=>some (m.val H.length,H++[ob])|some (ob,m),some (b,i)=>match H[b+i]?with
   |some .free=>some (m.val (b+i),H.set (b+i) ob)|_=>none
  |none,_=>none
 |.loud=>match place with
  |none=>dm E F H op|some (b,i)=>if dJ ops i||sP ops i F||AA ops i b F H op then dm E F H op else none
 |.call=>match kC F op with
  |some (.fn f,args)=>
   if mo E ops place f then
    match place with
    |none=>fq E call f args H|some (_,i)=>if dJ ops i then fq E call f args H else none
   else match place with
    |none=>match cm call f args H with
     |some y=>some (y,if y.scalar then H else cM H (cW (cn call.lv H) args))|none=>none
    |some (b,i)=>match cm call f args (H.take b)with
     |some y=>if y.scalar then some (y,H)else if jh (H.take b) (cW (cn call.lv (H.take b)) args)then some (y,cM H (cW (cn call.lv (H.take b)) args))else none|none=>if dJ ops i then match cm call f args H with
      |some y=>some (y,if y.scalar then H else cM H (cW (cn call.lv H) args))|none=>none
      else none
  |some (.yld id,args)=>match place with
   |none=>call (.yld id) args H|some (_,i)=>if dJ ops i then call (.yld id) args H else none
  |none=>none
def ko(n:Nat)(F:Frame)(dst:Lk Nat)(v:V):Lk Frame:=
 match dst with
 |none=>some F|some d=>if d<n then some (set F d v)else none
def gx(ops:L' Oper)(F:Frame)(o:Oper):Bool:=
 match o.guard with
 |none=>true|some (j,b)=>match(ops[j]?).bind (·.dst)with
  |some d=>match get F d with
   |.bool c=>c==b|_=>false
  |none=>false
def gO(E:Env)(call:dG)(n:Nat)(ops:L' Oper)(place:Lk (Nat×Nat))(o:Oper)(F:Frame)(H:bn):Lk (Frame×bn):=
 if gx ops F o then
  match dF E call ops place F H o.op with
  |some (v,H')=>(ko n F o.dst v).map λF'=>(F',H')|none=>none
 else(ko n F o.dst .undef).map λF'=>(F',H)
def mZ(E:Env)(call:dG)(n:Nat)(ops:L' Oper):L' Oper->Frame->bn->Lk (Frame×bn)
 |[],F,H=>some (F,H)|o::r,F,H=>match gO E call n ops none o F H with
  |some (F',H')=>mZ E call n ops r F' H'|none=>none
def kB(E:Env)(call:dG)(n:Nat)(ops:L' Oper)(base:Nat):L' Nat->Frame->bn->Lk (Frame×bn)
 |[],F,H=>some (F,H)|i::r,F,H=>match ops[i]?with
  |some o=>match gO E call n ops (some (base,i)) o F H with
   |some (F',H')=>kB E call n ops base r F' H'|none=>none
  |none=>none
def tmpsOf(o:Oper)(ops:L' Oper):L' Nat:=
 (o.op.operands.toList.filterMap λ|.tmp t=>some t|_=>none)++
 (match o.guard with|some (g,_)=>((ops[g]?).bind (·.dst)).toList|none=>[])
def zh(ops:L' Oper)(a b:Oper):Bool:=
 (match a.dst with|some d=> !(tmpsOf b ops).contains d&&b.dst != some d|none=>true)&&
 (match b.dst with|some d=> !(tmpsOf a ops).contains d|none=>true)
def xy(ops:L' Oper):Bool:=
 (range ops.length).all λj=>(range j).all λi=>
  match ops[i]?,ops[j]?with
  |some a,some b=>Ga b i||zh ops a b|_,_=>false
def Bm(ops:L' Oper):Bool:=
 (range ops.length).all λj=>match ops[j]?with
  |some o=>o.after.all λe=> !mg e||decide (e.on<j)|none=>true
def sV(ops:L' Oper):Bool:=ops.any λo=>dw o.op==.alloc
def j_(E:Env)(call:dG)(n:Nat)(ops:L' Oper)(B:Bool)(F:Frame)(H:bn):Lk (Frame×bn):=if B then if xy ops&&Bm ops then kB E call n ops H.length (range ops.length) F (if sV ops then H++replicate ops.length .free else H)else none else mZ E call n ops ops F H
def lG(step:Frame->bn->Lk (Out×Frame×bn)):Nat->Frame->bn->Lk (Out×Frame×bn)
 |0,_,_=>none|k+1,F,H=>match step F H with
  |some (.norm,F',H')=>lG step k F' H'|r=>r
def lU:Out->Lk Code
 |.norm=>none|.ret=>some .ret|.exit id=>some (.exit id)
def exec(E:Env)(call:dG)(lf:Nat)(ro:Bool)(n:Nat):Code->Frame->bn->Lk (Out×Frame×bn)
 |.skip,F,H=>some (.norm,F,H)|.label _,F,H=>some (.norm,F,H)|.region _ ops B,F,H=>(j_ E call n ops.toList B F H).map λ(F',H')=>(.norm,F',H')|.seq a b,F,H=>match exec E call lf ro n a F H with
  |some (.norm,F',H')=>exec E call lf ro n b F' H'|r=>r
 |.cond c x y,F,H=>match ev F c with
  |some (.bool t)=>if t then exec E call lf ro n x F H else exec E call lf ro n y F H|_=>none
 |.block id c,F,H=>match exec E call lf ro n c F H with
  |some (.exit D,F',H')=>if D=id then some (.norm,F',H')else some (.exit D,F',H')|r=>r
 |.loop c,F,H=>lG (exec E call lf ro n c) lf F H|.rangeFunc g ps assign body,F,H=>match ro,ev F g with
  |false,some (.clo f a b)=>
   match call (.fn f) (a++.yld H.length::b) (H++[.loop ⟨.ready,none,F,n,ps.toList,assign,body⟩])with
   |some (_,H')=>match H'[H.length]?with
    |some (.loop r)=>match r.st with
     |.busy=>none|_=>some (r.pend.getD .norm,F,H'.set H.length .dead)
    |_=>none
   |none=>none
  |_,_=>none
 |.exit id,F,H=>some (.exit id,F,H)|.ret,F,H=>some (.ret,F,H)|_,_,_=>none
def iR(E:Env)(F:Frame)(H:bn):L' ResultVar->Lk (L' V)
 |[]=>some []|.tmp t::r=>(iR E F H r).map (get F t::·)|.cell a t::r=>match E.tt t,iR E F H r with
  |some d,some vs=>((ey H (get F a) d.size).bind (mk d.agg)).map (·::vs)|_,_=>none
def result:L' V->V
 |[v]=>v|vs=>.tup vs
def zg:L' Nat->L' V->Frame->Frame
 |t::B,v::vs,F=>zg B vs (set F t v)|_,_,F=>F
def Jb{α:Type}[Inhabited α](lt:α->α->Bool):Nat->Nat->Array α->Array α
 |0,_,d=>d|k+1,i,d=>Jb lt k (i+1) (Sort.insInner lt 0 i d)
def rB(n:Nat)(lt:Fin (n+1)->Fin (n+1)->Bool):Array (Fin (n+1)):=if n<12 then Jb lt n 1 (finRange (n+1)).toArray else Sort.pdq lt (finRange (n+1)).toArray 0 (n+1) (Lib.bitLen (n+1)) true true
def js(call:dG)(g:FuncId)(D B:L' V)(n:Nat)(i j:Fin (n+1)):Lk Int:=
 match D[i.1]?,D[j.1]?with
 |some a,some b=>match cm call g (a::b::B) []with
  |some (.int .i64 c)=>some c|_=>none
 |_,_=>none
def qz{n:Nat}(t:Fin (n+1)->Fin (n+1)->Lk Int)(i j:Fin (n+1)):Bool:=decide ((t i j).getD 0<0)
def B4{n:Nat}(t:Fin (n+1)->Fin (n+1)->Lk Int):Bool:=
 let l:=finRange (n+1)
 l.all λi=> !qz t i i&&l.all λj=>(t i j).isSome&&l.all λk=>(!(qz t i j&&qz t j k)||qz t i k)&&((qz t i j||qz t j k)|| !qz t i k)
def sN(xs:L' (L' V))(off n:Nat)(l:L' (Fin (n+1))):L' (L' V):=xs.take off++l.map (λi=>(xs[off+i.1]?).getD [])++xs.drop (off+(n+1))
def rG(keep:FuncId->Bool)(call:dG)(args:L' V)(H:bn):Lk (V×bn):=
 match args with
 |[s,c]=>match s with
  |.bM|.dL=>some (.undef,H)|.hsl id es off len=>match len,c with
   |0,_=>some (.undef,H)|n+1,.clo g [] cb=>match H[id]?with
    |some (.row w z)=>if es=1/\w=1/\off+(n+1)<=z.length/\n<2147483648/\keep g=false then
     match borrows call.lv (H.set id .dead) ((z.drop off).take (n+1)).flatten,borrows call.lv (H.set id .dead) cb with
     |some B,some u=>if B4 (js call g B u n)then some (.undef,H.set id (.row 1 (sN z off n (rB n (qz (js call g B u n))).toList)))else none|_,_=>none
     else none
    |_=>none
   |_,_=>none
  |_=>none
 |_=>none
def kI(E:Env)(c:dG)(n:Nat):Callee->L' V->bn->Lk (V×bn)
 |.fn f,args,H=>match E.ft f with
  |some fi=>if args.length<=fi.ntmps then
   match exec E c n false fi.ntmps fi.body args H with
   |some (.exit _,_,_)=>none|some (_,F',H')=>(iR E F' H' fi.results).map λvs=>(result vs,H')|none=>none
   else none
  |none=>if E.sort f then rG E.keep c args H else(E.known f args).map λy=>(y,H)
 |.yld id,args,H=>match H[id]?with
  |some (.loop r)=>match r.st with
   |.ready=>if args.length=r.params.length/\r.params.all (·<r.nt)then
    match exec E c n true r.nt r.assign (zg r.params args r.frame) H with
    |some (.norm,D,H2)=>match H2[id]?with
     |some (.loop r2)=>match r2.st with
      |.ready=>match exec E c n true r.nt r.body D (H2.set id (.loop {r2 with st:=.busy}))with
       |some (o,_,B)=>match B[id]?with
        |some (.loop r4)=>some (.bool (o==.norm),B.set id (.loop {r4 with st:=(if o==.norm then .ready else .done),pend:=(if o==.norm then none else some o)}))|_=>none
       |none=>none
      |_=>none
     |_=>none
    |_=>none
    else none
   |_=>none
  |_=>none
def run(E:Env):Nat->dG
 |0=>⟨0,λ_ _ _=>none⟩|n+1=>⟨n+1,kI E (run E n) n⟩
theorem H7{E:Env}{n:Nat}{x:Callee}{a:L' V}{H:bn}:run E (n+1) x a H=kI E (run E n) n x a H:=rfl
end Go.VE
namespace Go.VE
variable[bY]
@[simp] theorem get_nil(i:Nat):get [] i=.undef:=by cases i<;>rfl
@[simp] theorem ug(F:Frame)(i:Nat)(v:V):get (set F i v) i=v:=by
 induction F generalizing i with
 |nil=>induction i with
  |zero=>rfl|succ i u=>simpa[set,get]using u
 |cons x r u=>cases i with
  |zero=>rfl|succ i=>simpa[set,get]using u i
theorem iF(F:Frame){i j:Nat}(v:V)(h:i≠j):get (set F i v) j=get F j:=by
 induction F generalizing i j with
 |nil=>
  induction i generalizing j with
  |zero=>cases j with
   |zero=>grind|succ j=>simp[set,get]
  |succ i u=>cases j with
   |zero=>simp[set,get]|succ j=>simpa[set,get]using u Zaa
 |cons x r u=>cases i with
  |zero=>cases j with
   |zero=>grind|succ j=>simp[set,get]
  |succ i=>cases j with
   |zero=>simp[set,get]|succ j=>simpa[set,get]using u Zaa
theorem IF(F:Frame){i j:Nat}(u v:V)(h:i≠j):set (set F i u) j v=set (set F j v) i u:=by
 induction F generalizing i j with
 |nil=>
  induction i generalizing j with
  |zero=>cases j with
   |zero=>grind|succ j=>simp[set]
  |succ i w=>cases j with
   |zero=>simp[set]|succ j=>simpa[set]using w Zaa
 |cons x r w=>cases i with
  |zero=>cases j with
   |zero=>grind|succ j=>simp[set]
  |succ i=>cases j with
   |zero=>simp[set]|succ j=>simpa[set]using w Zaa
inductive IC where
 |cells(c:Array Value)|map(es:Array MapEntry)
abbrev cA:=Nat->Lk IC
def IC.at(x:IC)(w:World)(b:Nat):Prop:=
 match x with
 |.cells c=>∃el fr,w.heap[b]?=some (.cells c el fr)|.map es=>∃a,w.heap[b]?=some (.map es a)
def cA.le(I I':cA):Prop:=∀b x,I b=some x->I' b=some x
theorem cA.le_refl(I:cA):cA.le I I:=λ_ _ h=>h
theorem cA.le_trans{I J K:cA}(h:cA.le I J)(B:cA.le J K):cA.le I K:=λb x e=>B b x (h b x e)
inductive eN(I:cA):V->Value->Prop
 |bool(b:Bool):eN I (.bool b) (.bool b)|int(k:IntKind)(n:Int):eN I (.int k n) (.int k n)|str(s:ByteArray):eN I (.str s) (.string s)|dL(a:Option Addr):eN I .dL (.slice a 0 0)|bM:eN I .bM (.slice none 0 0)|fsl0(es:Nat)(a:Addr)(cap:Nat):eN I (.fsl es []) (.slice (some a) 0 cap)|fsl(es:Nat)(xs:List (List V))(b o cap:Nat)(c:Array Value)(hI:I b=some (.cells c))(hc:xs.length<=cap)
  (hu:∀x∈xs,x.length=es) (ho:∀x∈xs,∀y∈x,V.one y=true) (hb:o+xs.length*es<=c.size)
  (hr:∀(i j:Nat)x y v,xs[i]?=some x->x[j]?=some y->c[o+i*es+j]?=some v->eN I y v):
  eN I (.fsl es xs) (.slice (some ⟨b,o,none⟩) xs.length cap)
 |iI:eN I .iI (.pointer none)|fptr(cs:List V)(b o:Nat)(c:Array Value)(hI:I b=some (.cells c))(hb:o+cs.length<=c.size)
  (hr:∀(j:Nat)y v,cs[j]?=some y->c[o+j]?=some v->eN I y v):eN I (.fptr cs) (.pointer (some ⟨b,o,none⟩))
 |clo(f:FuncId)(x y:List V)(u v:Array Value)(hx:x.length=u.size)(hy:y.length=v.size)
  (h1:∀(j:Nat)a b,x[j]?=some a->u[j]?=some b->eN I a b) (h2:∀(j:Nat)a b,y[j]?=some a->v[j]?=some b->eN I a b):
  eN I (.clo f x y) (.func (.func f) u v)
 |gD:eN I .gD (.map none)|tF:eN I .tF .nilFunc|fmap(kvs:List (V×V))(b:Nat)(es:Array MapEntry)(hI:I b=some (.map es))(hl:kvs.length=es.size)
  (hk:∀(j:Nat)p e,kvs[j]?=some p->es[j]?=some e->eN I p.1 e.key)
  (hv:∀(j:Nat)p e,kvs[j]?=some p->es[j]?=some e->eN I p.2 e.val):eN I (.fmap kvs) (.map (some b))
 |agg(cs:List V)(vs:Array Value)(hl:cs.length=vs.size)(h:∀(j:Nat)a b,cs[j]?=some a->vs[j]?=some b->eN I a b):
  eN I (.agg cs) (.agg vs)
 |tup(cs:List V)(vs:Array Value)(hl:cs.length=vs.size)(h:∀(j:Nat)a b,cs[j]?=some a->vs[j]?=some b->eN I a b):
  eN I (.tup cs) (.tuple vs)
structure Pl where
 b:Nat
 o:Nat
 es:Nat
 sz:Nat
abbrev Mu:=Nat->Lk Pl
inductive bK(I:cA)(μ:Mu):V->Value->Prop
 |c(x:V)(v:Value)(h:eN I x v):bK I μ x v|hsl(id off len cap:Nat)(p:Pl)(hm:μ id=some p)(hc:len<=cap)(hb:p.o+(off+cap)*p.es<=p.sz):
  bK I μ (.hsl id p.es off len) (.slice (some ⟨p.b,p.o+off*p.es,none⟩) len cap)
 |hsl0(id es off:Nat)(a:Addr):bK I μ (.hsl id es off 0) (.slice (some a) 0 0)|hptr(id el off:Nat)(p:Pl)(hm:μ id=some p):bK I μ (.hptr id el off) (.pointer (some ⟨p.b,p.o+el*p.es+off,none⟩))|yld(id:Nat)(p:Pl)(hm:μ id=some p):bK I μ (.yld id) (.func (.yield p.b) #[] #[])|hmap(id:Nat)(p:Pl)(hm:μ id=some p):bK I μ (.hmap id) (.map (some p.b))|clo(f:FuncId)(x y:List V)(u v:Array Value)(hx:x.length=u.size)(hy:y.length=v.size)
  (h1:∀(j:Nat)a b,x[j]?=some a->u[j]?=some b->bK I μ a b) (h2:∀(j:Nat)a b,y[j]?=some a->v[j]?=some b->bK I μ a b):
  bK I μ (.clo f x y) (.func (.func f) u v)
 |agg(cs:List V)(vs:Array Value)(hl:cs.length=vs.size)(h:∀(j:Nat)a b,cs[j]?=some a->vs[j]?=some b->bK I μ a b):
  bK I μ (.agg cs) (.agg vs)
 |tup(cs:List V)(vs:Array Value)(hl:cs.length=vs.size)(h:∀(j:Nat)a b,cs[j]?=some a->vs[j]?=some b->bK I μ a b):
  bK I μ (.tup cs) (.tuple vs)
def Mu.le(μ μ':Mu):Prop:=∀id p,μ id=some p->μ' id=some p
theorem Mu.le_refl(μ:Mu):Mu.le μ μ:=λ_ _ h=>h
theorem eN.mono{I I':cA}(h:cA.le I I'){x:V}{v:Value}(r:eN I x v):eN I' x v:=by induction r with|bool b=>exact .bool b|int k n=>exact .int k n|str s=>exact .str s|dL a=>exact .dL a|bM=>exact .bM|fsl0 es a cap=>exact .fsl0 es a cap|fsl es O b o cap c C hc hu Q G _ w=>exact .fsl es O b o cap c (h _ _ C) hc hu Q G w|iI=>exact .iI|fptr cs b o c C G _ w=>exact .fptr cs b o c (h _ _ C) G w|clo f x y u v S T _ _ z B=>exact .clo f x y u v S T z B|gD=>exact .gD|tF=>exact .tF|fmap J b es C D _ _ z B=>exact .fmap J b es (h _ _ C) D z B|agg cs L D _ w=>exact .agg cs L D w|tup cs L D _ w=>exact .tup cs L D w
theorem bK.mono{I I':cA}{μ μ':Mu}(h:cA.le I I')(B:Mu.le μ μ'){x:V}{v:Value}(r:bK I μ x v):bK I' μ' x v:=by induction r with|c x v r=>exact .c _ _ (r.mono h)|hsl id off len cap p w hc L=>exact .hsl id off len cap p (B _ _ w) hc L|hsl0 id es off a=>exact .hsl0 id es off a|hptr id el off p w=>exact .hptr id el off p (B _ _ w)|yld id p w=>exact .yld id p (B _ _ w)|hmap id p w=>exact .hmap id p (B _ _ w)|clo f x y u v O Q _ _ z C=>exact .clo f x y u v O Q z C|agg cs D G _ J=>exact .agg cs D G J|tup cs D G _ J=>exact .tup cs D G J
def cN(I:cA)(μ:Mu)(xs:L' V)(vs:L' Value):Prop:=xs.length=vs.length/\∀(j:Nat)a b,xs[j]?=some a->vs[j]?=some b->bK I μ a b
theorem cN.nil{I:cA}{μ:Mu}:cN I μ [] []:=⟨rfl,Zab⟩
theorem cN.cons{I:cA}{μ:Mu}{x:V}{v:Value}{xs:L' V}{vs:L' Value}(h:bK I μ x v)(r:cN I μ xs vs):cN I μ (x::xs) (v::vs):=by refine⟨by simp[r.1],?_⟩;intro j a b c u;cases j with|zero=>grind|succ j=>exact r.2 j a b Zac Zac
theorem cN.cons_inv{I:cA}{μ:Mu}{x:V}{xs:L' V}{B:L' Value}(r:cN I μ (x::xs) B):∃v vs,B=v::vs/\bK I μ x v/\cN I μ xs vs:=by obtain⟨u,h⟩:=r;cases B with|nil=>simp_all|cons v vs=>refine⟨v,vs,rfl,h 0 x v Zab Zab,Zac,?_⟩;intro j a b c w;exact h (j+1) a b Zac Zac
theorem cN.wT{I:cA}{μ:Mu}{B:L' Value}(r:cN I μ [] B):B=[]:=by have:=r.1;grind
theorem cN.append{I:cA}{μ:Mu}{xs ys:L' V}{B vs:L' Value}(h:cN I μ xs B)(D:cN I μ ys vs):cN I μ (xs++ys) (B++vs):=by induction xs generalizing B with|nil=>rw[cN.wT h];exact D|cons x xs u=>obtain⟨v,B,rfl,a,b⟩:=h.cons_inv;exact .cons a (u b)
theorem cN.mono{I I':cA}{μ μ':Mu}(h:cA.le I I')(B:Mu.le μ μ'){xs:L' V}{vs:L' Value}(r:cN I μ xs vs):cN I' μ' xs vs:=⟨r.1,λj a b c u=>(r.2 j a b c u).mono h B⟩
theorem cN.take{I:cA}{μ:Mu}{xs:L' V}{vs:L' Value}(r:cN I μ xs vs)(n:Nat):cN I μ (xs.take n) (vs.take n):=by refine⟨by simp[r.1],λj a b c u=>?_⟩;rw[getElem?_take]at c u;split at c<;>simp_all;exact r.2 j a b c u
theorem cN.drop{I:cA}{μ:Mu}{xs:L' V}{vs:L' Value}(r:cN I μ xs vs)(n:Nat):cN I μ (xs.drop n) (vs.drop n):=by refine⟨by simp[r.1],λj a b c u=>?_⟩;rw[getElem?_drop]at c u;exact r.2 _ a b c u
theorem bK.cells{I:cA}{μ:Mu}{x:V}{v:Value}(r:bK I μ x v):cN I μ x.cells v.cells.toList:=by
 cases r with
 |c x v h=>cases h with|agg cs C w h=>exact⟨by simpa[V.cells,Value.cells]using w,λj a b d z=>.c _ _ (h j a b d (by simpa[Value.cells]using z))⟩|bool b=>exact .cons (.c _ _ (.bool b)) .nil|int k n=>exact .cons (.c _ _ (.int k n)) .nil|str s=>exact .cons (.c _ _ (.str s)) .nil|dL a=>exact .cons (.c _ _ (.dL a)) .nil|bM=>exact .cons (.c _ _ .bM) .nil|fsl0 es a cap=>exact .cons (.c _ _ (.fsl0 es a cap)) .nil|fsl es Q b o cap c D hc hu S G hr=>exact .cons (.c _ _ (.fsl es Q b o cap c D hc hu S G hr)) .nil|iI=>exact .cons (.c _ _ .iI) .nil|fptr cs b o c D G hr=>exact .cons (.c _ _ (.fptr cs b o c D G hr)) .nil|clo f x y u v J L d z=>exact .cons (.c _ _ (.clo f x y u v J L d z)) .nil|gD=>exact .cons (.c _ _ .gD) .nil|tF=>exact .cons (.c _ _ .tF) .nil|fmap O b es D w hk hv=>exact .cons (.c _ _ (.fmap O b es D w hk hv)) .nil|tup cs C w h=>exact .cons (.c _ _ (.tup cs C w h)) .nil
 |hsl id off len cap p B hc G=>exact .cons (.hsl id off len cap p B hc G) .nil|hsl0 id es off a=>exact .cons (.hsl0 id es off a) .nil|hptr id el off p B=>exact .cons (.hptr id el off p B) .nil|yld id p B=>exact .cons (.yld id p B) .nil|hmap id p B=>exact .cons (.hmap id p B) .nil|clo f x y u v J L d z=>exact .cons (.clo f x y u v J L d z) .nil|agg cs C w h=>exact⟨by simpa[V.cells,Value.cells]using w,λj a b d z=>h j a b d (by simpa[Value.cells]using z)⟩|tup cs C w h=>exact .cons (.tup cs C w h) .nil
theorem bK.Ip{I:cA}{μ:Mu}{cs:L' V}{vs:Array Value}(h:cN I μ cs vs.toList):bK I μ (.agg cs) (.agg vs):=.agg cs vs (by simpa using h.1) λj a b c u=>h.2 j a b c Zac
theorem bK.Ut{I:cA}{μ:Mu}{cs:L' V}{vs:Array Value}(h:cN I μ cs vs.toList):bK I μ (.tup cs) (.tuple vs):=.tup cs vs (by simpa using h.1) λj a b c u=>h.2 j a b c Zac
section inv
variable{I:cA}{μ:Mu}
theorem bK.s6{b:Bool}{v:Value}(h:bK I μ (.bool b) v):v=.bool b:=by cases h with|c _ _ h=>cases h;rfl
theorem bK.fW{k:IntKind}{n:Int}{v:Value}(h:bK I μ (.int k n) v):v=.int k n:=by cases h with|c _ _ h=>cases h;rfl
theorem bK.uT{s:ByteArray}{v:Value}(h:bK I μ (.str s) v):v=.string s:=by cases h with|c _ _ h=>cases h;rfl
theorem bK.tE{v:Value}(h:bK I μ .dL v):∃a,v=.slice a 0 0:=by cases h with|c _ _ h=>cases h;grind
theorem bK.mV{es:Nat}{xs:L' (L' V)}{v:Value}(h:bK I μ (.fsl es xs) v):eN I (.fsl es xs) v:=by cases h with|c _ _ h=>omega
theorem bK.nh{cs:L' V}{v:Value}(h:bK I μ (.fptr cs) v):∃b o c,v=.pointer (some ⟨b,o,none⟩)/\I b=some (.cells c)/\o+cs.length<=c.size/\
 (∀(j:Nat)y u,cs[j]?=some y->c[o+j]?=some u->eN I y u):=by
 cases h with|c _ _ h=>cases h with|fptr cs b o c w z hr=>grind
theorem bK.mS{v:Value}(h:bK I μ .bM v):v=.slice none 0 0:=by cases h with|c _ _ h=>cases h;rfl
theorem bK.SR{v:Value}(h:bK I μ .gD v):v=.map none:=by cases h with|c _ _ h=>cases h;rfl
theorem bK.uE{id el off:Nat}{v:Value}(h:bK I μ (.hptr id el off) v):∃p,μ id=some p/\v=.pointer (some ⟨p.b,p.o+el*p.es+off,none⟩):=by cases h with|c _ _ h=>cases h|hptr _ _ _ p u=>grind
theorem bK.Wa{id:Nat}{v:Value}(h:bK I μ (.yld id) v):∃p,μ id=some p/\v=.func (.yield p.b) #[] #[]:=by cases h with|c _ _ h=>cases h|yld _ p u=>grind
theorem bK.C4{id:Nat}{v:Value}(h:bK I μ (.hmap id) v):∃p,μ id=some p/\v=.map (some p.b):=by cases h with|c _ _ h=>cases h|hmap _ p u=>grind
theorem bK.mT{id es off len:Nat}{v:Value}(h:bK I μ (.hsl id es off len) v):
 (∃p b,μ id=some p/\p.es=es/\len<=b/\p.o+(off+b)*es<=p.sz/\v=.slice (some ⟨p.b,p.o+off*es,none⟩) len b)\/(len=0/\∃a,v=.slice (some a) 0 0):=by
 cases h with
 |c _ _ h=>cases h|hsl _ _ _ b p u hc w=>simp_all|hsl0 _ _ _ a=>grind
theorem bK.jc{cs:L' V}{v:Value}(h:bK I μ (.agg cs) v):∃vs,v=.agg vs/\cN I μ cs vs.toList:=by
 cases h with
 |c _ _ h=>cases h with|agg _ vs u h=>exact⟨vs,rfl,Zac,λj a b d w=>.c _ _ (h j a b d Zac)⟩
 |agg _ vs u h=>exact⟨vs,rfl,Zac,λj a b d w=>h j a b d Zac⟩
theorem bK.qZ{cs:L' V}{v:Value}(h:bK I μ (.tup cs) v):∃vs,v=.tuple vs/\cN I μ cs vs.toList:=by
 cases h with
 |c _ _ h=>cases h with|tup _ vs u h=>exact⟨vs,rfl,Zac,λj a b d w=>.c _ _ (h j a b d Zac)⟩
 |tup _ vs u h=>exact⟨vs,rfl,Zac,λj a b d w=>h j a b d Zac⟩
theorem bK.kN{f:FuncId}{x y:L' V}{v:Value}(h:bK I μ (.clo f x y) v):∃a b,v=.func (.func f) a b/\cN I μ x a.toList/\cN I μ y b.toList:=by
 cases h with
 |c _ _ h=>cases h with
  |clo _ _ _ u v z B h1 w=>exact⟨u,v,rfl,⟨Zac,λj a b p q=>.c _ _ (h1 j a b p Zac)⟩,⟨Zac,λj a b p q=>.c _ _ (w j a b p Zac)⟩⟩
 |clo _ _ _ u v z B h1 w=>exact⟨u,v,rfl,⟨Zac,λj a b p q=>h1 j a b p Zac⟩,⟨Zac,λj a b p q=>w j a b p Zac⟩⟩
theorem bK.of_bool{x:V}{b:Bool}(h:bK I μ x (.bool b)):x=.bool b:=by cases h with|c _ _ h=>cases h;rfl
end inv
def vi(I:cA):Prop:=∀g cs,bY.gl g=some cs->eN I (.fptr cs) (.pointer (some ⟨g,0,none⟩))
theorem vi.mono{I I':cA}(h:cA.le I I')(r:vi I):vi I':=λg cs a=>(r g cs a).mono h
structure eM(I:cA)(μ:Mu)(n:Nat)(F:Frame)(tmps:Array Value):Prop where
 size:tmps.size=n
 rel:∀t,bK I μ (get F t) (tmps.getD t undef)
 gl:vi I
theorem bK.undef(I:cA)(μ:Mu):bK I μ .undef Go.undef:=.c _ _ (.tup [] #[] rfl Zab)
theorem eM.mono{I I':cA}{μ μ':Mu}{n:Nat}{F:Frame}{tmps:Array Value}(h:cA.le I I')(B:Mu.le μ μ')(r:eM I μ n F tmps):eM I' μ' n F tmps:=⟨r.1,λt=>(r.2 t).mono h B,r.gl.mono h⟩
theorem eM.put{I:cA}{μ:Mu}{n:Nat}{F F':Frame}{a:Act}{dst:Lk Nat}{x:V}{v:Value}(r:eM I μ n F a.tmps)(h:bK I μ x v)
 (hp:ko n F dst x=some F'):eM I μ n F' (a.put dst v).tmps:=by
 cases dst with
 |none=>simp[ko]at hp;subst hp;exact r|some d=>
  simp only[ko]at hp;split at hp
  .simp at hp;subst hp;refine⟨by simp[Act.put,r.1],λt=>?_,r.gl⟩
   by_cases u:d=t
   .subst u;have:d<a.tmps.size:=by rw[r.1];omega
    simpa[Act.put,getD_eq_getD_getElem?,Array.getElem?_setIfInBounds,this]using h
   have:=r.2 t;rw[iF _ _ u];simpa[Act.put,getD_eq_getD_getElem?,Array.getElem?_setIfInBounds,u]using this
  grind
theorem CF{I:cA}:∀(n:Nat)(v:Value)(x:V),ofValue n v=some x->eN I x v:=by
 intro n;induction n with|zero=>intro v x h;simp[ofValue]at h|succ n B=>
  intro v x h;unfold ofValue at h;split at h<;>(try (simp at h;subst h;constructor))<;>(try grind);simp at h;obtain⟨C,w,rfl⟩:=h;have key:∀(l:L' Value)(u:L' V),l.mapM (ofValue n)=some u->u.length=l.length/\∀(j:Nat)a b,u[j]?=some a->l[j]?=some b->eN I a b:=by intro l;induction l with|nil=>grind|cons v l z=>intro u h;simp[ζg]at h;grind
  obtain⟨D,c⟩:=key _ _ w;exact .agg _ _ Zac λj a b d G=>c j a b d Zac
theorem dH{I:cA}{μ:Mu}{n:Nat}{F:Frame}{a:Act}(r:eM I μ n F a.tmps){o:Operand}{x:V}(h:ev F o=some x):bK I μ x (a.eval o):=by cases o with|tmp t=>simp[ev]at h;subst h;exact r.2 t|const v=>exact .c _ _ (CF 4 _ _ h)|func f=>simp[ev]at h;subst h;exact .c _ _ (.clo f [] [] #[] #[] rfl rfl Zab Zab)|global g=>obtain⟨cs,b,rfl⟩:=ζf.1 h;exact .c _ _ (r.gl g cs b)
theorem oV{I:cA}{μ:Mu}{n:Nat}{F:Frame}{a:Act}(r:eM I μ n F a.tmps):∀{l:L' Operand}{xs:L' V},fI F l=some xs->cN I μ xs (l.map a.eval):=by
 intro l;induction l with|nil=>intro xs h;simp[fI]at h;subst h;exact .nil|cons o l u=>
  intro xs h;simp[fI]at h;split at h;next v z b w=>simp at h;subst h;exact .cons (dH r b) (u w)
  grind
theorem Oq{I:cA}{μ:Mu}{n:Nat}{F:Frame}{a:Act}(r:eM I μ n F a.tmps):∀{l:L' (Nat×Operand)}{xs:L' (Nat×V)},ng F l=some xs->
 xs.length=l.length/\∀(j:Nat)x y,xs[j]?=some x->l[j]?=some y->x.1=y.1/\bK I μ x.2 (a.eval y.2):=by
 intro l
 induction l with
 |nil=>intro xs h;simp[ng]at h;grind|cons o l z=>
  intro xs h;simp[ng]at h;split at h
  .rename_i v D h1 B;simp at h;subst h;obtain⟨C,b⟩:=z B;refine⟨by simp[C],λj x y u w=>?_⟩
   cases j with
   |zero=>simp at u w;subst u;subst w;exact⟨rfl,dH r h1⟩|succ j=>grind
  grind
def nr:TypeDesc->TK
 |.bool=>.bool|.int k=>.int k|.string=>.str|.pointer e=>.ptr e|.slice e=>.slice e|.struct fs=>.struct (fs.toList.map λf=>(f.offset,f.type))|.array n e=>.array n e|.map k e=>.map k e|_=>.other
def Fi:Value->Bool
 |.agg _=>true|_=>false
def xO(P:Program)(t:TypeId):Lk TD:=
 match P.info? t,P.underlying t with
 |some i,some d=>match i.zero with
  |some z=>match z.cells.toList.mapM (ofValue 4)with
   |some cs=>if cs.length=i.size/\cs.all V.one=true/\Fi z=(TD.mk i.size i.bytes cs (nr d)).agg then some ⟨i.size,i.bytes,cs,nr d⟩else none|none=>none
  |none=>none
 |_,_=>none
def ic(a:L' Int):Array Value:=(a.map (Value.int .i64)).toArray
structure xh(P:Program)(t:TypeId)(n:Nat):Prop where
 eq:∀(w:World)(x y:Operand)(a b:List Int),a.length=n->b.length=n->
  (do eqGuard .eql t x y (.agg (ic a)) (.agg (ic b));binOp .eql t (.agg (ic a)) (.agg (ic b))).run P w=.ok (.bool (a==b)) w
 ne:∀(w:World)(x y:Operand)(a b:List Int),a.length=n->b.length=n->
  (do eqGuard .neq t x y (.agg (ic a)) (.agg (ic b));binOp .neq t (.agg (ic a)) (.agg (ic b))).run P w=.ok (.bool !(a==b)) w
 key:∀(w:World)(a b:List Int),a.length=n->b.length=n->(equal t (.agg (ic a)) (.agg (ic b))).run P w=.ok (a==b) w
 check:∀(w:World)(e:Bool)(a:List Int),a.length=n->(checkKey e 10000 t (.agg (ic a))).run P w=.ok () w
 kind:∃d,P.underlying t=some d/\((∃n e,d=.array n e)\/(∃fs,d=.struct fs))
structure eS(P:Program)(E:Env):Prop where
 tt:∀t d,E.tt t=some d->xO P t=some d
 ft:∀f fi,E.ft f=some fi->∃fn,P.funcs[f]?=some fn/\fn.body=some fi.body/\fn.ntmps=fi.ntmps/\fn.results.toList=fi.results/\(fn.name== "runtime.NumGoroutine")=false
 eqN:∀t n,E.eqN t=some n->xh P t n
structure qS(P:Program)(t:TypeId)(d:TD):Prop where
 info:∃i z,P.info? t=some i/\i.size=d.size/\i.bytes=d.bytes/\i.zero=some z/\(∀I μ,cN I μ d.zero z.cells.toList)/\d.zero.length=d.size/\d.zero.all V.one=true/\Fi z=d.agg
 und:∃desc,P.underlying t=some desc/\nr desc=d.kind
theorem SU{I:cA}{μ:Mu}:∀(l:L' Value)(ys:L' V),l.mapM (ofValue 4)=some ys->cN I μ ys l:=by intro l;induction l with|nil=>intro ys h;simp at h;subst h;exact .nil|cons v l u=>intro ys h;simp only[List.mapM_cons,Option.pure_def,Option.bind_eq_bind,ζg,ζa]at h;obtain⟨y,w,z,B,rfl⟩:=h;exact .cons (.c _ _ (CF 4 _ _ w)) (u z B)
theorem eS.ty{P:Program}{E:Env}(h:eS P E){t:TypeId}{d:TD}(B:E.tt t=some d):qS P t d:=by
 have:=h.tt t d B;unfold xO at this;split at this;rename_i i a hi hd;split at this;rename_i z u;split at this;rename_i cs b;split at this;next w=>simp only[ζa]at this;subst this;exact⟨⟨i,z,hi,rfl,rfl,u,λI μ=>SU _ _ b,w⟩,⟨a,hd,rfl⟩⟩
 simp at this;simp at this;simp at this;simp at this
section runs
variable{P:Program}{w:World}{t:TypeId}{d:TD}
theorem dP{a:TypeDesc}(h:P.underlying t=some a):(underlying t).run P w=.ok a w:=by simp[underlying,h]
theorem pQ{i:TypeInfo}(h:P.info? t=some i):(typeInfo t).run P w=.ok i w:=by simp[typeInfo,h]
theorem qS.kW(h:qS P t d):(sizeOf t).run P w=.ok d.size w:=by obtain⟨i,z,hi,u,_⟩:=h.info;simp[sizeOf,pQ hi,u]
theorem qS.dP(h:qS P t d):∃a,P.underlying t=some a/\nr a=d.kind/\∀w,(underlying t).run P w=.ok a w:=by obtain⟨a,b,u⟩:=h.und;exact⟨a,b,u,λw=>VE.dP b⟩
theorem qS.MM(h:qS P t d):(isAgg t).run P w=.ok d.agg w:=by obtain⟨a,b,u⟩:=h.und;unfold isAgg;simp only[run_bind,VE.dP b,andThen_ok];cases a<;>simp[TD.agg,<-u,nr]
theorem qS.EN(h:qS P t d):∃z,(∀w,(zeroValue t).run P w=.ok z w)/\(∀I μ,cN I μ d.zero z.cells.toList)/\d.zero.length=d.size/\d.zero.all V.one=true:=by obtain⟨i,z,hi,_,_,u,a,B,b,_⟩:=h.info;exact⟨z,λw=>by simp[zeroValue,pQ hi,u],a,B,b⟩
end runs
theorem qS.Wf{P:Program}{t:TypeId}{d:TD}(h:qS P t d):∃z,(∀w,(zeroValue t).run P w=.ok z w)/\∀I μ x,VE.mk d.agg d.zero=some x->bK I μ x z:=by
 obtain⟨i,z,hi,_,_,D,a,G,b,u⟩:=h.info;refine⟨z,λw=>by simp[zeroValue,pQ hi,D],λI μ x C=>?_⟩;have B:=a I μ;cases hd:d.agg with|true=>rw[hd]at C u;cases z<;>simp[Fi]at u;simp only[VE.mk,if_true,ζa]at C;subst C;exact .Ip (by simpa[Value.cells]using B)|false=>
  rw[hd]at C u;simp only[VE.mk,false_eq_true,if_false]at C;split at C
  .rename_i v hv;simp only[ζa]at C;subst C;rw[hv]at B;have e:z.cells.toList=[z]:=by cases z<;>first|rfl|simp[Fi]at u
   rw[e]at B;exact B.2 0 _ _ rfl rfl
  simp at C
theorem fV{E:Env}{t:TypeId}{k:TK}(h:E.kindOf t=some k):∃d,E.tt t=some d/\d.kind=k:=by unfold Env.kindOf at h;simpa[ζf]using h
theorem Ef{d:TypeDesc}{k:IntKind}(h:nr d=.int k):d=.int k:=by cases d<;>simp_all [nr]
theorem Mg{d:TypeDesc}(h:nr d=.bool):d=.bool:=by cases d<;>simp_all [nr]
theorem Bk{d:TypeDesc}(h:nr d=.str):d=.string:=by cases d<;>simp_all [nr]
theorem jV{d:TypeDesc}{e:TypeId}(h:nr d=.slice e):d=.slice e:=by cases d<;>simp_all [nr]
theorem DL{d:TypeDesc}{n:Nat}{e:TypeId}(h:nr d=.array n e):d=.array n e:=by cases d<;>simp_all [nr]
theorem Bl{d:TypeDesc}{k e:TypeId}(h:nr d=.map k e):d=.map k e:=by cases d<;>simp_all [nr]
theorem AK{d:TypeDesc}{fs:L' (Nat×TypeId)}(h:nr d=.struct fs):∃B,d=.struct B/\fs=B.toList.map λf=>(f.offset,f.type):=by cases d<;>simp_all [nr]
theorem B0{I:cA}{μ:Mu}{cs r:L' V}{vs:L' Value}{off n:Nat}(h:cN I μ cs vs)(a:cut cs off n=some r):
 cN I μ r ((vs.drop off).take n)/\r.length=n/\off+n<=cs.length\/(n=0/\r=[]):=by
 unfold cut at a;simp only at a;split at a
 .rename_i u;simp only[ζa]at a;subst a
  by_cases w:n=0
  .right;subst w;simp
  left;refine⟨(h.drop off).take n,u,?_⟩;simp at u;omega
 simp at a
theorem PG{I:cA}{μ:Mu}{cs:L' V}{x:V}{vs:Array Value}(h:mk true cs=some x)(r:cN I μ cs vs.toList):bK I μ x (.agg vs):=by simp only[mk,if_true,ζa]at h;subst h;exact .Ip r
theorem mk_one{I:cA}{μ:Mu}{cs:L' V}{x:V}{vs:L' Value}(h:mk false cs=some x)(r:cN I μ cs vs):∃v,vs=[v]/\bK I μ x v:=by simp only[mk,false_eq_true,if_false]at h;split at h;simp only[ζa]at h;subst h;obtain⟨v,u,rfl,a,b⟩:=r.cons_inv;exact⟨v,by rw[b.wT],a⟩;simp at h
theorem JR{P:Program}{w:World}{I:cA}{μ:Mu}{t:TypeId}{d:TD}{cs r:L' V}{vs:Array Value}{x:V}{off:Nat}(D:qS P t d)(h:cN I μ cs vs.toList)
 (b:cut cs off d.size=some r)(B:mk d.agg r=some x):∃u,(part t vs off).run P w=.ok u w/\bK I μ x u:=by
 unfold part;simp only[run_bind,D.MM,andThen_ok]
 cases z:d.agg with
 |true=>
  rw[z]at B;refine⟨.agg (vs.extract off (off+d.size)),by simp[D.kW],?_⟩
  refine PG B ?_;have e:(vs.extract off (off+d.size)).toList=(vs.toList.drop off).take d.size:=Zab
  rw[e];rcases B0 h b with⟨a,_⟩|⟨c,rfl⟩
  .exact a
  rw[c];exact .nil
 |false=>
  rw[z]at B;rcases B0 h b with⟨a,G,_⟩|⟨c,rfl⟩
  .obtain⟨v,hv,C⟩:=mk_one B a;refine⟨v,?_,C⟩;have hd:d.size=1:=by
    have:=a.1;rw[hv]at this;simp at this;omega
   rw[hd]at hv;have:vs[off]?=some v:=by have:=congrArg (·[0]?) hv;simpa[getElem?_take,getElem?_drop]using this
   simp[this]
  simp[mk]at B
theorem MK{I:cA}{μ:Mu}:∀(az:L' V)(a:L' Int)(B:L' Value),iS az=some a->cN I μ az B->B=a.map (Value.int .i64)/\a.length=az.length:=by
 intro az;induction az with|nil=>intro a B h u;simp only[iS,ζa]at h;subst h;rw[u.wT];simp|cons x az w=>
  intro a B h u;obtain⟨v,B,rfl,c,d⟩:=u.cons_inv;have z:∃y,x=.int .i64 y:=by cases x with|int k y=>cases k<;>simp[iS]at h⊢|_=>simp[iS]at h
  obtain⟨y,rfl⟩:=z;simp only[iS,ζf]at h;obtain⟨b,C,rfl⟩:=h;obtain⟨g1,g2⟩:=w _ _ C d;have:=c.fW;subst this;exact⟨by simp[g1],by simp[g2]⟩
theorem rP{I:cA}{μ:Mu}{az:L' V}{a:L' Int}{B:Array Value}(h:iS az=some a)(D:cN I μ az B.toList):B=ic a/\a.length=az.length:=by obtain⟨b,u⟩:=MK _ _ _ h D;refine⟨?_,u⟩;have:=congrArg List.toArray b;simpa[ic]using this
theorem yJ{az B:L' V}{r:Bool}(h:lM az B=some r):∃a b,iS az=some a/\iS B=some b/\a.length=b.length/\r=(a==b):=by
 unfold lM at h;split at h;rename_i a b c u;split at h;next w=>simp only[ζa]at h;exact⟨a,b,c,u,w,h.symm⟩
 simp at h;simp at h
section
variable{P:Program}{E:Env}{I:cA}{μ:Mu}{n:Nat}{F:Frame}{a:Act}{w:World}
theorem Qd(f:BinOp)(t:TypeId)(p q:Operand)(k B:IntKind)(m m':Int):(eqGuard f t p q (.int k m) (.int B m')).run P w=.ok () w:=by unfold eqGuard;cases f<;>simp
theorem Qx(f:BinOp)(t:TypeId)(p q:Operand)(s B:ByteArray):(eqGuard f t p q (.string s) (.string B)).run P w=.ok () w:=by unfold eqGuard;cases f<;>simp
theorem MI(f:BinOp)(t:TypeId)(p q:Operand)(s B:Bool):(eqGuard f t p q (.bool s) (.bool B)).run P w=.ok () w:=by unfold eqGuard;cases f<;>simp
theorem JM(d:Nat){t:TypeId}(x y:Bool)(h:P.underlying t=some .bool):(equalIn (d+1) t (.bool x) (.bool y)).run P w=.ok (x==y) w:=by simp only[equalIn,run_bind,dP h,andThen_ok,run_pure]
theorem EO{t:TypeId}(x y:Bool)(h:P.underlying t=some .bool):(equal t (.bool x) (.bool y)).run P w=.ok (x==y) w:=JM 9999 x y h
theorem CN(d:Nat){t:TypeId}{k:IntKind}(x y:Int)(h:P.underlying t=some (.int k)):(equalIn (d+1) t (.int k x) (.int k y)).run P w=.ok (x==y) w:=by simp only[equalIn,run_bind,dP h,andThen_ok,run_pure,if_true]
theorem HQ(d:Nat){t e:TypeId}(B:Lk Addr)(l c:Nat)(h:P.underlying t=some (.slice e)):(equalIn (d+1) t (.slice B l c) (.slice none 0 0)).run P w=.ok B.isNone w:=by cases B<;>simp only[equalIn,run_bind,dP h,andThen_ok,run_pure]<;>rfl
theorem Lq(d:Nat){t e:TypeId}(B:Lk Addr)(h:P.underlying t=some (.pointer e)):(equalIn (d+1) t (.pointer B) (.pointer none)).run P w=.ok B.isNone w:=by cases B<;>simp only[equalIn,run_bind,dP h,andThen_ok,run_pure]<;>rfl
theorem K4(d:Nat){t e D:TypeId}(B:Lk Nat)(h:P.underlying t=some (.map e D)):(equalIn (d+1) t (.map B) (.map none)).run P w=.ok B.isNone w:=by cases B<;>simp only[equalIn,run_bind,dP h,andThen_ok,run_pure]<;>rfl
theorem GN(U:eS P E){t:TypeId}{k:TK}{x y:V}{u v:Value}{b:Bool}(m:E.kindOf t=some k)(h:vr k x y=some b)(B:bK I μ x u)(D:bK I μ y v):
 (equal t u v).run P w=.ok b w/\(∀op p q,(eqGuard op t p q u v).run P w=.ok () w)/\binOp .eql t u v=(do pure (.bool (<-equal t u v)))/\binOp .neq t u v=(do pure (.bool (!(<-equal t u v)))):=by
 obtain⟨d,hd,O⟩:=fV m;obtain⟨a,f,C,_⟩:=(U.ty hd).dP;rw[O]at C;have g:∀(e:TypeId)(z:Lk Addr)(l c:Nat),P.underlying t=some (.slice e)->b=z.isNone->
  (equal t (.slice z l c) (.slice none 0 0)).run P w=.ok b w/\(∀op p q,(eqGuard op t p q (.slice z l c) (.slice none 0 0)).run P w=.ok () w)/\binOp .eql t (.slice z l c) (.slice none 0 0)=(do pure (.bool (<-equal t (.slice z l c) (.slice none 0 0))))/\binOp .neq t (.slice z l c) (.slice none 0 0)=(do pure (.bool (!(<-equal t (.slice z l c) (.slice none 0 0))))):=by
  intro e z l c i L;refine⟨?_,λop p q=>by unfold eqGuard;cases op<;>simp,rfl,rfl⟩
  rw[L];exact HQ 9999 z l c i
 have G:∀(e:TypeId)(z:Lk Addr),P.underlying t=some (.pointer e)->b=z.isNone->
  (equal t (.pointer z) (.pointer none)).run P w=.ok b w/\(∀op p q,(eqGuard op t p q (.pointer z) (.pointer none)).run P w=.ok () w)/\binOp .eql t (.pointer z) (.pointer none)=(do pure (.bool (<-equal t (.pointer z) (.pointer none))))/\binOp .neq t (.pointer z) (.pointer none)=(do pure (.bool (!(<-equal t (.pointer z) (.pointer none))))):=by
  intro e z i L;refine⟨?_,λop p q=>by unfold eqGuard;cases op<;>simp,rfl,rfl⟩
  rw[L];exact Lq 9999 z i
 have J:∀(e S:TypeId)(z:Lk Nat),P.underlying t=some (.map e S)->b=z.isNone->
  (equal t (.map z) (.map none)).run P w=.ok b w/\(∀op p q,(eqGuard op t p q (.map z) (.map none)).run P w=.ok () w)/\binOp .eql t (.map z) (.map none)=(do pure (.bool (<-equal t (.map z) (.map none))))/\binOp .neq t (.map z) (.map none)=(do pure (.bool (!(<-equal t (.map z) (.map none))))):=by
  intro e S z i L;refine⟨?_,λop p q=>by unfold eqGuard;cases op<;>simp,rfl,rfl⟩
  rw[L];exact K4 9999 z i
 unfold vr at h;split at h<;>(try (simp only[ζa]at h;subst h))
 .have:=jV C;subst this;rw[B.mS,D.mS];exact g _ none 0 0 f rfl
 .have:=jV C;subst this;rw[D.mS];have T:=B.mV
  cases T with
  |fsl0 _ z j=>exact g _ _ _ _ f rfl|fsl=>exact g _ _ _ _ f rfl
 .have:=jV C;subst this;rw[D.mS];rcases B.mT with⟨p,j,_,_,_,_,Q⟩|⟨_,z,Q⟩
  .rw[Q];exact g _ _ _ _ f rfl
  rw[Q];exact g _ _ _ _ f rfl
 .obtain⟨e,rfl⟩:∃e,a=.pointer e:=by cases a<;>simp_all [nr]
  cases B with|c _ _ B=>cases B;cases D with|c _ _ D=>cases D;exact G _ none f rfl
 .obtain⟨e,rfl⟩:∃e,a=.pointer e:=by cases a<;>simp_all [nr]
  cases D with|c _ _ D=>cases D;cases B with|c _ _ B=>cases B;exact G _ _ f rfl
 .obtain⟨e,rfl⟩:∃e,a=.pointer e:=by cases a<;>simp_all [nr]
  cases D with
  |c _ _ D=>
   cases D
   cases B with
   |c _ _ B=>cases B|hptr=>exact G _ _ f rfl
 .have:=Bl C;subst this;cases B with|c _ _ B=>cases B;cases D with|c _ _ D=>cases D;exact J _ _ none f rfl
 .have:=Bl C;subst this;cases D with|c _ _ D=>cases D;cases B with|c _ _ B=>cases B;exact J _ _ _ f rfl
 .have:=Bl C;subst this
  cases D with
  |c _ _ D=>
   cases D
   cases B with
   |c _ _ B=>cases B|hmap=>exact J _ _ _ f rfl
 cases h
theorem Vf(J:eS P E){op:BinOp}{t:TypeId}{x y z:V}{u v:Value}(p q:Operand)(h:JQ E op t x y=some z)(U:bK I μ x u)(W:bK I μ y v):
 ∃r,(do eqGuard op t p q u v;binOp op t u v).run P w=.ok r w/\bK I μ z r:=by
 unfold JQ at h;split at h
 .
  rename_i k m g m';rw[U.fW,W.fW];simp only[run_bind,Qd,andThen_ok];split at h
  .
   split at h
   .simp at h
   rename_i B;simp only[ζa]at h;subst h;exact⟨_,by simp[binOp,Op.shift,B],.c _ _ (.int _ _)⟩
  .split at h
   .simp at h
   rename_i B;simp only[ζa]at h;subst h;exact⟨_,by simp[binOp,Op.shift,B],.c _ _ (.int _ _)⟩
  split at h
  .rename_i S T c;subst c
   cases op with
   |shl=>exact absurd rfl S|shr=>exact absurd rfl T|add=>simp only[ζa]at h;subst h;exact⟨_,by simp[binOp,intArith],.c _ _ (.int _ _)⟩|sub=>simp only[ζa]at h;subst h;exact⟨_,by simp[binOp,intArith],.c _ _ (.int _ _)⟩|mul=>simp only[ζa]at h;subst h;exact⟨_,by simp[binOp,intArith],.c _ _ (.int _ _)⟩|quo=>
    simp only at h;split at h
    .simp at h
    rename_i B;simp only[ζa]at h;subst h;exact⟨_,by simp[binOp,Op.intDiv,B],.c _ _ (.int _ _)⟩
   |rem=>
    simp only at h;split at h
    .simp at h
    rename_i B;simp only[ζa]at h;subst h;exact⟨_,by simp[binOp,Op.intDiv,B],.c _ _ (.int _ _)⟩
   |and=>simp only[ζa]at h;subst h;exact⟨_,by simp[binOp,intBits],.c _ _ (.int _ _)⟩|or=>simp only[ζa]at h;subst h;exact⟨_,by simp[binOp,intBits],.c _ _ (.int _ _)⟩|xor=>simp only[ζa]at h;subst h;exact⟨_,by simp[binOp,intBits],.c _ _ (.int _ _)⟩|andNot=>simp only[ζa]at h;subst h;exact⟨_,by simp[binOp,intBits],.c _ _ (.int _ _)⟩|eql=>simp only[oR,map_some,ζa]at h;subst h;exact⟨_,by simp[binOp,intCmp],.c _ _ (.bool _)⟩|neq=>simp only[oR,map_some,ζa]at h;subst h;exact⟨_,by simp[binOp,intCmp],.c _ _ (.bool _)⟩|lss=>simp only[oR,map_some,ζa]at h;subst h;exact⟨_,by simp[binOp,intCmp],.c _ _ (.bool _)⟩|leq=>simp only[oR,map_some,ζa]at h;subst h;exact⟨_,by simp[binOp,intCmp],.c _ _ (.bool _)⟩|gtr=>simp only[oR,map_some,ζa]at h;subst h;exact⟨_,by simp[binOp,intCmp],.c _ _ (.bool _)⟩|geq=>simp only[oR,map_some,ζa]at h;subst h;exact⟨_,by simp[binOp,intCmp],.c _ _ (.bool _)⟩
  simp at h
 .
  rename_i s i;rw[U.uT,W.uT];simp only[run_bind,Qx,andThen_ok];split at h
  .split at h
   .simp at h
   rename_i B;simp only[ζa]at h;subst h;exact⟨_,by simp only[binOp,Op.stringOp];rw[if_neg B];rfl,.c _ _ (.str _)⟩
  all_goals first
   |(simp only[ζa]at h;subst h;exact⟨_,by simp[binOp,Op.stringOp],.c _ _ (.bool _)⟩)|simp at h
 .
  rename_i b j;rw[U.s6,W.s6];simp only[run_bind,MI,andThen_ok];split at h
  next c=>obtain⟨d,hd,D⟩:=fV c;obtain⟨e,a,C,_⟩:=(J.ty hd).dP;rw[D]at C;have:=Mg C;subst this;simp only[ζa]at h;subst h;exact⟨_,by simp only[binOp,run_bind,EO _ _ a,andThen_ok,run_pure],.c _ _ (.bool _)⟩
  next c=>obtain⟨d,hd,D⟩:=fV c;obtain⟨e,a,C,_⟩:=(J.ty hd).dP;rw[D]at C;have:=Mg C;subst this;simp only[ζa]at h;subst h;exact⟨_,by simp only[binOp,run_bind,EO _ _ a,andThen_ok,run_pure],.c _ _ (.bool _)⟩
  simp at h
 .
  rename_i az l;obtain⟨n,rfl,L⟩:=U.jc;obtain⟨o,rfl,O⟩:=W.jc;split at h
  .rename_i m G;split at h
   next Z=>simp only[ζf]at h;obtain⟨r,f,rfl⟩:=h;obtain⟨X,Y,a,C,Q,rfl⟩:=yJ f;obtain⟨rfl,e1⟩:=rP a L;obtain⟨rfl,e2⟩:=rP C O;exact⟨_,(J.eqN _ _ G).eq w p q X Y Zaa Zaa,.c _ _ (.bool _)⟩
   simp at h
  .rename_i m G;split at h
   next Z=>simp only[ζf]at h;obtain⟨r,f,rfl⟩:=h;obtain⟨X,Y,a,C,Q,rfl⟩:=yJ f;obtain⟨rfl,e1⟩:=rP a L;obtain⟨rfl,e2⟩:=rP C O;exact⟨_,(J.eqN _ _ G).ne w p q X Y Zaa Zaa,.c _ _ (.bool _)⟩
   simp at h
  simp at h

 split at h
 next k c=>simp only[ζf]at h;obtain⟨b,B,rfl⟩:=h;obtain⟨a,C,Q,_⟩:=GN (w:=w) J c B U W;exact⟨.bool b,by rw[run_bind,C,Q];simp[andThen,a],.c _ _ (.bool _)⟩
 next k c=>simp only[ζf]at h;obtain⟨b,B,rfl⟩:=h;obtain⟨a,C,_,Q⟩:=GN (w:=w) J c B U W;exact⟨.bool !b,by rw[run_bind,C,Q];simp[andThen,a],.c _ _ (.bool _)⟩
 simp at h
end
section
variable{P:Program}{E:Env}{I:cA}{μ:Mu}{n:Nat}{F:Frame}{a:Act}{w:World}
theorem Lr(off:Nat):∀(l:L' Value)(k:Nat)(cells:Array Value),off+k+l.length<=cells.size->
 ((l.zipIdx k).foldl (λcs(p:Value×Nat)=>cs.setIfInBounds (off+p.2) p.1) cells).toList=cells.toList.take (off+k)++l++cells.toList.drop (off+k+l.length):=by
 intro l
 induction l with
 |nil=>simp_all|cons v l u=>
  intro k cells h;simp at h;simp;rw[u (k+1) _ (by simp;omega)]
  simp;rw[show off+(k+1)=off+k+1 from Zaa,List.take_succ_eq_append_getElem Zac]
  rw[List.take_set_of_le Zaa,List.getElem_set_self]
  rw[List.drop_set_of_lt Zaa]
  grind
theorem NJ{cs xs:L' V}{cells:Array Value}{v:Value}{off:Nat}(h:cN I μ cs cells.toList)(B:cN I μ xs v.cells.toList)(D:off+xs.length<=cs.length):
 cN I μ (cs.take off++xs++cs.drop (off+xs.length)) (v.cells.zipIdx.foldl (λcs(p:Value×Nat)=>cs.setIfInBounds (off+p.2) p.1) cells).toList:=by
 have e:v.cells.zipIdx.foldl (λcs p=>cs.setIfInBounds (off+p.2) p.1) cells=(v.cells.toList.zipIdx 0).foldl (λcs p=>cs.setIfInBounds (off+p.2) p.1) cells:=by rw[<-Array.foldl_toList];simp
 have a:=h.1;have u:=B.1;rw[e,Lr off _ 0 _ Zac]
 rw[<-u];exact((h.take off).append B).append (h.drop _)
theorem DA{place place':Nat->Lk (Nat×Nat)}(hp:∀i p,place i=some p->place' i=some p):∀(vs:L' (Nat×V))(B:L' (Nat×Value))(cs r:L' V)(cells:Array Value),
 vs.length=B.length->(∀(j:Nat)x y,vs[j]?=some x->B[j]?=some y->x.1=y.1/\bK I μ x.2 y.2)->cN I μ cs cells.toList->vg place cs vs=some r->
 ∃D,fill place' cells B=some D/\cN I μ r D.toList:=by
 intro vs
 induction vs with
 |nil=>
  intro B cs r cells L _ c w
  cases B with
  |nil=>simp[vg]at w;subst w;exact⟨cells,rfl,c⟩|cons _ _=>simp_all
 |cons x vs Q=>
  intro B cs r cells L d c w
  cases B with
  |nil=>simp_all|cons y B=>
   obtain⟨i,x⟩:=x;obtain⟨S,y⟩:=y;obtain⟨C,z⟩:=d 0 (i,x) (S,y) rfl rfl;subst C;simp only at z;simp only[vg]at w;split at w
   .simp at w
   rename_i off size G;split at w
   .simp at w
   rename_i T;have u:=z.cells;have O:x.cells.length=y.cells.size:=by simpa using u.1
   have U:cs.length=cells.size:=by simpa using c.1
   have J:¬(decide (y.cells.size≠size)||decide (off+y.cells.size>cells.size))=true:=by grind
   simp at T;obtain⟨D,e,W⟩:=Q B _ r _ (by simpa using L) (λj a b p q=>d (j+1) a b (by simpa using p) (by simpa using q)) (NJ c u Zaa) w
   refine⟨D,?_,W⟩;simp only[fill,hp _ _ G];rw[if_neg J];omega
theorem OQ(ps:Array (Nat×Operand))(f:Operand->Value):(ps.map λ(i,x)=>(i,f x)).toList=ps.toList.map λp=>(p.1,f p.2):=Zab
theorem Gy{ps:Array (Nat×Operand)}{vs:L' (Nat×V)}(r:eM I μ n F a.tmps)(h:ng F ps.toList=some vs):
 vs.length=(ps.map λ(i,x)=>(i,a.eval x)).toList.length/\∀(j:Nat)x y,vs[j]?=some x->(ps.map λ(i,x)=>(i,a.eval x)).toList[j]?=some y->x.1=y.1/\bK I μ x.2 y.2:=by
 obtain⟨u,b⟩:=Oq r h;rw[OQ]
 grind
theorem OR(D:eS P E):∀(B:L' Field)(pl:L' (Nat×Nat)),od E (B.map λf=>(f.offset,f.type))=some pl->
 ((B.mapM λf=>do pure (f.offset,<-sizeOf f.type)):Sem (L' (Nat×Nat))).run P w=.ok pl w:=by
 intro B
 induction B with
 |nil=>intro pl h;simp[od]at h;simp_all|cons f B z=>
  intro pl h;simp[od]at h;split at h
  next d ps hd u=>simp at h;subst h;have:=z _ u;simp only[List.mapM_cons,run_bind,(D.ty hd).kW,andThen_ok,run_pure,this]
  grind
theorem M8(D:eS P E)(B:Array Field)(pl:L' (Nat×Nat))(h:od E (B.toList.map λf=>(f.offset,f.type))=some pl):
 ((B.mapM λf=>do pure (f.offset,<-sizeOf f.type)):Sem (Array (Nat×Nat))).run P w=.ok pl.toArray w:=by
 rw[Array.mapM_eq_mapM_toList];simp only[Sem.run_map,OR D _ _ h,andThen_ok]
theorem Rh(B:eS P E)(r:eM I μ n F a.tmps){t:TypeId}{ps:Array (Nat×Operand)}{x:V}(h:bQ E F (.build t ps)=some x):
 ∃v,(Instr.build t (ps.map λ(i,x)=>(i,a.eval x))).run P w=.ok v w/\bK I μ x v:=by
 simp[bQ]at h;split at h
 .rename_i d Q hd D;obtain⟨S,b⟩:=Gy r D;obtain⟨z,U,u,_⟩:=(B.ty hd).EN;obtain⟨c,f,C,W⟩:=(B.ty hd).dP;unfold Instr.build;simp[run_bind,U,W,andThen_ok];split at h
  .rename_i fs hk;rw[hk]at C;obtain⟨X,rfl,rfl⟩:=AK C;split at h
   .rename_i pl G;simp at h;obtain⟨cs,J,rfl⟩:=h;obtain⟨L,g1,g2⟩:=DA (place':=λi=>pl.toArray[i]?) Zac Q _ d.zero cs z.cells S b (u I μ) J
    refine⟨.agg L,?_,.Ip g2⟩;have:=M8 (w:=w) B X pl G;simp_all
   grind
  .rename_i e hk;rw[hk]at C;have:=DL C;subst this;split at h
   .rename_i T O;simp at h;obtain⟨cs,J,rfl⟩:=h;obtain⟨L,g1,g2⟩:=DA (place':=λi=>some (i*T.size,T.size)) Zac Q _ d.zero cs z.cells S b (u I μ) J
    refine⟨.agg L,?_,.Ip g2⟩;simp[run_bind,(B.ty O).kW,andThen_ok];simp_all
   grind
  grind
 grind
theorem qA(b o k:Nat):(⟨b,o,none⟩:Addr).add k=⟨b,o+k,none⟩:=by unfold Addr.add;grind
theorem Gn{cs:L' V}{b o:Nat}{c:Array Value}(k:Nat)(B:I b=some (.cells c))(D:o+cs.length<=c.size)
 (a:∀(j:Nat)y u,cs[j]?=some y->c[o+j]?=some u->eN I y u)(d:k<=cs.length):bK I μ (.fptr (cs.drop k)) (.pointer (some ⟨b,o+k,none⟩)):=
 .c _ _ (.fptr _ b (o+k) c B (by simp;omega) λj y u e w=>a (k+j) y u Zac Zac)
theorem NT(U:eS P E)(r:eM I μ n F a.tmps){s:TypeId}{o:Operand}{f:Nat}{x:V}(h:bQ E F (.fieldAddr s o f)=some x):
 ∃v,(fieldAt s (a.eval o) f).run P w=.ok v w/\bK I μ x v:=by
 simp[bQ]at h;split at h
 .rename_i fs p hk Q;obtain⟨d,hd,C⟩:=fV hk;obtain⟨i,l,L,S⟩:=(U.ty hd).dP;rw[C]at L;obtain⟨T,rfl,rfl⟩:=AK L;have j:=dH r Q;split at h
  .rename_i off t O;simp at O;obtain⟨g,W,rfl,rfl⟩:=O;have z:T[f]?=some g:=by grind
   split at h
   .rename_i dt D;split at h
    .simp_all
    rename_i G;have B:∀(b u:Nat),(fieldAt s (.pointer (some ⟨b,u,none⟩)) f).run P w=.ok (.pointer (some ⟨b,u+g.offset,none⟩)) w:=by intro b u;unfold fieldAt;simp[run_bind,S,andThen_ok,z,sureAddr,run_pure,fieldPlace,(U.ty D).kW,if_neg G,qA]
    split at h
    .split at h
     next J=>simp at h;subst h;obtain⟨b,u,c,e,X,Y,k⟩:=j.nh;rw[e];exact⟨_,B b u,Gn _ X Y k J⟩
     grind
    .rename_i id el u;simp at h;obtain⟨p,Z,e⟩:=j.uE;rw[e];have:=bK.hptr (I:=I) id el (u+g.offset) p Z
     grind
    grind
   grind
  grind
 grind
theorem Tj(G:eS P E)(r:eM I μ n F a.tmps){s:TypeId}{o:Operand}{f:Nat}{x:V}(h:bQ E F (.field s o f)=some x):
 ∃v,(Instr.field s (a.eval o) f).run P w=.ok v w/\bK I μ x v:=by
 simp[bQ]at h;split at h
 .rename_i fs cs hk O;obtain⟨d,hd,B⟩:=fV hk;obtain⟨b,i,J,Q⟩:=(G.ty hd).dP;rw[B]at J;obtain⟨S,rfl,rfl⟩:=AK J;obtain⟨Y,e,C⟩:=(dH r O).jc;rw[e];split at h
  .rename_i off t L;simp at L;obtain⟨c,T,rfl,rfl⟩:=L;have z:S[f]?=some c:=by grind
   split at h
   next Z D=>simp[ζg]at h;obtain⟨q,U,W⟩:=h;obtain⟨u,g,X⟩:=JR (w:=w) (G.ty D) C U W;refine⟨u,?_,X⟩;unfold Instr.field;simp[run_bind,Q,andThen_ok,z,asAgg,run_pure,g]
   grind
  grind
 grind
theorem mL(k:IntKind)(m:Int):(asIntOf (.int k m)).run P w=.ok (k,m) w:=rfl
theorem Of(U:eS P E)(r:eM I μ n F a.tmps){t:TypeId}{o i:Operand}{x:V}(h:bQ E F (.indexAddr t o i)=some x):
 ∃v,(indexAt t (a.eval o) (a.eval i)).run P w=.ok v w/\bK I μ x v:=by
 simp[bQ]at h;split at h
 .
  rename_i e s k m K W hi;obtain⟨d,hd,G⟩:=fV K;obtain⟨l,h1,Q,X⟩:=(U.ty hd).dP;rw[G]at Q;have:=jV Q;subst this;have A:=dH r W;have J:=(dH r hi).fW;rw[J];split at h
  .rename_i T L;split at h
   .simp_all
   have B:∀(b z len f:Nat),m.toNat<len->(indexAt t (.slice (some ⟨b,z,none⟩) len f) (.int k m)).run P w=.ok (.pointer (some ⟨b,z+m.toNat*T.size,none⟩)) w:=by intro b z len f C;unfold indexAt;have H:0<=m/\m<(len):=Zaa;simp[run_bind,mL,X,andThen_ok,run_pure,(U.ty L).kW,run_ite,if_pos H,qA]
   split at h
   .rename_i es Y;split at h
    .rename_i D;simp only[ζf]at h;obtain⟨cs,O,rfl⟩:=h;have C:m.toNat<Y.length:=(ζe.1 O).1;have hf:=A.mV;generalize hg:a.eval o=g at hf
     cases hf with
     |fsl0=>simp_all|fsl _ _ b z f c Z H hu ho N R=>refine⟨_,B b z _ _ C,?_⟩;have S:cs∈Y:=mem_of_getElem? O;have ad:=hu cs S;have aa:(m.toNat+1)*es<=Y.length*es:=mul_le_mul_right _ C;rw[add_mul]at aa;rw[<-D];exact .c _ _ (.fptr cs b _ c Z Zaa λj y u p q=>R m.toNat j cs y u O p q)
    grind
   .rename_i id es off len;split at h
    .rename_i D;simp only[ζa]at h;obtain⟨D,C⟩:=D;rcases A.mT with⟨p,f,M,he,H,N,e⟩|⟨h0,_⟩
     .rw[e];have:=bK.hptr (I:=I) (μ:=μ) id (off+m.toNat) 0 p M
      grind
     omega
    grind
   grind
  grind
 .
  rename_i len e p k m K W hi;obtain⟨d,hd,G⟩:=fV K;obtain⟨l,h1,Q,X⟩:=(U.ty hd).dP;rw[G]at Q;have:=DL Q;subst this;have A:=dH r W;have J:=(dH r hi).fW;rw[J];split at h
  .rename_i T L;split at h
   .rename_i H;have B:∀(b z:Nat),(indexAt t (.pointer (some ⟨b,z,none⟩)) (.int k m)).run P w=.ok (.pointer (some ⟨b,z+m.toNat*T.size,none⟩)) w:=by
     intro b z;unfold indexAt;simp only[run_bind,mL,X,andThen_ok,run_pure,sureAddr,(U.ty L).kW,run_ite,if_pos H,qA]
    split at h
    .split at h
     next ab=>simp only[ζa]at h;subst h;obtain⟨b,z,c,e,Z,N,R⟩:=A.nh;rw[e];exact⟨_,B b z,Gn _ Z N R ab⟩
     grind
    .rename_i id el z;simp only[ζa]at h;obtain⟨p,M,e⟩:=A.uE;rw[e];have:=bK.hptr (I:=I) (μ:=μ) id el (z+m.toNat*T.size) p M
     grind
    grind
   grind
  grind
 grind
end
section
variable{P:Program}{E:Env}{I:cA}{μ:Mu}{n:Nat}{F:Frame}{a:Act}{w:World}
theorem Rs(D:eS P E)(r:eM I μ n F a.tmps){t:TypeId}{o i:Operand}{x:V}(h:bQ E F (.index t o i)=some x):
 ∃v,(Instr.index t (a.eval o) (a.eval i)).run P w=.ok v w/\bK I μ x v:=by
 simp[bQ]at h;split at h
 .rename_i s k m hk G hi;obtain⟨d,hd,z⟩:=fV hk;obtain⟨c,g,B,J⟩:=(D.ty hd).dP;rw[z]at B;have:=Bk B;subst this;rw[(dH r hi).fW,(dH r G).uT];split at h
  next f=>simp at h;obtain⟨b,O,rfl⟩:=h;refine⟨.int .u8 b.toNat,?_,.c _ _ (.int _ _)⟩;unfold Instr.index;simp[run_bind,mL,J,andThen_ok,if_pos f,O,run_pure]
  grind
 .rename_i len e cs k m hk G hi;obtain⟨d,hd,z⟩:=fV hk;obtain⟨c,g,B,J⟩:=(D.ty hd).dP;rw[z]at B;have:=DL B;subst this;obtain⟨U,ev,L⟩:=(dH r G).jc;rw[(dH r hi).fW,ev];split at h
  .rename_i W C;split at h
   next f=>simp[ζg]at h;obtain⟨q,Q,S⟩:=h;obtain⟨u,j,T⟩:=JR (w:=w) (D.ty C) L Q S;refine⟨u,?_,T⟩;unfold Instr.index;simp[run_bind,mL,J,andThen_ok,run_ite,if_pos f,(D.ty C).kW,j]
   grind
  grind
 grind
theorem Na(B:eS P E)(r:eM I μ n F a.tmps){s d:TypeId}{o:Operand}{x:V}(h:bQ E F (.convert s d o)=some x):
 ∃v,(convert s d (a.eval o)).run P w=.ok v w/\bK I μ x v:=by
 simp[bQ]at h;split at h
 .rename_i G J k m z hd C;split at h
  next L b=>simp at h;subst h;obtain⟨c,g1,_,g3⟩:=(B.ty z).dP;obtain⟨e,f,u,D⟩:=(B.ty hd).dP;rw[b]at u;have:=Ef u;subst this;rw[(dH r C).fW];refine⟨_,?_,.c _ _ (.int _ _)⟩;unfold convert;simp[run_bind,g3,D,andThen_ok,Conv.intToInt,run_pure]
  grind
 grind
theorem qR(r:eM I μ n F a.tmps){o:Lk Operand}{m:Lk Int}(h:kz F o=some m):
 (m=none/\o.map a.eval=none)\/∃k z,m=some z/\o.map a.eval=some (.int k z):=by
 cases o with
 |none=>simp[kz]at h;grind|some x=>
  simp[kz]at h;split at h
  next k z u=>simp at h;subst h;exact .inr ⟨k,z,rfl,by simp[(dH r u).fW]⟩
  grind
theorem nG(k:IntKind)(z:Int)(y:Nat)(code:BoundsCode)(a:0<=z)(b:z<=y):(sliceBound (.int k z) y code).run P w=.ok z.toNat w:=by unfold sliceBound;simp[run_bind,mL,andThen_ok,if_pos (And.intro a b),run_pure]
theorem mW(r:eM I μ n F a.tmps){lo hi:Lk Operand}{l h:Lk Int}(e1:kz F lo=some l)(e2:kz F hi=some h)(D:Bool)(len b L H:Nat)(c:len<=b)
 (B:dX len l h=some (L,H)):(sliceBounds D len b (lo.map a.eval) (hi.map a.eval) none).run P w=.ok (L,H,b) w/\L<=H/\H<=len:=by
 unfold dX at B;simp only at B;split at B
 .rename_i u;obtain⟨rfl,rfl⟩:=B;obtain⟨G,S,J,T⟩:=u;refine⟨?_,by omega,by omega⟩
  unfold sliceBounds;rcases qR r e1 with⟨rfl,O⟩|⟨k1,C,rfl,O⟩<;>rcases qR r e2 with⟨rfl,Q⟩|⟨k2,z,rfl,Q⟩<;>
   simp only[O,Q,getD_some]at G S J T⊢
  .simp_all
  .simp only[run_pure,andThen_ok,run_bind,nG k2 z _ _ G (show z<=b by omega)]
   simp
  .simp only[run_pure,andThen_ok,run_bind,nG k1 C _ _ J (show C<=len by omega)]
   simp
  simp[run_pure,andThen_ok,run_bind,nG k2 z _ _ G (show z<=b by omega),nG k1 C _ _ J (show C<=z.toNat by omega)]
 grind
theorem FU{es:Nat}{xs:L' (L' V)}{v:Value}{L H:Nat}(h:eN I (.fsl es xs) v)(d:L<=H)(D:H<=xs.length):
 ∃B len a,v=.slice B len a/\len=xs.length/\len<=a/\eN I (.fsl es ((xs.take H).drop L)) (.slice (if a=L then B else B.map (·.add (L*es))) (H-L) (a-L)):=by
 cases h with
 |fsl0 _ B a=>
  simp at D;have z:L=0:=Zaa
  subst D;subst z;refine⟨some B,0,a,rfl,rfl,zero_le _,?_⟩;have:=eN.fsl0 (I:=I) es B a;split
  .grind
  simpa[Addr.add]using eN.fsl0 es (B.add (0*es)) a
 |fsl _ _ b o a c C hc hu G O hr=>
  refine⟨_,_,a,rfl,rfl,hc,?_⟩;have u:((xs.take H).drop L).length=H-L:=by simp_all
  by_cases J:H-L=0
  .have:(xs.take H).drop L=[]:=List.eq_nil_of_length_eq_zero Zac
   rw[this,J];split
   .exact .fsl0 es _ _
   exact .fsl0 es _ _
  simp[qA];have e:eN I (.fsl es ((xs.take H).drop L)) (.slice (some ⟨b,o+L*es,none⟩) ((xs.take H).drop L).length (a-L)):=by refine .fsl es _ b (o+L*es) (a-L) c C Zac (λx w=>hu x (mem_of_mem_take (mem_of_mem_drop w))) (λx w=>G x (mem_of_mem_take (mem_of_mem_drop w))) ?_ ?_;rw[u];have:L*es+(H-L)*es<=xs.length*es:=(by rw[<-add_mul];exact mul_le_mul_right _ Zaa);omega;grind
  grind
theorem Tl(j:eS P E)(r:eM I μ n F a.tmps){t:TypeId}{o:Operand}{lo hi i:Lk Operand}{x:V}(h:bQ E F (.slice t o lo hi i)=some x):
 ∃v,(sliceAt t (a.eval o) (lo.map a.eval) (hi.map a.eval) (i.map a.eval)).run P w=.ok v w/\bK I μ x v:=by
 simp[bQ]at h;split at h
 .
  rename_i s l R m y U C S;obtain⟨d,hd,T⟩:=fV m;obtain⟨f,h1,Y,M⟩:=(j.ty hd).dP;rw[T]at Y;have:=Bk Y;rw[(dH r y).uT];simp only[ζf]at h;obtain⟨⟨L,H⟩,G,rfl⟩:=h;obtain⟨g,_,_⟩:=mW (P:=P) (w:=w) r U C false s.size s.size L H (le_refl _) G;have hm:i.map a.eval=none:=by rcases qR r S with⟨_,q⟩|⟨k,z,e,_⟩;exact q;cases e
  refine⟨.string (s.extract L H),?_,.c _ _ (.str _)⟩;unfold sliceAt Instr.slice;simp_all
 .rename_i e v l R m y U C S;obtain⟨d,hd,T⟩:=fV m;obtain⟨f,h1,Y,M⟩:=(j.ty hd).dP;rw[T]at Y;have:=jV Y;subst this;have c:=dH r y;have hm:i.map a.eval=none:=by rcases qR r S with⟨_,q⟩|⟨k,z,e,_⟩;exact q;cases e
  have B:∀(D:Lk Addr)(len b L H:Nat)(J:TD),E.tt e=some J->len<=b->dX len l R=some (L,H)->
   (sliceAt t (.slice D len b) (lo.map a.eval) (hi.map a.eval) (i.map a.eval)).run P w=.ok (.slice (if b=L then D else D.map (·.add (L*J.size))) (H-L) (b-L)) w:=by
   intro D len b L H J u N G;obtain⟨g,_,_⟩:=mW (P:=P) (w:=w) r U C true len b L H N G;unfold sliceAt Instr.slice;simp[run_bind,M,andThen_ok,hm,g,(j.ty u).kW,run_pure]
  split at h
  .rename_i J u;split at h
   .rename_i es xs;split at h
    next Z=>simp only[ζf]at h;obtain⟨⟨L,H⟩,G,rfl⟩:=h;obtain⟨_,W,X⟩:=mW (P:=P) (w:=w) r U C true xs.length xs.length L H (le_refl _) G;obtain⟨D,len,b,e1,e2,e3,e4⟩:=FU c.mV W X;rw[e1];subst e2;refine⟨_,B D _ b L H J u e3 G,?_⟩;rw[<-Z];exact .c _ _ e4
    grind
   .rename_i id es off len;split at h
    .rename_i Z;simp only[ζf]at h;obtain⟨⟨L,H⟩,G,rfl⟩:=h;obtain⟨_,W,X⟩:=mW (P:=P) (w:=w) r U C true len len L H (le_refl _) G;rcases c.mT with⟨p,b,aa,he,N,ab,O⟩|⟨h0,D,O⟩
     .rw[O];refine⟨_,B _ _ b L H J u N G,?_⟩
      by_cases hz:b=L
      .have:H-L=0:=by omega
       rw[if_pos hz,this,show b-L=0 by omega]
       exact .hsl0 id es (off+L) _
      rw[if_neg hz];simp only[map_some,qA];rw[<-Z];subst he;have:=bK.hsl (I:=I) (μ:=μ) id (off+L) (H-L) (b-L) p aa Zaa (by
       have:off+L+(b-L)=off+b:=by omega
       rw[this];exact ab)
      rwa [add_mul,<-add_assoc]at this
     rw[O];subst h0;refine⟨_,B _ _ 0 L H J u (le_refl _) G,?_⟩;have A:L=0:=by omega
     have K:H=0:=by omega
     subst A;subst K;simpa using bK.hsl0 id es (off+0) D
    grind
   .simp only[ζf]at h;obtain⟨⟨L,H⟩,G,rfl⟩:=h;obtain⟨_,W,X⟩:=mW (P:=P) (w:=w) r U C true 0 0 L H (le_refl _) G;obtain⟨D,O⟩:=c.tE;rw[O];refine⟨_,B D 0 0 L H J u (le_refl _) G,?_⟩;have A:L=0:=by omega
    have K:H=0:=by omega
    subst A;subst K;exact .c _ _ (.dL _)
   .simp only[ζf]at h;obtain⟨⟨L,H⟩,G,rfl⟩:=h;obtain⟨_,W,X⟩:=mW (P:=P) (w:=w) r U C true 0 0 L H (le_refl _) G;have O:=c.mS;rw[O];refine⟨_,B none 0 0 L H J u (le_refl _) G,?_⟩;have A:L=0:=by omega
    have K:H=0:=by omega
    subst A;subst K;exact .c _ _ .bM
   grind
  grind
 .rename_i e v m y U C S;obtain⟨d,hd,T⟩:=fV m;obtain⟨f,h1,Y,M⟩:=(j.ty hd).dP;rw[T]at Y;have:=jV Y;subst this;have c:=dH r y;have q1:lo.map a.eval=none:=by rcases qR r U with⟨_,q⟩|⟨k,z,e,_⟩;exact q;cases e
  obtain⟨k2,q2⟩:∃k,hi.map a.eval=some (.int k 0):=by
   rcases qR r C with⟨q,_⟩|⟨k,z,e,q⟩
   .cases q
   cases e;exact⟨k,q⟩
  obtain⟨k3,q3⟩:∃k,i.map a.eval=some (.int k 0):=by
   rcases qR r S with⟨q,_⟩|⟨k,z,e,q⟩
   .cases q
   cases e;exact⟨k,q⟩
  have B:∀(D:Lk Addr)(len b:Nat)(J:TD),E.tt e=some J->∃Q,(sliceAt t (.slice D len b) (lo.map a.eval) (hi.map a.eval) (i.map a.eval)).run P w=.ok (.slice Q 0 0) w:=by
   intro D len b J u;refine⟨D,?_⟩;unfold sliceAt Instr.slice sliceBounds;simp only[run_bind,M,andThen_ok,q1,q2,q3,nG k3 0 b _ (Int.le_refl _) Zaa,nG k2 0 _ _ (Int.le_refl _) Zab,(j.ty u).kW]
   simp
  split at h
  next J es xs u=>simp at h;subst h;obtain⟨D,len,b,e1,_⟩:=FU c.mV (le_refl _) (zero_le _);rw[e1];obtain⟨Q,g⟩:=B D len b _ u;exact⟨_,g,.c _ _ (.dL _)⟩
  .rename_i J id es off len u;simp at h;subst h;rcases c.mT with⟨p,b,_,_,_,_,O⟩|⟨_,D,O⟩
   .rw[O];obtain⟨Q,g⟩:=B _ _ _ _ u;exact⟨_,g,.c _ _ (.dL _)⟩
   rw[O];obtain⟨Q,g⟩:=B _ _ _ _ u;exact⟨_,g,.c _ _ (.dL _)⟩
  next J u=>simp at h;subst h;obtain⟨D,O⟩:=c.tE;rw[O];obtain⟨Q,g⟩:=B _ _ _ _ u;exact⟨_,g,.c _ _ (.dL _)⟩
  next J u=>simp only[ζa]at h;subst h;have O:=c.mS;rw[O];obtain⟨Q,g⟩:=B _ _ _ _ u;exact⟨_,g,.c _ _ (.dL _)⟩
  simp at h
 grind
end
section
variable{P:Program}{E:Env}{I:cA}{μ:Mu}{n:Nat}{F:Frame}{a:Act}{w:World}
theorem cN.one{x:V}{vs:L' Value}(h:cN I μ [x] vs):∃v,vs=[v]/\bK I μ x v:=by obtain⟨v,r,rfl,a,b⟩:=h.cons_inv;exact⟨v,by rw[b.wT],a⟩
theorem cN.two{x y:V}{vs:L' Value}(h:cN I μ [x,y] vs):∃u v,vs=[u,v]/\bK I μ x u/\bK I μ y v:=by obtain⟨u,r,rfl,a,b⟩:=h.cons_inv;obtain⟨v,rfl,c⟩:=b.one;exact⟨u,v,rfl,a,c⟩
theorem cN.four{x y z t:V}{vs:L' Value}(h:cN I μ [x,y,z,t] vs):∃u v p q,vs=[u,v,p,q]/\bK I μ x u/\bK I μ y v/\bK I μ z p/\bK I μ t q:=by obtain⟨u,r,rfl,b,a⟩:=h.cons_inv;obtain⟨v,r2,rfl,c,a⟩:=a.cons_inv;obtain⟨p,q,rfl,w,B⟩:=a.two;exact⟨u,v,p,q,rfl,b,c,w,B⟩
theorem tB{args:Array Operand}{l:L' Value}(h:args.toList.map a.eval=l):args.map a.eval=l.toArray:=by subst h;apply ext';simp
def yS:Lk TK->V->Lk V
 |some .str,.str s=>some (.int .i64 s.size)|some (.slice _),.fsl _ xs=>some (.int .i64 xs.length)|some (.slice _),.hsl _ _ _ len=>some (.int .i64 len)|some (.slice _),.dL=>some (.int .i64 0)|some (.slice _),.bM=>some (.int .i64 0)|_,_=>none
theorem Yk(U:eS P E){t:TypeId}{x z:V}{v:Value}{ty:TypeId}{D:Array TypeId}(G:D[0]?=some t)(J:bK I μ x v)
 (h:yS (E.kindOf t) x=some z):∃u,(len_ D ty #[v]).run P w=.ok u w/\bK I μ z u:=by
 cases b:E.kindOf t with
 |none=>rw[b]at h;simp[yS]at h|some k=>
  rw[b]at h;obtain⟨d,hd,Q⟩:=fV b;obtain⟨c,g,S,T⟩:=(U.ty hd).dP;rw[Q]at S
  cases k with
  |str=>
   have:=Bk S;subst this
   cases x with
   |str s=>simp only[yS,ζa]at h;subst h;rw[J.uT];refine⟨_,?_,.c _ _ (.int _ _)⟩;unfold len_;simp[G,T,goInt]|_=>simp[yS]at h
  |slice e=>
   have:=jV S;subst this;have B:∀C(len a:Nat),(len_ D ty #[.slice C len a]).run P w=.ok (.int .i64 len) w:=by intro C len a;unfold len_;simp[G,T,goInt]
   cases x with
   |fsl es W=>simp only[yS,ζa]at h;subst h;obtain⟨C,len,a,e1,e2,_⟩:=FU (L:=0) (H:=0) J.mV (le_refl _) (zero_le _);rw[e1,<-e2];exact⟨_,B _ _ _,.c _ _ (.int _ _)⟩|hsl id es off len=>
    simp only[yS,ζa]at h;subst h;rcases J.mT with⟨p,a,_,_,_,_,O⟩|⟨f,C,O⟩
    .rw[O];exact⟨_,B _ _ _,.c _ _ (.int _ _)⟩
    rw[O,f];exact⟨_,B _ _ _,.c _ _ (.int _ _)⟩
   |dL=>simp only[yS,ζa]at h;subst h;obtain⟨C,O⟩:=J.tE;rw[O];exact⟨_,B _ _ _,.c _ _ (.int _ _)⟩|bM=>simp only[yS,ζa]at h;subst h;rw[J.mS];exact⟨_,B _ _ _,.c _ _ (.int _ _)⟩|_=>simp[yS]at h
  |_=>simp[yS]at h
def YC:Lk TK->V->Lk V
 |some (.slice _),.bM=>some (.int .i64 0)|some (.slice _),.dL=>some (.int .i64 0)|_,_=>none
theorem XF(U:eS P E){t:TypeId}{x z:V}{v:Value}{ty:TypeId}{B:Array TypeId}(D:B[0]?=some t)(J:bK I μ x v)
 (h:YC (E.kindOf t) x=some z):∃u,(cap_ B ty #[v]).run P w=.ok u w/\bK I μ z u:=by
 have key:∀e C,E.kindOf t=some (.slice e)->v=.slice C 0 0->(cap_ B ty #[v]).run P w=.ok (.int .i64 0) w:=λe C a c=>by obtain⟨d,hd,G⟩:=fV a;obtain⟨b,f,L,O⟩:=(U.ty hd).dP;rw[G]at L;have:=jV L;subst this;unfold cap_;simp[D,O,goInt,c]
 unfold YC at h;split at h
 next _ _ e a=>cases h;exact⟨_,key _ _ a J.mS,.c _ _ (.int _ _)⟩
 next _ _ e a=>cases h;obtain⟨C,q⟩:=J.tE;exact⟨_,key _ _ a q,.c _ _ (.int _ _)⟩
 cases h
theorem eG{s:Sem Value}{v:Value}{w':World}(h:s.run P w=.ok v w'):(do pure (Next.value (<-s)):Sem Next).run P w=.ok (.value v) w':=by rw[run_bind,h];rfl
theorem WG(G:eS P E)(r:eM I μ n F a.tmps)(o:Oper){x:V}(h:bQ E F o.op=some x):
 ∃v,(execOp a.eval o).run P w=.ok (.value v) w/\bK I μ x v:=by
 obtain⟨dst,op,ty,pos,after,M⟩:=o;simp only at h
 cases op with
 |move y=>exact⟨_,rfl,dH r (by simpa[bQ]using h)⟩|assign y=>exact⟨_,rfl,dH r (by simpa[bQ]using h)⟩|pick c y z=>
  simp only[bQ]at h;simp only[execOp];split at h
  .rename_i t hc;have e:=(dH r hc).s6;simp only[e,asBool,run_bind,run_pure,andThen_ok]
   cases t with
   |true=>simp only[if_true]at h⊢;exact⟨_,rfl,dH r h⟩|false=>simp only[false_eq_true,if_false]at h⊢;exact⟨_,rfl,dH r h⟩
  simp at h
 |nilCheck y=>
  simp only[bQ]at h;simp only[execOp];split at h
  next id el off D=>simp only[ζa]at h;subst h;have g:=dH r D;obtain⟨p,_,e⟩:=g.uE;rw[e]at g⊢;exact⟨_,rfl,g⟩
  next cs D=>simp only[ζa]at h;subst h;have g:=dH r D;obtain⟨b,o,c,e,_⟩:=g.nh;rw[e]at g⊢;exact⟨_,rfl,g⟩
  next f u v D=>simp only[ζa]at h;subst h;have g:=dH r D;obtain⟨b,c,e,_⟩:=g.kN;rw[e]at g⊢;exact⟨_,rfl,g⟩
  simp at h
 |binOp op t y z Z=>
  simp only[bQ]at h;split at h
  next u v A g=>obtain⟨q,O,H⟩:=Vf (w:=w) G y z h (dH r A) (dH r g);exact⟨q,eG O,H⟩
  simp at h
 |unOp op t y=>
  simp only[bQ]at h;simp only[execOp];split at h
  next b D=>simp only[ζa]at h;subst h;rw[(dH r D).s6];exact⟨_,eG (by simp only[Op.unary];rfl),.c _ _ (.bool _)⟩
  next k m D=>simp only[ζa]at h;subst h;rw[(dH r D).fW];exact⟨_,eG (by simp only[Op.unary,intArith];rfl),by simpa using bK.c _ _ (.int k _)⟩
  simp at h
 |convert s d y=>obtain⟨v,l,C⟩:=Na (w:=w) G r h;exact⟨v,eG l,C⟩|fieldAddr s y f=>obtain⟨v,l,C⟩:=NT (w:=w) G r h;exact⟨v,eG l,C⟩|field s y f=>obtain⟨v,l,C⟩:=Tj (w:=w) G r h;exact⟨v,eG l,C⟩|indexAddr t y i=>obtain⟨v,l,C⟩:=Of (w:=w) G r h;exact⟨v,eG l,C⟩|index t y i=>obtain⟨v,l,C⟩:=Rs (w:=w) G r h;exact⟨v,eG l,C⟩|slice t y lo hi mx=>obtain⟨v,l,C⟩:=Tl (w:=w) G r h;exact⟨v,eG l,C⟩|build t ps=>obtain⟨v,l,C⟩:=Rh (w:=w) G r h;exact⟨v,eG l,C⟩|makeFunc f u v=>
  cases f with
  |func f=>
   simp only[bQ]at h;split at h
   next Q x2 l C=>simp only[ζa]at h;subst h;have r1:=oV r l;have r2:=oV r C;refine⟨.func (.func f) (u.map a.eval) (v.map a.eval),rfl,?_⟩;refine .clo f _ _ _ _ (by simpa using r1.1) (by simpa using r2.1) (λj p q s t=>r1.2 j p q s (by simpa using t)) (λj p q s t=>r2.2 j p q s (by simpa using t))
   simp at h
  |_=>simp[bQ]at h
 |extract y i=>
  simp only[bQ]at h;simp only[execOp];split at h
  .rename_i vs D;obtain⟨S,e,T⟩:=(dH r D).qZ;rw[e];have U:=(ζe.1 h).1;have J:i<S.size:=by have:=T.1;simp at this;omega
   refine⟨S[i],eG (by simp[Instr.extract,J]),T.2 i x _ h (by simp[J])⟩
  simp at h
 |call c=>
  obtain⟨callee,args,W⟩:=c
  cases callee with
  |builtin b=>
   simp only[bQ]at h;simp only[execOp,resolve,run_bind,run_pure,andThen_ok,invoke];split at h
   .rename_i v t B L;obtain⟨u,A,H⟩:=(oV r B).one;rw[tB A];obtain⟨q,l,C⟩:=Yk (w:=w) (ty:=ty) G L H (by rw[<-h];rfl)
    exact⟨q,by simp only[builtin];exact eG l,C⟩
   .rename_i v t B L;obtain⟨u,A,H⟩:=(oV r B).one;rw[tB A];obtain⟨q,l,C⟩:=XF (w:=w) (ty:=ty) G L H (by rw[<-h];rfl)
    exact⟨q,by simp only[builtin];exact eG l,C⟩
   .rename_i k Q X x2 B;split at h
    next K=>simp only[ζa]at h;subst h;subst K;obtain⟨u,v,e,A,g⟩:=(oV r B).two;rw[tB e,A.fW,g.fW];exact⟨_,by simp only[builtin];exact eG (by simp[max_,max2]),.c _ _ (.int _ _)⟩
    simp at h
   .rename_i k Q k1 x2 k2 x3 k3 x4 B;split at h
    next K=>simp only[ζa]at h;subst h;obtain⟨rfl,rfl,rfl⟩:=K;obtain⟨u,v,p,q,e,A,g,Y,O⟩:=(oV r B).four;rw[tB e,A.fW,g.fW,Y.fW,O.fW];exact⟨_,by simp only[builtin];exact eG (by simp[max_,max2,Dc]),.c _ _ (.int _ _)⟩
    simp at h
   .rename_i k Q X x2 B;split at h
    next K=>simp only[ζa]at h;subst h;subst K;obtain⟨u,v,e,A,g⟩:=(oV r B).two;rw[tB e,A.fW,g.fW];exact⟨_,by simp only[builtin];exact eG (by simp[min_,min2]),.c _ _ (.int _ _)⟩
    simp at h
   simp at h
  |_=>simp[bQ]at h
 |_=>simp[bQ]at h
end
structure gJ(I:cA)(μ:Mu)(p:Pl)(c:Array Value)(es:Nat)(xs:List (List V)):Prop where
 es_eq:p.es=es
 sz:c.size=p.sz
 qq:∀x∈xs,x.length=es
 one:∀x∈xs,∀y∈x,V.one y=true
 room:p.o+xs.length*es<=c.size
 rel:cN I μ xs.flatten ((c.toList.drop p.o).take (xs.length*es))
def wA(I:cA)(μ:Mu)(B:L' (V×V))(es:Array MapEntry):Prop:=B.length=es.size/\∀(j:Nat)q e,B[j]?=some q->es[j]?=some e->bK I μ q.1 e.key/\bK I μ q.2 e.val
def CM.is:CM->LoopState->Prop
 |.ready,.ready|.busy,.busy|.done,.done=>True|_,_=>False
structure w_(I:cA)(μ:Mu)(r:wZ)(l:Loop):Prop where
 st:r.st.is l.state
 pend:l.pending=r.pend.bind lU
 pendOk:r.pend≠some .norm
 frame:eM I μ r.nt r.frame l.tmps
 params:l.params.toList=r.params
 assign:l.assign=r.assign
 body:l.body=r.body
def Ob.live:Ob->Bool
 |.row ..|.map _|.loop _=>true|_=>false
def tK(I:cA)(μ:Mu)(w:World)(id:Nat):Ob->Prop
 |.free=>μ id=none|.dead=>True|.row es xs=>∃p c el,μ id=some p/\I p.b=none/\w.heap[p.b]?=some (.cells c el)/\gJ I μ p c es xs|.frz es xs=>∃p c,μ id=some p/\I p.b=some (.cells c)/\gJ I μ p c es xs|.map B=>∃p es a,μ id=some p/\I p.b=none/\w.heap[p.b]?=some (.map es a)/\wA I μ B es|.loop r=>∃p l,μ id=some p/\I p.b=none/\w.heap[p.b]?=some (.loop l)/\w_ I μ r l
structure c_(I:cA)(μ:Mu)(H:bn)(w:World):Prop where
 dom:∀id,H.length<=id->μ id=none
 imm:∀b x,I b=some x->x.at w b
 obs:∀id ob,H[id]?=some ob->tK I μ w id ob
 inj:∀id id' ob ob' p p',H[id]?=some ob->H[id']?=some ob'->ob.live=true->ob'.live=true->μ id=some p->μ id'=some p'->p.b=p'.b->id=id'
 gl:vi I
def iL(μ:Mu)(H:bn)(b:Nat):Prop:=∃id p ob,H[id]?=some ob/\ob.live=true/\μ id=some p/\p.b=b
def Obj.nf(o:Obj):Prop:=∀c t fr,o=.cells c t fr->fr=(0,0)
theorem uL(c:Array Value)(t:TypeId):Obj.nf (.cells c t):=λ_ _ _ h=>Zac
theorem sS{o:Obj}(h:(match o with|.cells ..=>false|_=>true)=true):Obj.nf o:=λc t fr e=>Zac
theorem Ey{w w':World}{o:Obj}{b:Nat}(B:Obj.nf o)(d:w'.heap[b]?=some o)(D:∀k,k≠b->w'.heap[k]?=w.heap[k]?)(a:Addr)(h:w.frozen? a=false):w'.frozen? a=false:=by by_cases e:a.block=b;unfold frozen?;rw[e,d];split;rename_i c t lo hi u;cases u;have:=B _ _ _ rfl;grind;rfl;unfold frozen? at h⊢;grind
structure wF(w w':World):Prop where
 out:w'.output=w.output
 tape:w'.tape=w.tape
 dr:w.drawn<=w'.drawn
theorem wF.refl(w:World):wF w w:=⟨rfl,rfl,le_refl _⟩
theorem wF.trans{w w' w'':World}(h:wF w w')(B:wF w' w''):wF w w'':=⟨B.out.trans h.out,B.tape.trans h.tape,le_trans h.dr B.dr⟩
structure Step(I:cA)(μ:Mu)(H:bn)(w:World)(I':cA)(μ':Mu)(H':bn)(w':World):Prop where
 le:cA.le I I'
 mu:Mu.le μ μ'
 len:H.length<=H'.length
 size:w.heap.size<=w'.heap.size
 frame:∀b,b<w.heap.size->¬iL μ H b->w'.heap[b]?=w.heap[b]?
 terr:∀b,((I' b).isSome=true\/iL μ' H' b)->(I b).isSome=true\/iL μ H b\/w.heap.size<=b
 os:w'.os=w.os
 out:wF w w'
 fz:∀a:Addr,a.block<w.heap.size->w.frozen? a=false->w'.frozen? a=false
section
variable{I I' I'':cA}{μ μ' μ'':Mu}{H H' H'':bn}{w w' w'':World}{P:Program}{E:Env}{n:Nat}{F:Frame}{a:Act}
theorem IC.vj{x:IC}{b:Nat}(h:x.at w b):b<w.heap.size:=by cases x with|cells c=>obtain⟨_,_,h⟩:=h;grind|map es=>obtain⟨_,h⟩:=h;grind
theorem IC.tf{x:IC}{b:Nat}(h:x.at w b)(e:w'.heap[b]?=w.heap[b]?):x.at w' b:=by cases x with|cells c=>obtain⟨el,fr,h⟩:=h;exact⟨el,fr,Zac⟩|map es=>obtain⟨a,h⟩:=h;exact⟨a,Zac⟩
theorem Step.refl(I:cA)(μ:Mu)(H:bn)(w:World):Step I μ H w I μ H w:=⟨cA.le_refl _,Mu.le_refl _,le_refl _,le_refl _,λ_ _ _=>rfl,λ_ h=>h.elim .inl λh=>.inr (.inl h),rfl,.refl _,λ_ _ h=>h⟩
theorem gB(s:c_ I μ H w){b:Nat}(h:iL μ H b):I b=none:=by obtain⟨id,p,ob,h1,B,D,rfl⟩:=h;have:=s.obs id ob h1;cases ob with|row es G=>obtain⟨q,c,el,u,z,_⟩:=this;grind|map C=>obtain⟨q,c,el,u,z,_⟩:=this;grind|loop r=>obtain⟨q,c,u,z,_⟩:=this;grind|_=>simp[Ob.live]at B
theorem om(s:c_ I μ H w){b:Nat}(h:iL μ H b):b<w.heap.size:=by obtain⟨id,p,ob,h1,C,G,rfl⟩:=h;have:=s.obs id ob h1;cases ob with|row es J=>obtain⟨q,c,el,u,z,B,_⟩:=this;grind|map D=>obtain⟨q,c,el,u,z,B,_⟩:=this;grind|loop r=>obtain⟨q,c,u,z,B,_⟩:=this;grind|_=>simp[Ob.live]at C
theorem Step.trans(D:c_ I' μ' H' w')(c:Step I μ H w I' μ' H' w')(B:Step I' μ' H' w' I'' μ'' H'' w''):Step I μ H w I'' μ'' H'' w'' where
 fz:=λa u h=>B.fz a (Nat.lt_of_lt_of_le u c.size) (c.fz a u h)
 le:=cA.le_trans c.le B.le
 mu:=λid p h=>B.mu id p (c.mu id p h)
 len:=le_trans c.len B.len
 size:=le_trans c.size B.size
 frame:=by intro b u C;rw[B.frame b (Nat.lt_of_lt_of_le u c.size) ?_,c.frame b u C];intro z;rcases c.terr b (.inr z)with h|h|h;have:=gB D z;obtain⟨x,G⟩:=isSome_iff_exists.1 h;rw[c.le _ _ G]at this;simp_all;simp_all;omega
 terr:=by intro b h;rcases B.terr b h with h|h|h;exact c.terr b (.inl h);exact c.terr b (.inr h);exact .inr (.inr (le_trans c.size h))
 os:=B.os.trans c.os
 out:=c.out.trans B.out
theorem gJ.mono(h:cA.le I I')(B:Mu.le μ μ'){p:Pl}{c:Array Value}{es:Nat}{xs:L' (L' V)}(r:gJ I μ p c es xs):gJ I' μ' p c es xs:=⟨r.es_eq,r.sz,r.qq,r.one,r.room,r.rel.mono h B⟩
theorem wA.mono(h:cA.le I I')(D:Mu.le μ μ'){B:L' (V×V)}{es:Array MapEntry}(r:wA I μ B es):wA I' μ' B es:=⟨r.1,λj q e a b=>⟨(r.2 j q e a b).1.mono h D,(r.2 j q e a b).2.mono h D⟩⟩
theorem w_.mono(h:cA.le I I')(B:Mu.le μ μ'){r:wZ}{l:Loop}(x:w_ I μ r l):w_ I' μ' r l:=⟨x.st,x.pend,x.pendOk,x.frame.mono h B,x.params,x.assign,x.body⟩
theorem tK.mono(h:cA.le I I')(B:Mu.le μ μ'){id:Nat}{ob:Ob}(r:tK I μ w id ob)
 (D:∀p,μ id=some p->ob.live=true->w'.heap[p.b]?=w.heap[p.b]?/\I' p.b=none)(G:ob=.free->μ' id=none):tK I' μ' w' id ob:=by
 cases ob with
 |free=>exact G rfl|dead=>trivial|row es J=>obtain⟨p,c,el,a,z,C,u⟩:=r;obtain⟨g1,g2⟩:=D p a rfl;exact⟨p,c,el,B _ _ a,g2,Zac,u.mono h B⟩|frz es J=>obtain⟨p,c,a,z,u⟩:=r;exact⟨p,c,B _ _ a,h _ _ z,u.mono h B⟩|map L=>obtain⟨p,es,b,a,z,C,u⟩:=r;obtain⟨g1,g2⟩:=D p a rfl;exact⟨p,es,b,B _ _ a,g2,Zac,u.mono h B⟩|loop x=>obtain⟨p,l,a,z,C,u⟩:=r;obtain⟨g1,g2⟩:=D p a rfl;exact⟨p,l,B _ _ a,g2,Zac,u.mono h B⟩
theorem c_.pX(s:c_ I μ H w)(e:w'.heap=w.heap):c_ I μ H w' where
 dom:=s.dom
 imm:=λb x h=>IC.tf (s.imm b x h) (by rw[e])
 obs:=λid ob h=>(s.obs id ob h).mono (cA.le_refl _) (Mu.le_refl _) (λp u z=>⟨by rw[e],gB s ⟨id,p,ob,h,z,u,rfl⟩⟩) (λB=>by subst B;exact s.obs id _ h)
 inj:=s.inj
 gl:=s.gl
theorem Step.pX(e:w'.heap=w.heap)(c:w'.os=w.os)(B:wF w w'):Step I μ H w I μ H w':=⟨cA.le_refl _,Mu.le_refl _,le_refl _,Zac,λ_ _ _=>by rw[e],λb h=>h.elim .inl λh=>.inr (.inl h),c,B,λa _ h=>by unfold frozen? at h⊢;grind⟩
def Mu.gZ(μ:Mu)(k:Nat)(p:Pl):Mu:=λid=>if id=k then some p else μ id
theorem Mu.gG(μ:Mu)(k:Nat)(p:Pl):μ.gZ k p k=some p:=by simp[Mu.gZ]
theorem Mu.jd(μ:Mu){k id:Nat}(p:Pl)(h:id≠k):μ.gZ k p id=μ id:=by simp[Mu.gZ,h]
theorem Mu.rY{k:Nat}{p:Pl}(h:μ k=none):Mu.le μ (μ.gZ k p):=by intro id q u;by_cases e:id=k;grind;rw[Mu.jd _ _ e];omega
theorem mM(o:Obj)(b:Nat)(h:b<w.heap.size):(w.alloc o).heap[b]?=w.heap[b]?:=by show(w.heap.push o)[b]?=_;grind
theorem nX(o:Obj):(w.alloc o).heap[w.heap.size]?=some o:=by show(w.heap.push o)[w.heap.size]?=_;simp
theorem Pm{o:Obj}(B:Obj.nf o)(a:Addr)(h:w.frozen? a=false):(w.alloc o).frozen? a=false:=
 Ey B (nX o) (λk b=>by
  by_cases u:k<w.heap.size
  .exact mM o k u
  show(w.heap.push o)[k]?=_
  grind) a h
theorem c_.place(s:c_ I μ H w){k:Nat}{ob:Ob}{o:Obj}{p:Pl}(c:μ k=none)(J:H.length<=H'.length)(l:k<H'.length)
 (m:∀id,id≠k->H'[id]?=some .free\/H'[id]?=H[id]?)(U:∀id,id≠k->H'[id]?=some .free->μ id=none)(n:H'[k]?=some ob)(hp:p.b=w.heap.size)
 (r:tK I (μ.gZ k p) (w.alloc o) k ob)(f:Obj.nf o):c_ I (μ.gZ k p) H' (w.alloc o)/\Step I μ H w I (μ.gZ k p) H' (w.alloc o):=by
 have g:∀b x,I b=some x->b<w.heap.size:=λb x h=>IC.vj (s.imm b x h)
 have z:∀id u,id≠k->H'[id]?=some u->u≠.free->H[id]?=some u:=by grind
 have C:∀b,iL (μ.gZ k p) H' b->iL μ H b\/b=w.heap.size:=by rintro b ⟨id,q,u,h1,O,T,rfl⟩;by_cases e:id=k;subst e;rw[Mu.gG]at T;grind;rw[Mu.jd _ _ e]at T;exact .inl ⟨id,q,u,z id u e h1 Zac,O,T,rfl⟩
 refine⟨⟨?_,?_,?_,?_,s.gl⟩,⟨cA.le_refl _,Mu.rY c,J,Zab,?_,?_,rfl,⟨rfl,rfl,le_refl _⟩,λa _=>Ey (b:=w.heap.size) f (nX o) (λk c=>?_) a⟩⟩
 .intro id h;rw[Mu.jd _ _ Zaa]
  exact s.dom id Zaa
 .intro b x h;exact IC.tf (s.imm b x h) (mM o b (g b x h))
 .intro id u h
  by_cases e:id=k
  .grind
  by_cases W:u=.free
  .subst W;show(μ.gZ k p) id=none;rw[Mu.jd _ _ e];grind
  have Z:=z id u e h W;refine(s.obs id u Z).mono (cA.le_refl _) (Mu.rY c) (λq i X=>?_) (λj=>absurd j W)
  have d:iL μ H q.b:=⟨id,q,u,Z,X,i,rfl⟩;exact⟨mM o _ (om s d),gB s d⟩
 .intro id B o1 o2 q q' h1 O Q S D G Y
  by_cases e:id=k<;>by_cases L:B=k
  .simp_all
  .subst e;rw[Mu.gG]at D;cases D;rw[Mu.jd _ _ L]at G;have:=om s ⟨B,q',o2,z B o2 L O (by rintro rfl;simp[Ob.live]at S),S,G,rfl⟩
   omega
  .subst L;rw[Mu.gG]at G;cases G;rw[Mu.jd _ _ e]at D;have:=om s ⟨id,q,o1,z id o1 e h1 (by rintro rfl;simp[Ob.live]at Q),Q,D,rfl⟩
   omega
  rw[Mu.jd _ _ e]at D;rw[Mu.jd _ _ L]at G;exact s.inj id B o1 o2 q q' (z id o1 e h1 (by rintro rfl;simp[Ob.live]at Q)) (z B o2 L O (by rintro rfl;simp[Ob.live]at S)) Q S D G Y
 .intro b Y _;exact mM o b Y
 .intro b h;rcases h with h|h
  .exact .inl h
  rcases C b h with h|h
  .exact .inr (.inl h)
  omega
 by_cases X:k<w.heap.size
 .exact mM o k X
 show(w.heap.push o)[k]?=_;rw[getElem?_eq_none (by simp;omega),getElem?_eq_none Zaa]
theorem c_.push(s:c_ I μ H w){ob:Ob}{o:Obj}{p:Pl}(hp:p.b=w.heap.size)(B:tK I (μ.gZ H.length p) (w.alloc o) H.length ob)(D:Obj.nf o:=by first|exact uL _ _|exact sS rfl):
 c_ I (μ.gZ H.length p) (H++[ob]) (w.alloc o)/\Step I μ H w I (μ.gZ H.length p) (H++[ob]) (w.alloc o):=by
 refine s.place (s.dom _ (le_refl _)) Zab Zab (λid h=>.inr ?_) (λid h z=>?_) Zab hp B D
 .grind
 by_cases u:id<H.length
 .rw[getElem?_append_left u]at z;exact s.obs id _ z
 grind
theorem c_.fill(s:c_ I μ H w){k:Nat}{ob:Ob}{o:Obj}{p:Pl}(a:H[k]?=some .free)(hp:p.b=w.heap.size)(B:tK I (μ.gZ k p) (w.alloc o) k ob)(D:Obj.nf o:=by first|exact uL _ _|exact sS rfl):
 c_ I (μ.gZ k p) (H.set k ob) (w.alloc o)/\Step I μ H w I (μ.gZ k p) (H.set k ob) (w.alloc o):=by
 have z:=(ζe.1 a).1;refine s.place (s.obs k _ a) Zab Zac (λid h=>.inr ?_) (λid h u=>?_) (by simp_all) hp B D
 .grind
 rw[getElem?_set_ne (Ne.symm h)]at u;exact s.obs id _ u
def gz(w:World)(b:Nat)(o:Obj):World:={w with heap:=w.heap.setIfInBounds b o}
theorem gR(o:Obj){b B:Nat}(h:B≠b):(gz w b o).heap[B]?=w.heap[B]?:=by simp[gz,Array.getElem?_setIfInBounds_ne (Ne.symm h)]
theorem iZ(o:Obj){b:Nat}(h:b<w.heap.size):(gz w b o).heap[b]?=some o:=by simp[gz,h]
theorem ya(b:Nat)(o:Obj):(gz w b o).heap.size=w.heap.size:=by simp[gz]
theorem Qs(b:Nat)(o B:Obj):gz (gz w b o) b B=gz w b B:=by simp[gz]
theorem Yu{o:Obj}{b:Nat}(B:Obj.nf o)(a:Addr)(h:w.frozen? a=false):(gz w b o).frozen? a=false:=by
 by_cases u:b<w.heap.size;exact Ey B (iZ o u) (λk c=>gR o c) a h;have:(gz w b o).heap=w.heap:=by simp[gz,Array.setIfInBounds,u]
 unfold frozen? at h⊢;grind
theorem c_.write(s:c_ I μ H w){id:Nat}{ob ob':Ob}{o:Obj}{p:Pl}(D:H[id]?=some ob)(U:ob.live=true)(hp:μ id=some p)
 (Y:tK I μ (gz w p.b o) id ob')(d:Obj.nf o:=by first|exact uL _ _|exact sS rfl):c_ I μ (H.set id ob') (gz w p.b o)/\Step I μ H w I μ (H.set id ob') (gz w p.b o):=by
 have z:iL μ H p.b:=⟨id,p,ob,D,U,hp,rfl⟩;have u:∀k x,(H.set id ob')[k]?=some x->∃y,H[k]?=some y/\(x.live=true->y.live=true)/\(k≠id->y=x):=by grind
 have L:∀b,iL μ (H.set id ob') b->iL μ H b:=by rintro b ⟨k,q,x,c,O,X,rfl⟩;obtain⟨y,Q,B,_⟩:=u k x c;exact⟨k,q,y,Q,B O,X,rfl⟩
 refine⟨⟨?_,?_,?_,?_,s.gl⟩,⟨cA.le_refl _,Mu.le_refl _,Zab,by rw[ya];grind,?_,?_,rfl,⟨rfl,rfl,le_refl _⟩,λa _=>Ey d (iZ o (om s z)) (λk f=>gR o f) a⟩⟩
 .intro k h;exact s.dom k Zac
 .intro b x h;refine IC.tf (s.imm b x h) (gR o ?_);intro C;rw[C,gB s z]at h;cases h
 .intro k x h
  by_cases e:k=id
  .grind
  rw[getElem?_set_ne (Ne.symm e)]at h;refine(s.obs k x h).mono (cA.le_refl _) (Mu.le_refl _) (λq T G=>⟨gR o ?_,gB s ⟨k,q,x,h,G,T,rfl⟩⟩) (λZ=>by subst Z;exact s.obs k _ h)
  intro C;exact e (s.inj k id x ob q p h D G U T hp C)
 .intro k W x x' q q' c O l1 l2 m1 m2 C;obtain⟨y,Q,B,_⟩:=u k x c;obtain⟨g,S,J,_⟩:=u W x' O;exact s.inj k W y g q q' Q S (B l1) (J l2) m1 m2 C
 .intro b _ hn;refine gR o ?_
  grind
 grind
theorem c_.kill(s:c_ I μ H w){id:Nat}{ob:Ob}(D:H[id]?=some ob):c_ I μ (H.set id .dead) w/\Step I μ H w I μ (H.set id .dead) w:=by
 have z:=(ζe.1 D).1;have u:∀k x,(H.set id .dead)[k]?=some x->x.live=true->H[k]?=some x/\k≠id:=by intro k x h O;by_cases e:k=id;subst e;rw[getElem?_set_self z]at h;cases h;simp[Ob.live]at O;grind
 refine⟨⟨?_,s.imm,?_,?_,s.gl⟩,⟨cA.le_refl _,Mu.le_refl _,Zab,le_refl _,λ_ _ _=>rfl,?_,rfl,.refl _,λ_ _ h=>h⟩⟩;intro k h;exact s.dom k Zac;intro k x h;by_cases e:k=id;subst e;rw[getElem?_set_self z]at h;cases h;trivial;rw[getElem?_set_ne (Ne.symm e)]at h;exact s.obs k x h;intro k C x G q Q a B J L S T U;exact s.inj k C x G q Q (u k x a J).1 (u C G B L).1 J L S T U;rintro b (h|⟨k,q,x,a,B,W,rfl⟩);grind;exact .inr (.inl ⟨k,q,x,(u k x a B).1,B,W,rfl⟩)
end
section
variable{P:Program}{E:Env}{I:cA}{μ:Mu}{H:bn}{n:Nat}{F:Frame}{a:Act}{w:World}
theorem xe{b:Nat}{c:Array Value}{el:TypeId}{fr:Nat×Nat}(h:w.heap[b]?=some (.cells c el fr))(k:Nat):w.cell? ⟨b,k,none⟩=c[k]?:=by simp[cell?,h]
theorem K2{b o:Nat}{c:Array Value}(d:∀k,w.cell? ⟨b,k,none⟩=c[k]?):∀(m i:Nat)(a:Array Value),o+i+m<=c.size->
 (loadCellsFrom ⟨b,o,none⟩ i m a).run P w=.ok (a++((c.toList.drop (o+i)).take m).toArray) w:=by
 intro m
 induction m with
 |zero=>intro i a _;simp[loadCellsFrom]|succ m z=>
  intro i a h;have u:o+i<c.size:=Zaa
  have e:w.cell? ⟨b,o+i,none⟩=some c[o+i]:=by rw[d];simp[u]
  simp only[loadCellsFrom,run_bind,qA,run_load,e,andThen_ok];rw[z (i+1) _ Zaa]
  congr 1
  rw[List.drop_eq_getElem_cons (show o+i<c.toList.length by simpa using u),List.take_succ_cons]
  apply ext';simp[add_assoc]
theorem FZ{b o m:Nat}{c:Array Value}(a:∀k,w.cell? ⟨b,k,none⟩=c[k]?)(h:o+m<=c.size\/m=0):
 (loadCells ⟨b,o,none⟩ m).run P w=.ok ((c.toList.drop o).take m).toArray w:=by
 rcases h with h|h
 .have:=K2 (P:=P) a m 0 #[] (o:=o) Zaa
  simpa[loadCells]using this
 subst h;simp[loadCells,loadCellsFrom]
theorem gu{es:Nat}{xs:L' (L' V)}(a:∀x∈xs,x.length=es):xs.flatten.length=xs.length*es:=by induction xs with|nil=>simp|cons x xs u=>simp only[flatten_cons,ζi,length_cons];rw[u (λy w=>a y (mem_cons_of_mem _ w)),a x Zab,add_mul];omega
theorem Fu{es:Nat}:∀{xs:L' (L' V)}(_:∀x∈xs,x.length=es){el:Nat}{cs:L' V},xs[el]?=some cs->(xs.flatten.drop (el*es)).take es=cs:=by intro xs;induction xs with|nil=>intro _ el cs h;simp at h|cons x xs w=>intro a el cs h;have u:x.length=es:=a x Zab;cases el with|zero=>simp at h;subst h;simp[u]|succ el=>have:=w (λy z=>a y (mem_cons_of_mem _ z)) (el:=el) (cs:=cs) (by simpa using h);rw[flatten_cons,show(el+1)*es=x.length+el*es by rw[u,add_mul];omega,<-drop_drop];simpa using this
theorem IE{es:Nat}:∀{xs:L' (L' V)}(_:∀x∈xs,x.length=es){el:Nat}(cs:L' V),el<xs.length->cs.length=es->
 (xs.set el cs).flatten=xs.flatten.take (el*es)++cs++xs.flatten.drop (el*es+es):=by
 intro xs
 induction xs with
 |nil=>intro _ el cs h;simp at h
 |cons x xs w=>
  intro a el cs h b;have u:x.length=es:=a x Zab
  cases el with
  |zero=>simp[u]
  |succ el=>
   have:=w (λy z=>a y (mem_cons_of_mem _ z)) (el:=el) cs (by simpa using h) b
   simp only[List.set_cons_succ,flatten_cons,this];rw[show(el+1)*es=x.length+el*es by rw[u,add_mul];omega]
   rw[show x.length+el*es+es=x.length+(el*es+es)by omega]
   rw[List.take_append,List.drop_append];simp[List.take_of_length_le,List.drop_eq_nil_of_le,Nat.add_sub_cancel_left]
theorem xk{es:Nat}{xs:L' (L' V)}(a:∀x∈xs,x.length=es){i j:Nat}{x:L' V}{y:V}(b:xs[i]?=some x)(B:x[j]?=some y):xs.flatten[i*es+j]?=some y:=by
 have:=Fu a b;have u:j<es:=by rw[<-a x (mem_of_getElem? b)];exact(ζe.1 B).1
 have e:=congrArg (·[j]?) this;simp only[getElem?_take,u,if_true,getElem?_drop]at e;rw[e];exact B
theorem gJ.elem{p:Pl}{c:Array Value}{es:Nat}{xs:L' (L' V)}(r:gJ I μ p c es xs){el:Nat}{cs:L' V}(h:xs[el]?=some cs):
 cN I μ cs ((c.toList.drop (p.o+el*es)).take es)/\cs.length=es/\p.o+el*es+es<=c.size:=by
 have u:=(ζe.1 h).1;have z:=r.qq cs (mem_of_getElem? h);have a:=(r.rel.drop (el*es)).take es;rw[Fu r.qq h]at a;have B:el*es+es<=xs.length*es:=by have:=mul_le_mul_right es (show el+1<=xs.length from u);rwa [add_mul,one_mul]at this
 have w:=r.room;refine⟨?_,z,Zaa⟩
 have e:(((c.toList.drop p.o).take (xs.length*es)).drop (el*es)).take es=(c.toList.drop (p.o+el*es)).take es:=by rw[drop_take,take_take,drop_drop,min_eq_left Zaa]
 rw[e]at a;exact a
theorem gJ.span{p:Pl}{c:Array Value}{es:Nat}{xs:L' (L' V)}(r:gJ I μ p c es xs){off len:Nat}(h:off+len<=xs.length):
 cN I μ ((xs.drop off).take len).flatten ((c.toList.drop (p.o+off*es)).take (len*es))/\p.o+off*es+len*es<=c.size:=by
 have w:=r.room;have B:off*es+len*es<=xs.length*es:=by rw[<-add_mul];exact mul_le_mul_right _ h
 have e1:((xs.drop off).take len).flatten=(xs.flatten.drop (off*es)).take (len*es):=by
  have u:xs=xs.take off++((xs.drop off).take len++(xs.drop off).drop len):=by rw[take_append_drop,take_append_drop]
  have g1:(xs.take off).flatten.length=off*es:=by rw[gu (λx u=>r.qq x (mem_of_mem_take u))];rw[length_take,min_eq_left Zaa]
  have g2:((xs.drop off).take len).flatten.length=len*es:=by rw[gu (λx u=>r.qq x (mem_of_mem_drop (mem_of_mem_take u))),length_take,List.length_drop,min_eq_left Zaa]
  have z:=congrArg List.flatten u;simp only[flatten_append]at z;rw[z,<-g1,List.drop_left,<-g2,List.take_left]
 have a:=(r.rel.drop (off*es)).take (len*es);rw[e1];refine⟨?_,Zaa⟩
 have e:(((c.toList.drop p.o).take (xs.length*es)).drop (off*es)).take (len*es)=(c.toList.drop (p.o+off*es)).take (len*es):=by rw[drop_take,take_take,drop_drop,min_eq_left Zaa]
 rw[e]at a;exact a
theorem Jy{ob:Ob}{es:Nat}{xs:L' (L' V)}(h:ob.rows=some (es,xs)):ob=.row es xs\/ob=.frz es xs:=by cases ob<;>simp_all [Ob.rows]
theorem c_.rows(s:c_ I μ H w){id es:Nat}{xs:L' (L' V)}(h:(H[id]?).bind Ob.rows=some (es,xs)):
 ∃p c,μ id=some p/\(∀k,w.cell? ⟨p.b,k,none⟩=c[k]?)/\gJ I μ p c es xs:=by
 obtain⟨ob,a,u⟩:=ζg.1 h;have:=s.obs id ob a;rcases Jy u with rfl|rfl
 .obtain⟨p,c,el,g1,_,g3,g4⟩:=this;exact⟨p,c,g1,xe g3,g4⟩
 obtain⟨p,c,g1,g2,g4⟩:=this;obtain⟨el,fr,g3⟩:=s.imm _ _ g2;exact⟨p,c,g1,xe g3,g4⟩
theorem SE(s:c_ I μ H w){p:V}{v:Value}(d:bK I μ p v){m:Nat}{cs:L' V}(h:ey H p m=some cs):
 ∃(b o:Nat)(c:Array Value),v=.pointer (some ⟨b,o,none⟩)/\(∀k,w.cell? ⟨b,k,none⟩=c[k]?)/\(o+m<=c.size\/m=0)/\cN I μ cs ((c.toList.drop o).take m):=by
 unfold ey at h;split at h
 .rename_i z;obtain⟨b,o,c,e,G,Q,l⟩:=d.nh;obtain⟨el,fr,g⟩:=s.imm _ _ G;refine⟨b,o,c,e,xe g,?_⟩;have J:cN I μ z ((c.toList.drop o).take z.length):=by
   refine⟨by simp;omega,λj x y f C=>?_⟩
   have L:=(ζe.1 f).1;rw[getElem?_take,if_pos L,getElem?_drop]at C;exact .c _ _ (l j x y f (by simpa using C))
  rcases B0 J h with⟨g1,g2,g3⟩|⟨g1,g2⟩
  .refine⟨.inl Zaa,?_⟩
   rw[List.drop_zero,take_take,min_eq_left Zaa]at g1
   exact g1
  refine⟨.inr g1,?_⟩;rw[g2,g1];exact .nil
 .rename_i id el off;split at h
  .rename_i es z u;split at h
   .rename_i O B;obtain⟨p,c,g1,g2,g3⟩:=s.rows u;obtain⟨q,D,e⟩:=d.uE;rw[g1]at D;cases D;refine⟨_,_,c,e,g2,?_⟩;obtain⟨k1,k2,k3⟩:=g3.elem B;rw[g3.es_eq];rcases B0 k1 h with⟨a,i,n⟩|⟨a,i⟩
    .refine⟨.inl Zaa,?_⟩
     rw[drop_take,take_take,min_eq_left Zaa,drop_drop]at a
     exact a
    refine⟨.inr a,?_⟩;rw[i,a];exact .nil
   simp at h
  simp at h
 simp at h
theorem Eu(D:eS P E)(s:c_ I μ H w){t:TypeId}{d:TD}(hd:E.tt t=some d){p x:V}{v:Value}(g:bK I μ p v)(h:(ey H p d.size).bind (mk d.agg)=some x):
 ∃u,(loadAt t v).run P w=.ok u w/\bK I μ x u/\∃G,v=.pointer (some G)/\(loadVar t G).run P w=.ok u w:=by
 obtain⟨cs,i,C⟩:=ζg.1 h;obtain⟨b,o,c,e,g1,g2,g3⟩:=SE s g i;have key:∃u,(loadVar t ⟨b,o,none⟩).run P w=.ok u w/\bK I μ x u:=by
  unfold loadVar;simp only[run_bind,(D.ty hd).MM,andThen_ok];cases z:d.agg with|true=>rw[z]at C;refine⟨.agg ((c.toList.drop o).take d.size).toArray,?_,PG C (by simpa using g3)⟩;simp only[if_true,run_bind,(D.ty hd).kW,andThen_ok,FZ g1 g2,run_pure]|false=>
   rw[z]at C;obtain⟨u,a,J⟩:=mk_one C g3;refine⟨u,?_,J⟩;have L:d.size≠0:=by intro j;rw[j]at a;simp at a
   have B:c[o]?=some u:=by have:=congrArg (·[0]?) a;simp only[getElem?_take,getElem?_drop,getElem?_cons_zero]at this;rw[if_pos Zaa]at this;simpa using this
   simp only[false_eq_true,if_false,run_load,g1,B]
 obtain⟨u,f,O⟩:=key;refine⟨u,?_,O,_,e,f⟩;rw[e];unfold loadAt;simp only[run_bind,sureAddr,run_pure,andThen_ok,f]
end
section
variable{P:Program}{E:Env}{I:cA}{μ:Mu}{H:bn}{n:Nat}{F:Frame}{a:Act}{w:World}
theorem c_.Jz(s:c_ I μ H w){b:Nat}{x:IC}(h:I b=some x):b<w.heap.size:=IC.vj (s.imm b x h)
theorem VD{b es:Nat}{c:Array Value}{xs:L' (L' V)}(h:cN I μ xs.flatten c.toList)(a:∀x∈xs,x.length=es)(B:∀x∈xs,∀y∈x,V.one y=true):
 gJ I μ ⟨b,0,es,c.size⟩ c es xs:=by
 have u:xs.length*es=c.size:=by rw[<-gu a,h.1];simp
 exact⟨rfl,rfl,a,B,by simp[u],by simpa[u,List.take_of_length_le]using h⟩
structure Ux(I:cA)(μ:Mu)(w:World)(ob:Ob)(m:Mk)(o:Obj)(p:Pl)(u:Value):Prop where
 b:p.b=w.heap.size
 live:ob.live=true
 nf:Obj.nf o
 len:∀es xs,ob=.row es xs->p.sz=xs.length*es
 rel:∀k,μ k=none->tK I (μ.gZ k p) (w.alloc o) k ob/\bK I (μ.gZ k p) (m.val k) u
theorem c_.zO(s:c_ I μ H w):I w.heap.size=none:=by cases h:I w.heap.size with|none=>rfl|some x=>have:=s.Jz h;omega
theorem ye(s:c_ I μ H w){es:Nat}{xs:L' (L' V)}{c:Array Value}{el:TypeId}{m:Mk}{u:Value}(h:cN I μ xs.flatten c.toList)(a:∀x∈xs,x.length=es)
 (B:∀x∈xs,∀y∈x,V.one y=true)(d:∀k,bK I (μ.gZ k ⟨w.heap.size,0,es,c.size⟩) (m.val k) u):Ux I μ w (.row es xs) m (.cells c el) ⟨w.heap.size,0,es,c.size⟩ u where
 nf:=uL _ _
 b:=rfl
 live:=rfl
 len:=λz C e=>by cases e;rw[<-gu a,h.1];simp
 rel:=λk f=>⟨⟨_,c,el,Mu.gG _ _ _,s.zO,nX _,(VD h a B).mono (cA.le_refl _) (Mu.rY f)⟩,d k⟩
theorem LV(t:TypeId)(v:Value):(newVar t v).run P w=.ok ⟨w.heap.size,0,none⟩ (w.alloc (.cells v.cells t)):=by simp[newVar,newRow]
theorem yb{z:L' V}{B:Array Value}(h:cN I μ z B.toList)(m:Nat):
 cN I μ (replicate m z).flatten (((Array.range (m*B.size)).map (λi=>B[i % B.size]!)).toList):=by
 have G:z.length=B.size:=by simpa using h.1
 have d:∀x∈replicate m z,x.length=z.length:=λx L=>by rw[eq_of_mem_replicate L]
 have w:=gu d;simp only[List.length_replicate]at w;refine⟨by rw[w,G];simp,λj x y a J=>?_⟩
 have C:=(ζe.1 a).1;rw[w]at C;have u:0<z.length:=by rcases eq_zero_or_pos z.length with b|b;rw[b]at C;simp at C;exact b
 have hi:j / z.length<m:=(Nat.div_lt_iff_lt_mul u).2 C;have c:j % z.length<z.length:=mod_lt _ u;have e1:=xk d (i:=j / z.length) (j:=j % z.length) (x:=z) (y:=z[j % z.length]) (by simp[hi]) (by simp[c])
 rw[Nat.mul_comm,Nat.div_add_mod]at e1;rw[e1]at a;cases a;have D:j % B.size<B.size:=by rw[<-G];exact c
 have e2:y=B[j % B.size]:=by
  have O:j<(Array.range (m*B.size)).size:=by simp;rw[<-G];exact C
  simp only[Array.toList_map,List.getElem?_map,ζf]at J;obtain⟨q,Q,rfl⟩:=J;have:q=j:=by have:=(ζe.1 Q).2;simpa using this.symm
  subst this;simp[D]
 rw[e2];exact h.2 (j % z.length) _ _ (by simp[c]) (by rw[G];simp[D])
theorem HU{es:Nat}:∀(vs:L' (Nat×V))(xs ys:L' (L' V)),(∀x∈xs,x.length=es)->(∀x∈xs,∀y∈x,V.one y=true)->fG es xs vs=some ys->
 vg (λi=>some (i*es,es)) xs.flatten vs=some ys.flatten/\(∀x∈ys,x.length=es)/\(∀x∈ys,∀y∈x,V.one y=true)/\ys.length=xs.length:=by
 intro vs
 induction vs with
 |nil=>intro xs ys a u h;simp only[fG,ζa]at h;subst h;exact⟨rfl,a,u,rfl⟩|cons v vs G=>
  intro xs ys a u h;obtain⟨i,v⟩:=v;simp only[fG]at h;split at h
  .rename_i hc;obtain⟨b,D,I⟩:=hc;have w:∀x∈xs.set i v.cells,x.length=es:=λx z=>by
    rcases List.mem_or_eq_of_mem_set z with h|h
    .exact a x h
    rw[h];exact b
   have B:∀x∈xs.set i v.cells,∀y∈x,V.one y=true:=λx z=>by rcases List.mem_or_eq_of_mem_set z with h|h;exact u x h;rw[h];simpa using I
   obtain⟨g1,g2,g3,g4⟩:=G _ ys w B h;refine⟨?_,g2,g3,by simpa using g4⟩
   rw[IE a _ D b]at g1;have J:i*es+es<=xs.length*es:=by have:=mul_le_mul_right es (show i+1<=xs.length from D);rwa [add_mul,one_mul]at this
   have C:=gu a;simp only[vg];rw[if_neg (by simp[b,C];omega),b]
   exact g1
  simp at h
theorem DB(J:eS P E)(r:eM I μ n F a.tmps)(s:c_ I μ H w)(o:Oper){ob:Ob}{m:Mk}(h:e_ E F o.op=some (ob,m)):
 ∃x p u,(execOp a.eval o).run P w=.ok (.value u) (w.alloc x)/\Ux I μ w ob m x p u:=by
 obtain⟨dst,op,ty,pos,after,A⟩:=o;simp only at h
 cases op with
 |alloc t=>
  simp only[e_,ζf,ζc]at h;obtain⟨d,hd,rfl,rfl⟩:=h;obtain⟨z,U,b,W,L⟩:=(J.ty hd).EN;refine⟨.cells z.cells t,_,.pointer (some ⟨w.heap.size,0,none⟩),?_,ye s (by simpa using b I μ) (by simp[W]) (by simpa using L) (λk=>?_)⟩
  .simp only[execOp];refine eG ?_;unfold Instr.alloc;simp only[run_bind,U,andThen_ok,LV,run_pure]
  have:=bK.hptr (I:=I) k 0 0 _ (Mu.gG μ k ⟨w.heap.size,0,d.size,z.cells.size⟩);simp only[zero_mul,add_zero]at this;exact this
 |box t x=>
  simp only[e_]at h;split at h
  .rename_i v hv;split at h
   .rename_i L;simp only[ζa,ζc]at h;obtain⟨rfl,rfl⟩:=h;have b:=dH r hv;refine⟨.cells (a.eval x).cells t,_,.pointer (some ⟨w.heap.size,0,none⟩),?_,ye s (by simpa using b.cells) Zab (by simpa using L) (λk=>?_)⟩
    .simp only[execOp];refine eG ?_;unfold Instr.box;simp only[run_bind,LV,andThen_ok,run_pure]
    have:=bK.hptr (I:=I) k 0 0 _ (Mu.gG μ k ⟨w.heap.size,0,v.cells.length,(a.eval x).cells.size⟩);simp only[zero_mul,add_zero]at this;exact this
   simp at h
  simp at h
 |makeSlice t l c=>
  simp only[e_]at h;split at h
  .rename_i e k1 ln k2 B q W hc;obtain⟨d,hd,O⟩:=fV q;obtain⟨g,V,X,K⟩:=(J.ty hd).dP;rw[O]at X;have:=jV X;subst this;split at h
   .rename_i G D;split at h
    .rename_i Q;obtain⟨rfl,rfl,am,an,hm,ao⟩:=Q;simp only[ζa,ζc]at h;obtain⟨rfl,rfl⟩:=h;obtain⟨z,U,b,S,L⟩:=(J.ty D).EN;obtain⟨i,_,hi,al,ap,_⟩:=(J.ty D).info;have C:z.cells.size=G.size:=by have:=(b I μ).1;simp at this;omega
     have Y:(0:Int)<=B:=Zaa
     have w1:i64.wrap ln=ln:=by simp[wrap,signed,IntKind.bits];omega
     have w2:i64.wrap B=B:=by simp[wrap,signed,IntKind.bits];omega
     have Z:∀y:Int,0<=y->y<=2147483648->((i.bytes:Int)*y>2 ^ 48)=False:=by
      intro y ad hy;simp only[eq_iff_iff,iff_false,Int.not_lt,gt_iff_lt];have ae:(i.bytes:Int)<=4096:=Zaa
      calc (i.bytes:Int)*y<=4096*2147483648:=Int.mul_le_mul ae hy ad Zaa
       _<=2 ^ 48:=by decide
     have aa:(Instr.makeSlice t (.int .i64 ln) (.int .i64 B)).run P w=
      .ok (.slice (some ⟨w.heap.size,0,none⟩) ln.toNat B.toNat) (w.alloc (.cells ((Array.range (B.toNat*z.cells.size)).map (λi=>z.cells[i % z.cells.size]!)) e)):=by
      unfold Instr.makeSlice;have t1:(decide (B<0)||decide ((i.bytes:Int)*B>2 ^ 48))=false:=by
       rw[Bool.or_eq_false_iff];exact⟨by simp;omega,by simp only[Z B Y hm,decide_false]⟩
      have q1:(((decide (B<0)||decide ((i.bytes:Int)*B>2 ^ 48))||decide (ln<0))||decide (ln>B))=false:=by rw[t1];simp;omega
      simp only[run_bind,K,andThen_ok,asInt,mL,run_pure,pQ hi,w1,w2,q1,false_eq_true,if_false,run_askRoom,(J.ty D).kW];rw[C]
      by_cases f:B.toNat*G.size=0
      .have N:Array.range 0=(#[]:Array Nat):=rfl;simp[f,newRow,N]
      simp[f,U,C,newRow]
     refine⟨.cells ((Array.range (B.toNat*z.cells.size)).map (λi=>z.cells[i % z.cells.size]!)) e,_,.slice (some ⟨w.heap.size,0,none⟩) ln.toNat B.toNat,?_,ye s (yb (b I μ) B.toNat) (λx T=>by rw[eq_of_mem_replicate T,S]) (λx T=>by rw[eq_of_mem_replicate T];simpa using L) (λk=>?_)⟩
     .simp only[execOp];refine eG ?_;rw[(dH r W).fW,(dH r hc).fW];exact aa
     have:=bK.hsl (I:=I) (μ:=μ.gZ k ⟨w.heap.size,0,G.size,((Array.range (B.toNat*z.cells.size)).map (λi=>z.cells[i % z.cells.size]!)).size⟩) k 0 ln.toNat B.toNat _ (Mu.gG _ _ _) Zaa (by simp[C])
     simpa[Mk.val]using this
    simp at h
   simp at h
  simp at h
 |buildSlice t len ps=>
  simp only[e_]at h;split at h
  .rename_i e vs q af;obtain⟨d,hd,O⟩:=fV q;obtain⟨g,V,X,K⟩:=(J.ty hd).dP;rw[O]at X;have:=jV X;subst this;split at h
   .rename_i G D;split at h
    .rename_i ah;simp only[ζf,ζc]at h;obtain⟨ys,ai,rfl,rfl⟩:=h;obtain⟨z,U,b,S,L⟩:=(J.ty D).EN;have C:z.cells.size=G.size:=by have:=(b I μ).1;simp at this;omega
     obtain⟨W,aj⟩:=Gy r af;obtain⟨g1,g2,g3,g4⟩:=HU vs _ ys (λx T=>by rw[eq_of_mem_replicate T,S]) (λx T=>by rw[eq_of_mem_replicate T];simpa using L) ai
     obtain⟨M,j,R⟩:=DA (place':=λi=>some (i*G.size,G.size)) (λi p hp=>hp) vs _ _ _ ((Array.range (len*z.cells.size)).map (λi=>z.cells[i % z.cells.size]!)) W aj (yb (b I μ) len) g1
     have ab:M.size=len*G.size:=by
      have e1:=R.1;rw[gu g2,g4]at e1;simpa using e1.symm
     refine⟨.cells M e,_,.slice (some ⟨w.heap.size,0,none⟩) len len,?_,ye s R g2 g3 (λk=>?_)⟩
     .simp only[execOp];refine eG ?_;unfold Instr.buildSlice;have ak:¬(len*G.size>2 ^ 24):=by omega
      simp only[run_bind,K,andThen_ok,(J.ty D).kW,if_neg ak]
      by_cases f:len*G.size=0
      .have e0:(Array.range (len*z.cells.size)).map (λi=>z.cells[i % z.cells.size]!)=#[]:=by rw[C,f];simp
       rw[e0]at j;have N:Array.range 0=(#[]:Array Nat):=rfl;simp only[f,if_true,run_pure,andThen_ok,N,Array.map_empty];rw[j];simp[newRow]
      simp only[if_neg f,run_bind,U,andThen_ok,run_pure];rw[C]at j;rw[C,j];simp[newRow]
     have:=bK.hsl (I:=I) (μ:=μ.gZ k ⟨w.heap.size,0,G.size,M.size⟩) k 0 len len _ (Mu.gG _ _ _) (le_refl _) (by simp[ab])
     simpa[Mk.val]using this
    simp at h
   simp at h
  simp at h
 |makeMap t r=>
  cases r with
  |none=>
   simp only[e_,ζa,ζc]at h;obtain⟨rfl,rfl⟩:=h;refine⟨.map #[] 0,⟨w.heap.size,0,0,0⟩,.map (some w.heap.size),?_,⟨rfl,rfl,sS rfl,λ_ _ e=>(nomatch e),λk q=>⟨⟨_,#[],0,Mu.gG _ _ _,s.zO,nX _,rfl,Zab⟩,?_⟩⟩⟩
   .simp only[execOp];refine eG ?_;unfold Instr.makeMap;simp[run_newObj]
   exact bK.hmap (I:=I) k ⟨w.heap.size,0,0,0⟩ (Mu.gG _ _ _)
  |some x=>simp[e_]at h
 |_=>simp[e_]at h
end
section
variable{P:Program}{E:Env}{I:cA}{μ:Mu}{H H':bn}{n:Nat}{F:Frame}{a:Act}{w:World}
theorem bK.one{x:V}{v:Value}(h:bK I μ x v)(B:x.one=true):v.oneCell'=true:=by
 cases h with
 |c _ _ h=>cases h<;>first|rfl|simp[V.one]at B
 |agg=>simp[V.one]at B|tup=>simp[V.one]at B|_=>rfl
theorem cN.R6{xs:L' V}{vs:L' Value}(h:cN I μ xs vs)(B:∀x∈xs,V.one x=true):∀v∈vs,v.oneCell'=true:=by
 intro v a;obtain⟨j,w,rfl⟩:=List.mem_iff_getElem.1 a;have u:j<xs.length:=by rw[h.1];exact w
 exact(h.2 j xs[j] vs[j] (by simp[u]) (by simp[w])).one (B _ (List.getElem_mem u))
theorem Ql{b:Nat}{o:Obj}(h:w.heap[b]?=some o):gz w b o=w:=by
 unfold gz;have:w.heap.setIfInBounds b o=w.heap:=by apply Array.ext;simp;intro i a u;obtain⟨z,e⟩:=Array.getElem?_eq_some_iff.1 h;rw[Array.getElem_setIfInBounds];split;subst_vars;rfl;rfl
 rw[this]
theorem Jo{b o:Nat}{c:Array Value}{el:TypeId}{v:Value}(h:w.heap[b]?=some (.cells c el)):
 w.setCell ⟨b,o,none⟩ v=gz w b (.cells (c.setIfInBounds o v) el):=by
 unfold World.setCell gz
 congr 1
 obtain⟨B,e⟩:=Array.getElem?_eq_some_iff.1 h;apply Array.ext
 .simp
 intro i a z
 by_cases hi:i=b
 .subst hi;simp[Array.getElem_modify,e]
 have u:i<w.heap.size:=by simpa using z
 rw[Array.getElem_modify_of_ne (Ne.symm hi) _ (by simpa using u),Array.getElem_setIfInBounds]
 .simp[Ne.symm hi]
 exact u
theorem wh{b o:Nat}{el:TypeId}:∀(vs:L' Value)(i:Nat)(w:World)(c:Array Value),w.heap[b]?=some (.cells c el)->(∀v∈vs,v.oneCell'=true)->o+i+vs.length<=c.size->
 ∃c',(storeCells ⟨b,o,none⟩ vs i).run P w=.ok () (gz w b (.cells c' el))/\c'.toList=c.toList.take (o+i)++vs++c.toList.drop (o+i+vs.length):=by
 intro vs
 induction vs with
 |nil=>intro i w c h _ _;exact⟨c,by simp[storeCells,Ql h],Zab⟩|cons v vs G=>
  intro i w c h D I;simp only[length_cons]at I;have z:o+i<c.size:=Zaa
  have u:w.cell? ⟨b,o+i,none⟩=some c[o+i]:=by rw[xe h];simp[z]
  have C:w.frozen? ⟨b,o+i,none⟩=false:=by simp[frozen?,h]
  have J:=(Array.getElem?_eq_some_iff.1 h).1;obtain⟨c',g1,g2⟩:=G (i+1) (gz w b (.cells (c.setIfInBounds (o+i) v) el)) (c.setIfInBounds (o+i) v) (iZ _ J) (λx L=>D x (mem_cons_of_mem _ L)) (by simp;omega)
  refine⟨c',?_,?_⟩
  .simp only[storeCells,run_bind,qA,run_store P w _ v _ (D v Zab),u,C,false_eq_true,if_false,andThen_ok,Jo h]
   rw[g1,Qs]
  rw[g2];have B:o+i<c.toList.length:=by simpa using z
  simp only[Array.toList_setIfInBounds,length_cons];rw[show o+(i+1)=o+i+1 from Zaa,List.take_succ_eq_append_getElem (by simpa using B),List.take_set_of_le Zaa,List.getElem_set_self,List.drop_set_of_lt Zaa]
  simp[append_assoc];omega
structure Dz(P:Program)(I:cA)(μ:Mu)(H:bn)(w:World)(s:Sem Next)(x:V)(H':bn):Prop where
 run:∃nx u w' μ',s.run P w=.ok nx w'/\(nx=.value u\/(nx=.skip/\u=undef))/\bK I μ' x u/\c_ I μ' H' w'/\Step I μ H w I μ' H' w'
theorem CL{α:Type}(L vs:L' α)(o m k:Nat)(D:o+m<=L.length)(a:k+vs.length<=m):
 ((L.take (o+k)++vs++L.drop (o+k+vs.length)).drop o).take m=((L.drop o).take m).take k++vs++((L.drop o).take m).drop (k+vs.length):=by
 obtain⟨A,B,C,rfl,u,w⟩:∃A B C:L' α,L=A++(B++C)/\A.length=o/\B.length=m:=⟨L.take o,(L.drop o).take m,(L.drop o).drop m,by rw[take_append_drop,take_append_drop],by simp;omega,by simp;omega⟩
 subst u;subst w;have e1:(A++(B++C)).take (A.length+k)=A++B.take k:=by rw[List.take_append,List.take_of_length_le Zaa,Nat.add_sub_cancel_left,List.take_append_of_le_length Zaa]
 have e2:(A++(B++C)).drop (A.length+k+vs.length)=B.drop (k+vs.length)++C:=by rw[List.drop_append,List.drop_eq_nil_of_le Zaa,List.nil_append,List.drop_append_of_le_length Zaa];congr 2;omega
 have e3:((A++(B++C)).drop A.length).take B.length=B:=Zab
 rw[e1,e2,e3];simp only[append_assoc,List.drop_left];have z:(B.take k++(vs++B.drop (k+vs.length))).length=B.length:=by simp;omega
 have:B.take k++(vs++(B.drop (k+vs.length)++C))=(B.take k++(vs++B.drop (k+vs.length)))++C:=by simp[append_assoc]
 rw[this,<-z,List.take_left]
theorem gJ.splice{p:Pl}{c c':Array Value}{es el off:Nat}{xs:L' (L' V)}{cs ys:L' V}{vs:L' Value}(r:gJ I μ p c es xs)(B:xs[el]?=some cs)(U:cN I μ ys vs)
 (W:∀y∈ys,V.one y=true)(Y:off+ys.length<=cs.length)(a:c'.toList=c.toList.take (p.o+el*es+off)++vs++c.toList.drop (p.o+el*es+off+vs.length)):
 gJ I μ p c' es (xs.set el (cs.take off++ys++cs.drop (off+ys.length))):=by
 obtain⟨k1,k2,k3⟩:=r.elem B;have D:=(ζe.1 B).1;have S:=U.1;have u:=r.room;have X:el*es+es<=xs.length*es:=by have:=mul_le_mul_right es (show el+1<=xs.length from D);rwa [add_mul,one_mul]at this
 have G:c'.size=c.size:=by have:=congrArg length a;simp at this;omega
 have J:(cs.take off++ys++cs.drop (off+ys.length)).length=es:=by simp;omega
 have z:∀x∈xs.set el (cs.take off++ys++cs.drop (off+ys.length)),x∈xs\/x=cs.take off++ys++cs.drop (off+ys.length):=λx L=>List.mem_or_eq_of_mem_set L
 refine⟨r.es_eq,by rw[G];exact r.sz,?_,?_,by rw[G];simpa using u,?_⟩
 .intro x L;rcases z x L with h|h
  .exact r.qq x h
  rw[h];exact J
 .intro x L y w;rcases z x L with h|h
  .exact r.one x h y w
  rw[h]at w;have O:=r.one cs (mem_of_getElem? B);simp only[mem_append]at w;rcases w with(h|h)|h
  .exact O y (mem_of_mem_take h)
  .exact W y h
  exact O y (mem_of_mem_drop h)
 rw[IE r.qq _ D J,a,length_set];have C:=r.rel;have Q:=Fu r.qq B;have e:take (xs.length*es) (List.drop p.o (take (p.o+el*es+off) c.toList++vs++List.drop (p.o+el*es+off+vs.length) c.toList))=
  (((c.toList.drop p.o).take (xs.length*es)).take (el*es+off))++vs++(((c.toList.drop p.o).take (xs.length*es)).drop (el*es+off+vs.length)):=by
  have:=CL c.toList vs p.o (xs.length*es) (el*es+off) (by simpa using u) Zaa
  simpa only[add_assoc]using this
 rw[e];have e2:xs.flatten.take (el*es)++(cs.take off++ys++cs.drop (off+ys.length))++xs.flatten.drop (el*es+es)=
  xs.flatten.take (el*es+off)++ys++xs.flatten.drop (el*es+off+ys.length):=by
  have T:=gu r.qq;have b:xs.flatten.take (el*es+off)=xs.flatten.take (el*es)++cs.take off:=by rw[<-Q,List.take_add,take_take,min_eq_left Zaa]
  have d:xs.flatten.drop (el*es+off+ys.length)=cs.drop (off+ys.length)++xs.flatten.drop (el*es+es):=by rw[<-Q,drop_take];have:xs.flatten.drop (el*es+es)=(xs.flatten.drop (el*es+(off+ys.length))).drop (es-(off+ys.length)):=(by rw[drop_drop];congr 1;omega);rw[this,drop_drop,take_append_drop,add_assoc]
  rw[b,d];simp[append_assoc]
 rw[e2,<-S];exact((C.take _).append U).append (C.drop _)
theorem S8(U:eS P E)(r:eM I μ n F a.tmps)(s:c_ I μ H w){t:TypeId}{p q:Operand}{x:V}(h:dm E F H (.store t p q)=some (x,H')):
 Dz P I μ H w (do storeAt t (a.eval p) (a.eval q);pure .skip) x H':=by
 simp only[dm]at h;split at h
 .rename_i d id el off v hd T W;split at h
  .rename_i es O z;split at h
   .rename_i cs B;split at h
    .rename_i hc;obtain⟨X,Y,D⟩:=hc;simp only[ζa,ζc]at h;obtain⟨rfl,rfl⟩:=h;obtain⟨pl,c,ty,g1,g2,g3,g4⟩:=s.obs id _ z;obtain⟨Z,Q,e⟩:=(dH r T).uE;rw[g1]at Q;cases Q;have u:=(dH r W).cells;have S:∀y∈v.cells,V.one y=true:=by simpa using D
     obtain⟨k1,k2,k3⟩:=g4.elem B;have G:=u.1;have b:pl.o+el*es+off+0+(a.eval q).cells.toList.length<=c.size:=Zaa
     obtain⟨c',f,g⟩:=wh (P:=P) (o:=pl.o+el*es+off) (a.eval q).cells.toList 0 w c g3 (u.R6 S) b;have C:gJ I μ pl c' es (O.set el (cs.take off++v.cells++cs.drop (off+v.cells.length))):=g4.splice B u S Zaa (by simpa using g)
     have J:=(Array.getElem?_eq_some_iff.1 g3).1;obtain⟨i,j⟩:=s.write (ob':=.row es (O.set el (cs.take off++v.cells++cs.drop (off+v.cells.length)))) (o:=.cells c' ty) z rfl g1
      ⟨pl,c',ty,g1,g2,iZ _ J,C⟩
     refine⟨.skip,undef,_,μ,?_,.inr ⟨rfl,rfl⟩,.undef I μ,i,j⟩;rw[e];have L:¬((a.eval q).cells.size≠d.size):=by simp at G;omega
     rw[g4.es_eq];unfold storeAt storeVar;simp only[run_bind,sureAddr,run_pure,andThen_ok,(U.ty hd).kW,if_neg L,f]
    simp at h
   simp at h
  simp at h
 simp at h
end
section
variable{P:Program}{E:Env}{I:cA}{μ:Mu}{H H':bn}{n:Nat}{F:Frame}{a:Act}{w:World}
theorem Bb(s:c_ I μ H w){x:V}{v:Value}(Y:bK I μ x v){es:Nat}{ys:L' (L' V)}(h:dM H es x=some ys):
 ∃D a arr,v=.slice D ys.length a/\ys.length<=a/\(∀G:World,G.heap=w.heap->(firstCells es ys.length v).run P G=.ok arr G)/\cN I μ ys.flatten arr.toList/\(∀y∈ys,y.length=es)/\
  (∀y∈ys,∀z∈y,V.one z=true):=by
 have B:∀(D:Lk Addr)(a:Nat)(G:World),G.heap=w.heap->(firstCells es 0 (.slice D 0 a)).run P G=.ok #[] G:=by intro D a G _;cases D with|none=>rfl|some D=>simp[firstCells,loadCells,loadCellsFrom]
 cases x with
 |dL=>simp only[dM,ζa]at h;subst h;obtain⟨D,rfl⟩:=Y.tE;exact⟨D,0,#[],rfl,le_refl _,B D 0,.nil,Zab,Zab⟩|bM=>simp only[dM,ζa]at h;subst h;rw[Y.mS];exact⟨none,0,#[],rfl,le_refl _,B none 0,.nil,Zab,Zab⟩|fsl u L=>
  simp only[dM]at h;split at h
  .rename_i Z;simp only[ζa]at h;subst h;subst Z;have t:=Y.mV
   cases t with
   |fsl0 _ D a=>exact⟨some D,a,#[],rfl,zero_le _,B (some D) a,.nil,Zab,Zab⟩|fsl _ _ b o a c hI n hu ho r hr=>
    obtain⟨el,fr,A⟩:=s.imm _ _ hI;refine⟨_,a,((c.toList.drop o).take (L.length*u)).toArray,rfl,n,?_,?_,hu,ho⟩
    .intro G O;simp only[firstCells];exact FZ (xe (w:=G) (by rw[O];exact A)) (.inl r)
    have S:=gu hu;refine⟨by simp[S];omega,λj p q g l=>?_⟩
    have T:=(ζe.1 g).1;rw[S]at T;have J:0<u:=by rcases eq_zero_or_pos u with d|d;rw[d]at T;simp at T;exact d
    have hi:j / u<L.length:=(Nat.div_lt_iff_lt_mul J).2 T;have U:j % u<u:=mod_lt _ J;have W:=hu _ (List.getElem_mem hi);have e1:=xk hu (i:=j / u) (j:=j % u) (x:=L[j / u]) (y:=(L[j / u])[j % u]) (by simp[hi]) (by simp[W,U])
    have m:j / u*u+j % u=j:=by rw[Nat.mul_comm,Nat.div_add_mod]
    rw[m,g]at e1;cases e1;simp only[getElem?_take,if_pos T,getElem?_drop]at l;refine .c _ _ (hr (j / u) (j % u) L[j / u] _ q (by simp[hi]) (by simp[W,U]) ?_)
    rw[add_assoc,m];simpa using l
  simp at h
 |hsl id u off len=>
  simp only[dM]at h;split at h
  .rename_i Z;subst Z;split at h
   .rename_i Q L X;split at h
    .rename_i ab;simp only[ζa]at h;subst h;obtain⟨p,c,g1,g2,g3⟩:=s.rows X;have C:((L.drop off).take len).length=len:=by simp;omega
     rcases Y.mT with⟨q,a,U,E,n,r,e⟩|⟨d,D,e⟩
     .rw[g1]at U;cases U;have J:Q=u:=by rw[<-g3.es_eq,E]
      subst J;obtain⟨k1,k2⟩:=g3.span ab;refine⟨_,a,((c.toList.drop (p.o+off*Q)).take (len*Q)).toArray,by rw[e,C],Zaa,?_,by simpa using k1,?_,?_⟩
      .intro G O;rw[e,C];simp only[firstCells];exact FZ (λk=>by rw[<-g2 k];simp[cell?,O]) (.inl k2)
      .exact λy f=>g3.qq y (mem_of_mem_drop (mem_of_mem_take f))
      exactλy f=>g3.one y (mem_of_mem_drop (mem_of_mem_take f))
     subst d;simp only[List.take_zero]at C⊢;exact⟨_,0,#[],by rw[e];rfl,le_refl _,by rw[e];exact B _ 0,.nil,Zab,Zab⟩
    simp at h
   simp at h
  simp at h
 |_=>simp[dM]at h
theorem ru(z:Array Value)(k:Nat):(zeroCells z k).size=k*z.size:=by simp[zeroCells]
theorem c_.drew(s:c_ I μ H w):c_ I μ H w.drew:=s.pX rfl
theorem Cz(s:c_ I μ H w){es B:Nat}{xs ys:L' (L' V)}{old new rest:Array Value}{el:TypeId}(Y:cN I μ xs.flatten old.toList)(a:cN I μ ys.flatten new.toList)
 (G:∀x∈xs,x.length=es)(J:∀x∈ys,x.length=es)(U:∀x∈xs,∀y∈x,V.one y=true)(W:∀x∈ys,∀y∈x,V.one y=true)
 (D:xs.length+ys.length<=B)(b:rest.size=(B-(xs.length+ys.length))*es):
 ∃μ',bK I μ' (.hsl H.length es 0 (xs.length+ys.length)) (.slice (some ⟨w.heap.size,0,none⟩) (xs.length+ys.length) B)/\c_ I μ' (H++[.row es (xs++ys)]) (w.alloc (.cells (old++new++rest) el))/\
  Step I μ H w I μ' (H++[.row es (xs++ys)]) (w.alloc (.cells (old++new++rest) el)):=by
 have L:=gu G;have O:=gu J;have z:=Y.1;have C:=a.1;simp only[length_toList]at z C;have Q:(old++new++rest).size=B*es:=by simp only[Array.size_append];rw[<-z,<-C,L,O,b,<-add_mul,<-add_mul];congr 1;omega
 have u:(xs.length+ys.length)*es<=B*es:=mul_le_mul_right _ D;rw[add_mul]at u;have S:gJ I μ ⟨w.heap.size,0,es,(old++new++rest).size⟩ (old++new++rest) es (xs++ys):=by
  refine⟨rfl,rfl,?_,?_,?_,?_⟩;intro x T;rcases mem_append.1 T with h|h;exact G x h;exact J x h;intro x T;rcases mem_append.1 T with h|h;exact U x h;exact W x h;rw[Q];simp only[ζi,zero_add,add_mul];exact u;have e:((old++new++rest).toList.drop 0).take ((xs++ys).length*es)=old.toList++new.toList:=by simp only[List.drop_zero,Array.toList_append];rw[List.take_left' (by simp[<-z,<-C,L,O,add_mul])]
  rw[e,flatten_append];exact Y.append a
 obtain⟨X,Z⟩:=s.push (ob:=.row es (xs++ys)) (o:=.cells (old++new++rest) el) (p:=⟨w.heap.size,0,es,(old++new++rest).size⟩) rfl
  ⟨_,_,el,Mu.gG _ _ _,s.zO,nX _,S.mono (cA.le_refl _) (Mu.rY (s.dom _ (le_refl _)))⟩
 refine⟨_,?_,X,Z⟩;have:=bK.hsl (I:=I) H.length 0 (xs.length+ys.length) B _ (Mu.gG μ H.length ⟨w.heap.size,0,es,(old++new++rest).size⟩) D (by simp only[zero_add];rw[Q];exact le_refl _)
 simpa using this
theorem NS(s:c_ I μ H w){id:Nat}{ob ob':Ob}{p p':Pl}{o:Obj}(B:H[id]?=some ob)(U:ob.live=true)(hp:μ id=some p)(d:p'.b=p.b)
 (m:tK I (μ.gZ H.length p') (gz w p.b o) H.length ob')(n:Obj.nf o:=by first|exact uL _ _|exact sS rfl):c_ I (μ.gZ H.length p') (H.set id .dead++[ob']) (gz w p.b o)/\Step I μ H w I (μ.gZ H.length p') (H.set id .dead++[ob']) (gz w p.b o):=by
 have Z:=(ζe.1 B).1;have z:iL μ H p.b:=⟨id,p,ob,B,U,hp,rfl⟩;have c:=s.dom H.length (le_refl _);have u:∀k x,(H.set id .dead++[ob'])[k]?=some x->(k=H.length/\x=ob')\/(k≠H.length/\k=id/\x=.dead)\/(k≠H.length/\k≠id/\H[k]?=some x):=by intro k x h;by_cases e:k<H.length;rw[getElem?_append_left (by simpa using e)]at h;by_cases D:k=id;subst D;rw[getElem?_set_self Z]at h;cases h;exact .inr (.inl ⟨Zaa,rfl,rfl⟩);rw[getElem?_set_ne (Ne.symm D)]at h;exact .inr (.inr ⟨Zaa,D,h⟩);have:=(ζe.1 h).1;simp at this;have e2:k=H.length:=Zaa;subst e2;simp at h;exact .inl ⟨rfl,h.symm⟩
 have C:∀b,iL (μ.gZ H.length p') (H.set id .dead++[ob']) b->iL μ H b:=by rintro b ⟨k,q,x,i,Q,T,rfl⟩;rcases u k x i with⟨rfl,rfl⟩|⟨_,_,rfl⟩|⟨e,D,h⟩;rw[Mu.gG]at T;cases T;rw[d];exact z;simp[Ob.live]at Q;rw[Mu.jd _ _ e]at T;exact⟨k,q,x,h,Q,T,rfl⟩
 refine⟨⟨?_,?_,?_,?_,s.gl⟩,⟨cA.le_refl _,Mu.rY c,Zab,by rw[ya];exact le_refl _,?_,?_,rfl,⟨rfl,rfl,le_refl _⟩,λa _=>Ey (b:=p.b) n (iZ o (om s z)) (λk c=>gR o c) a⟩⟩
 .intro k h;simp at h;rw[Mu.jd _ _ Zaa]
  exact s.dom k Zaa
 .intro b x h;refine IC.tf (s.imm b x h) (gR o ?_);intro G;rw[G,gB s z]at h;cases h
 .intro k x h;rcases u k x h with⟨rfl,rfl⟩|⟨_,_,rfl⟩|⟨e,D,h⟩
  .exact m
  .trivial
  refine(s.obs k x h).mono (cA.le_refl _) (Mu.rY c) (λq j S=>⟨gR o ?_,gB s ⟨k,q,x,h,S,j,rfl⟩⟩) (λr=>?_)
  .intro G;exact D (s.inj k id x ob q p h B S U j hp G)
  subst r;rw[Mu.jd _ _ e];exact s.obs k _ h
 .intro k W x X q q' i Q l1 Y L O J;rcases u k x i with⟨rfl,rfl⟩|⟨_,_,rfl⟩|⟨e,D,h⟩
  .rcases u W X Q with⟨rfl,rfl⟩|⟨_,_,rfl⟩|⟨f,l,g⟩
   .rfl
   .simp[Ob.live]at Y
   rw[Mu.gG]at L;cases L;rw[Mu.jd _ _ f]at O;exact absurd (s.inj W id X ob q' p g B Y U O hp (by rw[<-J,d])) l
  .simp[Ob.live]at l1
  rcases u W X Q with⟨rfl,rfl⟩|⟨_,_,rfl⟩|⟨f,l,g⟩
  .rw[Mu.gG]at O;cases O;rw[Mu.jd _ _ e]at L;exact absurd (s.inj k id x ob q p h B l1 U L hp (by rw[J,d])) D
  .simp[Ob.live]at Y
  rw[Mu.jd _ _ e]at L;rw[Mu.jd _ _ f]at O;exact s.inj k W x X q q' h g l1 Y L O J
 .intro b _ hn;refine gR o ?_;rintro rfl;exact hn z
 intro b h;rcases h with h|h
 .exact .inl h
 exact .inr (.inl (C b h))
end
section
variable{P:Program}{E:Env}{I:cA}{μ:Mu}{H H':bn}{n:Nat}{F:Frame}{a:Act}{w:World}
theorem E4(f:eS P E){t g e:TypeId}{d:TD}{D:TypeDesc}(h:P.underlying t=some (.slice e))(Y:P.underlying g=some D)(k:∃j,D=.slice j)(hd:E.tt e=some d)
 (W J:Lk Addr)(sl sc B c:Nat)(new:Array Value)(l:(firstCells d.size B (.slice J B c)).run P w=.ok new w)(ty:TypeId):
 (sl+B<=sc->∀w',(match W with|some b=>(storeCells (b.add (sl*d.size)) new.toList).run P w=.ok () w'|none=>w'=w)->
  (append_ #[t,g] ty #[.slice W sl sc,.slice J B c]).run P w=.ok (.slice W (sl+B) sc) w')/\
 (sc<sl+B->sl+B<=2147483648->d.bytes<=4096->0<d.bytes->∀old,(∀U,U.heap=w.heap->(firstCells d.size sl (.slice W sl sc)).run P U=.ok old U)->
  (∀U,U.heap=w.heap->(firstCells d.size B (.slice J B c)).run P U=.ok new U)->
  ∃G rest,sl+B<=G/\rest.size=(G-(sl+B))*d.size/\
   (append_ #[t,g] ty #[.slice W sl sc,.slice J B c]).run P w=.ok (.slice (some ⟨w.heap.size,0,none⟩) (sl+B) G) (w.drew.alloc (.cells (old++new++rest) e))):=by
 obtain⟨i,z,hi,X,o,m,L,p,_⟩:=(f.ty hd).info;have u:∀w,(zeroValue e).run P w=.ok z w:=λw=>by simp[zeroValue,pQ hi,m]
 have O:z.cells.size=d.size:=by have:=(L (λ_=>none) (λ_=>none)).1;grind
 obtain⟨j,rfl⟩:=k;constructor
 .intro Q w' ai;unfold append_;simp only[run_bind,List.getElem?_toArray,getElem?_cons_zero,List.getElem?_cons_succ,dP h,dP Y,andThen_ok,(f.ty hd).kW,run_pure,lenOf,false_eq_true,if_false,Bool.not_false,if_true,if_pos Q,l]
  cases W with
  |none=>simp_all|some b=>simp_all
 intro S Z q r old a C;have T:=nextslicecap_le S;have n:¬(nextslicecap (sl+B) sc*i.bytes>2 ^ 48):=by have:nextslicecap (sl+B) sc*i.bytes<=(2*2147483648)*4096:=mul_le_mul Zaa Zaa;omega
 have I:¬(sl+B<=sc):=Zaa
 refine⟨(appendCap (sl+B) sc e).cut (w.tape w.drawn (appendCap (sl+B) sc e)),zeroCells z.cells (((appendCap (sl+B) sc e).cut (w.tape w.drawn (appendCap (sl+B) sc e)))-(sl+B)),?_,?_,?_⟩
 .simp[Question.cut]
 .rw[ru,O]
 unfold append_;simp only[run_bind,List.getElem?_toArray,getElem?_cons_zero,List.getElem?_cons_succ,dP h,dP Y,andThen_ok,(f.ty hd).kW,run_pure,lenOf,false_eq_true,if_false,Bool.not_false,if_true,if_neg I,pQ hi];rw[if_neg Zac]
 simp only[run_bind,pQ hi,if_neg n,run_choose,forced,false_eq_true,if_false,andThen_ok,run_askRoom,u,newRow,run_newObj,run_pure];rw[a {w with drawn:=w.drawn+1} rfl];simp only[andThen_ok];rw[C {w with drawn:=w.drawn+1} rfl];rfl
theorem wrap_small{m:Nat}(h:m<=2147483648):i64.wrap (m:Int)=m:=by simp[wrap,IntKind.bits];omega
theorem GP(U:eS P E){t W e:TypeId}{d:TD}{kk k:IntKind}(Y:P.underlying t=some (.slice e))(G:P.underlying W=some (.int kk))(hd:E.tt e=some d)(ty:TypeId)(m:Nat)(D:m<=2147483648):
 (m=0->(append_ #[t,W] ty #[.slice none 0 0,.int k m]).run P w=.ok (.slice none 0 0) w)/\
 (0<m->d.bytes<=4096->0<d.bytes->∃B z rest,m<=B/\rest.size=(B-m)*d.size/\cN I μ d.zero z.toList/\
  (append_ #[t,W] ty #[.slice none 0 0,.int k m]).run P w=.ok (.slice (some ⟨w.heap.size,0,none⟩) m B) (w.drew.alloc (.cells (#[]++zeroCells z m++rest) e))):=by
 obtain⟨i,z,hi,X,l,a,C,n,_⟩:=(U.ty hd).info;have u:∀w,(zeroValue e).run P w=.ok z w:=λw=>by simp[zeroValue,pQ hi,a]
 have J:z.cells.size=d.size:=by have:=(C (λ_=>none) (λ_=>none)).1;grind
 have b:=wrap_small D;constructor
 .rintro rfl;unfold append_;have Q:i64.wrap 0=0:=by omega
  simp[dP Y,dP G,(U.ty hd).kW,asInt,pQ hi,mL,Q]
 intro Z o p;have S:nextslicecap (0+m) 0<=2*(0+m):=nextslicecap_le Zaa
 have c:¬(nextslicecap (0+m) 0*i.bytes>2 ^ 48):=by have:nextslicecap (0+m) 0*i.bytes<=(2*2147483648)*4096:=mul_le_mul Zaa Zaa;omega
 have f:¬(m*(i.bytes:Int)>2 ^ 48):=by have q:m*i.bytes<=2147483648*4096:=mul_le_mul D Zaa;grind
 have g:¬((0+m:Nat)>i64.max):=by
  have:i64.max=9223372036854775807:=by rfl
  omega
 have L:¬(0+m<=0):=Zaa
 have O:¬((m:Int)<0):=Zaa
 refine⟨(appendCap (0+m) 0 e).cut (w.tape w.drawn (appendCap (0+m) 0 e)),z.cells,zeroCells z.cells (((appendCap (0+m) 0 e).cut (w.tape w.drawn (appendCap (0+m) 0 e)))-(0+m)),?_,?_,C _ _,?_⟩
 .simp[Question.cut]
 .rw[ru,J,zero_add]
 unfold append_;have T:(if m*d.size=0 then pure #[]else do pure (zeroCells (<-zeroValue e).cells m))=(do pure (zeroCells (<-zeroValue e).cells m))\/(m*d.size=0/\zeroCells z.cells m=#[]):=by by_cases h:m*d.size=0;right;exact⟨h,Array.eq_empty_of_size_eq_zero (by rw[ru,J,h])⟩;left;rw[if_neg h]
 simp only[run_bind,List.getElem?_toArray,getElem?_cons_zero,List.getElem?_cons_succ,dP Y,dP G,andThen_ok,(U.ty hd).kW,run_pure,if_true,asInt,mL,b,if_neg O,pQ hi,if_neg f,Int.toNat_natCast,if_neg L,if_false];rw[if_neg (λh=>g h.1)]
 simp only[run_bind,pQ hi,if_neg c,run_choose,forced,andThen_ok,u,newRow,firstCells];rcases T with h|⟨h,j⟩
 .rw[h];simp[u,run_newObj]
 rw[if_pos h,j];simp[run_newObj]
theorem PR(g:eS P E)(r:eM I μ n F a.tmps)(s:c_ I μ H w){args:Array Operand}{U:Array TypeId}{x:V}{ty:TypeId}
 (h:dm E F H (.call {callee:=.builtin .append,args,argTypes:=U})=some (x,H')):
 Dz P I μ H w (do let d<-resolve a.eval {callee:=.builtin .append,args,argTypes:=U} ty;invoke d.target d.args) x H':=by
 simp[dm]at h;split at h
 .rename_i t t' vs vx ay aj;obtain⟨us,ux,W,i,T⟩:=(oV r aj).two;split at h
  .rename_i e e' hk ak;obtain⟨d0,al,am⟩:=fV hk;obtain⟨R,h1,h2,h3⟩:=(g.ty al).dP;rw[am]at h2;have:=jV h2;subst this;obtain⟨d1,jC,X⟩:=fV ak;obtain⟨an,g1,g2,g3⟩:=(g.ty jC).dP;rw[X]at g2;have:=jV g2;subst this;have C:∀v w',(append_ #[t,t'] ty #[us,ux]).run P w=.ok v w'->
    (do let d<-resolve a.eval {callee:=.builtin .append,args,argTypes:=U} ty;invoke d.target d.args).run P w=.ok (.value v) w':=by
    simp[resolve,run_bind,run_pure,andThen_ok,invoke,builtin];rw[tB W];have ea:U=#[t,t']:=by grind
    simp_all
   split at h
   .rename_i d hd;split at h
    .
     rename_i xs B ao;obtain⟨ad,f,arr,e1,e2,e3,e4,_⟩:=Bb (P:=P) s i B;obtain⟨ap,Y,D,M,f2,j,o,_⟩:=Bb s T ao;simp at M j;have aA:D=#[]:=by
      have:=o.1;grind
     have j:=j w rfl;rw[M]at j;have key:=(E4 g h1 g1 ⟨_,rfl⟩ hd ad ap xs.length f 0 Y D j ty).1 Zaa w
      (by
       cases ad with
       |none=>rfl
       |some b=>simp[aA,storeCells])
     rw[<-M,<-e1,add_zero,<-e1]at key;have aq:x=vs/\H'=H:=by
      grind
     obtain⟨rfl,rfl⟩:=aq;exact⟨_,us,w,μ,C _ _ key,.inl rfl,i,s,.refl _ _ _ _⟩
    .rename_i xs ys aH B ao;obtain⟨ad,f,arr,e1,e2,e3,e4,e5,e6⟩:=Bb s i B;obtain⟨ap,Y,D,M,f2,j,o,f5,f6⟩:=Bb s T ao;split at h
     .rename_i hc;obtain⟨aB,ar,au⟩:=hc;have aI:0<ys.length:=by
       rcases eq_zero_or_pos ys.length with N|N
       .exact absurd (List.eq_nil_of_length_eq_zero N) aH
       exact N
      have key:=E4 g h1 g1 ⟨_,rfl⟩ hd ad ap xs.length f ys.length Y D (by rw[<-M];exact j w rfl) ty
      rw[<-M,<-e1]at key;have Q:f<xs.length+ys.length->∃G rest,xs.length+ys.length<=G/\rest.size=(G-(xs.length+ys.length))*d.size/\
       (append_ #[t,t'] ty #[us,ux]).run P w=.ok (.slice (some ⟨w.heap.size,0,none⟩) (xs.length+ys.length) G) (w.drew.alloc (.cells (arr++D++rest) e)):=by
       intro av;refine key.2 av aB ar au arr ?_ ?_
       .intro w2 aw;exact e3 w2 aw
       intro w2 aw;exact j w2 aw
      simp at h;obtain⟨H1,L,rfl,rfl⟩:=h
      cases vs with
      |dL=>
       simp[iy]at L;subst L;simp[dM]at B;subst B;obtain⟨aJ,q⟩:=i.tE;have ah:f=0:=by rw[q]at e1;cases e1;rfl
       obtain⟨G,rest,k1,k2,k3⟩:=Q (by simp;omega)
       obtain⟨μ',m1,A,K⟩:=Cz s.drew e4 o e5 f5 e6 f6 k1 k2;refine⟨_,_,_,μ',C _ _ k3,.inl rfl,m1,A,?_⟩;exact Step.trans s.drew (Step.pX rfl rfl ⟨rfl,rfl,le_succ _⟩) K
      |bM=>
       simp[iy]at L;subst L;simp[dM]at B;subst B;have q:=i.mS;have ah:f=0:=by rw[q]at e1;cases e1;rfl
       obtain⟨G,rest,k1,k2,k3⟩:=Q (by simp;omega)
       obtain⟨μ',m1,A,K⟩:=Cz s.drew e4 o e5 f5 e6 f6 k1 k2;refine⟨_,_,_,μ',C _ _ k3,.inl rfl,m1,A,?_⟩;exact Step.trans s.drew (Step.pX rfl rfl ⟨rfl,rfl,le_succ _⟩) K
      |hsl id es off len=>
       simp[iy]at L;split at L
       .rename_i u aK ae;simp at L;subst L;have aC:(H[id]?).bind Ob.rows=some (u,aK):=by rw[ae];rfl
        have aX:=B;simp only[dM]at B;split at B
        .rename_i aL;rw[aC]at B;simp only at B;split at B
         .rename_i aM;simp at B;obtain⟨p,c,aD,q1,q2,q3,q4⟩:=s.obs id _ ae;have Z:xs.length=len:=by rw[<-B];simp;omega
          have J:f<xs.length+ys.length->Dz P I μ H w (do let d<-resolve a.eval {callee:=.builtin .append,args,argTypes:=U} ty;invoke d.target d.args)
           (.hsl H.length d.size 0 (xs.length+ys.length)) (H.set id .dead++[.row d.size (xs++ys)]):=by
           intro av;obtain⟨G,rest,k1,k2,k3⟩:=Q av;obtain⟨s1,s2⟩:=s.drew.kill ae;obtain⟨μ',m1,A,K⟩:=Cz s1 e4 o e5 f5 e6 f6 k1 k2;rw[length_set]at m1;exact⟨_,_,_,μ',C _ _ k3,.inl rfl,m1,A,Step.trans s.drew (Step.pX rfl rfl ⟨rfl,rfl,le_succ _⟩) (Step.trans s1 s2 K)⟩
          rcases i.mT with⟨p',S,hm,aN,aY,aO,ee⟩|⟨N,aJ,ee⟩
          .rw[q1]at hm;cases hm;have ax:S=f/\ad=some ⟨p.b,p.o+off*es,none⟩:=by rw[ee]at e1;cases e1;exact⟨rfl,rfl⟩
           obtain⟨rfl,rfl⟩:=ax
           by_cases ai:xs.length+ys.length<=S
           .have aE:u=es:=by rw[<-q4.es_eq,aN]
            subst aE;have O:=aL;obtain⟨r1,r2⟩:=q4.span aM;rw[B]at r1;have af:=o.1;simp only[length_toList]at af;rw[gu f5]at af;have aP:(len+ys.length)*u<=S*u:=mul_le_mul_right _ Zaa
            rw[add_mul]at aP;rw[add_mul]at aO;have aQ:=q4.sz;rw[<-O]at af;have aa:p.o+off*u+len*u+0+D.toList.length<=c.size:=by simp;omega
            obtain⟨c',u1,u2⟩:=wh D.toList 0 w c q3 (o.R6 (λx T=>by
             obtain⟨l,hl,aR⟩:=mem_flatten.1 T;exact f6 l hl x aR)) aa
            have aF:c'.size=c.size:=by
             have:=congrArg length u2;simp at this aa;omega
            have aG:=key.1 ai (gz w p.b (.cells c' aD)) (by
             simp[qA,Z];rw[<-O];exact u1)
            have ab:gJ I μ ⟨p.b,p.o+off*u,u,p.sz⟩ c' u (xs++ys):=by
             refine⟨rfl,by rw[aF];exact aQ,?_,?_,?_,?_⟩
             .intro x T;rcases mem_append.1 T with h|h;exact(e5 x h).trans O.symm;exact(f5 x h).trans O.symm
             .intro x T;rcases mem_append.1 T with h|h;exact e6 x h;exact f6 x h
             .rw[aF,ζi,Z,add_mul];simp only;omega
             have e:(c'.toList.drop (p.o+off*u)).take ((xs++ys).length*u)=(c.toList.drop (p.o+off*u)).take (len*u)++D.toList:=by
              rw[u2,ζi,Z,add_mul,af];simp only[add_zero];have aS:(take (p.o+off*u+len*u) c.toList).length=p.o+off*u+len*u:=by simp;omega
              rw[append_assoc,List.drop_append_of_le_length (by rw[aS];omega),drop_take,show p.o+off*u+len*u-(p.o+off*u)=len*u by omega]
              have aT:(take (len*u) (List.drop (p.o+off*u) c.toList)).length=len*u:=by simp;omega
              rw[<-append_assoc,List.take_left' (by rw[ζi,aT];simp)]
             rw[e,flatten_append];exact r1.append o
            obtain⟨s1,s2⟩:=NS (ob':=.row u (xs++ys)) (p':=⟨p.b,p.o+off*u,u,p.sz⟩) s ae rfl q1 rfl
             ⟨_,c',aD,Mu.gG _ _ _,q2,iZ _ (Array.getElem?_eq_some_iff.1 q3).1,ab.mono (cA.le_refl _) (Mu.rY (s.dom _ (le_refl _)))⟩
            rw[<-O];refine⟨_,_,_,_,C _ _ aG,.inl rfl,?_,s1,s2⟩;have:=bK.hsl (I:=I) H.length 0 (xs.length+ys.length) S _ (Mu.gG μ H.length ⟨p.b,p.o+off*u,u,p.sz⟩) ai (by simp;omega)
            simpa using this
           exact J Zaa
          have ah:=by rw[ee]at e1;simp[Value.slice.injEq]at e1;exact e1.2.2.symm
          exact J Zaa
         simp at B
        simp at B
       simp at L
      |_=>simp[iy]at L
     grind
    grind
   grind
  .
   rename_i e kk hk ak;obtain⟨d0,al,am⟩:=fV hk;obtain⟨R,h1,h2,h3⟩:=(g.ty al).dP;rw[am]at h2;have:=jV h2;subst this;obtain⟨d1,jC,X⟩:=fV ak;obtain⟨an,g1,g2,g3⟩:=(g.ty jC).dP;rw[X]at g2;have:=Ef g2;subst this;have C:∀v w',(append_ #[t,t'] ty #[us,ux]).run P w=.ok v w'->
    (do let d<-resolve a.eval {callee:=.builtin .append,args,argTypes:=U} ty;invoke d.target d.args).run P w=.ok (.value v) w':=by
    intro v w' hv;simp[resolve,run_bind,run_pure,andThen_ok,invoke,builtin];rw[tB W];have ea:U=#[t,t']:=by apply ext';simpa using ay
    rw[ea,hv];rfl
   split at h
   .rename_i d hd;unfold mkApp at h;split at h
    .rename_i k m;have q:=i.mS;subst q;have q:=T.fW;subst q;split at h
     .rename_i N;subst N;cases h;have key:=(GP (μ:=μ) (I:=I) (w:=w) (k:=k) g h1 g1 hd ty 0 Zaa).1 rfl
      exact⟨_,_,w,μ,C _ _ key,.inl rfl,i,s,.refl _ _ _ _⟩
     split at h
     .rename_i hc;obtain⟨aU,aB,ar,au⟩:=hc;cases h;obtain⟨m,rfl⟩:=Int.eq_ofNat_of_zero_le (Int.le_of_lt aU);obtain⟨G,z,rest,k1,k2,k3,k4⟩:=(GP g h1 g1 hd ty m Zaa).2 Zaa ar au
      have aV:=(g.ty hd).info.choose_spec.choose_spec.2.2.2.2.2.1;have aW:=(g.ty hd).info.choose_spec.choose_spec.2.2.2.2.2.2.1;have hu:∀x∈replicate m d.zero,x.length=d.size:=λx T=>by rw[eq_of_mem_replicate T];exact aV
      have ho:∀x∈replicate m d.zero,∀y∈x,V.one y=true:=λx T y hy=>by rw[eq_of_mem_replicate T]at hy;exact all_eq_true.1 aW y hy
      obtain⟨μ',m1,A,K⟩:=Cz (xs:=[]) (ys:=replicate m d.zero) (old:=#[]) (new:=zeroCells z m) (rest:=rest) s.drew .nil (yb k3 m) Zab hu Zab ho (by simpa using k1) (by simpa using k2)
      simp at m1 A K;refine⟨_,_,_,μ',C _ _ k4,.inl rfl,by simpa using m1,by simpa using A,?_⟩
      exact Step.trans s.drew (Step.pX rfl rfl ⟨rfl,rfl,le_succ _⟩) (by simpa using K)
     cases h
    cases h
   cases h
  grind
 grind
theorem BS{es:Nat}{xs:L' (L' V)}(a:∀x∈xs,x.length=es)(k:Nat)(b:k<=xs.length):(xs.take k).flatten=xs.flatten.take (k*es)/\(xs.drop k).flatten=xs.flatten.drop (k*es):=by
 have u:xs.flatten=(xs.take k).flatten++(xs.drop k).flatten:=by rw[<-flatten_append,take_append_drop]
 have g1:(xs.take k).flatten.length=k*es:=by rw[gu (λx u=>a x (mem_of_mem_take u)),length_take,min_eq_left b]
 grind
theorem RN(k:eS P E)(r:eM I μ n F a.tmps)(s:c_ I μ H w){args:Array Operand}{D:Array TypeId}{x:V}{ty:TypeId}
 (h:dm E F H (.call {callee:=.builtin .clear,args,argTypes:=D})=some (x,H')):
 Dz P I μ H w (do let d<-resolve a.eval {callee:=.builtin .clear,args,argTypes:=D} ty;invoke d.target d.args) x H':=by
 simp[dm]at h;split at h
 .rename_i t v af O;obtain⟨u,hu,g⟩:=(oV r O).one;split at h
  .rename_i e hk;obtain⟨d0,ah,ai⟩:=fV hk;obtain⟨m,h1,A,h3⟩:=(k.ty ah).dP;rw[ai]at A;have:=jV A;split at h
   .rename_i d hd;obtain⟨i,z,hi,au,aw,hz,T,aj,ak,_⟩:=(k.ty hd).info;have al:∀w,(zeroValue e).run P w=.ok z w:=λw=>by simp[zeroValue,pQ hi,hz]
    have am:z.cells.size=d.size:=by have:=(T (λ_=>none) (λ_=>none)).1;grind
    have L:∀v w',(clear_ D ty #[u]).run P w=.ok v w'->
     (do let d<-resolve a.eval {callee:=.builtin .clear,args,argTypes:=D} ty;invoke d.target d.args).run P w=.ok (.value v) w':=by
     intro v w' hv;simp[resolve,run_bind,run_pure,andThen_ok,invoke,builtin];rw[tB hu,hv];rfl
    have U:∀W f,u=.slice W 0 f->Dz P I μ H w (do let d<-resolve a.eval {callee:=.builtin .clear,args,argTypes:=D} ty;invoke d.target d.args) .undef H:=λW f q=>by subst q;refine⟨_,.tuple #[],w,μ,L (.tuple #[]) w ?_,.inl rfl,bK.undef _ _,s,.refl _ _ _ _⟩;unfold clear_;cases W<;>simp[af,h3]
    unfold DU at h;split at h
    .cases h;exact U _ _ g.mS
    .obtain⟨W,q⟩:=g.tE;grind
    .rename_i id es off len;split at h
     .rename_i Q;subst Q;split at h
      .rcases g.mT with⟨p,f,_,_,_,_,q⟩|⟨_,W,q⟩
       .grind
       grind
      rename_i len;split at h
      .rename_i an S X;split at h
       .rename_i Y;cases h;obtain⟨p,c,el,hp,hI,C,B⟩:=s.obs id _ X;rcases g.mT with⟨q,f,K,ao,av,ap,rfl⟩|⟨h0,_⟩
        .rw[hp]at K;cases K;have Q:an=d.size:=by rw[<-B.es_eq,ao]
         subst Q;have J:(zeroCells z.cells (len+1)).size=(len+1)*d.size:=by rw[ru,am]
         have ax:=B.room;have Z:(off+(len+1))*d.size<=S.length*d.size:=mul_le_mul_right _ Y;rw[add_mul]at Z;have G:=yb (T I μ) (len+1);have aq:∀x∈replicate (len+1) d.zero,x.length=d.size:=λx b=>by rw[eq_of_mem_replicate b];exact aj
         have M:∀x∈replicate (len+1) d.zero,∀y∈x,V.one y=true:=λx b y N=>by rw[eq_of_mem_replicate b]at N;exact all_eq_true.1 ak y N
         obtain⟨c',u1,j⟩:=wh (P:=P) (o:=p.o+off*d.size) (zeroCells z.cells (len+1)).toList 0 w c C (cN.R6 G (λx b=>by
          obtain⟨l,hl,ar⟩:=mem_flatten.1 b;exact M l hl x ar)) (by simp[J];omega)
         rw[add_zero]at j;have R:c'.size=c.size:=by have:=congrArg length j;simp[J]at this;omega
         obtain⟨s2,st2⟩:=s.write (ob':=.row d.size (S.take off++replicate (len+1) d.zero++S.drop (off+(len+1)))) X rfl hp
          ⟨p,c',el,hp,hI,iZ _ (Array.getElem?_eq_some_iff.1 C).1,by
           have ae:(S.take off++replicate (len+1) d.zero++S.drop (off+(len+1))).length=S.length:=by simp;omega
           refine⟨B.es_eq,by rw[R];exact B.sz,?_,?_,by rw[ae,R];exact B.room,?_⟩
           .intro x b;rcases mem_append.1 b with b|b
            .rcases mem_append.1 b with b|b
             .exact B.qq x (mem_of_mem_take b)
             exact aq x b
            exact B.qq x (mem_of_mem_drop b)
           .intro x b;rcases mem_append.1 b with b|b
            .rcases mem_append.1 b with b|b
             .exact B.one x (mem_of_mem_take b)
             exact M x b
            exact B.one x (mem_of_mem_drop b)
           rw[ae,j];have hL:=CL c.toList (zeroCells z.cells (len+1)).toList p.o (S.length*d.size) (off*d.size) (by simp;omega) (by simp[J];omega)
           rw[hL,flatten_append,flatten_append,(BS B.qq off Zaa).1,(BS B.qq _ Y).2]
           have e:off*d.size+(zeroCells z.cells (len+1)).toList.length=(off+(len+1))*d.size:=by simp[J,add_mul]
           rw[e];exact((B.rel.take _).append G).append (B.rel.drop _)⟩
         refine⟨_,.tuple #[],_,μ,L (.tuple #[]) (gz w p.b (.cells c' el)) ?_,.inl rfl,bK.undef _ _,s2,st2⟩;unfold clear_;simp_all
        simp_all
       simp_all
      simp_all
     simp_all
    simp_all
   simp_all
  simp_all
 simp_all
end
section
variable{P:Program}{E:Env}{I:cA}{μ:Mu}{H H':bn}{n:Nat}{F:Frame}{a:Act}{w:World}
theorem Za(s t:ByteArray)(h:(s==t)=true):s=t:=by
 cases s with|mk a=>cases t with|mk b=>
 have u:(a==b)=true:=h;grind
inductive zN(P:Program)(E:Env)(t:TypeId):V->Value->Prop
 |int(k:IntKind)(m:Int)(h:P.underlying t=some (.int k)):zN P E t (.int k m) (.int k m)|str(s:ByteArray)(h:P.underlying t=some .string):zN P E t (.str s) (.string s)|agg(m:Nat)(cs:List V)(l:List Int)(h:xh P t m)(hl:l.length=m)(hi:iS cs=some l):zN P E t (.agg cs) (.agg (ic l))
theorem P0(B:eS P E){t:TypeId}{k:V}{v:Value}(h:Ci E t k=true)(b:bK I μ k v):zN P E t k v:=by
 unfold Ci at h;split at h;rename_i k1 k2 m c;obtain⟨d,hd,u⟩:=fV c;obtain⟨a,f,w,D⟩:=(B.ty hd).dP;rw[u]at w;have:=Ef w;subst this;have e:k1=k2:=by grind
 subst e;rw[b.fW];exact .int _ _ f;next s c=>obtain⟨d,hd,u⟩:=fV c;obtain⟨a,f,w,D⟩:=(B.ty hd).dP;rw[u]at w;have:=Bk w;subst this;rw[b.uT];exact .str _ f
 rename_i cs _;split at h;next m z=>simp[isSome_iff_exists]at h;obtain⟨G,l,hi⟩:=h;obtain⟨J,rfl,C⟩:=b.jc;obtain⟨rfl,e⟩:=rP hi C;exact .agg m cs l (B.eqN _ _ z) Zaa hi
 grind;grind
theorem OT(d:Nat)(e:Bool){t:TypeId}{k:IntKind}{m:Int}(h:P.underlying t=some (.int k)):(checkKey e (d+1) t (.int k m)).run P w=.ok () w:=by simp[checkKey,run_bind,dP h,andThen_ok,run_pure]
theorem P4(d:Nat)(e:Bool){t:TypeId}{m:ByteArray}(h:P.underlying t=some .string):(checkKey e (d+1) t (.string m)).run P w=.ok () w:=by simp[checkKey,run_bind,dP h,andThen_ok,run_pure]
theorem Ak{t:TypeId}{k:V}{v:Value}(h:zN P E t k v)(e:Bool):(checkKey e 10000 t v).run P w=.ok () w:=by cases h with|int k m h=>exact OT 9999 e h|str s h=>exact P4 9999 e h|agg m cs l h u hi=>exact h.check w e l u
def mX(I:cA)(μ:Mu)(es:L' MapEntry)(i:Nat):Lk (Nat×V)->Lk (Nat×Value)->Prop
 |none,none=>True|some (j,x),some (B,v)=>j=B/\bK I μ x v/\i<=j/\∃e,es[j-i]?=some e/\e.val=v|_,_=>False
theorem E3{d:TypeDesc}{k:V}{v:Value}(hd:(∃kk m,d=.int kk/\k=.int kk m/\v=.int kk m)\/(∃s,d=.string/\k=.str s/\v=.string s)):
 ∀(B:L' (V×V))(es:L' MapEntry)(i:Nat)(r:Lk (Nat×V)),B.length=es.length->(∀(j:Nat)q e,B[j]?=some q->es[j]?=some e->bK I μ q.1 e.key/\bK I μ q.2 e.val)->
 iK k B i=some r->∃D,findNow d v es i=some D/\mX I μ es i r D/\∀j x,r=some (j,x)->∃e,es[j-i]?=some e/\e.key=v:=by
 intro B
 induction B with
 |nil=>
  intro es i r O _ h
  cases es with
  |nil=>simp only[iK,ζa]at h;subst h;exact⟨none,rfl,trivial,by simp⟩
  |cons _ _=>simp_all
 |cons q B Q=>
  intro es i r O f h
  cases es with
  |nil=>simp_all
  |cons e es=>
   obtain⟨G,S⟩:=q;obtain⟨g1,g2⟩:=f 0 (G,S) e rfl rfl;simp only[iK]at h;have u:∀b,xZ k G=some b->sameNow d v e.key=some b/\(b=true->e.key=v):=by
    intro b w;rcases hd with⟨kk,m,rfl,rfl,rfl⟩|⟨s,rfl,rfl,rfl⟩
    .cases G<;>simp only[xZ]at w<;>(try grind)
     rename_i k2 o;split at w
     next J=>simp only[ζa]at w;subst w;subst J;rw[g1.fW];exact⟨by simp[sameNow],by simp;grind⟩
     grind
    cases G<;>simp only[xZ]at w<;>(try (simp at w;done))
    simp only[ζa]at w;subst w;rw[g1.uT];exact⟨by simp[sameNow],λT=>by rw[Za _ _ T]⟩
   split at h
   .rename_i hk;obtain⟨c,g⟩:=u true hk;simp only[ζa]at h;subst h;refine⟨some (i,e.val),by simp[findNow,c],⟨rfl,g2,le_refl _,e,by simp,rfl⟩,?_⟩
    intro j x C;simp only[ζa,ζc]at C;obtain⟨rfl,_⟩:=C;exact⟨e,by simp,g rfl⟩
   .rename_i hk;obtain⟨c,_⟩:=u false hk;obtain⟨D,p1,p2,p3⟩:=Q es (i+1) r (by simpa using O) (λj a b x y=>f (j+1) a b (by simpa using x) (by simpa using y)) h
    refine⟨D,by simp[findNow,c,p1],?_,?_⟩
    .cases r with
     |none=>cases D<;>simp_all [mX]
     |some z=>
      cases D with
      |none=>simp[mX]at p2
      |some U=>
       obtain⟨W,X,p,L,Y,Z⟩:=p2;exact⟨W,X,by omega,L,by rw[show z.1-i=(z.1-(i+1))+1 by omega];simpa using Y,Z⟩
    intro j x C;obtain⟨L,l,n⟩:=p3 j x C;subst C;have:i+1<=j:=by
     cases D with
     |none=>simp[mX]at p2
     |some U=>exact p2.2.2.1
    exact⟨L,by rw[show j-i=(j-(i+1))+1 by omega];simpa using l,n⟩
   grind
theorem Nv{t:TypeId}{m:Nat}(U:xh P t m){cs:L' V}{l:L' Int}(W:l.length=m)(hi:iS cs=some l):
 ∀(B:L' (V×V))(es:L' MapEntry)(i:Nat)(r:Lk (Nat×V)),B.length=es.length->(∀(j:Nat)q e,B[j]?=some q->es[j]?=some e->bK I μ q.1 e.key/\bK I μ q.2 e.val)->
 iK (.agg cs) B i=some r->∃D,(findAsking t (.agg (ic l)) es i).run P w=.ok D w/\mX I μ es i r D/\∀j x,r=some (j,x)->∃e,es[j-i]?=some e/\e.key=.agg (ic l):=by
 intro B
 induction B with
 |nil=>
  intro es i r C _ h
  cases es with
  |nil=>simp[iK]at h;subst h;exact⟨none,rfl,trivial,by simp⟩
  |cons _ _=>simp_all
 |cons q B T=>
  intro es i r C d h
  cases es with
  |nil=>simp_all
  |cons e es=>
   obtain⟨G,X⟩:=q;obtain⟨g1,g2⟩:=d 0 (G,X) e rfl rfl;simp[iK]at h;have u:∀b,xZ (.agg cs) G=some b->(equal t (.agg (ic l)) e.key).run P w=.ok b w/\(b=true->e.key=.agg (ic l)):=by
    intro b J;cases G<;>simp[xZ]at J<;>(try (simp at J))
    obtain⟨s,Y,Q,x2,v,rfl⟩:=yJ J;rw[hi]at Q;cases Q;obtain⟨A,ev,L⟩:=g1.jc;obtain⟨rfl,e2⟩:=rP x2 L;rw[ev];refine⟨U.key w l Y W Zaa,?_⟩
    grind
   split at h
   .rename_i hk;obtain⟨c,E⟩:=u true hk;simp at h;subst h;refine⟨some (i,e.val),by simp[findAsking,c],⟨rfl,g2,le_refl _,e,by simp,rfl⟩,?_⟩
    grind
   .rename_i hk;obtain⟨c,_⟩:=u false hk;obtain⟨D,p1,p2,p3⟩:=T es (i+1) r Zac (λj a b x y=>d (j+1) a b Zac (by simpa using y)) h
    refine⟨D,by simp[findAsking,c,p1],?_,?_⟩
    .cases r with
     |none=>cases D<;>simp_all [mX]
     |some z=>
      cases D with
      |none=>simp[mX]at p2
      |some Z=>
       obtain⟨f,g,F,O,k,n⟩:=p2;exact⟨f,g,by omega,O,by rw[show z.1-i=(z.1-(i+1))+1 by omega];simpa using k,n⟩
    intro j x S;obtain⟨O,o,p⟩:=p3 j x S;subst S;have:=by
     cases D with
     |none=>simp[mX]at p2
     |some Z=>exact p2.2.2.1
    exact⟨O,by rw[show j-i=(j-(i+1))+1 by omega];simpa using o,p⟩
   grind
theorem wv{t:TypeId}{k:V}{v:Value}(h:zN P E t k v){B:L' (V×V)}{es:Array MapEntry}(a:wA I μ B es){r:Lk (Nat×V)}(G:iK k B 0=some r):
 ∃D,(findKey t v es.toList).run P w=.ok D w/\mX I μ es.toList 0 r D/\∀j x,r=some (j,x)->∃e,es[j]?=some e/\e.key=v:=by
 have u:=by simpa using a.1
 have z:∀(j:Nat)q e,B[j]?=some q->es.toList[j]?=some e->bK I μ q.1 e.key/\bK I μ q.2 e.val:=λj q e x y=>a.2 j q e x Zac
 have fin:∀(D:Lk (Nat×Value)),(∀j x,r=some (j,x)->∃e,es.toList[j-0]?=some e/\e.key=v)->∀j x,r=some (j,x)->∃e,es[j]?=some e/\e.key=v:=by grind
 cases h with
 |int kk m h=>obtain⟨D,g1,g2,g3⟩:=E3 (.inl ⟨kk,m,rfl,rfl,rfl⟩) B es.toList 0 r u z G;exact⟨D,by simp[findKey,run_bind,dP h,andThen_ok,g1,run_pure],g2,fin D g3⟩|str s h=>obtain⟨D,g1,g2,g3⟩:=E3 (.inr ⟨s,rfl,rfl,rfl⟩) B es.toList 0 r u z G;exact⟨D,by simp[findKey,run_bind,dP h,andThen_ok,g1,run_pure],g2,fin D g3⟩|agg m cs l h L hi=>
  obtain⟨D,g1,g2,g3⟩:=Nv (w:=w) h L hi B es.toList 0 r u z G;obtain⟨d,hd,C⟩:=h.kind;refine⟨D,?_,g2,fin D g3⟩;simp[findKey,run_bind,dP hd,andThen_ok]
  cases J:es.toList with
  |nil=>rw[J]at g1;simp[findNow,run_pure];simpa[findAsking]using g1|cons e rest=>
   have:findNow d (.agg (ic l)) (e::rest) 0=none:=by rcases C with⟨_,_,rfl⟩|⟨_,rfl⟩<;>simp[findNow,sameNow]
   grind
theorem BJ{b:Nat}{o:Obj}(h:w.heap[b]?=some o)(B:∀c e f,o≠.cells c e f):(getObj b).run P w=.ok o w:=by simp[getObj,Sem.run,h]
theorem RX(s:c_ I μ H w){m:V}{v:Value}(d:bK I μ m v){B:L' (V×V)}(h:ny H m=some B):
 (v=.map none/\B=[])\/∃b es a,v=.map (some b)/\w.heap[b]?=some (.map es a)/\wA I μ B es:=by
 cases m with
 |gD=>simp only[ny,ζa]at h;exact .inl ⟨d.SR,h.symm⟩|fmap k=>
  simp[ny]at h;subst h
  cases d with
  |c _ _ d=>cases d with
   |fmap _ b es C D hk u=>obtain⟨f,g⟩:=s.imm _ _ C;exact .inr ⟨b,es,f,rfl,g,D,λj q e x y=>⟨.c _ _ (hk j q e x y),.c _ _ (u j q e x y)⟩⟩
 |hmap id=>
  simp[ny]at h;split at h
  .rename_i G z;simp at h;obtain⟨p,es,f,g1,g2,g3,g4⟩:=s.obs id _ z;obtain⟨q,J,e⟩:=d.C4
   grind
  grind
 |_=>simp[ny]at h
theorem OV(U:eS P E)(r:eM I μ n F a.tmps)(s:c_ I μ H w){t:TypeId}{m k:Operand}{ok:Bool}{x:V}(h:dZ E F H (.lookup t m k ok)=some x):
 ∃v,(Instr.lookup t (a.eval m) (a.eval k) ok).run P w=.ok v w/\bK I μ x v:=by
 simp[dZ]at h;split at h
 .rename_i kt et mv kv hk hm Q;obtain⟨d,hd,S⟩:=fV hk;obtain⟨c,l,e,f⟩:=(U.ty hd).dP;rw[S]at e;have:=Bl e;subst this;split at h
  .rename_i de T W J;split at h
   .rename_i X;have D:=P0 U X (dH r Q);obtain⟨z,g,Y⟩:=(U.ty W).Wf;obtain⟨es,L,G⟩:∃es:Array MapEntry,wA I μ T es/\∀u,(findKey kt (a.eval k) es.toList).run P w=.ok u w->(Instr.lookup t (a.eval m) (a.eval k) ok).run P w=
     .ok (if ok then .tuple #[(u.map (·.2)).getD z,.bool u.isSome]else(u.map (·.2)).getD z) w:=by
     rcases RX s (dH r hm) J with⟨e1,rfl⟩|⟨b,es,o,e1,e2,e3⟩
     .refine⟨#[],⟨rfl,Zab⟩,λu C=>?_⟩
      unfold Instr.lookup;rw[e1];simp[run_bind,f,andThen_ok,run_pure,Ak D,C];cases u<;>cases ok<;>simp[g]
     refine⟨es,e3,λu C=>?_⟩
     unfold Instr.lookup;rw[e1];simp[run_bind,f,andThen_ok,run_pure,BJ e2 Zab,Ak D,C]
     cases u<;>cases ok<;>simp[g]
    split at h
    .rename_i j y _ B;simp at h;obtain⟨u,Z,O,_⟩:=wv D L B
     cases u with
     |none=>simp[mX]at O|some q=>
      obtain⟨_,i,_⟩:=O;refine⟨_,G _ Z,?_⟩;subst h
      cases ok with
      |true=>exact .Ut (.cons i (.cons (.c _ _ (.bool _)) .nil))|false=>exact i
    .rename_i y B hy;simp at h;obtain⟨u,Z,O,_⟩:=wv D L B
     cases u with
     |some q=>simp[mX]at O|none=>
      refine⟨_,G _ Z,?_⟩;subst h
      cases ok with
      |true=>exact .Ut (.cons (Y _ _ _ hy) (.cons (.c _ _ (.bool _)) .nil))|false=>grind
    grind
   grind
  grind
 grind
end
section
variable{P:Program}{E:Env}{I:cA}{μ:Mu}{H H':bn}{n:Nat}{F:Frame}{a:Act}{w:World}
theorem Lw(l:L' Int)(d:Nat):sameBits (d+2) (.agg (ic l)) (.agg (ic l))=true:=by simp only[sameBits,beq_self_eq_true,Bool.true_and,all_eq_true];intro p u;obtain⟨j,w,rfl⟩:=List.mem_iff_getElem.1 u;simp[ic,sameBits]
theorem SX{t:TypeId}{k:V}{v:Value}(h:zN P E t k v):(Instr.keyThatStays v v).run P w=.ok v w:=by
 have:sameBits 10000 v v=true:=by cases h with|int k m h=>simp[sameBits]|str s h=>simp[sameBits];exact(by cases s;exact beq_self_eq_true (α:=Array UInt8) _)|agg m cs l h u hi=>exact Lw l 9998
 unfold Instr.keyThatStays;rw[this];rfl
theorem GS{b:Nat}{es:Array MapEntry}{a:Nat}(o:Obj)(h:w.heap[b]?=some (.map es a)):(setObj b o).run P w=.ok () (gz w b o):=by simp only[setObj,Sem.run,h];rfl
theorem Bf(K:eS P E)(r:eM I μ n F a.tmps)(s:c_ I μ H w){t:TypeId}{m k y:Operand}{x:V}(h:dm E F H (.mapUpdate t m k y)=some (x,H')):
 Dz P I μ H w (do Instr.mapUpdate t (a.eval m) (a.eval k) (a.eval y);pure .skip) x H':=by
 simp only[dm]at h;split at h
 .rename_i kt et id Z yv hk hm W hy;obtain⟨d,hd,aa⟩:=fV hk;obtain⟨M,b,B,N⟩:=(K.ty hd).dP;rw[aa]at B;have:=Bl B;subst this;split at h
  .rename_i D U;split at h
   .rename_i ab;simp only[ζf,ζc]at h;obtain⟨af,u,rfl,rfl⟩:=h;have G:=P0 K ab (dH r W);obtain⟨p,es,c,g1,g2,g3,g4⟩:=s.obs id _ U;obtain⟨q,R,em⟩:=(dH r hm).C4;rw[g1]at R;cases R;have T:=(Array.getElem?_eq_some_iff.1 g3).1;have ah:∀(f:Unit->Sem Next),True:=λ_=>trivial
    unfold qU at u;have J:=dH r W;have L:=dH r hy;split at u
    .rename_i j z C;simp only[ζa]at u;subst u;obtain⟨O,l,g,q3⟩:=wv (w:=w) G g4 C
     cases O with
     |none=>simp[mX]at g|some O=>
      obtain⟨j',zv⟩:=O;obtain⟨rfl,_,_,e',ai,_⟩:=g;obtain⟨e2,X,ad⟩:=q3 j z rfl;have hj:=(Array.getElem?_eq_some_iff.1 X).1;have Q:wA I μ (D.set j (Z,yv)) (es.modify j λe=>{e with key:=a.eval k,val:=a.eval y}):=by refine⟨by simpa using g4.1,λi q e b B=>?_⟩;by_cases S:i=j;subst S;rw[getElem?_set_self (by rw[g4.1];exact hj)]at b;cases b;rw[Array.getElem?_modify]at B;simp only[if_true,ζf]at B;obtain⟨_,_,rfl⟩:=B;exact⟨J,L⟩;rw[getElem?_set_ne (Ne.symm S)]at b;rw[Array.getElem?_modify]at B;rw[if_neg (Ne.symm S)]at B;exact g4.2 i q e b B
      obtain⟨v,A⟩:=s.write (ob':=.map (D.set j (Z,yv))) (o:=.map (es.modify j λe=>{e with key:=a.eval k,val:=a.eval y}) c) U rfl g1
       ⟨p,_,c,g1,g2,iZ _ T,Q⟩
      refine⟨.skip,undef,_,μ,?_,.inr ⟨rfl,rfl⟩,.undef I μ,v,A⟩;unfold Instr.mapUpdate;rw[em];have Y:((es[j]?).map (·.key)).getD (a.eval k)=a.eval k:=by rw[X];simpa using ad
      simp only[run_bind,N,andThen_ok,BJ g3 Zab,Ak G,l,Y,SX G,GS _ g3,run_pure]
    .rename_i C;simp only[ζa]at u;subst u;obtain⟨O,l,g,q3⟩:=wv (w:=w) G g4 C
     cases O with
     |some q=>simp[mX]at g|none=>
      have Q:wA I μ (D++[(Z,yv)]) (es.push {key:=a.eval k,val:=a.eval y,born:=c}):=by refine⟨by simp[g4.1],λi q e b B=>?_⟩;by_cases S:i<D.length;rw[getElem?_append_left S]at b;rw[Array.getElem?_push]at B;rw[if_neg (by rw[<-g4.1];omega)]at B;exact g4.2 i q e b B;have ae:=(ζe.1 b).1;simp at ae;have:i=D.length:=Zaa;subst this;simp at b;subst b;rw[Array.getElem?_push,if_pos g4.1]at B;cases B;exact⟨J,L⟩
      obtain⟨v,A⟩:=s.write (ob':=.map (D++[(Z,yv)])) (o:=.map (es.push {key:=a.eval k,val:=a.eval y,born:=c}) (c+1)) U rfl g1
       ⟨p,_,_,g1,g2,iZ _ T,Q⟩
      refine⟨.skip,undef,_,μ,?_,.inr ⟨rfl,rfl⟩,.undef I μ,v,A⟩;unfold Instr.mapUpdate;rw[em];simp only[run_bind,N,andThen_ok,BJ g3 Zab,Ak G,l,GS _ g3,run_pure]
    simp at u
   simp at h
  simp at h
 simp at h
theorem We(B:eS P E)(r:eM I μ n F a.tmps)(s:c_ I μ H w)(o:Oper){x:V}(h:dZ E F H o.op=some x):
 ∃v,(execOp a.eval o).run P w=.ok (.value v) w/\bK I μ x v:=by
 obtain⟨dst,op,ty,pos,after,b⟩:=o;simp only at h
 cases op with
 |load t p=>
  simp only[dZ]at h;split at h
  next d D hd C=>obtain⟨u,c,z,_⟩:=Eu B s hd (dH r C) h;exact⟨u,eG c,z⟩
  simp at h
 |lookup t m k ok=>obtain⟨u,c,z⟩:=OV B r s h;exact⟨u,eG c,z⟩|_=>simp[dZ]at h
theorem VW(B:eS P E)(r:eM I μ n F a.tmps)(s:c_ I μ H w)(o:Oper){x:V}(h:dm E F H o.op=some (x,H')):Dz P I μ H w (execOp a.eval o) x H':=by
 obtain⟨dst,op,ty,pos,after,d⟩:=o;simp only at h
 cases op with
 |store t p q=>exact S8 B r s h|mapUpdate t m k y=>exact Bf B r s h|insert t m k y=>exact Bf (t:=t) (m:=m) (k:=k) (y:=y) B r s h|call c=>
  obtain⟨callee,args,u⟩:=c
  cases callee with
  |builtin b=>cases b with|append=>exact PR B r s h|clear=>exact RN B r s h|_=>simp[dm]at h
  |_=>simp[dm]at h
 |_=>simp[dm]at h
end
theorem vm{xs:L' V}(h:V.lY xs=true):∀x∈xs,V.closed x=true:=by induction xs with|nil=>simp|cons x r u=>simp[V.lY]at h;grind
theorem vf{xs:L' V}(h:V.cV xs=true):∀x∈xs,V.scalar x=true:=by induction xs with|nil=>simp|cons x r u=>simp[V.cV]at h;grind
section
variable{I I':cA}{μ:Mu}{H H':bn}{w:World}
theorem bK.closed{x:V}{v:Value}(h:bK I μ x v)(d:x.closed=true):eN I x v:=by induction h with|c x v h=>omega|hsl id off len cap p w h1 O=>simp[V.closed]at d|hsl0 id es off a=>simp[V.closed]at d|hptr id el off p w=>simp[V.closed]at d|yld id p w=>simp[V.closed]at d|hmap id p w=>simp[V.closed]at d|clo f x y u v J L _ _ z B=>simp[V.closed]at d;exact .clo f x y u v J L (λj a b p q=>z j a b p q (vm d.1 a (mem_of_getElem? p))) (λj a b p q=>B j a b p q (vm d.2 a (mem_of_getElem? p)))|agg cs C D _ G=>exact .agg cs C D λj a b p q=>G j a b p q (vm d a (mem_of_getElem? p))|tup cs C D _ G=>exact .tup cs C D λj a b p q=>G j a b p q (vm d a (mem_of_getElem? p))
theorem eN.scalar{x:V}{v:Value}(h:eN I x v)(B:x.scalar=true):eN I' x v:=by induction h with|bool b=>exact .bool b|int k n=>exact .int k n|str s=>exact .str s|dL a=>exact .dL a|bM=>exact .bM|iI=>exact .iI|gD=>exact .gD|tF=>exact .tF|agg cs u w _ z=>exact .agg cs u w λj a b p q=>z j a b p q (vf B a (mem_of_getElem? p))|tup cs u w _ z=>exact .tup cs u w λj a b p q=>z j a b p q (vf B a (mem_of_getElem? p))|_=>simp[V.scalar]at B
theorem jo{f:V->Lk V}:∀{xs ys:L' V},iU f xs=some ys->ys.length=xs.length/\∀(j:Nat)y,ys[j]?=some y->∃x,xs[j]?=some x/\f x=some y:=by intro xs;induction xs with|nil=>intro ys h;simp[iU]at h;grind|cons x xs u=>intro ys h;simp[iU]at h;split at h;grind;grind
theorem Oj{f:V->Lk V}:∀{xs ys:L' (L' V)},mC f xs=some ys->ys.length=xs.length/\∀(j:Nat)y,ys[j]?=some y->∃x,xs[j]?=some x/\iU f x=some y:=by intro xs;induction xs with|nil=>intro ys h;simp[mC]at h;grind|cons x xs u=>intro ys h;simp[mC]at h;grind
theorem NZ{f:V->Lk V}:∀{xs ys:L' (V×V)},mI f xs=some ys->ys.length=xs.length/\∀(j:Nat)y,ys[j]?=some y->∃x,xs[j]?=some x/\f x.1=some y.1/\f x.2=some y.2:=by intro xs;induction xs with|nil=>intro ys h;simp only[mI]at h;grind|cons x xs u=>intro ys h;simp only[mI]at h;grind
def Obj.ic:Obj->Lk IC
 |.cells c _ _=>some (.cells c)|.map es _=>some (.map es)|_=>none
def Ce(μ:Mu)(H:bn)(T:L' Nat)(b:Nat):Prop:=∃id p ob,id∈T/\H[id]?=some ob/\ob.live=true/\μ id=some p/\p.b=b
open Classical in
noncomputable def plus(I:cA)(μ:Mu)(H:bn)(w:World)(T:L' Nat):cA:=λb=>
 match I b with
 |some x=>some x|none=>if Ce μ H T b then(w.heap[b]?).bind Obj.ic else none
theorem p9(I:cA)(μ:Mu)(H:bn)(w:World)(T:L' Nat):cA.le I (plus I μ H w T):=by intro b x h;simp[plus,h]
theorem uW(s:c_ I μ H w)(T:L' Nat):∀b x,plus I μ H w T b=some x->x.at w b:=by
 intro b x h;unfold plus at h;split at h;next y B=>cases h;exact s.imm b _ B
 split at h;obtain⟨o,z,u⟩:=ζg.1 h;cases o<;>simp[Obj.ic]at u;subst u;exact⟨_,_,z⟩;subst u;exact⟨_,z⟩;grind
theorem Ae{T:L' Nat}{b:Nat}(h:(plus I μ H w T b).isSome=true):(I b).isSome=true\/Ce μ H T b:=by unfold plus at h;grind
theorem CP{T:L' Nat}{b:Nat}(h:Ce μ H T b):iL μ H b:=by obtain⟨id,p,ob,_,h1,u,w,z⟩:=h;exact⟨id,p,ob,h1,u,w,z⟩
theorem DP(s:c_ I μ H w){T:L' Nat}{id es:Nat}{xs:L' (L' V)}(B:id∈T)(h:(H[id]?).bind Ob.rows=some (es,xs)):
 ∃p c,μ id=some p/\plus I μ H w T p.b=some (.cells c)/\gJ I μ p c es xs:=by
 obtain⟨ob,a,z⟩:=ζg.1 h;have u:=s.obs id ob a;rcases Jy z with rfl|rfl
 .obtain⟨p,c,el,g1,g2,g3,g4⟩:=u;refine⟨p,c,g1,?_,g4⟩;have C:Ce μ H T p.b:=⟨id,p,_,B,a,rfl,g1,rfl⟩;unfold plus;rw[g2];simp[C,g3,Obj.ic]
 obtain⟨p,c,g1,g2,g4⟩:=u;exact⟨p,c,g1,p9 _ _ _ _ _ _ _ g2,g4⟩
theorem gJ.idx{p:Pl}{c:Array Value}{es:Nat}{xs:L' (L' V)}(r:gJ I μ p c es xs){i j:Nat}{x:L' V}{y:V}{v:Value}(a:xs[i]?=some x)(B:x[j]?=some y)
 (D:c[p.o+i*es+j]?=some v):bK I μ y v:=by
 have w:=xk r.qq a B;refine r.rel.2 (i*es+j) y v w ?_;have u:=(ζe.1 w).1;rw[gu r.qq]at u
 grind
theorem kT{f:V->L' Nat}{xs:L' V}{x:V}{k:Nat}(B:x∈xs)(a:k∈f x):k∈cW f xs:=by induction xs with|nil=>simp_all|cons y r u=>simp[cW];grind
theorem kR(n:Nat)(H:bn){x:V}(h:x.closed=true):borrow n H x=some x:=by cases n<;>simp[borrow,h]
theorem vG(s:c_ I μ H w)(T:L' Nat):∀(n:Nat)(x y:V)(v:Value),borrow n H x=some y->(∀k∈cn n H x,k∈T)->bK I μ x v->
 eN (plus I μ H w T) y v/\(x.one=true->y.one=true):=by
 intro n
 induction n with
 |zero=>
  intro x y v h _ g;simp only[borrow]at h;split at h
  next E=>simp at h;subst h;exact⟨(g.closed E).mono (p9 _ _ _ _ _),id⟩
  grind
 |succ n ih=>
  intro x y v h O g;simp[borrow]at h;split at h
  next E=>simp at h;subst h;exact⟨(g.closed E).mono (p9 _ _ _ _ _),id⟩
  rename_i al;simp[cn,if_neg al]at O;split at h
  .
   rename_i id es off len;split at h
   .rename_i B xs J;split at h
    .rename_i E;obtain⟨rfl,am⟩:=E;simp only[J]at O;simp at h;obtain⟨U,l,rfl⟩:=h;obtain⟨R,W⟩:=Oj l;refine⟨?_,λ_=>rfl⟩
     have aj:U.length=len:=Zac
     rcases g.mT with⟨p,F,t,hp,ar,o,rfl⟩|⟨h0,a,rfl⟩
     .obtain⟨p',c,g1,g2,g3⟩:=DP s (O id Zab) J
      rw[t]at g1;cases g1;have X:∀i z,U[i]?=some z->∃Q,xs[off+i]?=some Q/\iU (borrow n H) Q=some z:=by grind
      have ak:∀i Q,i<len->xs[off+i]?=some Q->∀q∈Q,∀k∈cn n H q,k∈T:=by intro i Q hi an q K k d;refine O k ?_;refine mem_cons_of_mem _ (kT (mem_flatten.2 ⟨Q,mem_of_getElem? (i:=i) ?_,K⟩) d);rw[getElem?_take,if_pos hi,getElem?_drop];exact an
      have au:eN (plus I μ H w T) (.fsl B U) (.slice (some ⟨p.b,p.o+off*B,none⟩) U.length F):=by refine .fsl B U p.b (p.o+off*B) F c g2 Zaa ?_ ?_ ?_ ?_;intro z af;obtain⟨i,hi⟩:=List.mem_iff_getElem?.1 af;obtain⟨Q,G,Y⟩:=X i z hi;rw[(jo Y).1];exact g3.qq Q (mem_of_getElem? G);intro z af q K;obtain⟨i,hi⟩:=List.mem_iff_getElem?.1 af;obtain⟨Q,G,Y⟩:=X i z hi;obtain⟨j,m⟩:=List.mem_iff_getElem?.1 K;obtain⟨L,D,Z⟩:=(jo Y).2 j q m;have ad:=mem_of_getElem? G;have ae:=mem_of_getElem? D;have ao:=g3.room;have aw:=g3.qq Q ad;have ax:=(ζe.1 D).1;have ap:=(ζe.1 G).1;have av:(off+i)*B+B<=xs.length*B:=(by have:=mul_le_mul_right B (ap);grind);have aq:=Zaa;have M:=g3.idx G D (v:=c[p.o+(off+i)*B+j]) (by simp[aq]);exact(ih L q _ Z (ak i Q (by have:=(ζe.1 hi).1;omega) G L ae) M).2 (g3.one Q ad L ae);have A:=(g3.span am).2;grind;intro i j z q u hi m hu;obtain⟨Q,G,Y⟩:=X i z hi;obtain⟨L,D,Z⟩:=(jo Y).2 j q m;have M:=g3.idx G D (v:=u) Zac;exact(ih L q u Z (ak i Q (by have:=(ζe.1 hi).1;omega) G L (mem_of_getElem? D)) M).1
      grind
     subst h0;have:=List.eq_nil_of_length_eq_zero aj;subst this;exact .fsl0 B _ _
    grind
   grind
  .
   rename_i id el off;split at h
   .rename_i B xs J;split at h
    .rename_i cs ah;split at h
     .simp only[J]at O;simp at h;obtain⟨U,l,rfl⟩:=h;obtain⟨R,W⟩:=jo l;refine⟨?_,λ_=>rfl⟩
      obtain⟨p,t,rfl⟩:=g.uE;obtain⟨p',c,g1,g2,g3⟩:=DP s (O id Zab) J
      rw[t]at g1;cases g1;obtain⟨k1,k2,k3⟩:=g3.elem ah;rw[g3.es_eq];refine .fptr U p.b _ c g2 ?_ ?_
      .rw[R,List.length_drop];omega
      intro j q u m hu;obtain⟨L,D,Z⟩:=W j q m;rw[getElem?_drop]at D;have M:=g3.idx ah D (by rw[<-add_assoc];exact hu)
      refine(ih L q u Z (λk d=>O k ?_) M).1
      exact mem_cons_of_mem _ (kT (mem_of_getElem? (i:=j) (by rw[ah,getD_some,getElem?_drop];exact D)) d)
     simp at h
    simp at h
   simp at h
  .
   rename_i id;split at h
   .rename_i ay ai;simp at h;obtain⟨U,l,rfl⟩:=h;simp only[ai]at O;obtain⟨R,W⟩:=NZ l;refine⟨?_,λ_=>rfl⟩
    obtain⟨p,t,rfl⟩:=g.C4;obtain⟨p',es,cl,g1,g2,g3,g4⟩:=s.obs id _ ai;rw[t]at g1;cases g1;have ht:Ce μ H T p.b:=⟨id,p,_,O id Zab,ai,rfl,t,rfl⟩
    have hI:plus I μ H w T p.b=some (.map es):=by unfold plus;rw[g2];simp[ht,g3,Obj.ic]
    refine .fmap U p.b es hI (by rw[R];exact g4.1) ?_ ?_
    .intro j q e m he;obtain⟨L,A,h2,h3⟩:=W j q m;refine(ih L.1 q.1 e.key h2 (λk d=>O k ?_) (g4.2 j L e A he).1).1
     exact mem_cons_of_mem _ (mem_append.2 (.inl (kT (mem_map.2 ⟨L,mem_of_getElem? A,rfl⟩) d)))
    intro j q e m he;obtain⟨L,A,h2,h3⟩:=W j q m;refine(ih L.2 q.2 e.val h3 (λk d=>O k ?_) (g4.2 j L e A he).2).1
    exact mem_cons_of_mem _ (mem_append.2 (.inr (kT (mem_map.2 ⟨L,mem_of_getElem? A,rfl⟩) d)))
   simp at h
  .rename_i f p q;split at h
   .rename_i p' q' hp K;simp at h;subst h;obtain⟨N,u2,rfl,r1,r2⟩:=g.kN;obtain⟨P,m1⟩:=jo hp;obtain⟨l2,m2⟩:=jo K;refine⟨.clo f p' q' N u2 (by rw[P];simpa using r1.1) (by rw[l2];simpa using r2.1) ?_ ?_,λ_=>rfl⟩
    .intro j a b r o;obtain⟨a0,C,S⟩:=m1 j a r;exact(ih a0 a b S (λk d=>O k (mem_append.2 (.inl (kT (mem_of_getElem? C) d)))) (r1.2 j a0 b C (by simpa using o))).1
    intro j a b r o;obtain⟨a0,C,S⟩:=m2 j a r;exact(ih a0 a b S (λk d=>O k (mem_append.2 (.inr (kT (mem_of_getElem? C) d)))) (r2.2 j a0 b C (by simpa using o))).1
   simp at h
  .rename_i cs;simp at h;obtain⟨U,l,rfl⟩:=h;obtain⟨P,m1⟩:=jo l;obtain⟨N,rfl,r1⟩:=g.jc;refine⟨.agg U N (by rw[P];simpa using r1.1) ?_,λh=>by simp[V.one]at h⟩
   intro j a b r o;obtain⟨a0,C,S⟩:=m1 j a r;exact(ih a0 a b S (λk d=>O k (kT (mem_of_getElem? C) d)) (r1.2 j a0 b C (by simpa using o))).1
  .rename_i cs;simp at h;obtain⟨U,l,rfl⟩:=h;obtain⟨P,m1⟩:=jo l;obtain⟨N,rfl,r1⟩:=g.qZ;refine⟨.tup U N (by rw[P];simpa using r1.1) ?_,λh=>by simp[V.one]at h⟩
   intro j a b r o;obtain⟨a0,C,S⟩:=m1 j a r;exact(ih a0 a b S (λk d=>O k (kT (mem_of_getElem? C) d)) (r1.2 j a0 b C (by simpa using o))).1
  grind
end
def fr(ro:Lk Nat):Fence:={fn:=λ_=>True,depth:=none,alive:=false,round:=ro}
def zx(I:cA)(μ:Mu)(H:bn)(w:World)(r:V)(H':bn):Ending->World->Prop:=λe w'=>∃u I' μ',e=.returned u/\bK I' μ' r u/\c_ I' μ' H' w'/\Step I μ H w I' μ' H' w'
def As(P:Program)(f:FuncId):Prop:=∃fn,P.funcs[f]?=some fn/\fn.body.isSome=true/\(fn.name== "runtime.NumGoroutine")=false
structure lJ(P:Program)(call:dG):Prop where
 fn:∀f args H r H',call (.fn f) args H=some (r,H')->As P f/\∀I μ w vs,c_ I μ H w->cN I μ args vs->CallsIn (fr none) 0 P f vs.toArray w (zx I μ H w r H')
 yld:∀id args H r H',call (.yld id) args H=some (r,H')->∀I μ w vs p,c_ I μ H w->cN I μ args vs->μ id=some p->
  ∃l f tmps assign body,(Instr.yield p.b vs.toArray).run P w=.ok (.round l f tmps assign body) w/\RoundIn (fr none) 0 P l f tmps assign body w (zx I μ H w r H')
def tU:Ob->Ob
 |.row es xs=>.frz es xs|.map _=>.dead|o=>o
theorem HZ(H:bn)(k id:Nat):(vF H k)[id]?=(H[id]?).map λob=>if id=k then tU ob else ob:=by
 unfold vF;by_cases e:id=k;subst e;cases h:H[id]?with|none=>simp[h]|some ob=>have u:=(ζe.1 h).1;cases ob<;>simp[tU,u]<;>exact(ζe.1 h).2
 grind
theorem CY(o:Ob):tU (tU o)=tU o:=by cases o<;>rfl
theorem jb:∀(T:L' Nat)(H:bn)(id:Nat),(cM H T)[id]?=(H[id]?).map λob=>if id∈T then tU ob else ob:=by intro T;induction T with|nil=>simp[cM]|cons k T u=>intro H id;have:=u (vF H k) id;simp[cM]at this⊢;rw[this,HZ];cases h:H[id]?with|none=>simp|some ob=>by_cases e:id=k<;>by_cases w:id∈T<;>simp[CY]<;>(simp_all)<;>simp_all [CY]
theorem kM(T:L' Nat)(H:bn):(cM H T).length=H.length:=by induction T generalizing H with|nil=>rfl|cons k T u=>simp[cM]at u⊢;rw[u];unfold vF;grind
section
variable{P:Program}{I I':cA}{μ μ':Mu}{H H':bn}{w w':World}
theorem c_.kept(s:c_ I μ H w)(a:∀b,b<w.heap.size->w'.heap[b]?=w.heap[b]?):c_ I μ H w' where
 dom:=s.dom
 imm:=λb x h=>IC.tf (s.imm b x h) (a b (s.Jz h))
 obs:=λid ob h=>(s.obs id ob h).mono (cA.le_refl _) (Mu.le_refl _) (λp z B=>by
  have u:iL μ H p.b:=⟨id,p,ob,h,B,z,rfl⟩;exact⟨a _ (om s u),gB s u⟩) (λC=>by subst C;exact s.obs id _ h)
 inj:=s.inj
 gl:=s.gl
theorem sD(μ:Mu)(b:Nat):¬iL μ [] b:=by rintro⟨id,p,ob,h,_⟩;simp_all
theorem Ea{call:dG}(M:lJ P call){f:FuncId}{args:L' V}{y:V}(h:cm call f args H=some y)(s:c_ I μ H w){vs:L' Value}(o:cN I μ args vs):
 As P f/\CallsIn (fr none) 0 P f vs.toArray w (zx I μ H w y (if y.scalar then H else cM H (cW (cn call.lv H) args))):=by
 unfold cm at h;split at h
 .rename_i az has;split at h
  .rename_i r H1 X;split at h
   .rename_i y' hy;split at h
    .rename_i aa;simp at h;subst h;generalize N:cW (cn call.lv H) args=T;obtain⟨R,D⟩:=jo has;have s0:c_ (plus I μ H w T) (λ_=>none) [] w:=⟨λ_ _=>rfl,uW s T,Zab,Zab,s.gl.mono (p9 I μ H w T)⟩
     have Y:cN (plus I μ H w T) (λ_=>none) az vs:=by refine⟨R.trans o.1,λj a b d z=>?_⟩;obtain⟨x,O,af⟩:=D j a d;refine .c _ _ (vG s T call.lv x a b af (λk t=>?_) (o.2 j x b O z)).1;rw[<-N];exact kT (mem_of_getElem? O) t
     obtain⟨hf,Q⟩:=M.fn f az [] r H1 X;refine⟨hf,(Q _ _ w vs s0 Y).mono ?_⟩;rintro e w' ⟨u,I1,v,rfl,hr,i,st⟩;have B:=λb D=>st.frame b D (sD _ _)
     generalize ak:cn call.lv H1 r=T1;have A:=(vG i T1 call.lv r y' u hy (λk t=>Zac) hr).1
     cases ah:y'.scalar with
     |true=>exact⟨u,I,μ,rfl,.c _ _ (A.scalar ah),s.kept B,⟨cA.le_refl _,Mu.le_refl _,le_refl _,st.size,λb D _=>B b D,λ_ h=>h.elim .inl λh=>.inr (.inl h),st.os,st.out,st.fz⟩⟩|false=>
      simp only[false_eq_true,if_false]
      let I2:=plus I1 v H1 w' T1
      have G:cA.le I I2:=cA.le_trans (p9 I μ H w T) (cA.le_trans st.le (p9 _ _ _ _ _));have J:∀b,(I2 b).isSome=true->(I b).isSome=true\/Ce μ H T b\/w.heap.size<=b:=by intro b D;have d:(I1 b).isSome=true\/iL v H1 b:=(by rcases Ae D with h|h;grind;exact .inr (CP h));rcases st.terr b d with h|h|h;rcases Ae h with h|h;grind;grind;exact absurd h (sD _ _);grind
      have Z:∀id ob p,H[id]?=some ob->ob.live=true->id∉T->μ id=some p->I2 p.b=none:=by intro id ob p d z h3 h4;cases E:I2 p.b with|none=>rfl|some x=>have F:iL μ H p.b:=⟨id,p,ob,d,z,h4,rfl⟩;rcases J p.b Zac with h|⟨S,p',ai,g0,g1,g2,g3,g4⟩|h;rw[gB s F]at h;cases h;have:=s.inj S id ai ob p' p g1 d g2 z g3 h4 g4;simp_all;have:=om s F;omega
      have U:∀id x,(cM H T)[id]?=some x->∃ob,H[id]?=some ob/\x=(if id∈T then tU ob else ob):=by intro id x O;rw[jb]at O;obtain⟨ob,d,z⟩:=ζf.1 O;exact⟨ob,d,z.symm⟩
      have C:∀id x,(cM H T)[id]?=some x->x.live=true->H[id]?=some x/\(id∉T\/∃r,x=.loop r):=by intro id x O g;obtain⟨ob,d,z⟩:=U id x O;by_cases W:id∈T;rw[if_pos W]at z;cases ob<;>simp[tU]at z<;>subst z<;>simp[Ob.live]at g;exact⟨d,.inr ⟨_,rfl⟩⟩;rw[if_neg W]at z;subst z;exact⟨d,.inl W⟩
      refine⟨u,I2,μ,rfl,.c _ _ A,⟨?_,?_,?_,?_,s.gl.mono G⟩,⟨G,Mu.le_refl _,by rw[kM];exact le_refl _,st.size,λb D _=>B b D,?_,st.os,st.out,st.fz⟩⟩
      .intro id h;rw[kM]at h;exact s.dom id h
      .exact uW i T1
      .intro id x O;obtain⟨ob,d,z⟩:=U id x O;have L:=s.obs id ob d
       by_cases W:id∈T
       .rw[if_pos W]at z
        cases ob with
        |row es xs=>
         subst z;obtain⟨p,c,g1,g2,g3⟩:=DP s W (by rw[d];rfl)
         exact⟨p,c,g1,p9 _ _ _ _ _ _ _ (st.le _ _ g2),g3.mono G (Mu.le_refl _)⟩
        |frz es xs=>subst z;exact L.mono G (Mu.le_refl _) (λp _ g=>by simp[Ob.live]at g) (λm=>by cases m)|map al=>subst z;trivial|free=>simp[tU]at z;subst z;exact L|dead=>subst z;trivial|loop r=>
         simp[tU]at z;subst z;obtain⟨p,l,g1,g2,g3,g4⟩:=L;refine⟨p,l,g1,?_,?_,g4.mono G (Mu.le_refl _)⟩
         .
          cases E:I2 p.b with
          |none=>rfl|some x=>
           have K:=uW i T1 p.b x E;have aj:=(Array.getElem?_eq_some_iff.1 g3).1;have n:=B p.b aj;rw[g3]at n
           cases x with
           |cells c=>obtain⟨_,_,q⟩:=K;rw[n]at q;cases q|map es=>obtain⟨_,q⟩:=K;rw[n]at q;cases q
         rw[B p.b (Array.getElem?_eq_some_iff.1 g3).1];omega
       rw[if_neg W]at z;subst z;refine L.mono G (Mu.le_refl _) (λp hp g=>⟨B _ (om s ⟨id,p,x,d,g,hp,rfl⟩),Z id x p d g W hp⟩) (λm=>by subst m;exact L)
      .intro id S o1 o2 p p' d z l1 l2 m1 m2 D;exact s.inj id S o1 o2 p p' (C id o1 d l1).1 (C S o2 z l2).1 l1 l2 m1 m2 D
      intro b D;rcases D with h|⟨id,p,x,d,z,h3,rfl⟩
      .rcases J b h with h|h|h
       .exact .inl h
       .exact .inr (.inl (CP h))
       exact .inr (.inr h)
      exact .inr (.inl ⟨id,p,x,(C id x d z).1,z,h3,rfl⟩)
    grind
   grind
  grind
 grind
theorem bK.scalar{x:V}{v:Value}(h:bK I μ x v)(B:x.scalar=true):bK I' μ' x v:=by
 have key:∀(l:L' V)(u:L' Value),(∀x∈l,∀v,bK I μ x v->x.scalar=true->bK I' μ' x v)->V.cV l=true->(∀(j:Nat)a b,l[j]?=some a->u[j]?=some b->bK I μ a b)->
  ∀(j:Nat)a b,l[j]?=some a->u[j]?=some b->bK I' μ' a b:=by
  intro l
  induction l with
  |nil=>grind|cons x l C=>
   intro u g J L j a b D w;simp only[V.cV,ζh]at J
   cases j with
   |zero=>grind|succ j=>
    cases u with
    |nil=>simp at w|cons v u=>exact C u (λy z=>g y (mem_cons_of_mem _ z)) J.2 (λj a b p q=>L (j+1) a b Zac Zac) j a b Zac (by simpa using w)
 have d:∀(k:Nat)(x:V)(v:Value),SizeOf.sizeOf x<k->bK I μ x v->x.scalar=true->bK I' μ' x v:=by intro k;induction k with|zero=>grind|succ k C=>intro x v f h B;cases h with|c _ _ h=>exact .c _ _ (h.scalar B)|agg cs u G h=>refine .agg cs u G (λj a b D w=>key cs u.toList (λy z v e B=>C y v ?_ e B) B (λj a b p q=>h j a b p (by simpa using q)) j a b D (by simpa using w));have:=List.sizeOf_lt_of_mem z;simp at f;omega|tup cs u G h=>refine .tup cs u G (λj a b D w=>key cs u.toList (λy z v e B=>C y v ?_ e B) B (λj a b p q=>h j a b p (by simpa using q)) j a b D (by simpa using w));have:=List.sizeOf_lt_of_mem z;simp at f;omega|_=>simp[V.scalar]at B
 exact d (SizeOf.sizeOf x+1) x v Zaa h B
theorem c_.NS(s:c_ I μ H w){ob:Ob}{p:Pl}(U:ob≠.free)(Y:I p.b=none)(G:¬iL μ H p.b)(W:tK I (μ.gZ H.length p) w H.length ob):
 c_ I (μ.gZ H.length p) (H++[ob]) w:=by
 have a:=s.dom _ (le_refl _);have u:∀id x,(H++[ob])[id]?=some x->(id≠H.length/\H[id]?=some x)\/(id=H.length/\x=ob):=by grind
 refine⟨?_,s.imm,?_,?_,s.gl⟩
 .intro id h;simp at h;rw[Mu.jd _ _ Zaa];exact s.dom id Zaa
 .intro id x h;rcases u id x h with⟨e,h⟩|⟨rfl,rfl⟩
  .refine(s.obs id x h).mono (cA.le_refl _) (Mu.rY a) (λq Q S=>?_) (λT=>by subst T;rw[Mu.jd _ _ e];exact s.obs id _ h)
   exact⟨rfl,gB s ⟨id,q,x,h,S,Q,rfl⟩⟩
  grind
 intro id z o1 o2 q J h1 X L O B C D;rcases u id o1 h1 with⟨e1,k1⟩|⟨a1,Z⟩<;>rcases u z o2 X with⟨e2,k2⟩|⟨a2,b⟩
 .rw[Mu.jd _ _ e1]at B;rw[Mu.jd _ _ e2]at C;exact s.inj id z o1 o2 q J k1 k2 L O B C D
 .subst a2;rw[Mu.jd _ _ e1]at B;rw[Mu.gG]at C;cases C;exact absurd ⟨id,q,o1,k1,L,B,D⟩ G
 .subst a1;rw[Mu.jd _ _ e2]at C;rw[Mu.gG]at B;cases B;exact absurd ⟨z,J,o2,k2,O,C,D.symm⟩ G
 grind
theorem Xn{call:dG}(hc:lJ P call){f:FuncId}{args:L' V}{y:V}(h:lu call f args H=some (y,H'))(s:c_ I μ H w){vs:L' Value}(N:cN I μ args vs):
 As P f/\CallsIn (fr none) 0 P f vs.toArray w (zx I μ H w y H'):=by
 unfold lu at h;split at h
 .rename_i az has;split at h
  .rename_i r H1 O;generalize hT:cW (cn call.lv H) args=T;obtain⟨X,B⟩:=jo has;have s0:c_ (plus I μ H w T) (λ_=>none) [] w:=⟨λ_ _=>rfl,uW s T,Zab,Zab,s.gl.mono (p9 I μ H w T)⟩
   have Q:cN (plus I μ H w T) (λ_=>none) az vs:=by refine⟨X.trans N.1,λj a b g Y=>?_⟩;obtain⟨x,d,ae⟩:=B j a g;refine .c _ _ (vG s T call.lv x a b ae (λk hk=>?_) (N.2 j x b d Y)).1;rw[<-hT];exact kT (mem_of_getElem? d) hk
   obtain⟨hf,G⟩:=hc.fn f az [] r H1 O;refine⟨hf,(G _ _ w vs s0 Q).mono ?_⟩;rintro e w' ⟨u,I1,μ1,rfl,F,s1,st⟩;have z:∀b,b<w.heap.size->w'.heap[b]?=w.heap[b]?:=λb B=>st.frame b B (sD _ _)
   have R:c_ I μ H w':=s.kept z;have af:Step I μ H w I μ H w':=⟨cA.le_refl _,Mu.le_refl _,le_refl _,st.size,λb B _=>z b B,λ_ h=>h.elim .inl λh=>.inr (.inl h),st.os,st.out,st.fz⟩
   split at h
   next ah=>simp only[ζa,ζc]at h;obtain⟨rfl,rfl⟩:=h;exact⟨u,I,μ,rfl,F.scalar ah,R,af⟩

   have key:∀(id es off len:Nat)(v:V)(ob:Ob)(u:Value),sq H.length H1 id es off len=some (v,ob)->bK I1 μ1 (.hsl id es off len) u->
    ∃p,bK I (μ.gZ H.length p) v u/\c_ I (μ.gZ H.length p) (H++[ob]) w'/\Step I μ H w I (μ.gZ H.length p) (H++[ob]) w':=by
    intro id es off len v ob u C hu;unfold sq at C;split at C
    .rename_i Z xs L;split at C
     .rename_i S;obtain⟨rfl,an⟩:=S;obtain⟨rfl,rfl⟩:=C;obtain⟨p,c,el,g1,g2,g3,g4⟩:=s1.obs id _ L;have aa:w.heap.size<=p.b:=by
       rcases st.terr p.b (.inr ⟨id,p,_,L,rfl,g1,rfl⟩)with h|h|h
       .obtain⟨x,d⟩:=isSome_iff_exists.1 h;have:=st.le _ _ d
        grind
       .exact absurd h (sD _ _)
       simp_all
      have hI:I p.b=none:=by cases d:I p.b with|none=>rfl|some x=>have:=s.Jz d;omega
      have hn:¬iL μ H p.b:=λho=>by have:=om s ho;omega
      have ai:gJ I (μ.gZ H.length p) p c Z xs:=by refine⟨g4.es_eq,g4.sz,g4.qq,g4.one,g4.room,g4.rel.1,λj a b C B=>(g4.rel.2 j a b C B).scalar ?_⟩;have n:=mem_of_getElem? C;rw[mem_flatten]at n;grind
      have sa:=R.NS (ob:=.row Z xs) Zab hI hn ⟨p,c,el,Mu.gG _ _ _,hI,g3,ai⟩
      refine⟨p,?_,sa,⟨cA.le_refl _,Mu.rY (s.dom _ (le_refl _)),Zab,st.size,λb B _=>z b B,?_,st.os,st.out,st.fz⟩⟩
      .rcases hu.mT with⟨p',K,n,aj,ak,al,M⟩|⟨h0,ad,M⟩
       .rw[g1]at n;cases n;rw[M];subst aj;exact .hsl _ off len K p (Mu.gG _ _ _) ak al
       rw[M,h0];exact .hsl0 _ _ _ _
      rintro b (h|⟨k,q,x,g,Y,o,rfl⟩)
      .exact .inl h
      by_cases e:k=H.length
      .subst e;rw[Mu.gG]at o;cases o;exact .inr (.inr aa)
      rw[Mu.jd _ _ e]at o;have am:k<H.length:=by have:=(ζe.1 g).1;simp at this;omega
      rw[getElem?_append_left am]at g;exact .inr (.inl ⟨k,q,x,g,Y,o,rfl⟩)
     grind
    grind
   split at h
   next id es off len _=>simp only[ζf]at h;obtain⟨⟨v,ob⟩,C,rfl,rfl⟩:=h;obtain⟨p,k1,k2,k3⟩:=key id es off len v ob u C F;exact⟨u,I,_,rfl,k1,k2,k3⟩
   .rename_i id es off len rest _;split at h
    .rename_i U;simp only[ζf,ζc]at h;obtain⟨⟨v,ob⟩,C,rfl,rfl⟩:=h;obtain⟨t,rfl,D⟩:=F.qZ;have ab:0<t.toList.length:=by have:=D.1;simp at this⊢;omega
     obtain⟨A,E,W⟩:∃A E,t.toList=A::E:=by cases i:t.toList with|nil=>rw[i]at ab;simp at ab|cons a b=>exact⟨a,b,rfl⟩
     rw[W]at D;obtain⟨p,k1,k2,k3⟩:=key id es off len v ob A C (D.2 0 _ _ rfl rfl);refine⟨_,I,_,rfl,.tup _ _ ?_ ?_,k2,k3⟩
     .have:=D.1;simp at this;have Y:t.toList.length=E.length+1:=by rw[W];rfl
      simp at Y⊢;omega
     intro j a b m B;have J:(A::E)[j]?=some b:=by rw[<-W];simpa using B
     cases j with
     |zero=>simp at m J;subst m;subst J;exact k1|succ j=>
      simp at m J;refine(D.2 (j+1) a b (by simpa using m) (by simpa using J)).scalar ?_
      have:∀(l:L' V),V.cV l=true->∀x∈l,x.scalar=true:=by intro l;induction l with|nil=>intro _ x d;simp at d|cons y l ih=>intro i x d;simp[V.cV]at i;rcases mem_cons.1 d with rfl|d;exact i.1;exact ih i.2 x d
      exact this rest U a (mem_of_getElem? m)
    simp at h
   grind
  grind
 grind
theorem Xu{E:Env}{call:dG}(a:lJ P call){f:FuncId}{args:L' V}{y:V}(h:fq E call f args H=some (y,H'))(s:c_ I μ H w){vs:L' Value}(b:cN I μ args vs):
 As P f/\CallsIn (fr none) 0 P f vs.toArray w (zx I μ H w y H'):=by
 unfold fq at h;split at h
 .exact Xn a h s b
 obtain⟨k1,k2⟩:=a.fn f args H y H' h
 grind
end
def Ob.mp:Ob->Lk (L' (V×V))
 |.map B=>some B|_=>none
def nU(H H2:bn):Prop:=∀id:Nat,(H[id]?).bind Ob.rows=(H2[id]?).bind Ob.rows/\(H[id]?).bind Ob.mp=(H2[id]?).bind Ob.mp
theorem nU.refl(H:bn):nU H H:=λ_=>⟨rfl,rfl⟩
theorem nU.symm{H H2:bn}(h:nU H H2):nU H2 H:=λid=>⟨(h id).1.symm,(h id).2.symm⟩
theorem nU.trans{H H2 B:bn}(h:nU H H2)(k:nU H2 B):nU H B:=λid=>⟨(h id).1.trans (k id).1,(h id).2.trans (k id).2⟩
theorem nU.of_eq{H H2:bn}(h:H=H2):nU H H2:=by subst h;exact .refl _
theorem Lf{H H2:bn}(h:nU H H2):∀n,borrow n H=borrow n H2:=by
 intro n
 induction n with
 |zero=>funext x;rfl|succ n u=>
  funext x
  cases x with
  |hsl id es off len=>simp only[borrow,(h id).1,u]|hptr id el off=>simp only[borrow,(h id).1,u]|hmap id=>
   have:=(h id).2;simp only[borrow,u];split;rfl
   cases a:H[id]?with
   |none=>cases w:H2[id]?with|none=>rfl|some o2=>rw[a,w]at this;cases o2<;>simp[Ob.mp]at this<;>rfl
   |some o=>cases w:H2[id]?with|none=>rw[a,w]at this;cases o<;>simp[Ob.mp]at this<;>rfl|some o2=>rw[a,w]at this;cases o<;>cases o2<;>simp[Ob.mp]at this<;>first|rfl|(subst this;rfl)
  |_=>simp only[borrow,u]
theorem N6{H H2:bn}(h:nU H H2):∀n,cn n H=cn n H2:=by
 intro n
 induction n with
 |zero=>funext x;rfl|succ n u=>
  funext x
  cases x with
  |hsl id es off len=>simp only[cn,(h id).1,u]|hptr id el off=>simp only[cn,(h id).1,u]|hmap id=>
   have:=(h id).2;simp only[cn,u];split;rfl
   cases a:H[id]?with
   |none=>cases w:H2[id]?with|none=>rfl|some o2=>rw[a,w]at this;cases o2<;>simp[Ob.mp]at this<;>rfl
   |some o=>cases w:H2[id]?with|none=>rw[a,w]at this;cases o<;>simp[Ob.mp]at this<;>rfl|some o2=>rw[a,w]at this;cases o<;>cases o2<;>simp[Ob.mp]at this<;>first|rfl|(subst this;rfl)
  |_=>simp only[cn,u]
theorem A0{H H2:bn}(h:nU H H2)(call:dG)(f:FuncId)(args:L' V):cm call f args H=cm call f args H2:=by unfold cm borrows;rw[Lf h]
theorem Kd{H H2:bn}(h:nU H H2)(p:V)(n:Nat):ey H p n=ey H2 p n:=by cases p with|hptr id el off=>simp only[ey,(h id).1]|_=>rfl
theorem M6{H H2:bn}(h:nU H H2)(p:V):ny H p=ny H2 p:=by
 cases p with
 |hmap id=>
  have:=(h id).2;simp only[ny]
  cases a:H[id]?with
  |none=>cases u:H2[id]?with|none=>rfl|some o2=>rw[a,u]at this;cases o2<;>simp[Ob.mp]at this<;>rfl
  |some o=>cases u:H2[id]?with|none=>rw[a,u]at this;cases o<;>simp[Ob.mp]at this<;>rfl|some o2=>rw[a,u]at this;cases o<;>cases o2<;>simp[Ob.mp]at this<;>first|rfl|(subst this;rfl)
 |_=>rfl
theorem AE{E:Env}{F:Frame}{H H2:bn}(h:nU H H2)(op:Op):dZ E F H op=dZ E F H2 op:=by cases op<;>simp only[dZ,Kd h,M6 h]
theorem vV{H H2:bn}(h:nU H H2)(T:L' Nat):jh H T=jh H2 T:=by unfold jh;congr 1;funext id;rw[(h id).1]
theorem BO{H:bn}{T:L' Nat}(h:jh H T=true){id:Nat}(hi:id∈T):∃es xs,H[id]?=some (.row es xs)\/H[id]?=some (.frz es xs):=by unfold jh at h;rw[all_eq_true]at h;have:=h id hi;cases a:H[id]?with|none=>rw[a]at this;simp at this|some o=>rw[a]at this;cases o<;>simp[Ob.rows]at this<;>exact⟨_,_,by first|exact .inl rfl|exact .inr rfl⟩
theorem qI{H:bn}{b id:Nat}:(H.take b)[id]?=if id<b then H[id]?else none:=by rw[getElem?_take]
theorem r_{H:bn}{T:L' Nat}{b:Nat}(h:jh (H.take b) T=true):nU (cM H T) H:=by intro id;rw[jb];by_cases hi:id∈T;obtain⟨es,w,a⟩:=BO h hi;rw[qI]at a;by_cases u:id<b;rw[if_pos u]at a;rcases a with a|a<;>simp[a,hi,tU,Ob.rows,Ob.mp];rw[if_neg u]at a;rcases a with a|a<;>cases a;cases H[id]?<;>simp[hi]
theorem nU.take{H H2:bn}(h:nU H H2)(b:Nat):nU (H.take b) (H2.take b):=by intro id;rw[qI,qI];by_cases u:id<b;rw[if_pos u,if_pos u];exact h id;rw[if_neg u,if_neg u];exact⟨rfl,rfl⟩
theorem AL{H:bn}{T:L' Nat}{b:Nat}(h:jh (H.take b) T=true){id:Nat}(hi:id∈T):id<b:=by obtain⟨es,w,a⟩:=BO h hi;rw[qI]at a;by_cases u:id<b;exact u;rw[if_neg u]at a;rcases a with a|a<;>cases a
theorem DT{H:bn}{T:L' Nat}{k:Nat}{ob:Ob}(h:k∉T):cM (H.set k ob) T=(cM H T).set k ob:=by apply List.ext_getElem?;intro i;rw[jb];by_cases e:i=k;subst e;by_cases u:i<H.length;rw[getElem?_set_self u,getElem?_set_self (by rw[kM];exact u)];simp[h];rw[List.getElem?_eq_none (by simp;omega),List.getElem?_eq_none (by rw[length_set,kM];omega)];rfl;rw[getElem?_set_ne (Ne.symm e),getElem?_set_ne (Ne.symm e),jb]
theorem K3(H:bn)(T B:L' Nat):cM (cM H T) B=cM (cM H B) T:=by apply List.ext_getElem?;intro i;simp only[jb];cases H[i]?with|none=>rfl|some o=>by_cases a:i∈T<;>by_cases u:i∈B<;>simp[a,u]
theorem M4{H:bn}{b:Nat}:∀(n:Nat)(x:V),(∀id∈cn n (H.take b) x,id<b)->cn n H x=cn n (H.take b) x:=by
 intro n
 induction n with
 |zero=>intro x _;rfl|succ n B=>
  have u:∀l:L' V,(∀id∈cW (cn n (H.take b)) l,id<b)->cW (cn n H) l=cW (cn n (H.take b)) l:=by intro l;induction l with|nil=>intro _;rfl|cons x r z=>intro h;simp only[cW,mem_append]at h⊢;rw[B x λid hi=>h id (.inl hi),z λid hi=>h id (.inr hi)]
  intro x h;simp only[cn]at h⊢;split;rfl;rename_i e;rw[if_neg e]at h
  cases x with
  |hsl id es off len=>simp only at h⊢;have w:id<b:=h id (mem_cons_self ..);rw[qI,if_pos w]at h⊢;cases d:(H[id]?).bind Ob.rows with|none=>rfl|some q=>rw[d]at h;simp only at h⊢;rw[u _ λi hi=>h i (mem_cons_of_mem _ hi)]
  |hptr id el off=>simp only at h⊢;have w:id<b:=h id (mem_cons_self ..);rw[qI,if_pos w]at h⊢;cases d:(H[id]?).bind Ob.rows with|none=>rfl|some q=>rw[d]at h;simp only at h⊢;rw[u _ λi hi=>h i (mem_cons_of_mem _ hi)]
  |hmap id=>
   simp only at h⊢;have w:id<b:=h id (mem_cons_self ..);rw[qI,if_pos w]at h⊢;split;next C g=>rw[g]at h;simp only[mem_cons,mem_append]at h;rw[u _ λi hi=>h i (.inr (.inl hi)),u _ λi hi=>h i (.inr (.inr hi))]
   rfl
  |clo f a c=>simp only[mem_append]at h⊢;rw[u _ λi hi=>h i (.inl hi),u _ λi hi=>h i (.inr hi)]|agg cs=>simp only at h⊢;exact u _ h|tup cs=>simp only at h⊢;exact u _ h|_=>rfl
theorem vl{H:bn}{b n:Nat}:∀(l:L' V),(∀id∈cW (cn n (H.take b)) l,id<b)->cW (cn n H) l=cW (cn n (H.take b)) l
 |[],_=>rfl|x::r,h=>by simp only[cW,mem_append]at h⊢;rw[M4 n x λid hi=>h id (.inl hi),vl r λid hi=>h id (.inr hi)]
theorem Sc{H:bn}{b id:Nat}{ob:Ob}(h:(H.take b)[id]?=some ob):H[id]?=some ob:=by grind
theorem HD{H:bn}{b id es:Nat}{xs:L' (L' V)}(h:((H.take b)[id]?).bind Ob.rows=some (es,xs)):(H[id]?).bind Ob.rows=some (es,xs):=by grind
theorem JG{H:bn}{b:Nat}{p:V}{n:Nat}{cs:L' V}(h:ey (H.take b) p n=some cs):ey H p n=some cs:=by unfold ey at h⊢;split at h;omega;grind;grind
theorem N5{H:bn}{b:Nat}{m:V}{B:L' (V×V)}(h:ny (H.take b) m=some B):ny H m=some B:=by unfold ny at h⊢;grind
theorem AF{E:Env}{F:Frame}{H:bn}{b:Nat}{op:Op}{x:V}(h:dZ E F (H.take b) op=some x):dZ E F H op=some x:=by
 cases op with
 |load t a=>simp[dZ]at h⊢;split at h;obtain⟨cs,c,w⟩:=ζg.1 h;rw[JG c];exact w;grind|lookup t m k ok=>
  simp[dZ]at h⊢;split at h;split at h;next hd u=>rw[hd,N5 u];omega
  grind;grind
 |_=>simp[dZ]at h
theorem nP{f g:V->Lk V}(B:∀x y,f x=some y->g x=some y):∀{xs ys:L' V},iU f xs=some ys->iU g xs=some ys:=by intro xs;induction xs with|nil=>intro ys h;exact h|cons x xs u=>intro ys h;simp[iU]at h⊢;grind
theorem Ln{f g:V->Lk V}(B:∀x y,f x=some y->g x=some y):∀{xs ys:L' (L' V)},mC f xs=some ys->mC g xs=some ys:=by
 intro xs;induction xs with|nil=>intro ys h;exact h|cons x xs u=>
  intro ys h;simp[mC]at h⊢;split at h;next y s w z=>rw[nP B w,u z];omega
  grind
theorem K9{f g:V->Lk V}(B:∀x y,f x=some y->g x=some y):∀{xs ys:L' (V×V)},mI f xs=some ys->mI g xs=some ys:=by intro xs;induction xs with|nil=>intro ys h;exact h|cons x xs u=>intro ys h;simp[mI]at h⊢;grind
theorem C2{H:bn}{b:Nat}:∀(n:Nat)(x y:V),borrow n (H.take b) x=some y->borrow n H x=some y:=by
 intro n;induction n with|zero=>intro x y h;exact h|succ n z=>
  intro x y h;simp[borrow]at h⊢;split at h;grind;rename_i c;rw[if_neg c];split at h;split at h;rename_i a;simp only[HD a];split at h;next B=>rw[if_pos B];obtain⟨C,w,u⟩:=ζf.1 h;rw[Ln z w,<-u];rfl
  grind;grind;split at h;rename_i a;simp[HD a];split at h;split at h;next D=>rw[if_pos D];obtain⟨C,w,u⟩:=ζf.1 h;rw[nP z w,<-u];rfl
  grind;grind;grind;split at h;next a=>simp only[Sc a];obtain⟨C,w,u⟩:=ζf.1 h;rw[K9 z w,<-u];rfl
  grind;split at h;next d G=>rw[nP z d,nP z G];omega
  grind;obtain⟨C,w,u⟩:=ζf.1 h;rw[nP z w,<-u];rfl;obtain⟨C,w,u⟩:=ζf.1 h;rw[nP z w,<-u];rfl;grind
theorem qP{call:dG}{f:FuncId}{args:L' V}{H:bn}{b:Nat}{y:V}(h:cm call f args (H.take b)=some y):cm call f args H=some y:=by
 unfold cm borrows at h⊢;split at h;next az a=>rw[nP (C2 call.lv) a];omega
 grind
theorem Iy(n:Nat)(H:bn){x:V}(h:x.closed=true):cn n H x=[]:=by cases n with|zero=>rfl|succ n=>simp[cn,h]
section
variable{P:Program}{E:Env}{I I':cA}{μ μ':Mu}{H H':bn}{n:Nat}{F:Frame}{a:Act}{w w':World}
theorem yH{f:FuncId}(h:As P f)(args:Array Value):(callFunc f args).run P w=.ok (.enter f args) w:=by
 obtain⟨fn,a,B,u⟩:=h;unfold callFunc;have z:fn.body.isNone=false:=by simp_all
 simp only[run_bind,run_program,andThen_ok,a,u,z,false_eq_true,if_false,run_pure]
theorem EY{o:Oper}{ro:Lk Nat}{K:Act->World->Prop}{Q:Exit->Act->World->Prop}{f:FuncId}{args:Array Value}{r:V}
 (B:CallsIn (fr none) 0 P f args w (zx I μ H w r H'))(D:∀u I' μ' w',bK I' μ' r u->c_ I' μ' H' w'->Step I μ H w I' μ' H' w'->K (a.put o.dst u) w'):
 o.uponIn (fr ro) 0 P a K Q (.ok (.enter f args) w):=by
 refine⟨λh=>by simp[fr]at h,?_⟩
 have z:=B;refine z.mono ?_;rintro e w' ⟨u,I',μ',rfl,b,z,C⟩
 grind
theorem HR{x:V}(h:x.scalar=true){I:cA}{μ:Mu}{v:Value}(r:bK I μ x v):eN I x v:=by induction r with|c x v B=>omega|agg cs u w _ z=>exact .agg cs u w λj a b p q=>z j a b p q (vf h a (mem_of_getElem? p))|tup cs u w _ z=>exact .tup cs u w λj a b p q=>z j a b p q (vf h a (mem_of_getElem? p))|_=>simp[V.scalar]at h
theorem VZ(K:eS P E)(r:eM I μ n F a.tmps)(s:c_ I μ H w)(o:Oper){x:V}(h:qp E F o.op=some x):
 ∃u I' w',(execOp a.eval o).run P w=.ok (.value u) w'/\bK I' μ x u/\c_ I' μ H w'/\Step I μ H w I' μ H w':=by
 unfold qp at h;split at h
 rotate_left
 .cases h
 rename_i es C B n Z;split at h
 rotate_left
 .cases h
 rename_i M;obtain⟨rfl,rfl,N⟩:=M;obtain⟨obj,p,u,R,Y⟩:=DB K r s o Z;have ab:=Y.len _ _ rfl;obtain⟨⟨q,c,el,g1,g2,g3,g4⟩,g⟩:=Y.rel _ (s.dom _ (le_refl _));rw[Mu.gG]at g1;cases g1;have L:=Y.b;have S:obj=.cells c el:=by rw[L,nX]at g3;cases g3;rfl
 subst S
 let I':cA:=λb=>if b=w.heap.size then some (.cells c)else I b
 have D:cA.le I I':=λb y G=>by show(if b=w.heap.size then some (IC.cells c)else I b)=some y;rw[if_neg (λe=>by have:=IC.vj (s.imm b y G);omega)];exact G
 have J:I' p.b=some (.cells c):=by show(if p.b=w.heap.size then some (IC.cells c)else I p.b)=_;rw[if_pos L]
 have ad:∀y∈C,∀z∈y,z.scalar=true:=λy G z hz=>all_eq_true.1 (all_eq_true.1 N y G) z hz
 have l:∀b,b<w.heap.size->(w.alloc (.cells c el)).heap[b]?=w.heap[b]?:=λb f=>mM _ b f
 have ae:∀b,b<w.heap.size->I' b=I b:=λb f=>by show(if b=w.heap.size then some (IC.cells c)else I b)=_;rw[if_neg Zaa]
 refine⟨u,I',_,R,?_,⟨s.dom,?_,?_,s.inj,s.gl.mono D⟩,⟨D,Mu.le_refl _,le_refl _,Zab,λb f _=>l b f,?_,rfl,⟨rfl,rfl,le_refl _⟩,λa f=>Pm Y.nf a⟩⟩
 .refine .c _ _ ?_;have af:∀d,C.length<=d->p.o+(0+d)*B<=p.sz->u=.slice (some ⟨p.b,p.o+0*B,none⟩) C.length d->eN I' x u:=by
   rintro d k1 k2 rfl;rw[zero_mul,add_zero];have m:eN I' (.fsl B C) (.slice (some ⟨p.b,p.o,none⟩) C.length d):=.fsl B C p.b p.o d c J k1 g4.qq g4.one g4.room λi j y z v m1 t m3=>eN.mono D (HR (ad y (mem_of_getElem? m1) z (mem_of_getElem? t)) (g4.idx m1 t m3))
   split at h
   .split at h
    .rename_i Q;split at h
     rotate_left
     .cases h
     rename_i T;simp only[ζa]at h;subst h;simp only[List.isEmpty_iff,bne_iff_ne,ne_eq]at Q T;subst Q;have:d=0:=by simp only[List.length_nil,zero_mul]at ab;rcases eq_zero_or_pos d with k|k;exact k;have:=Nat.mul_pos k (Nat.pos_of_ne_zero T);rw[zero_add]at k2;omega
     subst this;exact .dL _
    simp only[ζa]at h;subst h;exact m
   simp only[ζa]at h;subst h;exact m
  have hp:p.es=B:=g4.es_eq;change bK I _ (.hsl H.length B 0 C.length) u at g;generalize U:C.length=ln at g
  cases g with
  |c _ _ ah=>cases ah|hsl id off len d p' hm k1 k2=>rw[Mu.gG]at hm;cases hm;rw[hp]at *;subst U;exact af d k1 k2 rfl|hsl0 id es off a=>
   have Q:C=[]:=List.length_eq_zero_iff.1 U;subst Q;split at h
   .split at h
    .split at h
     .simp only[ζa]at h;subst h;exact .dL _
     cases h
    rename_i Q;exact absurd rfl Q
   simp only[ζa]at h;subst h;exact .fsl0 _ _ _
 .intro b y G
  by_cases e:b=w.heap.size
  .subst e;have:y=.cells c:=by have:=J;rw[L]at this;rw[this]at G;cases G;rfl
   subst this;exact⟨el,_,nX _⟩
  have W:I b=some y:=by have:(if b=w.heap.size then some (IC.cells c)else I b)=some y:=G;rw[if_neg e]at this;exact this
  exact IC.tf (s.imm b y W) (l b (IC.vj (s.imm b y W)))
 .intro id ob O;refine(s.obs id ob O).mono D (Mu.le_refl _) (λq hq hl=>?_) (λe=>by subst e;exact s.obs id _ O)
  have A:iL μ H q.b:=⟨id,q,ob,O,hl,hq,rfl⟩;have X:=om s A;exact⟨l _ X,by rw[ae _ X];exact gB s A⟩
 intro b f;rcases f with f|f
 .by_cases e:b=w.heap.size
  .exact .inr (.inr Zaa)
  have:(if b=w.heap.size then some (IC.cells c)else I b).isSome=true:=f;rw[if_neg e]at this;exact .inl this
 exact .inr (.inl f)
theorem Gw:∀{ys:L' (L' V)}{l:L' Int},mh ys=some l->ys.flatten=l.map (V.int .u8)/\l.length=ys.length
 |[],l,h=>by cases h;exact⟨rfl,rfl⟩|x::r,l,h=>by
  unfold mh at h;split at h;next e=>cases e
  next n B e=>cases e;obtain⟨k,a,rfl⟩:=ζf.1 h;obtain⟨u,w⟩:=Gw a;exact⟨by simp[u],by simp[w]⟩
  cases h
theorem UQ(U:eS P E)(r:eM I μ n F a.tmps)(s:c_ I μ H w)(o:Oper){x:V}(h:evalConv E F H o.op=some x):∃u,(execOp a.eval o).run P w=.ok (.value u) w/\bK I μ x u:=by
 unfold evalConv at h;split at h;rename_i st O y B;split at h;rename_i e v Q hd f;split at h;rename_i S;obtain⟨J,g,T⟩:=ζg.1 h;obtain⟨l,W,rfl⟩:=ζf.1 T;obtain⟨X,i⟩:=Gw W;have C:∀{t:TypeId}{k:TK},E.kindOf t=some k->∃d b,E.tt t=some d/\P.underlying t=some b/\nr b=k:=λ{t k}hk=>by unfold Env.kindOf at hk;obtain⟨d,g1,g2⟩:=ζf.1 hk;obtain⟨b,D,G,_⟩:=(U.ty g1).dP;exact⟨d,b,g1,D,by rw[G,g2]⟩
 obtain⟨_,m,_,p1,D⟩:=C Q;obtain⟨_,p,_,p2,G⟩:=C hd;obtain⟨_,A,_,p3,Y⟩:=C S;rw[jV D]at p1;rw[Bk G]at p2;rw[Ef Y]at p3;obtain⟨L,c,arr,e1,_,e2,e3,_⟩:=Bb s (dH r f) g;have z:arr=(l.map (Value.int .u8)).toArray:=by
  apply ext';rw[X]at e3;refine List.ext_getElem (by simpa using e3.1.symm) λj g1 g2=>?_;have g3:j<l.length:=by simpa using g2
  have:=e3.2 j (V.int .u8 l[j]) arr.toList[j] (by simp[g3]) (ζd g1);rw[this.fW];simp
 refine⟨.string (nj l),?_,.c _ _ (.str _)⟩;rw[show execOp a.eval o=_ from by unfold execOp;rw[B]];refine eG ?_;rw[e1];rw[run_convert_bytes_string w st O e L J.length c p1 p3 p2]
 cases L with
 |none=>
  have:=e2 w rfl;rw[e1]at this;simp only[firstCells,run_pure]at this;cases this;have Z:l=[]:=by have:=congrArg Array.size z;simp at this;exact List.eq_nil_of_length_eq_zero this.symm
  subst Z;rfl
 |some q=>have:=e2 w rfl;rw[e1]at this;simp only[firstCells,Nat.mul_one]at this;rw[z]at this;exact run_bytesToString w q J.length c l this
 cases h;cases h;cases h
theorem Tq(W:eS P E){call:dG}(N:lJ P call){ops:L' Oper}{place:Lk (Nat×Nat)}{o:Oper}{x:V}(h:dF E call ops place F H o.op=some (x,H'))
 (r:eM I μ n F a.tmps)(s:c_ I μ H w)(ro:Lk Nat){K:Act->World->Prop}{Q:Exit->Act->World->Prop}
 (k:∀u I' μ' w',bK I' μ' x u->c_ I' μ' H' w'->Step I μ H w I' μ' H' w'->K (a.put o.dst u) w'):o.wpIn (fr ro) 0 P a w K Q:=by
 refine⟨λ_ _=>trivial,?_⟩
 have ad:∀c,o.op≠.defer c:=by intro c ae;rw[ae]at h;simp[dF,dw,tX,bQ]at h;cases place<;>simp[evalConv]at h
 show o.uponIn (fr ro) 0 P a K Q ((o.semAt ro a.eval).run P w);rw[Oper.semAt_eq ro a.eval o ad];have aa:∀v,(execOp a.eval o).run P w=.ok (.value v) w->bK I μ x v->H'=H->o.uponIn (fr ro) 0 P a K Q ((execOp a.eval o).run P w):=by intro v e j hH;rw[e,Oper.uponIn_value];subst hH;exact k v I μ w j s (.refl _ _ _ _)
 unfold dF at h;split at h
 .
  simp at h;obtain⟨v,j,rfl,rfl⟩:=h;unfold tX at j;split at j
  .rename_i hp;cases j;obtain⟨u,d,B⟩:=WG (w:=w) W r o hp
   grind
  split at j
  .obtain⟨u,d,B⟩:=UQ W r s o j;exact aa u d B rfl
  cases j
 .
  have hr:dZ E F H o.op=some x/\H'=H:=by
   split at h;simp at h;grind;split at h;split at h;next v j=>obtain⟨rfl,rfl⟩:=h;exact⟨AF j,rfl⟩
   split at h;simp at h;grind;grind;grind
  obtain⟨u,d,B⟩:=We W r s o hr.1
  grind
 .
  by_cases J:sL E ops place=true
  .rw[if_pos J]at h;obtain⟨v,j,e⟩:=ζf.1 h;obtain⟨u,I',w',k1,k2,k3,k4⟩:=VZ W r s o j;rw[k1,Oper.uponIn_value]
   grind
  rw[if_neg J]at h;split at h
  .rename_i ob m X;obtain⟨obj,p,u,d,B⟩:=DB W r s o X;rw[d,Oper.uponIn_value];obtain⟨g1,g2⟩:=B.rel _ (s.dom _ (le_refl _));obtain⟨s1,s2⟩:=s.push B.b g1 B.nf
   grind
  .rename_i ob m b i X;split at h
   .rename_i L;obtain⟨obj,p,u,d,B⟩:=DB W r s o X;rw[d,Oper.uponIn_value];obtain⟨g1,g2⟩:=B.rel _ (s.obs _ _ L);obtain⟨s1,s2⟩:=s.fill L B.b g1 B.nf
    grind
   grind
  grind
 .
  have hl:dm E F H o.op=some (x,H'):=by split at h;exact h;split at h;exact h;simp at h
  obtain⟨nx,u,w',μ',d,B,t,M,h5⟩:=(VW W r s o hl).run;rw[d];rcases B with rfl|⟨rfl,rfl⟩
  .exact k u I μ' w' t M h5
  exact k _ I μ' w' t M h5

 have C:∀c args,kC F o.op=some (c,args)->∃S:L' Value,cN I μ args S/\
  (∀f,c=.fn f->As P f->(execOp a.eval o).run P w=.ok (.enter f S.toArray) w)/\
  (∀id,c=.yld id->∃p,μ id=some p/\(execOp a.eval o).run P w=(Instr.yield p.b S.toArray).run P w):=by
  intro c args z;obtain⟨dst,op,ty,pos,after,R⟩:=o
  cases op with
  |call cl=>
   obtain⟨callee,O,aj⟩:=cl
   cases callee with
   |value f=>
    simp only[kC]at z;split at z
    .rename_i g p q S hf Y;obtain⟨rfl,rfl⟩:=z;obtain⟨u,v,ef,hu,j⟩:=(dH r hf).kN;have D:=oV r Y;refine⟨u.toList++O.toList.map a.eval++v.toList,(hu.append D).append j,?_,Zab⟩
     intro f' af ah;cases af;simp[execOp,resolve,run_bind];rw[ef];simp only[Deferred.ofValue,run_pure,andThen_ok,invoke,yH ah]
     congr 2
     apply ext';simp
    .rename_i id S hf Y;simp at z;obtain⟨rfl,rfl⟩:=z;obtain⟨p,hm,ef⟩:=(dH r hf).Wa;have D:=oV r Y;refine⟨O.toList.map a.eval,D,Zab,?_⟩
     intro ak ab;cases ab;refine⟨p,hm,?_⟩;simp[execOp,resolve,run_bind];rw[ef];simp[Deferred.ofValue,run_pure,andThen_ok,invoke]
     congr 1
     congr 1
     apply ext';simp
    simp at z
   |_=>simp[kC]at z
  |_=>simp[kC]at z
 have G:∀f args y,kC F o.op=some (.fn f,args)->cm call f args H=some y->x=y->H'=(if y.scalar then H else cM H (cW (cn call.lv H) args))->
  o.uponIn (fr ro) 0 P a K Q ((execOp a.eval o).run P w):=by
  intro f args y d B t M;obtain⟨S,g1,g2,_⟩:=C _ _ d;obtain⟨k1,k2⟩:=Ea N B s g1;rw[g2 f rfl k1];subst t;subst M;exact EY k2 k
 have T:∀f args,kC F o.op=some (.fn f,args)->fq E call f args H=some (x,H')->o.uponIn (fr ro) 0 P a K Q ((execOp a.eval o).run P w):=by intro f args d B;obtain⟨S,g1,g2,_⟩:=C _ _ d;obtain⟨k1,k2⟩:=Xu N B s g1;rw[g2 f rfl k1];exact EY k2 k
 have U:∀id args,kC F o.op=some (.yld id,args)->call (.yld id) args H=some (x,H')->o.uponIn (fr ro) 0 P a K Q ((execOp a.eval o).run P w):=by intro id args d B;obtain⟨S,g1,_,g3⟩:=C _ _ d;obtain⟨p,hm,e⟩:=g3 id rfl;obtain⟨l,f,tmps,assign,body,k1,k2⟩:=N.yld id args H x H' B I μ w S p s g1 hm;rw[e,k1,Oper.uponIn_round];refine⟨λh=>by simp[fr]at h,?_⟩;have B:=k2;refine B.mono ?_;rintro e w' ⟨u,I',μ',rfl,d,B,t⟩;exact k u I' μ' w' d B t
 split at h
 .rename_i f args z;split at h
  .split at h
   .exact T f args z h
   split at h
   .exact T f args z h
   simp at h
  split at h
  .split at h
   next y A=>simp at h;exact G f args y z A h.1.symm h.2.symm
   simp at h
  split at h
  .rename_i y A;split at h
   next Z=>simp at h;refine G f args y z (qP A) h.1.symm ?_;rw[<-h.2,if_pos Z]
   rename_i Z;split at h
   next ai=>simp at h;refine G f args y z (qP A) h.1.symm ?_;rw[<-h.2,if_neg Z,vl _ λid hi=>AL ai hi]
   simp at h
  split at h
  .split at h
   next y A=>simp at h;exact G f args y z A h.1.symm h.2.symm
   simp at h
  simp at h
 .rename_i id args z;split at h
  .exact U id args z h
  split at h
  .exact U id args z h
  simp at h
 simp at h
end
structure kL(B:Nat)(ds:List Deferred)(w:World):Prop where
 all:∀d∈ds,∃r,d.target=.collected r/\B<=r/\w.heap[r]?=some (.deferred (some []))
 apart:ds.Pairwise λd d'=>∀r,d.target=.collected r->d'.target≠.collected r
section
variable{P:Program}{E:Env}{I I' I'':cA}{μ μ' μ'':Mu}{H H' H'':bn}{n B:Nat}{F F':Frame}{a:Act}{w w' w'':World}
theorem vQ(s:c_ I μ H w){r:Nat}{c:Lk (L' Deferred)}(h:w.heap[r]?=some (.deferred c)):¬iL μ H r:=by rintro⟨id,p,ob,h1,C,B,rfl⟩;have:=s.obs id ob h1;cases ob with|row es G=>obtain⟨q,c,el,u,_,z,_⟩:=this;rw[B]at u;cases u;rw[h]at z;cases z|map D=>obtain⟨q,c,el,u,_,z,_⟩:=this;rw[B]at u;cases u;rw[h]at z;cases z|loop x=>obtain⟨q,c,u,_,z,_⟩:=this;rw[B]at u;cases u;rw[h]at z;cases z|_=>simp[Ob.live]at C
theorem kL.step{ds:L' Deferred}(h:kL B ds w)(s:c_ I μ H w)(st:Step I μ H w I' μ' H' w'):kL B ds w' where
 all:=by intro d hd;obtain⟨r,a,z,u⟩:=h.all d hd;refine⟨r,a,z,?_⟩;rw[st.frame r (Array.getElem?_eq_some_iff.1 u).1 (vQ s u)];exact u
 apart:=h.apart
theorem O3(r:eM I μ n F a.tmps)(ops:Array Oper)(o:Oper):gx ops.toList F o=Region.wanted o (yielded ops a.tmps):=by
 unfold gx Region.wanted;cases i:o.guard with|none=>rfl|some g=>
  obtain⟨j,b⟩:=g;simp only;unfold yielded;have e:ops.toList[j]?=ops[j]?:=Zab;rw[e];cases hd:(ops[j]?).bind (·.dst)with|none=>simp|some d=>
   simp only[ζb];have f:=r.2 d;by_cases w:d<a.tmps.size;have u:a.tmps[d]?=some a.tmps[d]:=by simp[w]
   have z:a.tmps.getD d undef=a.tmps[d]:=by simp[w]
   rw[z]at f;rw[u];cases B:get F d with|bool c=>rw[B]at f;rw[f.s6];cases c<;>cases b<;>rfl|_=>cases h:a.tmps[d]with|bool c=>rw[h]at f;have:=f.of_bool;rw[B]at this;cases this|_=>rfl
   have u:a.tmps[d]?=none:=getElem?_eq_none (Nat.le_of_not_lt w);have z:a.tmps.getD d undef=undef:=by simp[w]
   rw[z]at f;rw[u];cases B:get F d with|bool c=>rw[B]at f;have:=f.s6;simp[undef]at this|_=>rfl
theorem E0(U:eS P E){call:dG}(b:lJ P call){ops:Array Oper}{place:Lk (Nat×Nat)}{o:Oper}(h:gO E call n ops.toList place o F H=some (F',H'))
 (r:eM I μ n F a.tmps)(s:c_ I μ H w)(ro:Lk Nat){K:Act->World->Prop}{Q:Exit->Act->World->Prop}
 (J:∀a' I' μ' w',eM I' μ' n F' a'.tmps->a'.defers=a.defers->c_ I' μ' H' w'->Step I μ H w I' μ' H' w'->K a' w'):
 if Region.wanted o (yielded ops a.tmps)then o.wpIn (fr ro) 0 P a w K Q else(∀f,o.about P w a.eval=some f->(fr ro).fn f)/\K (a.put o.dst undef) w:=by
 unfold gO at h;rw[<-O3 r];have z:∀v,(a.put o.dst v).defers=a.defers:=λv=>by cases o.dst<;>rfl
 split at h
 .rename_i C;rw[if_pos C];split at h
  .rename_i x H2 D;simp only[ζf,ζc]at h;obtain⟨L,G,rfl,rfl⟩:=h;refine Tq U b D r s ro (λu I' μ' w' O S B=>?_)
   exact J _ I' μ' w' ((r.mono B.le B.mu).put O G) (z u) S B
  simp at h
 rename_i C;rw[if_neg C];simp only[ζf,ζc]at h;obtain⟨L,G,rfl,rfl⟩:=h;exact⟨λ_ _=>trivial,J _ I μ w (r.put (.undef I μ) G) (z _) s (.refl _ _ _ _)⟩
theorem QE(U:eS P E){call:dG}(b:lJ P call){ops:Array Oper}(ro:Lk Nat){Q:Exit->Act->World->Prop}:∀(rest:L' Oper)(k:Nat)(I:cA)(μ:Mu)(F:Frame)(H:bn)(a:Act)(w:World),
 (∀j,rest[j]?=ops[k+j]?)->mZ E call n ops.toList rest F H=some (F',H')->eM I μ n F a.tmps->c_ I μ H w->
 (∀a' I' μ' w',eM I' μ' n F' a'.tmps->a'.defers=a.defers->c_ I' μ' H' w'->Step I μ H w I' μ' H' w'->Q .normal a' w')->
 wpOpsIn (fr ro) 0 P ops Q (List.range' k rest.length) a w:=by
 intro rest
 induction rest with
 |nil=>intro k I μ F H a w _ h r s C;simp only[mZ,ζa,ζc]at h;obtain⟨rfl,rfl⟩:=h;exact C a I μ w r rfl s (.refl _ _ _ _)|cons o rest S=>
  intro k I μ F H a w u h r s C;simp only[mZ]at h;split at h
  .rename_i F1 H1 z;have c:ops[k]?=some o:=by simpa using(u 0).symm
   simp only[length_cons,List.range'_succ,wpOpsIn,c];refine E0 U b z r s ro (λa' I' μ' w' d hd O D=>?_)
   refine S (k+1) I' μ' F1 H1 a' w' (λj=>by have:=u (j+1);simpa[add_assoc,Nat.add_comm 1 j]using this) h d O ?_
   intro a2 I2 T W G J L B;exact C a2 I2 T W G (J.trans hd) L (Step.trans O D B)
  simp at h
end
def oZ(F F':Frame)(op:Op):Prop:=∀x∈op.operands,ev F x=ev F' x
theorem tv{F F':Frame}:∀{l:L' Operand},(∀x∈l,ev F x=ev F' x)->fI F l=fI F' l:=by intro l;induction l with|nil=>intro _;rfl|cons x l u=>simp[fI];grind
theorem BP{F F':Frame}:∀{l:L' (Nat×Operand)},(∀x∈l,ev F x.2=ev F' x.2)->ng F l=ng F' l:=by intro l;induction l with|nil=>intro _;rfl|cons x l u=>intro h;simp[ng];simp_all
theorem yT{F F':Frame}{o:Lk Operand}(h:∀x∈o.toArray,ev F x=ev F' x):kz F o=kz F' o:=by cases o with|none=>rfl|some x=>simp[kz];grind
theorem FJ{E:Env}{F F':Frame}{op:Op}(h:oZ F F' op):bQ E F op=bQ E F' op:=by
 cases op with
 |move x=>exact h x (by simp[operands])|assign x=>exact h x (by simp[operands])|pick c a b=>simp[bQ];rw[h c (by simp[operands]),h a (by simp[operands]),h b (by simp[operands])]|nilCheck x=>simp[bQ];rw[h x (by simp[operands])]|binOp op t x y B=>simp[bQ];rw[h x (by simp[operands]),h y (by simp[operands])]|unOp op t x=>simp[bQ];rw[h x (by simp[operands])]|convert s d x=>simp[bQ];rw[h x (by simp[operands])]|fieldAddr s x f=>simp[bQ];rw[h x (by simp[operands])]|field s x f=>simp[bQ];rw[h x (by simp[operands])]|indexAddr t x i=>simp[bQ];rw[h x (by simp[operands]),h i (by simp[operands])]|index t x i=>simp[bQ];rw[h x (by simp[operands]),h i (by simp[operands])]|slice t x lo hi C=>
  simp[bQ];rw[h x (by simp[operands]),yT (λy u=>h y (by simp[operands]at u⊢;simp_all)),yT (λy u=>h y (by simp[operands]at u⊢;simp_all)),
   yT (λy u=>h y (by simp[operands]at u⊢;simp_all))]
 |build t ps=>simp[bQ];rw[BP (λx w=>h x.2 (by simp[operands];grind))]|makeFunc f a b=>cases f with|func f=>simp[bQ];rw[tv (λx w=>h x (by simp[operands];grind)),tv (λx w=>h x (by simp[operands];grind))]|_=>rfl
 |extract x i=>simp[bQ];rw[h x (by simp[operands])]|call c=>obtain⟨callee,args,z⟩:=c;cases callee with|builtin b=>simp[bQ];rw[tv (λx w=>h x (by simp[operands,Call.operands];grind))]|_=>rfl
 |_=>rfl
theorem zb{E:Env}{F F':Frame}{H:bn}{op:Op}(h:oZ F F' op):dZ E F H op=dZ E F' H op:=by cases op with|load t x=>simp[dZ];rw[h x (by simp[operands])]|lookup t m k ok=>simp[dZ];rw[h m (by simp[operands]),h k (by simp[operands])]|_=>rfl
theorem yz{E:Env}{F F':Frame}{op:Op}(h:oZ F F' op):e_ E F op=e_ E F' op:=by cases op with|alloc t=>rfl|box t x=>simp[e_];rw[h x (by simp[operands])]|makeSlice t l c=>simp[e_];rw[h l (by simp[operands]),h c (by simp[operands])]|buildSlice t len ps=>simp[e_];rw[BP (λx u=>h x.2 (by simp[operands];grind))]|makeMap t r=>cases r<;>rfl|_=>rfl
theorem FD{E:Env}{F F':Frame}{H:bn}{op:Op}(h:oZ F F' op):dm E F H op=dm E F' H op:=by
 cases op with
 |store t p x=>simp[dm];rw[h p (by simp[operands]),h x (by simp[operands])]|mapUpdate t m k x=>simp[dm];rw[h m (by simp[operands]),h k (by simp[operands]),h x (by simp[operands])]|insert t m k x=>simp[dm];rw[h m (by simp[operands]),h k (by simp[operands]),h x (by simp[operands])]|call c=>
  obtain⟨callee,args,u⟩:=c
  cases callee with
  |builtin b=>cases b with|append=>simp[dm];rw[tv (λx w=>h x (by simp[operands,Call.operands];grind))]|clear=>simp[dm];rw[tv (λx w=>h x (by simp[operands,Call.operands];grind))]|_=>rfl
  |_=>rfl
 |_=>rfl
theorem Gd{F F':Frame}{op:Op}(h:oZ F F' op):kC F op=kC F' op:=by
 cases op with
 |call c=>obtain⟨callee,args,u⟩:=c;cases callee with|value f=>simp[kC];rw[h f (by simp[operands,Call.operands]),tv (λx w=>h x (by simp[operands,Call.operands];grind))]|_=>rfl
 |_=>rfl
theorem K5{E:Env}{F F':Frame}{op:Op}(h:oZ F F' op):qp E F op=qp E F' op:=by unfold qp;rw[yz h]
theorem Oe{F F':Frame}{ops:L' Oper}{i b:Nat}{H:bn}{op:Op}(h:oZ F F' op):AA ops i b F H op=AA ops i b F' H op:=by
 have:qQ F op=qQ F' op:=by
  unfold qQ;split;rename_i args _;split;rename_i x r u;rw[h x (by
   have:x∈args.toList:=by rw[u];simp
   simp only[operands,Call.operands,Array.mem_append];right;simpa using this)]
  rfl;rfl
 unfold AA;rw[this]
theorem KZ{E:Env}{place:Lk (Nat×Nat)}{F F':Frame}{H:bn}{op:Op}(h:oZ F F' op):tX E F H place op=tX E F' H place op:=by
 unfold tX;rw[FJ h];have:evalConv E F H op=evalConv E F' H op:=by unfold evalConv;split;rw[h _ (by simp[operands])];rfl
 rw[this]
theorem wu{E:Env}{b:Nat×Nat}{F:Frame}{H:bn}{op:Op}:tX E F H (some b) op=bQ E F op:=by unfold tX;split<;>simp_all
theorem Ek{E:Env}{call:dG}{ops:L' Oper}{place:Lk (Nat×Nat)}{F F':Frame}{H:bn}{op:Op}(h:oZ F F' op)(B:∀b i,place=some (b,i)->sP ops i F=sP ops i F'/\o_ ops i F op=o_ ops i F' op):dF E call ops place F H op=dF E call ops place F' H op:=by
 unfold dF;rw[KZ h,yz h,FD h,Gd h,zb (H:=H) h,K5 h];split<;>(try rfl)
 .split<;>(try rfl);rename_i i;rw[zb h,(B _ i rfl).2]
 split<;>(try rfl);rename_i b i;rw[(B _ i rfl).1,Oe h]
section
variable{E:Env}{call:dG}{n:Nat}{ops:L' Oper}{base:Nat}
theorem MS{o:Oper}{t:Nat}(h:.tmp t∈o.op.operands):t∈tmpsOf o ops:=by refine mem_append.2 (.inl (List.mem_filterMap.2 ⟨.tmp t,Zac,rfl⟩))
theorem GY{F F':Frame}{o:Oper}{dst:Lk Nat}{v:V}(hp:ko n F dst v=some F')(h:∀d,dst=some d->d∉tmpsOf o ops):oZ F' F o.op:=by
 intro x w
 cases x with
 |tmp t=>cases dst with|none=>simp[ko]at hp;grind|some d=>simp only[ko]at hp;split at hp;simp at hp;subst hp;have u:d≠t:=λe=>h d rfl (by rw[e];exact MS w);simp[ev];rw[iF _ _ u];grind
 |const v=>rfl|func f=>rfl|global g=>rfl
theorem C0{F F':Frame}{o:Oper}{dst:Lk Nat}{v:V}(hp:ko n F dst v=some F')(h:∀d,dst=some d->d∉tmpsOf o ops):gx ops F' o=gx ops F o:=by unfold gx;cases a:o.guard with|none=>rfl|some g=>obtain⟨j,b⟩:=g;simp only;cases hd:(ops[j]?).bind (·.dst)with|none=>rfl|some t=>simp only;cases dst with|none=>simp[ko]at hp;grind|some d=>simp only[ko]at hp;split at hp;simp at hp;subst hp;have u:d≠t:=λe=>h d rfl (by unfold tmpsOf;grind);rw[iF _ _ u];grind
theorem P6{F F1 J:Frame}{d G:Lk Nat}{u v:V}(a:ko n F d u=some F1)(B:ko n F1 G v=some J)(U:∀x,d=some x->G≠some x):
 ∃D,ko n F G v=some D/\ko n D d u=some J:=by
 cases d with
 |none=>simp[ko]at a;subst a;exact⟨J,B,rfl⟩|some x=>
  cases G with
  |none=>simp[ko]at B;subst B;exact⟨F,rfl,a⟩|some y=>
   simp only[ko]at a B⊢;split at a
   .rename_i w;split at B
    .simp at a B;subst a;subst B;have:x≠y:=λe=>U x rfl (by rw[e])
     exact⟨set F y v,Zac,by rw[if_pos w,IF _ _ _ (Ne.symm this)]⟩
    grind
   grind
theorem yI{i k:Nat}{B ok:Oper}(h:dJ ops i=true)(hi:ops[i]?=some B)(a:ops[k]?=some ok)(D:k≠i):dw ok.op=.pure\/(if k<i then before ops i k else before ops k i)=true\/(isApp B.op=true/\dw ok.op=.alloc/\i<k):=by unfold dJ at h;grind
theorem yF{H:bn}{j es:Nat}{ob:Ob}{x:V}{xs:L' (L' V)}(B:H[j]?=some .free)(h:dM H es x=some xs):dM (H.set j ob) es x=some xs:=by
 unfold dM at h⊢;split at h<;>first|omega|skip
 rename_i id u off len;by_cases e:j=id;subst e;rw[B]at h;simp only[ζb,Ob.rows]at h;grind;grind
theorem SD{H H1:bn}{j:Nat}{ob:Ob}{x:V}(h:iy H x=some H1):H1.length=H.length/\(H1[j]?=some .free->H[j]?=some .free)/\(H[j]?=some .free->iy (H.set j ob) x=some (H1.set j ob)):=by unfold iy at h⊢;split at h;grind;grind;rename_i id a b c;split at h;rename_i d;cases h;refine⟨Zab,λh=>?_,λh=>?_⟩;grind;have e:id≠j:=λe=>Zac;rw[getElem?_set_ne (Ne.symm e),d];rw[set_comm _ _ e];simp_all;simp_all
theorem Jg{H:bn}{o:Ob}{j:Nat}(B:o≠.free)(h:(H++[o])[j]?=some .free):j<H.length/\H[j]?=some .free:=by grind
theorem Vb{F:Frame}{H H1:bn}{op:Op}{v:V}{j:Nat}{ob:Ob}(J:isApp op=true)(h:dm E F H op=some (v,H1))(B:H1[j]?=some .free):H[j]?=some .free/\dm E F (H.set j ob) op=some (v,H1.set j ob):=by
 unfold isApp at J;split at J;simp only[dm]at h⊢;split at h;split at h;rename_i e _ w u;split at h;rename_i d hd;split at h;next D G=>obtain⟨rfl,rfl⟩:=h;refine⟨B,?_⟩;simp[w,u,hd,yF B D,yF B G]
 rename_i Q S L D G;split at h;obtain⟨H0,a,O⟩:=ζf.1 h;obtain⟨rfl,rfl⟩:=O;obtain⟨I,z⟩:=Jg Zab B;obtain⟨g1,g2,g3⟩:=SD (ob:=ob) a;have C:=g2 z;simp[w,u,hd,yF C D,yF C G];grind;simp_all;simp_all;simp_all;rename_i e _ w u;split at h;rename_i d hd;unfold mkApp at h;split at h;split at h;obtain⟨rfl,rfl⟩:=h;simp only[w,u,hd,mkApp];grind;split at h;obtain⟨rfl,rfl⟩:=h;obtain⟨I,z⟩:=Jg Zab B;simp only[u,mkApp];grind;simp_all;simp_all;simp_all;simp_all;simp_all;simp_all
theorem vk{i:Nat}{F:Frame}{H H':bn}{op:Op}{v:V}(h:dF E call ops (some (base,i)) F H op=some (v,H'))(U:dJ ops i=false)(B:dw op≠.loud):
 (H'=H/\∀H2:bn,nU (H2.take base) (H.take base)->dF E call ops (some (base,i)) F H2 op=some (v,H2))\/
 (∃ob,H[base+i]?=some .free/\H'=H.set (base+i) ob/\∀H2:bn,H2[base+i]?=some .free->dF E call ops (some (base,i)) F H2 op=some (v,H2.set (base+i) ob))\/
 (∃T,jh (H.take base) T=true/\H'=cM H T/\∀H2:bn,nU (H2.take base) (H.take base)->dF E call ops (some (base,i)) F H2 op=some (v,cM H2 T)):=by
 unfold dF at h;split at h
 .rename_i J;simp at h;obtain⟨x,D,rfl,rfl⟩:=h;refine .inl ⟨rfl,λH2 _=>?_⟩
  rw[wu]at D;unfold dF;rw[J];simp only[wu,D,map_some]
 .rename_i B;simp only at h;split at h
  .rename_i L;split at h
   .rename_i x D;obtain⟨rfl,rfl⟩:=h;refine .inl ⟨rfl,λH2 u=>?_⟩
    unfold dF;rw[B];simp[AE u,D,L]
   grind
  grind
 .split at h
  .obtain⟨x,D,e⟩:=ζf.1 h;obtain⟨rfl,rfl⟩:=e;refine .inl ⟨rfl,λH2 _=>?_⟩
   unfold dF;grind
  split at h
  .grind
  .rename_i ob m W X S O;obtain⟨rfl,rfl⟩:=O;split at h
   .rename_i w;obtain⟨rfl,rfl⟩:=h;refine .inr (.inl ⟨ob,w,rfl,λH2 u=>?_⟩)
    unfold dF;grind
   grind
  grind
 .grind
 rename_i B;split at h
 .rename_i f args G;split at h
  .grind
  rename_i z;simp only at h;split at h
  .rename_i y Q;split at h
   .rename_i C;obtain⟨rfl,rfl⟩:=h;refine .inl ⟨rfl,λH2 u=>?_⟩
    unfold dF;rw[B];simp[G];rw[if_neg z];simp[A0 u,Q,C]
   split at h
   .rename_i I;obtain⟨rfl,rfl⟩:=h;refine .inr (.inr ⟨_,I,rfl,λH2 u=>?_⟩)
    unfold dF;simp[G];simp[A0 u,Q,N6 u,vV u,I]
    grind
   grind
  grind
 .grind
 grind
theorem Gr{i:Nat}:∀{r l:L' Nat},DI ops i r=some l->∀k∈r,∃a,Iq ops i k=some a/\∀s∈a,s∈l
 |[],l,h,k,c=>by simp_all|q::r,l,h,k,c=>by simp[DI]at h;split at h;rename_i a b d B;simp at h;rcases mem_cons.1 c with rfl|c;grind;obtain⟨a',g1,g2⟩:=Gr B k c;grind;grind
theorem Kc{i:Nat}:∀{r l:L' Nat},DI ops i r=some l->∀s∈l,s∉dstsOf ops
 |[],l,h,s,c=>by simp[DI]at h;grind|q::r,l,h,s,c=>by simp[DI]at h;split at h;rename_i a b d B;simp at h;subst h;rcases mem_append.1 c with c|c;unfold Iq at d;grind;exact Kc B s c;grind
theorem GU{i a:Nat}{l:L' Nat}{B:Oper}(hi:ops[i]?=some B)(h:Bc ops i=some (a,l)):(∃t x,B.op=.store t (.tmp a) x)/\a∉dstsOf ops/\(∀s∈l,s∉dstsOf ops)/\
 ∀k ok,ops[k]?=some ok->k≠i->dw ok.op=.pure\/(if k<i then before ops i k else before ops k i)=true\/∃D a',ok.op=.load D (.tmp a')/\(a'∈l\/a'∈dstsOf ops):=by
 unfold Bc at h;rw[hi]at h;simp at h;split at h
 .rename_i t a0 x w;simp at w;split at h
  .simp_all
  obtain⟨G,z,e⟩:=ζf.1 h;obtain⟨rfl,rfl⟩:=e;refine⟨⟨t,x,w⟩,Zac,Kc z,λk ok d C=>?_⟩
  obtain⟨b,c,I⟩:=Gr z k (List.mem_range.2 (ζe.1 d).1);unfold Iq at c;rw[d]at c;simp only at c;split at c
  .rename_i u;simp at u;rcases u with(u|u)|u
   .grind
   .grind
   exact .inr (.inl u)
  split at c
  .grind
  grind
 grind
theorem Jr{F F':Frame}{dst:Lk Nat}{v:V}{s:Nat}(hp:ko n F dst v=some F')(h:∀d,dst=some d->s≠d):get F' s=get F s:=by unfold ko at hp;split at hp;grind;rename_i d;split at hp;simp at hp;subst hp;exact iF _ _ (Ne.symm (h d rfl));grind
theorem KN{k d:Nat}{ok:Oper}(a:ops[k]?=some ok)(hd:ok.dst=some d):d∈dstsOf ops:=List.mem_filterMap.2 ⟨ok,mem_of_getElem? a,hd⟩
theorem G3{F F':Frame}{k i:Nat}{ok B:Oper}{v:V}(b:ops[k]?=some ok)(hi:ops[i]?=some B)(hp:ko n F ok.dst v=some F'):sP ops i F'=sP ops i F:=by unfold sP;cases u:Bc ops i with|none=>rfl|some w=>obtain⟨a,l⟩:=w;obtain⟨_,C,D,_⟩:=GU hi u;have c:∀s,s∉dstsOf ops->get F' s=get F s:=λs z=>Jr hp λd hd e=>z (e▸KN b hd);grind
theorem OU{i k a a':Nat}{t:TypeId}{x:Operand}{B:Oper}(hi:ops[i]?=some B)(e1:B.op=.store t (.tmp a) x)(b:a'∈dstsOf ops)(D:a∉dstsOf ops)(G:xD ops i k=false):a∈qx ops k a':=by unfold qx;grind
theorem zR{k a' s:Nat}(h:s∈qx ops k a'):s∉dstsOf ops/\∃i B t x,ops[i]?=some B/\B.op=.store t (.tmp s) x/\xD ops i k=false:=by unfold qx at h;grind
theorem Gm{F F':Frame}{k i:Nat}{ok:Oper}{op:Op}{v:V}(b:ops[k]?=some ok)(hp:ko n F ok.dst v=some F')(B:oZ F' F op):o_ ops i F' op=o_ ops i F op:=by
 have a:∀s,s∉dstsOf ops->get F' s=get F s:=λs h=>Jr hp λd hd e=>h (e▸KN b hd);unfold o_;split;rename_i t u;have w:=by have:=B (.tmp u) (by simp[operands]);simpa[ev]using this
 rw[w,Bool.eq_iff_iff];simp;exact⟨λh s B=>by rw[<-a s (zR B).1];grind,λh s B=>by rw[a s (zR B).1];grind⟩;rfl
theorem Ej{k a':Nat}{ok:Oper}{t:TypeId}(a:ops[k]?=some ok)(e:ok.op=.load t (.tmp a'))(h:dJ ops k=true):qx ops k a'=[]:=by refine List.eq_nil_iff_forall_not_mem.2 λs w=>?_;obtain⟨_,i,C,D,x,b,z,B⟩:=zR w;have u:i≠k:=λe2=>Zac;rcases yI h a b u with g|g|g;rw[z]at g;cases g;unfold xD at B;grind;rw[e]at g;exact absurd g.1 (by simp[isApp])
theorem K8{F:Frame}{H H':bn}{t:TypeId}{a:Nat}{x:Operand}{id el off:Nat}{u:V}(B:get F a=.hptr id el off)(h:dm E F H (.store t (.tmp a) x)=some (u,H')):∃r,H'=H.set id r:=by simp only[dm,ev]at h;split at h;grind;grind
theorem NU{F:Frame}{H:bn}{t:TypeId}{a id b:Nat}{r:Ob}(B:rX id (get F a)=true):dZ E F ((H.set id r).take b) (.load t (.tmp a))=dZ E F (H.take b) (.load t (.tmp a)):=by
 have:∀m,ey ((H.set id r).take b) (get F a) m=ey (H.take b) (get F a) m:=λm=>by
  unfold rX at B;split at B;rename_i u el off c;rw[c];simp[ey];grind;next cs c=>rw[c];rfl
  grind
 unfold dZ;simp[ev];grind
theorem Km{k i:Nat}{ok G:Oper}(f:ops[k]?=some ok)(hi:ops[i]?=some G)(W:k≠i)(J:(if k<i then before ops i k else before ops k i)=false)(lk:dJ ops k=false)(g:dw ok.op≠.pure)(j:dw G.op=.loud)(m:dJ ops i=false)(Y:isApp G.op=false)
 {F:Frame}{H0 H1 H2 d U:bn}{u v:V}(D:dF E call ops (some (base,i)) F d G.op=some (u,U))(B:dF E call ops (some (base,k)) F H0 ok.op=some (v,H1)):
 H1=H0/\∃id,(∀(H:bn)(r:Ob),dZ E F ((H.set id r).take base) ok.op=dZ E F (H.take base) ok.op)/\(∃r,U=d.set id r)/\dw ok.op=.read/\dZ E F (H0.take base) ok.op=some v/\o_ ops k F ok.op=true:=by
 unfold dF at D;rw[j]at D;simp only[m,Bool.false_or,show∀F b H,AA ops i b F H G.op=false fromλF b H=>by unfold AA;rw[Y];simp,Bool.or_false]at D
 split at D
 .rename_i C;unfold sP at C;split at C
  .rename_i a l L;split at C
   .rename_i id el off hg;obtain⟨⟨t,x,I⟩,T,p,X⟩:=GU hi L;rcases X k ok f W with h|h|⟨q,S,w,c⟩
    .exact absurd h g
    .rw[J]at h;cases h
    unfold dF at B;rw[w]at B;simp only[dw]at B;split at B
    rotate_left
    .simp at B
    rename_i z;have O:rX id (get F S)=true:=by rcases c with c|c;exact all_eq_true.1 C S c;have Q:xD ops i k=false:=(by unfold xD;by_cases e:k<i;rw[if_pos e]at J⊢;exact J;rw[if_neg e]at J⊢;exact J);have Z:=OU hi I c T Q;unfold o_ at z;simp only[all_eq_true]at z;have:=z a Z;rw[hg]at this;exact this
    rw[I]at D;obtain⟨r,n⟩:=K8 hg D;split at B
    next s o=>simp only[ζa,ζc]at B;obtain⟨rfl,rfl⟩:=B;refine⟨rfl,id,λH r=>by rw[w];exact NU O,⟨r,n⟩,by rw[w];rfl,by rw[w];exact o,by rw[w];exact z⟩
    rw[lk]at B;simp at B
   simp at C
  simp at C
 simp at D
theorem D0{place:Nat×Nat}{F:Frame}{H H':bn}{op:Op}{v:V}(B:dw op=.pure\/dw op=.alloc/\sL E ops (some place)=true)(h:dF E call ops (some place) F H op=some (v,H')):
 H'=H/\∀H2:bn,dF E call ops (some place) F H2 op=some (v,H2):=by
 rcases B with B|⟨B,u⟩
 rotate_left
 .unfold dF at h;rw[B]at h;simp only[u]at h;obtain⟨x,w,e⟩:=ζf.1 h;obtain⟨rfl,rfl⟩:=e;refine⟨rfl,λH2=>?_⟩
  unfold dF;grind
 unfold dF at h;rw[B]at h;simp at h;obtain⟨x,w,rfl,rfl⟩:=h;refine⟨rfl,λH2=>?_⟩
 rw[wu]at w;unfold dF;rw[B];simp only[wu,w,map_some]
theorem take_set_of_le{H:bn}{b k:Nat}{x:Ob}(h:b<=k):(H.set k x).take b=H.take b:=List.take_set_of_le h
theorem apart_spec{a b:Oper}(h:zh ops a b=true):(∀d,a.dst=some d->d∉tmpsOf b ops/\b.dst≠some d)/\(∀d,b.dst=some d->d∉tmpsOf a ops):=by unfold zh at h;grind
theorem D9{i k:Nat}{ok:Oper}(h:yB ops i=true)(a:ops[k]?=some ok)(B:k≠i)(D:xD ops i k=false):dw ok.op=.pure\/dw ok.op=.read\/dw ok.op=.alloc/\(Cy ops k=true\/i<k):=by unfold yB at h;split at h;simp only[ζh,all_eq_true,List.mem_range]at h;have:=h.2 k (ζe.1 a).1;rw[a]at this;simp only[Bool.or_eq_true,beq_iff_eq,ζh,decide_eq_true_eq,D,false_eq_true,or_false]at this;rcases this with((h|h)|h)|h;exact absurd h B;exact .inl h;exact .inr (.inl h);exact .inr (.inr h);cases h
theorem Bt{op:Op}(h:isApp op=true):dw op=.loud:=by unfold isApp at h;split at h;rfl;cases h
theorem JZ{F:Frame}{H H1:bn}{op:Op}{v:V}{b:Nat}(D:isApp op=true)(B:qQ F op=true)(G:b<=H.length)(h:dm E F H op=some (v,H1)):H1.take b=H.take b:=by
 unfold isApp at D;split at D;rotate_left;cases D;rename_i args z;simp only[dm]at h;split at h;rotate_left;cases h;rename_i t L s x C u;have I:s=.dL\/s=.bM:=by
  simp only[qQ]at B;split at B;rename_i y r J;rw[J]at u;have c:ev F y=some s:=by
   simp only[fI]at u;split at u;next a b c w=>simp only[ζa,List.cons.injEq]at u;rw[c,u.1]
   cases u
  rw[c]at B;cases s<;>simp at B<;>simp;cases B
 have d:∀H2,iy H s=some H2->H2=H:=λH2 h=>by rcases I with rfl|rfl<;>(simp only[iy,ζa]at h;exact h.symm)
 split at h;split at h;split at h;simp only[ζa,ζc]at h;rw[h.2];split at h;obtain⟨H0,c,w⟩:=ζf.1 h;simp only[ζc]at w;rw[<-w.2,d H0 c,List.take_append_of_le_length G];cases h;cases h;cases h;split at h;unfold mkApp at h;split at h;split at h;simp only[ζa,ζc]at h;rw[h.2];split at h;simp only[ζa,ζc]at h;rw[<-h.2,List.take_append_of_le_length G];cases h;cases h;cases h;cases h
theorem FE{i:Nat}{F:Frame}{H H':bn}{op:Op}{u:V}(B:isApp op=true)(D:dJ ops i=false)(hi:(ops[i]?).map Oper.op=some op)(h:dF E call ops (some (base,i)) F H op=some (u,H')):
 yB ops i=true/\qQ F op=true/\base<=H.length/\dm E F H op=some (u,H'):=by
 unfold dF at h;rw[Bt B]at h;have w:sP ops i F=false:=by unfold sP Bc;rw[hi];unfold isApp at B;split at B;rfl;cases B
 simp only[D,w,Bool.false_or]at h;split at h
 next a=>unfold AA at a;simp only[ζh,decide_eq_true_eq]at a;exact⟨a.1,a.2.1.2,a.2.2,h⟩
 cases h
theorem O2{i:Nat}{F:Frame}{H H':bn}{op:Op}{u:V}(B:isApp op=true)(h:dm E F H op=some (u,H'))(a:dJ ops i=true\/yB ops i=true/\qQ F op=true/\base<=H.length):dF E call ops (some (base,i)) F H op=some (u,H'):=by
 unfold dF;rw[Bt B];rcases a with a|⟨b,w,z⟩;simp only[a,Bool.true_or,if_true,h];have:AA ops i base F H op=true:=by unfold AA;simp[b,B,w,z]
 simp only[this,Bool.or_true,if_true,h]
theorem D1{i:Nat}{F:Frame}{H H':bn}{op:Op}{v:V}(B:dw op=.read)(D:dJ ops i=false)(h:dF E call ops (some (base,i)) F H op=some (v,H')):
 H'=H/\∀H2:bn,nU (H2.take base) (H.take base)->dF E call ops (some (base,i)) F H2 op=some (v,H2):=by
 unfold dF at h;rw[B]at h;simp only at h;split at h
 .rename_i u;split at h
  .rename_i x w;simp only[ζa,ζc]at h;obtain⟨rfl,rfl⟩:=h;refine⟨rfl,λH2 z=>?_⟩
   unfold dF;rw[B];simp only[AE z,w,u,if_true]
  rw[D]at h;simp at h
 simp at h
theorem swap{k i:Nat}{ok D:Oper}(p:ops[k]?=some ok)(hi:ops[i]?=some D)(V:k<i)(U:before ops i k=false)(J:zh ops ok D=true){F F1 R:Frame}{H H1 H2:bn}
 (s:gO E call n ops (some (base,k)) ok F H=some (F1,H1))(l:gO E call n ops (some (base,i)) D F1 H1=some (R,H2)):
 ∃G B,gO E call n ops (some (base,i)) D F H=some (G,B)/\gO E call n ops (some (base,k)) ok G B=some (R,H2):=by
 obtain⟨a1,a2⟩:=apart_spec J;have ad:∃v,ko n F ok.dst v=some F1/\((gx ops F ok=true/\dF E call ops (some (base,k)) F H ok.op=some (v,H1))\/(gx ops F ok=false/\v=.undef/\H1=H)):=by
  unfold gO at s;split at s;rename_i y;split at s;next v H' hd=>simp only[ζf,ζc]at s;obtain⟨Fx,hp,rfl,rfl⟩:=s;exact⟨v,hp,.inl ⟨y,hd⟩⟩
  simp at s;rename_i y;simp only[ζf,ζc]at s;obtain⟨Fx,hp,rfl,rfl⟩:=s;exact⟨_,hp,.inr ⟨by simpa using y,rfl,rfl⟩⟩
 have ae:∃v,ko n F1 D.dst v=some R/\((gx ops F1 D=true/\dF E call ops (some (base,i)) F1 H1 D.op=some (v,H2))\/(gx ops F1 D=false/\v=.undef/\H2=H1)):=by
  unfold gO at l;split at l;rename_i y;split at l;next v H' hd=>simp only[ζf,ζc]at l;obtain⟨Fx,hp,rfl,rfl⟩:=l;exact⟨v,hp,.inl ⟨y,hd⟩⟩
  simp at l;rename_i y;simp only[ζf,ζc]at l;obtain⟨Fx,hp,rfl,rfl⟩:=l;exact⟨_,hp,.inr ⟨by simpa using y,rfl,rfl⟩⟩
 obtain⟨v,Q,jC⟩:=ad;obtain⟨u,av,af⟩:=ae;have aw:gx ops F1 D=gx ops F D:=C0 Q λd hd=>(a1 d hd).1
 have an:oZ F1 F D.op:=GY Q λd hd=>(a1 d hd).1
 have ax:∀(b j:Nat),(some (base,i):Lk (Nat×Nat))=some (b,j)->sP ops j F1=sP ops j F/\o_ ops j F1 D.op=o_ ops j F D.op:=λb j e=>by cases e;exact⟨G3 p hi Q,Gm p Q an⟩
 rw[aw,Ek an ax]at af;obtain⟨G,O,ao⟩:=P6 Q av λx hx=>(a1 x hx).2
 have ay:gx ops G ok=gx ops F ok:=C0 O λd hd=>a2 d hd
 have ap:oZ G F ok.op:=GY O λd hd=>a2 d hd
 have aA:∀(b j:Nat),(some (base,k):Lk (Nat×Nat))=some (b,j)->sP ops j G=sP ops j F/\o_ ops j G ok.op=o_ ops j F ok.op:=λb j e=>by cases e;exact⟨G3 hi p O,Gm hi O ap⟩
 have fin:∀B,((gx ops F D=true/\dF E call ops (some (base,i)) F H D.op=some (u,B))\/(gx ops F D=false/\u=.undef/\B=H))->
  ((gx ops F ok=true/\dF E call ops (some (base,k)) F B ok.op=some (v,H2))\/(gx ops F ok=false/\v=.undef/\H2=B))->
  ∃G B,gO E call n ops (some (base,i)) D F H=some (G,B)/\gO E call n ops (some (base,k)) ok G B=some (R,H2):=by
  intro B e1 e2;refine⟨G,B,?_,?_⟩
  .unfold gO;rcases e1 with⟨A,x2⟩|⟨A,x2,x3⟩
   .rw[if_pos A,x2];simp[O]
   rw[if_neg (by simp[A])];subst x2;subst x3;simp[O]
  unfold gO;rw[ay];rcases e2 with⟨A,x2⟩|⟨A,x2,x3⟩
  .rw[if_pos A,Ek ap aA,x2];simp[ao]
  rw[if_neg (by simp[A])];subst x2;subst x3;simp[ao]
 rcases jC with⟨z,g⟩|⟨z,rfl,rfl⟩
 .rcases af with⟨w,f⟩|⟨w,rfl,rfl⟩
  .by_cases pk:dw ok.op=.pure\/dw ok.op=.alloc/\sL E ops (some (base,k))=true
   .obtain⟨rfl,q⟩:=D0 pk g;exact fin H2 (.inl ⟨w,f⟩) (.inl ⟨z,q H2⟩)
   by_cases P:dw D.op=.pure\/dw D.op=.alloc/\sL E ops (some (base,i))=true
   .obtain⟨rfl,q⟩:=D0 P f;exact fin H (.inl ⟨w,q H⟩) (.inl ⟨z,g⟩)
   by_cases J:isApp ok.op=true/\dw D.op=.alloc
   .
    obtain⟨J,ah⟩:=J;have aB:=Bt J;have ai:(dJ ops k=true\/yB ops k=true/\qQ F ok.op=true/\base<=H.length)/\dm E F H ok.op=some (v,H1):=by cases N:dJ ops k with|true=>refine⟨.inl rfl,?_⟩;unfold dF at g;rw[aB]at g;simpa only[N,Bool.true_or,if_true]using g|false=>obtain⟨a,b,c,d⟩:=FE J N (by rw[p];rfl) g;exact⟨.inr ⟨a,b,c⟩,d⟩
    obtain⟨ai,e1⟩:=ai;have aq:sL E ops (some (base,i))=false:=by cases hc:sL E ops (some (base,i))with|false=>rfl|true=>exact absurd (.inr ⟨ah,hc⟩) P
    have e2:∃ob m,e_ E F D.op=some (ob,m)/\H1[base+i]?=some .free/\u=m.val (base+i)/\H2=H1.set (base+i) ob:=by
     unfold dF at f;rw[ah]at f;simp only[aq,false_eq_true,if_false]at f;split at f;next aj=>cases aj
     rename_i ob m b' i' ak aj;cases aj;split at f;next C=>simp only[ζa,ζc]at f;exact⟨ob,m,ak,C,f.1.symm,f.2.symm⟩
     cases f;cases f
    obtain⟨ob,m,ak,C,rfl,rfl⟩:=e2;obtain⟨f0,f1⟩:=Vb (ob:=ob) J e1 C;refine fin (H.set (base+i) ob) (.inl ⟨w,?_⟩) (.inl ⟨z,?_⟩)
    .unfold dF;rw[ah];simp only[aq,false_eq_true,if_false,ak,f0]
    exact O2 J f1 (ai.imp id λ⟨a,b,c⟩=>⟨a,b,by rw[length_set];exact c⟩)
   have lk:dJ ops k=false:=by cases N:dJ ops k with|false=>rfl|true=>rcases yI N p hi Zaa with h|h|h;exact absurd (.inl h) P;rw[if_neg Zaa]at h;rw[U]at h;cases h;exact absurd ⟨h.1,h.2.1⟩ J
   have K:dJ ops i=false:=by cases N:dJ ops i with|false=>rfl|true=>rcases yI N hi p Zaa with h|h|h;exact absurd (.inl h) pk;rw[if_pos V]at h;rw[U]at h;cases h;exact absurd h.2.2 Zaa
   by_cases al:isApp D.op=true
   .obtain⟨g1,g2,g3,g4⟩:=FE al K (by rw[hi];rfl) f
    rcases D9 g1 p Zaa (by unfold xD;rw[if_pos V];exact U)with h|h|⟨h,l⟩
    .exact absurd (.inl h) pk
    .obtain⟨rfl,q⟩:=D1 h lk g;exact fin H2 (.inl ⟨w,f⟩) (.inl ⟨z,q H2 (nU.of_eq (JZ al g2 g3 g4))⟩)
    rcases l with l|l
    .exact absurd (.inr ⟨h,show(Cy ops k||TU E ops k)=true by rw[l];rfl⟩) pk
    omega
   by_cases Y:isApp ok.op=true
   .obtain⟨g1,g2,g3,g4⟩:=FE Y lk (by rw[p];rfl) g
    rcases D9 g1 hi Zaa (by unfold xD;rw[if_neg Zaa];exact U)with h|h|⟨h,l⟩
    .exact absurd (.inl h) P
    .obtain⟨rfl,q⟩:=D1 h K f;exact fin H (.inl ⟨w,q H (nU.of_eq (JZ Y g2 g3 g4).symm)⟩) (.inl ⟨z,g⟩)
    exact absurd ⟨Y,h⟩ J
   by_cases I:dw D.op=.loud
   .obtain⟨rfl,id,q1,⟨r,hr⟩,q3,q4,q5⟩:=Km (H2:=H2) p hi Zaa (by rw[if_pos V];exact U) lk (λh=>pk (.inl h)) I K (by simpa using al) f g
    refine fin H2 (.inl ⟨w,f⟩) (.inl ⟨z,?_⟩);unfold dF;rw[q3];subst hr;simp only[q1,q4,q5,if_true]
   by_cases aa:dw ok.op=.loud
   .obtain⟨rfl,id,q1,⟨r,hr⟩,q3,q4,q5⟩:=Km (H2:=H2) hi p Zaa (by rw[if_neg Zaa];exact U) K (λh=>P (.inl h)) aa lk (by simpa using Y) g f
    refine fin H (.inl ⟨w,?_⟩) (.inl ⟨z,g⟩);unfold dF;rw[q3];subst hr;rw[q1]at q4;simp only[q4,q5,if_true]
   have tk:∀(X:bn)(k:Nat)(o:Ob),nU ((X.set (base+k) o).take base) (X.take base):=λX k o=>nU.of_eq (take_set_of_le Zaa)
   rcases vk g lk aa with⟨rfl,t⟩|⟨ob,fk,rfl,t⟩|⟨T,tr,rfl,t⟩
   .rcases vk f K I with⟨rfl,L⟩|⟨Z,fi,rfl,L⟩|⟨M,S,rfl,L⟩
    .exact fin H2 (.inl ⟨w,f⟩) (.inl ⟨z,g⟩)
    .exact fin _ (.inl ⟨w,f⟩) (.inl ⟨z,t _ (tk _ _ _)⟩)
    exact fin _ (.inl ⟨w,f⟩) (.inl ⟨z,t _ ((r_ S).take base)⟩)
   .rcases vk f K I with⟨rfl,L⟩|⟨Z,fi,rfl,L⟩|⟨M,S,rfl,L⟩
    .refine fin H (.inl ⟨w,L H (tk _ _ _).symm⟩) (.inl ⟨z,g⟩)
    .have am:H[base+i]?=some .free:=by rw[getElem?_set_ne Zaa]at fi;exact fi
     refine fin (H.set (base+i) Z) (.inl ⟨w,L H am⟩) (.inl ⟨z,?_⟩);rw[t _ (by rw[getElem?_set_ne Zaa];exact fk)]
     rw[set_comm _ _ Zaa]
    have W:jh (H.take base) M=true:=by rw[<-vV (tk H k ob)];exact S
    have ar:base+k∉M:=λhm=>absurd (AL W hm) Zaa
    refine fin (cM H M) (.inl ⟨w,L H (tk _ _ _).symm⟩) (.inl ⟨z,?_⟩);rw[t _ (by rw[jb,fk];simp[ar]),DT ar]
   rcases vk f K I with⟨rfl,L⟩|⟨Z,fi,rfl,L⟩|⟨M,S,rfl,L⟩
   .refine fin H (.inl ⟨w,L H ((r_ tr).take base).symm⟩) (.inl ⟨z,g⟩)
   .have au:base+i∉T:=λhm=>absurd (AL tr hm) Zaa
    have am:H[base+i]?=some .free:=by rw[jb]at fi;obtain⟨o,ho,hf⟩:=ζf.1 fi;rw[if_neg au]at hf;rw[ho,hf]
    refine fin (H.set (base+i) Z) (.inl ⟨w,L H am⟩) (.inl ⟨z,?_⟩);rw[t _ (tk _ _ _),DT au]
   have W:jh (H.take base) M=true:=by rw[<-vV ((r_ tr).take base)];exact S
   refine fin (cM H M) (.inl ⟨w,L H ((r_ tr).take base).symm⟩) (.inl ⟨z,?_⟩);rw[t _ ((r_ W).take base),K3]
  exact fin H (.inr ⟨w,rfl,rfl⟩) (.inl ⟨z,g⟩)
 rcases af with⟨w,f⟩|⟨w,rfl,rfl⟩
 .exact fin H2 (.inl ⟨w,f⟩) (.inr ⟨z,rfl,rfl⟩)
 exact fin _ (.inr ⟨w,rfl,rfl⟩) (.inr ⟨z,rfl,rfl⟩)
theorem Lt(h:xy ops=true){k i:Nat}{ok B:Oper}(a:ops[k]?=some ok)(hi:ops[i]?=some B)(D:k<i):Ga B k=true\/zh ops ok B=true:=by unfold xy at h;simp at h;grind
theorem Ry(hd:xy ops=true){i:Nat}{B:Oper}(hi:ops[i]?=some B):∀(l r:L' Nat),(∀k∈l,k<i/\Ga B k=false/\before ops i k=false)->∀{F F':Frame}{H H':bn},
 kB E call n ops base (l++i::r) F H=some (F',H')->kB E call n ops base (i::(l++r)) F H=some (F',H'):=by
 intro l
 induction l with
 |nil=>grind|cons k l D=>
  intro r C F F' H H' h;obtain⟨u,G,w⟩:=C k Zab
  simp[kB]at h;split at h
  .rename_i ok hk;split at h
   .rename_i F1 H1 h1;have:=D r (λx I=>C x (mem_cons_of_mem _ I)) h
    simp[kB,hi]at this;split at this
    .rename_i Q H2 J;have z:zh ops ok B=true:=by
      rcases Lt hd hk hi u with h|h
      .grind
      omega
     obtain⟨L,O,g1,g2⟩:=swap hk hi u w z h1 J;simp[kB,hi,g1,hk,g2];simp_all
    grind
   grind
  grind
inductive Reach(ops:List Oper):Nat->Nat->Prop
 |one(i k:Nat)(o:Oper)(e:Edge)(hi:ops[i]?=some o)(he:e∈o.after)(hb:mg e=true)(hk:e.on=k):Reach ops i k|more(i j k:Nat)(o:Oper)(e:Edge)(hi:ops[i]?=some o)(he:e∈o.after)(hb:mg e=true)(hk:e.on=j)(h:Reach ops j k):Reach ops i k
theorem ER:∀(B l:L' Nat)(k:Nat),k∈B.foldl (λl k=>if l.contains k then l else k::l) l->k∈B\/k∈l
 |[],_,_,h=>.inr h|x::B,l,k,h=>by rcases ER B _ k h with h|h;grind;grind
theorem M5{a:L' (L' Nat)}{o:Oper}{k:Nat}(h:k∈Ku a o):∃e∈o.after,mg e=true/\(k=e.on\/∃S,a[e.on]?=some S/\k∈S):=by
 have key:∀(es:L' Edge)(l:L' Nat),k∈es.foldl (λl e=>(e.on::(a[e.on]?).getD []).foldl (λl k=>if l.contains k then l else k::l) l) l->k∈l\/∃e∈es,k=e.on\/∃S,a[e.on]?=some S/\k∈S:=by
  intro es;induction es with|nil=>grind|cons e es w=>
   intro l h;rcases w _ h with h|⟨z,b,u⟩;rcases ER _ _ _ h with h|h;refine .inr ⟨e,Zab,?_⟩;rcases mem_cons.1 h with h|h;grind;cases c:a[e.on]?with|none=>rw[c]at h;simp at h|some S=>grind
   grind;exact .inr ⟨z,mem_cons_of_mem _ b,u⟩
 rcases key _ _ h with h|⟨e,b,u⟩;simp at h;grind
theorem yZ(ops:L' Oper):∀(l:L' Oper)(a:L' (L' Nat))(pre:L' Oper),ops=pre++l->a.length=pre.length->(∀(i:Nat)S,a[i]?=some S->∀k∈S,Reach ops i k)->
 ∀(i:Nat)S,(l.foldl (λa o=>a++[Ku a o]) a)[i]?=some S->∀k∈S,Reach ops i k
 |[],_,_,_,_,h=>h|o::l,a,pre,D,G,h=>by
  refine yZ ops l _ (pre++[o]) (by simp_all) (by simp_all) ?_;intro i S c k b;by_cases hi:i<a.length;grind;rw[List.getElem?_append_right Zaa]at c;have B:i=a.length:=by grind
  subst B;simp at c;subst c;have u:ops[a.length]?=some o:=Zac;obtain⟨e,w,z,b⟩:=M5 b;rcases b with b|⟨S,c,b⟩;exact .one _ _ o e u w z b.symm;exact .more _ e.on _ o e u w z rfl (h _ S c k b)
theorem JB{i k:Nat}(h:before ops i k=true):Reach ops i k:=by unfold before at h;cases a:(Ko ops)[i]?with|none=>grind|some S=>exact yZ ops ops [] [] rfl rfl Zab i S a k Zac
end
section
variable{P:Program}{E:Env}{I I':cA}{μ μ':Mu}{H H':bn}{n B:Nat}{F F':Frame}{a:Act}{w w':World}
theorem HG(e:Edge):Region.binds .any e=mg e:=by unfold Region.binds mg;grind
def todo(ops:Array Oper)(a:Array Bool):L' Nat:=(range ops.size).filter λi=> !a.getD i true
theorem yY(ops:Array Oper)(a:Array Bool):(todo ops a).Pairwise (·<·):=List.pairwise_lt_range.filter _
theorem SP{ops:Array Oper}{a:Array Bool}{i:Nat}(G:a.size=ops.size)(hi:i<ops.size){B D:L' Nat}(h:todo ops a=B++i::D):
 todo ops (a.setIfInBounds i true)=B++D:=by
 have I:∀j∈range ops.size,(!(a.setIfInBounds i true).getD j true)=((!a.getD j true)&&(j != i)):=by
  intro j _;by_cases e:j=i;simp_all;have:(a.setIfInBounds i true).getD j true=a.getD j true:=by simp[Array.getElem?_setIfInBounds_ne (Ne.symm e)]
  grind
 have:todo ops (a.setIfInBounds i true)=(todo ops a).filter (· != i):=by unfold todo;rw[List.filter_filter];grind
 rw[this,h];have u:=yY ops a;rw[h]at u;rw[List.pairwise_append]at u;obtain⟨_,z,C⟩:=u;rw[List.pairwise_cons]at z;rw[List.filter_append,List.filter_cons];simp;rw[List.filter_eq_self.2 (λx w=>by have:=C x w i Zab;simp;omega),List.filter_eq_self.2 (λx w=>Zac)]
def Down(ops:Array Oper)(a:Array Bool):Prop:=∀j o,a.getD j false=true->ops[j]?=some o->∀e∈o.after,mg e=true->a.getD e.on false=true
theorem Nt{ops:Array Oper}{a:Array Bool}(hd:Down ops a){i k:Nat}(h:Reach ops.toList i k)(hi:∀o,ops[i]?=some o->∀e∈o.after,mg e=true->a.getD e.on false=true):a.getD k false=true:=by induction h with|one i k o e B w z hk=>grind|more i j k o e B w z hk _ C=>subst hk;exact C λD u=>hd _ _ (hi o Zac e w z) u
theorem Hv(hE:eS P E){call:dG}(hc:lJ P call){ops:Array Oper}(hd:xy ops.toList=true)(p:Bm ops.toList=true)(ro:Lk Nat){Q:Exit->Act->World->Prop}(base:Nat):
 ∀(D:Nat)(b:Array Bool)(I:cA)(μ:Mu)(F:Frame)(H:bn)(a:Act)(w:World),b.size=ops.size->Down ops b->(todo ops b).length=D->
 kB E call n ops.toList base (todo ops b) F H=some (F',H')->eM I μ n F a.tmps->c_ I μ H w->
 (∀a' I' μ' w',eM I' μ' n F' a'.tmps->a'.defers=a.defers->c_ I' μ' H' w'->Step I μ H w I' μ' H' w'->Q .normal a' w')->
 wpAnyIn (fr ro) 0 P .any ops Q D b a w:=by
 intro D
 induction D with
 |zero=>
  intro b I μ F H a w O L c h r s q;have S:todo ops b=[]:=List.eq_nil_of_length_eq_zero c;rw[S]at h;obtain⟨rfl,rfl⟩:=h;refine⟨?_,q a I μ w r rfl s (.refl _ _ _ _)⟩;unfold Region.ready;rw[List.filter_eq_nil_iff];intro i hi;have:i∉todo ops b:=Zac
  unfold todo at this
  grind
 |succ D ih=>
  intro b I μ F H a w O L c h r s q;have W:∀i,i∈Region.ready .any ops b->i<ops.size/\i∈todo ops b/\∃o,ops[i]?=some o/\∀e∈o.after,mg e=true->b.getD e.on false=true:=by intro i hi;unfold Region.ready at hi;rw[mem_filter]at hi;obtain⟨t,h2⟩:=hi;simp only[ζh]at h2;have G:i<ops.size:=Zac;refine⟨G,by unfold todo;grind,ops[i],by simp_all,?_⟩;have K:(ops[i].after.all λe=> !Region.binds .any e||b.getD e.on false)=true:=(by grind);rw[Array.all_eq_true_iff_forall_mem]at K;intro e U X;have:=K e U;rw[HG,X]at this;grind
  refine⟨?_,?_⟩
  .
   intro S
   cases Y:todo ops b with
   |nil=>rw[Y]at c;simp at c|cons Z rest=>
    have z:Z∈todo ops b:=by rw[Y];simp
    have f:=yY ops b;rw[Y,List.pairwise_cons]at f;unfold todo at z;rw[mem_filter]at z;have G:Z<ops.size:=by simpa using z.1
    have:Z∈Region.ready .any ops b:=by
     unfold Region.ready;rw[mem_filter];refine⟨z.1,?_⟩;simp only[ζh];refine⟨z.2,?_⟩;have e0:ops[Z]?=some ops[Z]:=(by simp[G]);rw[e0];simp only[map_some,getD_some];rw[Array.all_eq_true_iff_forall_mem];intro e U;rw[HG];cases am:mg e with|false=>simp|true=>
      simp only[Bool.not_true];have an:e.on<Z:=by
       unfold Bm at p;simp only[all_eq_true]at p;have:=p Z (by simpa using G);have e1:ops.toList[Z]?=some ops[Z]:=by simp[G]
       rw[e1]at this;simp only[Array.all_eq_true_iff_forall_mem]at this;have:=this e U;rw[am]at this;simpa using this
      cases ao:b.getD e.on false with|true=>rfl|false=>
       exfalso;have M:e.on∈todo ops b:=by
        unfold todo;rw[mem_filter];refine⟨by simp;omega,?_⟩;have aj:e.on<b.size:=Zaa;have:b.getD e.on true=b.getD e.on false:=by simp[aj]
        rw[this,ao];rfl
       rw[Y]at M;rcases mem_cons.1 M with h|h;omega;have:=f.1 _ h;omega
    rw[S]at this;simp at this
  intro i hi;obtain⟨G,z,o,g,C⟩:=W i hi;obtain⟨N,l2,u⟩:=List.append_of_mem z;have J:=yY ops b;rw[u,List.pairwise_append]at J;have aa:∀k∈N,k<i/\Ga o k=false/\before ops.toList i k=false:=by
   intro k v;have ap:b.getD k false=false:=by
    have B:k∈todo ops b:=by rw[u];simp[v]
    unfold todo at B;rw[mem_filter]at B;have x:k<b.size:=by rw[O];simpa using B.1
    have:b.getD k true=b.getD k false:=by simp[x]
    rw[this]at B;simpa using B.2
   refine⟨J.2.2 k v i Zab,?_,?_⟩;rotate_left;cases aq:before ops.toList i k with|false=>rfl|true=>have:=Nt L (JB aq) (λo' l=>by rw[g]at l;cases l;exact C);rw[ap]at this;cases this
   cases U:Ga o k with|false=>rfl|true=>
    exfalso;unfold Ga at U;rw[Array.any_eq_true]at U;obtain⟨ix,ar,m⟩:=U;have R:o.after[ix]∈o.after:=Array.getElem_mem ar;generalize o.after[ix]=e at R m;simp only[ζh,beq_iff_eq]at m;have t:=C e R m.2;rw[m.1]at t;have B:k∈todo ops b:=by rw[u];simp[v]
    unfold todo at B;rw[mem_filter]at B;have x:k<b.size:=by rw[O];simpa using B.1
    have:b.getD k true=b.getD k false:=by simp[x]
    rw[this,t]at B;simp at B
  rw[u]at h;have d:=Ry hd (by simpa using g) N l2 aa h
  simp only[kB]at d;have l:ops.toList[i]?=some o:=by simpa using g
  rw[l]at d;simp only at d;split at d
  .rename_i F1 H1 af;unfold wpOpIn;rw[g];simp only;refine E0 hE hc af r s ro (λa' I' μ' w' hr au f av=>?_)
   have V:=SP O G u;refine ih (b.setIfInBounds i true) I' μ' F1 H1 a' w' (by simpa using O) ?_ ?_ (by rw[V];exact d) hr f ?_
   .have T:∀j,b.getD j false=true->(b.setIfInBounds i true).getD j false=true:=by
     intro j y
     by_cases e:i=j
     .subst e;simp[O,G]
     simpa[getD_eq_getD_getElem?,Array.getElem?_setIfInBounds_ne e]using y
    intro j oj y A e U X
    by_cases e':i=j
    .subst e';rw[g]at A;cases A;exact T _ (C e U X)
    refine T _ (L j oj ?_ A e U X);simpa[getD_eq_getD_getElem?,Array.getElem?_setIfInBounds_ne e']using y
   .rw[V];rw[u]at c;simp at c⊢;omega
   intro a2 I2 μ2 w2 aw ax ay al;exact q a2 I2 μ2 w2 aw (ax.trans au) ay (Step.trans f av al)
  simp at d
theorem c_.Ij(s:c_ I μ H w)(k:Nat):c_ I μ (H++replicate k .free) w:=by
 have u:∀id ob,(H++replicate k Ob.free)[id]?=some ob->H[id]?=some ob\/(ob=.free/\H.length<=id):=by grind
 refine⟨λid h=>s.dom id Zac,s.imm,?_,?_,s.gl⟩;intro id ob h;rcases u id ob h with h|⟨rfl,z⟩;exact s.obs id ob h;exact s.dom id z;intro id B ob C p J a z D G;rcases u id ob a with a|⟨rfl,_⟩;rcases u B C z with z|⟨rfl,_⟩;exact s.inj id B ob C p J a z D G;simp[Ob.live]at G;simp[Ob.live]at D
theorem KY(k:Nat)(b:Nat):iL μ (H++replicate k .free) b↔iL μ H b:=by constructor;rintro⟨id,p,ob,h1,u,w,z⟩;by_cases B:id<H.length;rw[getElem?_append_left B]at h1;exact⟨id,p,ob,h1,u,w,z⟩;rw[List.getElem?_append_right Zaa,List.getElem?_replicate]at h1;split at h1;simp at h1;subst h1;simp[Ob.live]at u;grind;rintro⟨id,p,ob,h1,u,w,z⟩;exact⟨id,p,ob,Zac,u,w,z⟩
theorem Step.Ij(k:Nat):Step I μ H w I μ (H++replicate k .free) w:=⟨cA.le_refl _,Mu.le_refl _,Zab,le_refl _,λ_ _ _=>rfl,λb h=>h.elim .inl λh=>.inr (.inl ((KY k b).1 h)),rfl,.refl _,λ_ _ h=>h⟩
theorem Jp(D:eS P E)(U:P.follows .mixedOrders=true){call:dG}(b:lJ P call){id:Nat}{ops:Array Oper}{B:Bool}(ro:Lk Nat){Q:Exit->Act->World->Prop}
 (h:j_ E call n ops.toList B F H=some (F',H'))(r:eM I μ n F a.tmps)(s:c_ I μ H w)
 (G:∀a' I' μ' w',eM I' μ' n F' a'.tmps->a'.defers=a.defers->c_ I' μ' H' w'->Step I μ H w I' μ' H' w'->Q .normal a' w'):
 (Code.region id ops B).wpIn (fr ro) 0 P Q a w:=by
 unfold j_ at h
 cases B with
 |false=>refine wpIn_region ?_;rw[List.range_eq_range',<-length_toList];exact QE D b ro ops.toList 0 I μ F H a w Zab h r s G|true=>
  simp only[if_true]at h;split at h
  .rename_i u;simp at u;refine wpIn_region_draw λt=>?_
   simp[Region.schedule,U];have s0:c_ I μ H {w with drawn:=w.drawn+1}:=s.pX rfl;have st0:Step I μ H w I μ H {w with drawn:=w.drawn+1}:=Step.pX rfl rfl ⟨rfl,rfl,le_succ _⟩;have z:todo ops (Array.replicate ops.size false)=range ops.toList.length:=by unfold todo;simp_all
   have C:Down ops (Array.replicate ops.size false):=by intro j o S;simp[Array.getElem?_replicate]at S;grind
   refine wpAnyIn_sound ops.size t _ a _ ?_;split at h
   .refine Hv D b u.1 u.2 ro H.length ops.size _ I μ F (H++replicate ops.toList.length .free) a _ Zab C Zac (by rw[z];omega) r (s0.Ij _) ?_
    intro a' I' μ' w' c J L O;exact G a' I' μ' w' c J L (Step.trans s0 st0 (Step.trans (s0.Ij _) (Step.Ij _) O))
   refine Hv D b u.1 u.2 ro H.length ops.size _ I μ F H a _ Zab C Zac (by rw[z];omega) r s0 ?_
   intro a' I' μ' w' c J L O;exact G a' I' μ' w' c J L (Step.trans s0 st0 O)
  grind
end
end Go.VE
