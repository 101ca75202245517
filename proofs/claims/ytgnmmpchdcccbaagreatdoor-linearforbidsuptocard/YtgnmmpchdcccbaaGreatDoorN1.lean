/-
 The second layer: named objects in the place of rows; texts, calls, iterators.
-/
import Derived.Test.YtgnmmpchdcccbaaGreatDoorV2
set_option linter.all false
noncomputable section
open List(all_cons all_eq_true drop_drop drop_zero getElem?_append_left getElem?_append_right getElem?_drop getElem?_set getElem?_set_self getElem?_take length_eq_zero_iff mem_append mem_cons mem_iff_getElem? mem_of_getElem? replicate take_length)
open Bool(false_eq_true not_eq_true' or_eq_false_iff or_eq_true)
open Option(isSome_iff_exists map_some)
open Nat(le_max_left le_max_right le_refl le_trans ne_of_lt)
open Classical(choose_spec)
namespace Go.VE
variable[bX]
inductive Fl where|nil|emp|row|part
 deriving DecidableEq,Inhabited
inductive SV where
 |v(x:V)|own(d:Nat)|ptr(d off:Nat)|el(d i off:Nat)|mp(d:Nat)|clo(f:FuncId)(a b:List SV)|tup(l:List SV)|agg(l:List SV)|yl(id:Nat)
 deriving Inhabited
abbrev SW:=aX SV
inductive bJ where
 |sl(k:Fl)(es:Nat)(xs:List (List V))|box(cs:List SV)|mp(kvs:List (V×V))
abbrev Tb(α:Type):=aX (Nat×α)
def bl{α:Type}:Tb α->Nat->aY α
 |[],_=>none|(k,v)::r,n=>if k=n then some v else bl r n
def bM{α:Type}:Tb α->Nat->α->Tb α
 |[],n,v=>[(n,v)]|(k,x)::r,n,v=>if k=n then(k,v)::r else(k,x)::bM r n v
def eF{α:Type}(n:Nat):Tb α->Tb α
 |[]=>[]|(k,x)::r=>if k=n then eF n r else(k,x)::eF n r
def pW{α:Type}:ST->Tb α->Tb α
 |[],g=>g|d::ds,g=>pW ds (eF d g)
def zy{α:Type}:Tb α->ST->aX α->Tb α
 |g,p::ps,v::vs=>zy (bM g p v) ps vs|g,_,_=>g
def lN{α:Type}(g:Tb α):ST->aY (Tb α)
 |[]=>some []|n::r=>match bl g n,lN g r with
  |some v,some t=>some ((n,v)::t)|_,_=>none
structure St where
 g:Tb SV
 m:Tb bJ
 pin:List Nat
 want:List (List V)
 more:Bool
 yid:Nat
structure Iz where
 part:Bool
 go:Nat->List (List V)->List V->Option (List (List V))
structure Sys where
 E:Env
 N:Nat->FuncId
 items:FuncId->List V->List V->Option (List (List V))
 zo:FuncId->List V->Option V
 prm:FuncId->Option Iz
inductive Arg where
 |s(n:Nat)|k(c:V)|f(name:Nat)
abbrev QR:=aX Arg
inductive Loc where
 |s(n:Nat)|c(b i:Nat)
inductive Gh where
 |close(d:Nat)|closeB(d:Nat)|canon(l:Loc)(d:Nat)(es:Nat)|keep(gs ms:List Nat)|drop(ds:List Nat)|closeS(l:Loc)
abbrev Pi:=aX Gh
structure RO where
 dst:Option Nat
 gd:Option (Nat×Bool)
 now:Bool
 k:K
 az:List Arg
 dead:List Nat:=[]
 pre:List Gh:=[]
abbrev R0:=aX RO
inductive RC where
 |skip|ops(l:List RO)|rK(l:List RO)|seq(a b:RC)|cond(x:Arg)(a b:RC)|block(id:Nat)(c:RC)|loop(c:RC)|each(g:Arg)(ps:List Nat)(a b:RC)|exit(id:Nat)|ret|gh(x:Gh)(c:RC)|hg(c:RC)(x:Gh)
inductive RV where
 |s(n:Nat)|ld(n size:Nat)(agg:Bool)
structure RF where
 na:Nat
 rs:List RV
 body:RC
mutual
def SV.c8(d:Nat):SV->X'
 |.v _=>false|.own e=>e==d|.ptr e _=>e==d|.el e _ _=>e==d|.mp e=>e==d|.clo _ a b=>SV.dN d a||SV.dN d b|.tup l=>SV.dN d l|.agg l=>SV.dN d l|.yl _=>false
def SV.dN(d:Nat):SW->X'
 |[]=>false|x::r=>SV.c8 d x||SV.dN d r
end
def bJ.c8(d:Nat):bJ->X'
 |.box cs=>SV.dN d cs|_=>false
def xO(d:Nat):Tb SV->X'
 |[]=>false|(_,x)::r=>SV.c8 d x||xO d r
def uV(d:Nat):Tb bJ->X'
 |[]=>false|(_,x)::r=>bJ.c8 d x||uV d r
def St.new(st:St)(d:Nat):X':= !(st.pin.contains d)&&(bl st.m d).isNone&& !(xO d st.g)&& !(uV d st.m)
mutual
def SV.wX(d e:Nat):SV->SV
 |.v x=>.v x|.own k=>.own (if k=d then e else k)|.ptr k o=>.ptr (if k=d then e else k) o|.el k i o=>.el (if k=d then e else k) i o|.mp k=>.mp (if k=d then e else k)|.clo f a b=>.clo f (SV.xI d e a) (SV.xI d e b)|.tup l=>.tup (SV.xI d e l)|.agg l=>.agg (SV.xI d e l)|.yl id=>.yl id
def SV.xI(d e:Nat):SW->SW
 |[]=>[]|x::r=>SV.wX d e x::SV.xI d e r
end
def bJ.wX(d e:Nat):bJ->bJ
 |.box cs=>.box (SV.xI d e cs)|o=>o
def Cr(d e:Nat):Tb SV->Tb SV
 |[]=>[]|(n,x)::r=>(n,x.wX d e)::Cr d e r
def xG(d e:Nat):Tb bJ->Tb bJ
 |[]=>[]|(n,x)::r=>((if n=d then e else n),x.wX d e)::xG d e r
mutual
def SV.sub(d:Nat)(w:V):SV->SV
 |.own k=>if k=d then .v w else .own k|.clo f a b=>.clo f (SV.xC d w a) (SV.xC d w b)|.tup l=>.tup (SV.xC d w l)|.agg l=>.agg (SV.xC d w l)|x=>x
def SV.xC(d:Nat)(w:V):SW->SW
 |[]=>[]|x::r=>SV.sub d w x::SV.xC d w r
end
def dz:SW->aY So
 |[]=>some []|.v x::r=>(dz r).map (x::·)|_::_=>none
def UP(f:Y')(a b:SW):SV:=
 match dz a,dz b with
 |some x,some y=>.v (.clo f x y)|_,_=>.clo f a b
mutual
def SV.ED(d:Nat)(cs:So):SV->SV
 |.ptr k o=>if k=d then(if o<=cs.length then .v (.fptr (cs.drop o))else .ptr k o)else .ptr k o|.clo f a b=>UP f (SV.tL d cs a) (SV.tL d cs b)|.tup l=>.tup (SV.tL d cs l)|.agg l=>.agg (SV.tL d cs l)|x=>x
def SV.tL(d:Nat)(cs:So):SW->SW
 |[]=>[]|x::r=>SV.ED d cs x::SV.tL d cs r
end
def EF(f:SV->SV):Tb SV->Tb SV
 |[]=>[]|(n,x)::r=>(n,f x)::EF f r
def mapM(f:SW->SW):Tb bJ->Tb bJ
 |[]=>[]|(n,.box cs)::r=>(n,.box (f cs))::mapM f r|(n,o)::r=>(n,o)::mapM f r
mutual
def SV.names:SV->ST
 |.own d|.ptr d _|.el d _ _|.mp d=>[d]|.clo _ a b=>SV.y8 a++SV.y8 b|.tup l=>SV.y8 l|.agg l=>SV.y8 l|_=>[]
def SV.y8:SW->ST
 |[]=>[]|x::r=>SV.names x++SV.y8 r
end
def sE:Tb SV->ST
 |[]=>[]|(_,x)::r=>SV.names x++sE r
def qw(k:Fl)(es:Nat)(xs:S'):V:=
 match k with
 |.nil=>.bO|.emp=>.dQ|_=>.fsl es xs
mutual
def V.lvl:Nat->V->X'
 |n,.fsl _ xs=>match n with|0=>false|n+1=>V.rT n xs
 |n,.fptr cs=>match n with|0=>false|n+1=>V.ng n cs
 |n,.fmap B=>match n with|0=>false|n+1=>V.uW n B
 |n,.agg cs=>match n with|0=>false|n+1=>V.ng n cs
 |n,.tup cs=>match n with|0=>false|n+1=>V.ng n cs
 |n,.clo _ a b=>match n with|0=>false|n+1=>V.ng n a&&V.ng n b
 |_,_=>true
def V.ng:Nat->So->X'
 |_,[]=>true|n,x::r=>V.lvl n x&&V.ng n r
def V.rT:Nat->S'->X'
 |_,[]=>true|n,x::r=>V.ng n x&&V.rT n r
def V.uW:Nat->aX (V×V)->X'
 |_,[]=>true|n,(k,x)::r=>V.lvl n k&&V.lvl n x&&V.uW n r
end
mutual
def shut(m:Tb bJ):Nat->SV->aY V
 |_,.v x=>some x|_,.own d=>match bl m d with
  |some (.sl k es xs)=>some (qw k es xs)|_=>none
 |n+1,.ptr d o=>match bl m d with
  |some (.box cs)=>match dc m n cs with
   |some xs=>if o<=xs.length then some (.fptr (xs.drop o))else none|none=>none
  |_=>none
 |_,.mp d=>match bl m d with
  |some (.mp B)=>some (.fmap B)|_=>none
 |n+1,.clo f a b=>match dc m n a,dc m n b with
  |some x,some y=>some (.clo f x y)|_,_=>none
 |n+1,.tup l=>(dc m n l).map .tup|n+1,.agg l=>(dc m n l).map .agg|_,_=>none
def dc(m:Tb bJ):Nat->SW->aY So
 |_,[]=>some []|n,x::r=>match shut m n x,dc m n r with
  |some y,some s=>some (y::s)|_,_=>none
end
end Go.VE
namespace Go.VE
variable[bX]
mutual
def V.good:V->X'
 |.hsl ..|.hptr ..|.yld ..|.hmap ..=>false|.fsl _ xs=>V.o5 xs|.fptr cs=>V.cH cs|.fmap B=>V.vj B|.clo _ a b=>V.cH a&&V.cH b|.agg cs=>V.cH cs|.tup cs=>V.cH cs|_=>true
def V.cH:So->X'
 |[]=>true|x::r=>V.good x&&V.cH r
def V.o5:S'->X'
 |[]=>true|x::r=>V.cH x&&V.o5 r
def V.vj:aX (V×V)->X'
 |[]=>true|(k,x)::r=>V.good k&&V.good x&&V.vj r
end
abbrev dI:=Tb bJ
abbrev cm:=FuncId->aX SV->dI->aY (aX SV×dI)
def tv(N:Nat->Y')(g:Tb SV):Arg->aY SV
 |.s n=>bl g n|.k c=>some (.v c)|.f s=>some (.v (.clo (N s) [] []))
def bW(N:Nat->Y')(g:Tb SV):QR->aY SW
 |[]=>some []|x::r=>match tv N g x,bW N g r with
  |some v,some vs=>some (v::vs)|_,_=>none
def cR:Fl->X'
 |.row|.part=>true|_=>false
def mT(m:Tb bJ):SV->X'
 |.own d|.ptr d _|.el d _ _|.mp d=>(bl m d).isSome|.clo ..=>true|_=>false
def zw(m:Tb bJ):SV->X'
 |.v x=>x.one|x=>mT m x
def AE(m:Tb bJ):SV->aY SW
 |.v x=>some (x.cells.map .v)|.agg l=>some l|x=>if mT m x then some [x]else none
def vm(m:Tb bJ)(cells:SW):aX (Nat×Nat)->SW->aY SW
 |[],[]=>some cells|(off,size)::pl,v::vs=>match AE m v with
  |some c=>if c.length=size/\off+c.length<=cells.length then vm m (cells.take off++c++cells.drop (off+c.length)) pl vs else none|none=>none
 |_,_=>none
def xT(size:Nat)(agg:X')(cs:SW):aY SV:=
 if cs.length=size then
  if agg then match dz cs with
   |some u=>some (.v (.agg u))|none=>some (.agg cs)
  else match cs with
   |[x]=>some x|_=>none
 else none
def zm(N:Nat->Y')(m:Tb bJ):xe->SW->aY SV
 |.id,[x]=>some x|.nilc,[.ptr d o]=>if(bl m d).isSome then some (.ptr d o)else none|.nilc,[.el d i o]=>if(bl m d).isSome then some (.el d i o)else none|.pick,[.v (.bool t),a,b]=>some (if t then a else b)|.bin (some .slice) _ .eql,[.own d,.v .bO]=>match bl m d with
  |some (.sl k _ _)=>if k=.emp then none else some (.v (.bool (k==.nil)))|_=>none
 |.bin (some .slice) _ .neq,[.own d,.v .bO]=>match bl m d with
  |some (.sl k _ _)=>if k=.emp then none else some (.v (.bool (!(k==.nil))))|_=>none
 |.fieldAddr off,[.ptr d o]=>if(bl m d).isSome then some (.ptr d (o+off))else none|.fieldAddr off,[.el d i o]=>if(bl m d).isSome then some (.el d i (o+off))else none|.idxS size,[.own d,.v (.int _ i)]=>match bl m d with
  |some (.sl k es xs)=>if cR k/\es=size/\0<=i/\i.toNat<xs.length then some (.el d i.toNat 0)else none|_=>none
 |.idxA len size,[.ptr d o,.v (.int _ i)]=>if 0<=i/\i<len/\(bl m d).isSome then some (.ptr d (o+i.toNat*size))else none|.idxA len size,[.el d j o,.v (.int _ i)]=>if 0<=i/\i<len/\(bl m d).isSome then some (.el d j (o+i.toNat*size))else none|.lenSl,[.own d]=>match bl m d with
  |some (.sl _ _ xs)=>some (.v (.int .i64 xs.length))|_=>none
 |.clo name k,vs=>some (.clo (N name) (vs.take k) (vs.drop k))|.ext i,[.tup l]=>l[i]?|.build zero pl,vs=>(vm m (zero.map .v) pl vs).map .agg|.field off size agg,[.agg l]=>xT size agg ((l.drop off).take size)|_,_=>none
def kK(N:Nat->Y')(m:Tb bJ)(p:xe)(svs:SW):aY SV:=
 match dz svs with
 |some u=>(bN N p u).map .v|none=>zm N m p svs
def PO(m:Tb bJ)(d:Nat):SV->X'
 |.ptr B _=>B != d&&(match bl m B with|some (.box _)=>true|_=>false)|.v (.fptr _)=>true|_=>false
def pX(m:Tb bJ):Nf->SW->aY SV
 |.load size agg,[.ptr d o]=>match bl m d with
  |some (.box cs)=>xT size agg ((cs.drop o).take size)|_=>none
 |.load size agg,[.el d i o]=>match bl m d with
  |some (.sl _ _ xs)=>match xs[i]?with
   |some cs=>((cut cs o size).bind (mk agg)).map .v|none=>none
  |_=>none
 |.load size agg,[.v p]=>((eE [] p size).bind (mk agg)).map .v|.lookup kk z ok,[.mp d,.v k]=>match bl m d with
  |some (.mp B)=>if sy kk k then match jr k B 0 with
   |some (some (_,v))=>some (.v (if ok then .tup [v,.bool true]else v))|some none=>some (.v (if ok then .tup [z,.bool false]else z))|none=>none
   else none
  |_=>none
 |.lookup kk z ok,[.v p,.v k]=>(ey [] (.lookup kk z ok) [p,k]).map .v|.loadF size agg,.ptr d o::l=>if l.all (PO m d)=true then match bl m d with
  |some (.box cs)=>xT size agg ((cs.drop o).take size)|_=>none
  else none
 |_,_=>none
def fM(fr:ST):SW->X'
 |[]=>true|.v _::r=>fM fr r|.ptr d _::r=> !(fr.contains d)&&fM fr r|.el d _ _::r=> !(fr.contains d)&&fM fr r|.mp d::r=> !(fr.contains d)&&fM fr r|_=>false
def qv(m:Tb bJ)(a:QD)(svs:SW)(d:Nat):aY (bJ×SV):=
 match a,svs with
 |.alloc _ zero,[]=>some (.box (zero.map .v),.ptr d 0)|.box,[.v x]=>if x.cells.all V.one then some (.box (x.cells.map .v),.ptr d 0)else none|.box,[.agg l]=>if l.all (zw m)then some (.box l,.ptr d 0)else none|.box,[x]=>if mT m x then some (.box [x],.ptr d 0)else none|.makeSl size zero,[.v (.int k n),.v (.int w c)]=>if k=.i64/\w=.i64/\0<=n/\n<=c/\c<=2147483648 then some (.sl (if n=c then .row else .part) size (replicate n.toNat zero),.own d)else none|.buildSl size len zero idx,z=>match dz z with
  |some u=>if idx.length=u.length then(fP size (replicate len zero) (idx.zip u)).map λB=>(.sl .row size B,.own d)else none|none=>none
 |.makeMap,[]=>some (.mp [],.mp d)|_,_=>none
def kE(m:Tb bJ)(size:Nat):SV->aY S'
 |.own d=>match bl m d with
  |some (.sl k es xs)=>if cR k then(if es=size then some xs else none)else some []|_=>none
 |.v .bO=>some []|.v .dQ=>some []|.v (.fsl es xs)=>if es=size then some xs else none|_=>none
def Lr:SV->X'
 |.own _|.v .bO|.v .dQ=>true|_=>false
def putCells(m:Tb bJ)(size o:Nat)(sv:SV)(cs:SW):aY SW:=
 match sv with
 |.v x=>if x.cells.length=size/\o+size<=cs.length/\x.cells.all V.one=true then some (cs.take o++x.cells.map .v++cs.drop (o+size))else none|.agg l=>if l.length=size/\o+size<=cs.length/\l.all (zw m)=true then some (cs.take o++l++cs.drop (o+size))else none|x=>if mT m x=true/\size=1/\o+1<=cs.length then some (cs.take o++[x]++cs.drop (o+1))else none
def giveUp(m:Tb bJ):SV->Tb bJ
 |.own d=>eF d m|_=>m
def oT(st:St)(dst:aY Nat):Ng->SW->aY (SV×St)
 |.store size,[.ptr d o,x]=>match bl st.m d with
  |some (.box cs)=>(putCells st.m size o x cs).map λcs=>(.v .undef,{st with m:=bM st.m d (.box cs)})|_=>none
 |.store size,[.el d i o,.v x]=>match bl st.m d with
  |some (.sl k es xs)=>match xs[i]?with
   |some cs=>if x.cells.length=size/\o+size<=cs.length/\x.cells.all V.one=true then
    some (.v .undef,{st with m:=bM st.m d (.sl k es (xs.set i (cs.take o++x.cells++cs.drop (o+x.cells.length))))})else none
   |none=>none
  |_=>none
 |.mapUp kk,[.mp d,.v k,.v x]=>match bl st.m d with
  |some (.mp B)=>if sy kk k then(sL k x B).map λB=>(.v .undef,{st with m:=bM st.m d (.mp B)})else none|_=>none
 |.append size,[s,x]=>match kE st.m size s,kE st.m size x with
  |some _,some []=>match dst with
   |some t=>match s with
    |.own d=>match bl st.m d with
     |some ob=>if St.new {st with m:=eF d st.m} t then some (.own t,{st with m:=bM (eF d st.m) t ob})else none|none=>none
    |.v .bO=>if st.new t then some (.own t,{st with m:=bM st.m t (.sl .nil size [])})else none|.v .dQ=>if st.new t then some (.own t,{st with m:=bM st.m t (.sl .emp size [])})else none|_=>none
   |none=>none
  |some xs,some ys=>
   if xs.length+ys.length<=2147483648/\Lr s=true then
    let m1:=giveUp st.m s
    match dst with
    |some t=>if St.new {st with m:=m1} t then some (.own t,{st with m:=bM m1 t (.sl .row size (xs++ys))})else none|none=>none
   else none
  |_,_=>none
 |.storeF size,.ptr d o::x::l=>if l.all (PO st.m d)=true then match bl st.m d with
  |some (.box cs)=>(putCells st.m size o x cs).map λcs=>(.v .undef,{st with m:=bM st.m d (.box cs)})|_=>none
  else none
 |_,_=>none
def Ch(st:St)(dst:aY Nat)(size:Nat)(a b:X')(d:Nat)(B:SW):aY (SV×St):=
 match bl st.m d,dz B,dst with
 |some (.sl k es u),some z,some t=>
  if cR k=true/\es=size then
   (ot a b z).bind λ(l,h)=>(ez u.length l h).bind λ(l,h)=>
    let w:=eF d st.m
    if St.new {st with m:=w} t then some (.own t,{st with m:=bM w t (.sl .part es ((u.take h).drop l))})else none
  else none
 |_,_,_=>none
def C6:SW->SV
 |[x]=>x|l=>.tup l
mutual
def SV.DT:SV->ST
 |.v _=>[]|.own e=>[e]|.ptr e _=>[e]|.el e _ _=>[e]|.mp e=>[e]|.clo _ a b=>SV.uj a++SV.uj b|.tup l=>SV.uj l|.agg l=>SV.uj l|.yl _=>[]
def SV.uj:SW->ST
 |[]=>[]|x::r=>SV.DT x++SV.uj r
end
def bJ.DT:bJ->ST
 |.box cs=>SV.uj cs|_=>[]
def reach(m:Tb bJ):Nat->ST->ST->ST
 |0,_,seen=>seen|_+1,[],seen=>seen|n+1,d::r,seen=>if seen.contains d then reach m n r seen else reach m n ((match bl m d with|some ob=>bJ.DT ob|none=>[])++r) (seen++[d])
def handed(m:Tb bJ)(l:SW):aY dI:=lN m (reach m 32 (SV.uj l) [])
mutual
def SV.bare:SV->X'
 |.v x=>x.scalar|.clo _ a b=>SV.zD a&&SV.zD b|.tup l=>SV.zD l|.agg l=>SV.zD l|_=>true
def SV.zD:SW->X'
 |[]=>true|x::r=>SV.bare x&&SV.zD r
end
def bJ.bare:bJ->X'
 |.box cs=>SV.zD cs|_=>false
def Cz(m:Tb bJ)(k:Nat):X':=match bl m k with
 |some ob=>ob.bare|none=>true
def within(B:ST)(ob:bJ):X':=ob.DT.all B.contains
def Bo(B:ST)(m':dI):ST->Tb bJ->aY (Tb bJ)
 |[],m=>some m|d::r,m=>match bl m' d with
  |some ob=>if within B ob then Bo B m' r (bM m d ob)else none|none=>none
def mj(m':dI)(l:ST)(m:Tb bJ):aY (Tb bJ):=Bo l m' l m
def nN(xs:S'):X':=xs.all λx=>x.all V.scalar
def EY(q:Iz)(dst:aY Nat)(args:SW)(st:St):aY (SV×St):=
 match args with
 |.own d::z=>match bl st.m d,dz z with
  |some (.sl k es u),some B=>match q.go es u B with
   |some w=>if q.part then match dst with
    |some t=>if St.new {st with m:=eF d st.m} t then some (.own t,{st with m:=bM (eF d st.m) t (if cR k then .sl .part es w else .sl k es u)})else none|none=>none
    else some (.v .undef,{st with m:=bM st.m d (if cR k then .sl k es w else .sl k es u)})
   |none=>none
  |_,_=>none
 |_=>none
def rowsOf:SW->aY ST
 |[]=>some []|.v _::r=>rowsOf r|.own d::r=>(rowsOf r).map (d::·)|_=>none
def fN(S:Sys)(c:cm)(dst:aY Nat)(dr now:X')(old:SW->X')(f:Y')(args:SW)(st:St):aY (SV×St):=
 if S.E.keep f then
  if now then
   if S.E.own f then
    match dc st.m 8 args with
    |some az=>
     match c f (az.map .v) []with
     |some (rs,m')=>match dz rs with
      |some u=>if(result u).scalar then some (.v (result u),st)else none|none=>match rs,dst with
       |.own e::rest,some t=>match bl m' e,dz rest with
        |some (.sl .row es z),some u=>
         if V.c6 u&&nN z&&st.new t then
          some (C6 (.own t::u.map .v),{st with m:=bM st.m t (.sl .row es z)})
         else none
        |some (.sl .nil es _),some u=>if V.c6 u&&st.new t then some (C6 (.own t::u.map .v),{st with m:=bM st.m t (.sl .nil es [])})else none|some (.sl .emp es _),some u=>if V.c6 u&&st.new t then some (C6 (.own t::u.map .v),{st with m:=bM st.m t (.sl .emp es [])})else none|_,_=>none
       |_,_=>none
     |none=>none
    |none=>none
   else match S.prm f with
    |some q=>if dr then none else EY q dst args st|none=>match handed st.m args with
    |some os=>match c f args os with
     |some (rs,m')=>match dz rs,mj m' (os.map (·.1)) st.m with
      |some u,some w=>if dr&& !(V.c6 u&&os.all λx=>Cz w x.1)then none else some (.v (result u),{st with m:=w})|none,some w=>if dr then none else match rs,dst with
       |.own e::rest,some t=>match bl m' e,dz rest with
        |some (.sl k es z),some u=>if !(os.map (·.1)).contains e&&St.new {st with m:=w} t then some (C6 (.own t::u.map .v),{st with m:=bM w t (.sl k es z)})else none|_,_=>none
       |_,_=>none
      |_,_=>none
     |none=>none
    |none=>none
  else if S.E.own f&&old args then match dc st.m 8 args with
   |some az=>match c f (az.map .v) []with
    |some (rs,m')=>match dc m' 8 rs with
     |some u=>if(result u).scalar||(dz args).isSome then some (.v (result u),st)else none|none=>none
    |none=>none
   |none=>none
  else none
 else match dc st.m 8 args with
  |some az=>if now||old args then
   match c f (az.map .v) []with
   |some (rs,m')=>match dc m' 8 rs with
    |some u=>if(result u).scalar||(dz args).isSome then some (.v (result u),st)
     else if now then(rowsOf args).map λds=>(.v (result u),{st with m:=pW ds st.m})
     else none
    |none=>none
   |none=>none
   else none
  |none=>none
def gB(m:Tb bJ)(fr:ST)(args:SW):X':=fr.all λd=> !(SV.dN d args)&& !(uV d m)
def Df:K->X'
 |.p (.build zero _)=>V.cH zero|.r (.lookup _ z _)=>z.good|.a (.alloc _ zero)=>V.cH zero&&zero.all V.one|.a (.makeSl _ zero)=>V.cH zero|.a (.buildSl _ _ zero _)=>V.cH zero|_=>true
def nX(S:Sys)(c:cm)(dr:X')(fr:ST)(o:RO)(st:St):aY (SV×St):=
 match bW S.N st.g o.az with
 |some u=>match o.k with
  |.p (.slice size lo hi)=>match u with
   |.own d::z=>if dr then none else Ch st o.dst size lo hi d z|u=>(kK S.N st.m (.slice size lo hi) u).map λx=>(x,st)
  |.p p=>(kK S.N st.m p u).map λx=>(x,st)|.r r=>if !dr||o.now||fM fr u then(pX st.m r u).map λx=>(x,st)else none|.a a=>match o.dst with
   |some d=>if st.new d then(qv st.m a u d).map λ(ob,x)=>(x,{st with m:=bM st.m d ob})else none|none=>none
  |.l l=>if !dr||o.now then oT st o.dst l u else none|.c=>match u with
   |.clo f a b::w=>fN S c o.dst dr (!dr||o.now) (gB st.m fr) f (a++w++b) st|.v (.clo f a b)::w=>fN S c o.dst dr (!dr||o.now) (gB st.m fr) f (a.map .v++w++b.map .v) st|_=>none
  |.b=>if dr then none else match u with
   |[x]=>(kE st.m 1 x).bind λB=>(ny B).map λl=>(.v (.str (oq l)),st)|_=>none
  |.e n=>match u with
   |[.v .bO,x]=>oT st o.dst (.append n) [.v .bO,x]|[.v .dQ,x]=>oT st o.dst (.append n) [.v .dQ,x]|_=>none
 |none=>none
def cW(st:St)(dst:aY Nat)(x:SV):St:=
 match dst with
 |none=>st|some d=>{st with g:=bM st.g d x}
def wanted(g:Tb SV):aY (Nat×X')->aY X'
 |none=>some true|some (s,b)=>match bl g s with
  |some (.v (.bool c))=>some (c==b)|some (.v _)=>some false|_=>none
def AT(o:RO):aY Nat:=
 match o.k with
 |.p _|.r _=>none|_=>o.dst
def tB(fr:ST)(o:RO):ST:=
 match AT o with
 |some d=>d::fr|none=>fr
def br(H:bn)(id:Nat):aY (Nat×S'):=(H[id]?).bind Ob.rows
mutual
theorem V.mB:∀{x:V},x.good=true->x.closed=true
 |.hsl ..,h|.hptr ..,h|.yld _,h|.hmap _,h=>by simp[V.good]at h|.fsl ..,_|.fptr ..,_|.fmap ..,_=>rfl|.bool _,_|.int ..,_|.str _,_|.dQ,_|.bO,_|.jk,_|.iB,_|.uB,_=>rfl|.clo _ a b,h=>by simp only[V.good,ζh]at h;simp only[V.closed,ζh];exact⟨V.qx h.1,V.qx h.2⟩|.agg cs,h=>by simp only[V.good]at h;simp only[V.closed];exact V.qx h|.tup cs,h=>by simp only[V.good]at h;simp only[V.closed];exact V.qx h
theorem V.qx:∀{l:aX V},V.cH l=true->V.jm l=true
 | [],_=>rfl
 | x::r,h=>by
  simp only[V.cH,ζh]at h;simp only[V.jm,ζh];exact⟨V.mB h.1,V.qx h.2⟩
end
theorem jc:∀{l:So},V.cH l=true↔∀(j:Nat)u,l[j]?=some u->u.good=true
 |[]=>by simp[V.cH]|x::l=>by simp[V.cH,jc];constructor;grind;intro h;exact⟨h 0 x rfl,λj u a=>h (j+1) u Zac⟩
theorem mE:∀{l:S'},V.o5 l=true↔∀(j:Nat)u,l[j]?=some u->V.cH u=true
 |[]=>by simp[V.o5]|x::l=>by simp[V.o5,mE];constructor;grind;intro h;exact⟨h 0 x rfl,λj u a=>h (j+1) u Zac⟩
def Iu:∀{l:aX (V×V)},V.vj l=true↔∀(j:Nat)u,l[j]?=some u->u.1.good=true/\u.2.good=true
 |[]=>by simp[V.vj]|(k,x)::l=>by simp only[V.vj,ζh,Iu];constructor;grind;intro h;exact⟨h 0 (k,x) rfl,λj u a=>h (j+1) u Zac⟩
theorem A3{l:So}(n:Nat)(h:V.cH l=true):V.cH (l.drop n)=true:=jc.2 λj u a=>jc.1 h (n+j) u Zac
inductive FR(H:bn)(Z:Nat->Prop):V->V->Prop
 |same(x:V)(h:x.good=true):FR H Z x x|fsl(es:Nat)(xs:List (List V))(id off:Nat)(ys:List (List V))(hz:Z id)(hr:br H id=some (es,ys))(hl:off+xs.length<=ys.length)
  (hc:∀(i:Nat)a b,xs[i]?=some a->ys[off+i]?=some b->a.length=b.length)
  (hv:∀(i j:Nat)a b u v,xs[i]?=some a->ys[off+i]?=some b->a[j]?=some u->b[j]?=some v->FR H Z u v):FR H Z (.fsl es xs) (.hsl id es off xs.length)
 |fptr(xs:List V)(id el off es:Nat)(ys:List (List V))(cs:List V)(hz:Z id)(hr:br H id=some (es,ys))(he:ys[el]?=some cs)(ho:off<=cs.length)(hx:xs.length=cs.length-off)
  (hv:∀(j:Nat)u v,xs[j]?=some u->cs[off+j]?=some v->FR H Z u v):FR H Z (.fptr xs) (.hptr id el off)
 |clo(f:FuncId)(a b a' b':List V)(ha:a.length=a'.length)(hb:b.length=b'.length)(hva:∀(j:Nat)u v,a[j]?=some u->a'[j]?=some v->FR H Z u v)(hvb:∀(j:Nat)u v,b[j]?=some u->b'[j]?=some v->FR H Z u v):FR H Z (.clo f a b) (.clo f a' b')|agg(a a':List V)(ha:a.length=a'.length)(hva:∀(j:Nat)u v,a[j]?=some u->a'[j]?=some v->FR H Z u v):FR H Z (.agg a) (.agg a')|tup(a a':List V)(ha:a.length=a'.length)(hva:∀(j:Nat)u v,a[j]?=some u->a'[j]?=some v->FR H Z u v):FR H Z (.tup a) (.tup a')
def dG(H:bn)(Z:Nat->Prop)(xs ys:So):Prop:=xs.length=ys.length/\∀(j:Nat)u v,xs[j]?=some u->ys[j]?=some v->FR H Z u v
def iz(H:bn)(Z:Nat->Prop)(xs ys:S'):Prop:=xs.length=ys.length/\∀(j:Nat)u v,xs[j]?=some u->ys[j]?=some v->dG H Z u v
section
variable{H H':bn}{Z Z':Nat->Prop}
def FR.mono(h:∀id,Z id->Z' id/\br H' id=br H id){x y:V}(r:FR H Z x y):FR H' Z' x y:=by induction r with|same x h=>exact .same x h|fsl es B id off C D hr J hc hv G=>exact .fsl es B id off C (h id D).1 Zac J hc G|fptr B id el off es C cs D hr L O Q hv G=>exact .fptr B id el off es C cs (h id D).1 Zac L O Q G|clo f a b w S z T hva U u I=>exact .clo f a b w S z T u I|agg a w z hva u=>exact .agg a w z u|tup a w z hva u=>exact .tup a w z u
def dG.mono(h:∀id,Z id->Z' id/\br H' id=br H id){x y:So}(r:dG H Z x y):dG H' Z' x y:=⟨r.1,λj u v a b=>(r.2 j u v a b).mono h⟩
def iz.mono(h:∀id,Z id->Z' id/\br H' id=br H id){x y:S'}(r:iz H Z x y):iz H' Z' x y:=⟨r.1,λj u v a b=>(r.2 j u v a b).mono h⟩
def dG.nil:dG H Z [] []:=⟨rfl,Zab⟩
def dG.cons{x y:V}{xs ys:So}(h:FR H Z x y)(r:dG H Z xs ys):dG H Z (x::xs) (y::ys):=by refine⟨by simp[r.1],λj u v a b=>?_⟩;cases j with|zero=>grind|succ j=>exact r.2 j u v Zac Zac
def dG.inv{x:V}{xs B:So}(r:dG H Z (x::xs) B):∃y ys,B=y::ys/\FR H Z x y/\dG H Z xs ys:=by cases B with|nil=>have:=r.1;grind|cons y ys=>refine⟨y,ys,rfl,r.2 0 x y rfl rfl,by have:=r.1;grind,λj u v a b=>r.2 (j+1) u v Zac Zac⟩
def dG.dg{B:So}(r:dG H Z [] B):B=[]:=by have:=r.1;grind
theorem dG.get{xs ys:So}(r:dG H Z xs ys){j:Nat}{u:V}(h:xs[j]?=some u):∃v,ys[j]?=some v/\FR H Z u v:=by
 have w:=(ζe.1 h).1;have:j<ys.length:=by rw[<-r.1];omega
 exact⟨ys[j],ζd this,r.2 j u _ h (ζd this)⟩
theorem iz.get{xs ys:S'}(r:iz H Z xs ys){j:Nat}{u:So}(h:xs[j]?=some u):∃v,ys[j]?=some v/\dG H Z u v:=by
 have w:=(ζe.1 h).1;have:j<ys.length:=by rw[<-r.1];omega
 exact⟨ys[j],ζd this,r.2 j u _ h (ζd this)⟩
def dG.append{a b c d:So}(h:dG H Z a b)(k:dG H Z c d):dG H Z (a++c) (b++d):=by refine⟨by simp[h.1,k.1],λj u v e f=>?_⟩;by_cases w:j<a.length;rw[getElem?_append_left w]at e;rw[getElem?_append_left (by rw[<-h.1];omega)]at f;exact h.2 j u v e f;rw[getElem?_append_right Zaa]at e;rw[getElem?_append_right (by rw[<-h.1];omega),<-h.1]at f;exact k.2 _ u v e f
def iz.append{a b c d:S'}(h:iz H Z a b)(k:iz H Z c d):iz H Z (a++c) (b++d):=by refine⟨by simp[h.1,k.1],λj u v e f=>?_⟩;by_cases w:j<a.length;rw[getElem?_append_left w]at e;rw[getElem?_append_left (by rw[<-h.1];omega)]at f;exact h.2 j u v e f;rw[getElem?_append_right Zaa]at e;rw[getElem?_append_right (by rw[<-h.1];omega),<-h.1]at f;exact k.2 _ u v e f
def dG.take{a b:So}(h:dG H Z a b)(n:Nat):dG H Z (a.take n) (b.take n):=by
 refine⟨by simp[h.1],λj u v c d=>?_⟩;rw[getElem?_take]at c d;split at c;next w=>rw[if_pos w]at d;exact h.2 j u v c d
 grind
def dG.drop{a b:So}(h:dG H Z a b)(n:Nat):dG H Z (a.drop n) (b.drop n):=by refine⟨by simp[h.1],λj u v c d=>?_⟩;rw[getElem?_drop]at c d;exact h.2 _ u v c d
def iz.take{a b:S'}(h:iz H Z a b)(n:Nat):iz H Z (a.take n) (b.take n):=by
 refine⟨by simp[h.1],λj u v c d=>?_⟩;rw[getElem?_take]at c d;split at c;next w=>rw[if_pos w]at d;exact h.2 j u v c d
 grind
def iz.drop{a b:S'}(h:iz H Z a b)(n:Nat):iz H Z (a.drop n) (b.drop n):=by refine⟨by simp[h.1],λj u v c d=>?_⟩;rw[getElem?_drop]at c d;exact h.2 _ u v c d
theorem dG.set{a b:So}(h:dG H Z a b)(n:Nat){x y:V}(B:FR H Z x y):dG H Z (a.set n x) (b.set n y):=by refine⟨by simp[h.1],λj u v c d=>?_⟩;rw[getElem?_set]at c d;split at c;grind;rename_i e;rw[if_neg e]at d;exact h.2 j u v c d
theorem iz.set{a b:S'}(h:iz H Z a b)(n:Nat){x y:So}(B:dG H Z x y):iz H Z (a.set n x) (b.set n y):=by refine⟨by simp[h.1],λj u v c d=>?_⟩;rw[getElem?_set]at c d;split at c;grind;rename_i e;rw[if_neg e]at d;exact h.2 j u v c d
theorem dG.same{l:So}(h:V.cH l=true):dG H Z l l:=⟨rfl,λj u v a b=>by rw[a]at b;cases b;exact .same u (jc.1 h j u a)⟩
def FR.good{x y:V}(r:FR H Z x y):x.good=true:=by induction r with|same x h=>omega|fsl es C id off D G hr O hc hv I=>refine mE.2 λi a z=>jc.2 λj u c=>?_;grind|fptr C id el off es D cs G hr Q S T hv I=>refine jc.2 λj u c=>?_;grind|clo f a b B U z W hva J w L=>simp[V.good];refine⟨jc.2 λj u c=>?_,jc.2 λj u c=>?_⟩;grind;grind|agg a B z hva w=>refine jc.2 λj u c=>?_;grind|tup a B z hva w=>simp[V.good];refine jc.2 λj u c=>?_;grind
theorem FR.closed {x y:V} (r:FR H Z x y):x.closed=true:=V.mB r.good
def dG.good{xs ys:So}(r:dG H Z xs ys):V.cH xs=true:=jc.2 λj u a=>by have⟨v,_,h⟩:=r.get a;exact h.good
def iz.good{xs ys:S'}(r:iz H Z xs ys):V.o5 xs=true:=mE.2 λj u a=>by have⟨v,_,h⟩:=r.get a;exact h.good
def FR.bool{b:X'}{y:V}(r:FR H Z (.bool b) y):y=.bool b:=by cases r;rfl
def FR.int{k:T2}{n:Int}{y:V}(r:FR H Z (.int k n) y):y=.int k n:=by cases r;rfl
def FR.str{s:U'}{y:V}(r:FR H Z (.str s) y):y=.str s:=by cases r;rfl
def FR.dQ{y:V}(r:FR H Z .dQ y):y=.dQ:=by cases r;rfl
def FR.bO{y:V}(r:FR H Z .bO y):y=.bO:=by cases r;rfl
def FR.jk{y:V}(r:FR H Z .jk y):y=.jk:=by cases r;rfl
def FR.iB{y:V}(r:FR H Z .iB y):y=.iB:=by cases r;rfl
def FR.uB{y:V}(r:FR H Z .uB y):y=.uB:=by cases r;rfl
def FR.fmap{B:aX (V×V)}{y:V}(r:FR H Z (.fmap B) y):y=.fmap B:=by cases r;rfl
def FR.jO{a:So}{y:V}(r:FR H Z (.agg a) y):∃a',y=.agg a'/\dG H Z a a':=by cases r with|same _ h=>exact⟨a,rfl,.same (by simpa[V.good]using h)⟩|agg _ a' u hva=>exact⟨a',rfl,u,hva⟩
def FR.sU{a:So}{y:V}(r:FR H Z (.tup a) y):∃a',y=.tup a'/\dG H Z a a':=by cases r with|same _ h=>exact⟨a,rfl,.same (by simpa[V.good]using h)⟩|tup _ a' u hva=>exact⟨a',rfl,u,hva⟩
def FR.lT{f:Y'}{a b:So}{y:V}(r:FR H Z (.clo f a b) y):∃a' B,y=.clo f a' B/\dG H Z a a'/\dG H Z b B:=by cases r with|same _ h=>simp[V.good]at h;exact⟨a,b,rfl,.same h.1,.same h.2⟩|clo _ _ _ a' B w z hva u=>exact⟨a',B,rfl,⟨w,hva⟩,⟨z,u⟩⟩
def FR.oh{es:Nat}{xs:S'}{y:V}(r:FR H Z (.fsl es xs) y):y=.fsl es xs\/
 ∃id off ys,y=.hsl id es off xs.length/\Z id/\br H id=some (es,ys)/\off+xs.length<=ys.length/\iz H Z xs ((ys.drop off).take xs.length):=by
 cases r with
 |same _ h=>grind|fsl _ _ id off ys z hr B hc hv=>
  refine .inr ⟨id,off,ys,rfl,z,hr,B,by simp;omega,λj u v a w=>?_⟩
  have C:=(ζe.1 a).1;rw[getElem?_take,if_pos C,getElem?_drop]at w;exact⟨hc j u v a w,λi s t D G=>hv j i u v s t a w D G⟩
def FR.OM{es:Nat}{xs:S'}{id off:Nat}{ys:S'}(B:Z id)(c:br H id=some (es,ys))(D:off+xs.length<=ys.length)(h:iz H Z xs ((ys.drop off).take xs.length)):
 FR H Z (.fsl es xs) (.hsl id es off xs.length):=by
 have key:∀(i:Nat)a b,xs[i]?=some a->ys[off+i]?=some b->dG H Z a b:=λi a b w z=>by refine h.2 i a b w ?_;grind
 exact .fsl es xs id off ys B c D (λi a b w z=>(key i a b w z).1) (λi j a b u v w z d e=>(key i a b w z).2 j u v d e)
def FR.om{xs:So}{y:V}(r:FR H Z (.fptr xs) y):y=.fptr xs\/
 ∃id el off es ys cs,y=.hptr id el off/\Z id/\br H id=some (es,ys)/\ys[el]?=some cs/\off<=cs.length/\dG H Z xs (cs.drop off):=by
 cases r with
 |same _ h=>grind|fptr _ id el off es ys cs w hr z B D hv=>
  refine .inr ⟨id,el,off,es,ys,cs,rfl,w,hr,z,B,Zad,λj u v a C=>?_⟩
  grind
def FR.FW{xs:So}{id el off es:Nat}{ys:S'}{cs:So}(B:Z id)(a:br H id=some (es,ys))(D:ys[el]?=some cs)(G:off<=cs.length)(h:dG H Z xs (cs.drop off)):FR H Z (.fptr xs) (.hptr id el off):=.fptr xs id el off es ys cs B a D G (by have:=h.1;grind) (λj u v b c=>h.2 j u v b Zac)
def FR.cells{x y:V}(r:FR H Z x y):dG H Z x.cells y.cells:=by
 have one:∀{a b:V},FR H Z a b->dG H Z [a] [b]:=λh=>.cons h .nil
 cases r with
 |same _ h=>cases x<;>first|exact one (.same _ h)|(exact dG.same h)
 |fsl es z id off B C hr G hc hv=>exact one (.fsl es z id off B C hr G hc hv)|fptr z id el off es B cs C hr I J L hv=>exact one (.fptr z id el off es B cs C hr I J L hv)|clo f a b w O u Q hva D=>exact one (.clo f a b w O u Q hva D)|agg a w u hva=>exact⟨u,hva⟩|tup a w u hva=>exact one (.tup a w u hva)
def FR.one{x y:V}(r:FR H Z x y):y.one=x.one:=by cases r<;>rfl
def dG.one:∀{xs ys:So},dG H Z xs ys->ys.all V.one=xs.all V.one
 |[],ys,r=>by rw[r.dg]|x::xs,D,r=>by obtain⟨y,ys,rfl,h,B⟩:=r.inv;simp[h.one,B.one]
def tE:∀{l:So},V.c6 l=true↔∀(j:Nat)u,l[j]?=some u->u.scalar=true
 |[]=>by simp[V.c6]|x::l=>by simp[V.c6,tE];constructor;grind;intro h;exact⟨h 0 x rfl,λj u a=>h (j+1) u Zac⟩
def FR.scalar{x y:V}(r:FR H Z x y):(x.scalar=true->y=x)/\y.scalar=x.scalar:=by
 have key:∀(a w:So),a.length=w.length->(∀(j:Nat)u v,a[j]?=some u->w[j]?=some v->(u.scalar=true->v=u)/\v.scalar=u.scalar)->(V.c6 a=true->w=a)/\V.c6 w=V.c6 a:=by intro a w B G;have b:V.c6 a=true->w=a:=(by intro I;refine(List.ext_getElem B λj b C=>?_).symm;exact(((G j _ _ (ζd b) (ζd C)).1 (tE.1 I j _ (ζd b)))).symm);refine⟨b,?_⟩;cases I:V.c6 a with|true=>grind|false=>cases D:V.c6 w with|false=>rfl|true=>have:V.c6 a=true:=tE.2 λj u c=>(by have J:j<w.length:=Zac;have:=(G j u _ c (ζd J)).2;rw[<-this];exact tE.1 D j _ (ζd J));grind
 induction r with|same x h=>grind|fsl=>exact⟨λh=>by simp[V.scalar]at h,rfl⟩|fptr=>exact⟨λh=>by simp[V.scalar]at h,rfl⟩|clo=>exact⟨λh=>by simp[V.scalar]at h,rfl⟩|agg a w B hva z=>have⟨b,C⟩:=key a w B z;exact⟨λh=>by rw[b (by simpa[V.scalar]using h)],by simpa[V.scalar]using C⟩|tup a w B hva z=>have⟨b,C⟩:=key a w B z;exact⟨λh=>by rw[b (by simpa[V.scalar]using h)],by simpa[V.scalar]using C⟩
def dG.scalar{a a':So}(r:dG H Z a a'):(V.c6 a=true->a'=a)/\V.c6 a'=V.c6 a:=by have⟨b,u⟩:=FR.scalar (.tup a a' r.1 r.2);simp[V.scalar]at b u;grind
def tK:∀{l:So}{a:Rd},jB l=some a->V.c6 l=true
 |[],_,_=>rfl|x::l,a,h=>by unfold jB at h;split at h;grind;(next n r e=>cases e;have⟨b,B,_⟩:=ζf.1 h;simp[V.c6,V.scalar];exact tK B);grind
end
mutual
theorem lB:∀{x:V},x.scalar=true->x.good=true
 |.bool _,_|.int ..,_|.str _,_|.jk,_|.iB,_|.uB,_|.dQ,_|.bO,_=>rfl|.agg cs,h=>by simp only[V.scalar]at h;simp only[V.good];exact si h|.tup cs,h=>by simp only[V.scalar]at h;simp only[V.good];exact si h|.fsl ..,h|.hsl ..,h|.fptr ..,h|.hptr ..,h|.clo ..,h|.yld _,h|.fmap _,h|.hmap _,h=>by simp[V.scalar]at h
theorem si:∀{l:aX V},V.c6 l=true->V.cH l=true
 | [],_=>rfl
 | x::r,h=>by
  simp only[V.c6,ζh]at h;simp only[V.cH,ζh];exact⟨lB h.1,si h.2⟩
end
section
variable{H H':bn}{Z Z':Nat->Prop}
def mm{f:V->aY V}:∀{xs ys:So},xs.length=ys.length->(∀(j:Nat)u v,xs[j]?=some u->ys[j]?=some v->f v=some u)->jl f ys=some xs
 |[],[],_,_=>rfl|[],y::ys,h,_=>Zad|x::xs,[],h,_=>Zad|x::xs,y::ys,h,B=>by simp[jl,B 0 x y rfl rfl,mm (xs:=xs) (ys:=ys) Zac λj u v a b=>B (j+1) u v Zac Zac]
def J6{f:V->aY V}:∀{xs ys:S'},xs.length=ys.length->(∀(j:Nat)u v,xs[j]?=some u->ys[j]?=some v->jl f v=some u)->nO f ys=some xs
 |[],[],_,_=>rfl|[],y::ys,h,_=>Zad|x::xs,[],h,_=>Zad|x::xs,y::ys,h,B=>by simp[nO,B 0 x y rfl rfl,J6 (xs:=xs) (ys:=ys) Zac λj u v a b=>B (j+1) u v Zac Zac]
def ri:∀{l:So},V.jm l=true↔∀(j:Nat)u,l[j]?=some u->u.closed=true
 |[]=>by simp[V.jm]|x::l=>by simp[V.jm,ri];constructor;grind;intro h;exact⟨h 0 x rfl,λj u a=>h (j+1) u Zac⟩
def oA:∀{l:So}{n:Nat},V.ng n l=true↔∀(j:Nat)u,l[j]?=some u->u.lvl n=true
 |[],n=>by simp[V.ng]|x::l,n=>by simp[V.ng,oA];constructor;grind;intro h;exact⟨h 0 x rfl,λj u a=>h (j+1) u Zac⟩
def Io:∀{l:S'}{n:Nat},V.rT n l=true↔∀(j:Nat)u,l[j]?=some u->V.ng n u=true
 |[],n=>by simp[V.rT]|x::l,n=>by simp[V.rT,Io];constructor;grind;intro h;exact⟨h 0 x rfl,λj u a=>h (j+1) u Zac⟩
theorem eH(n:Nat)(H:bn){x:V}(h:x.closed=true):borrow n H x=some x:=kG n H h
theorem FR.borrow {x y:V} (r:FR H Z x y):∀n,x.lvl n=true->borrow n H y=some x:=by
 induction r with
 | same x h=>grind[eH,V.mB]
 | fsl es J id off U W hr X hc hv L=>
  intro n z
  cases n with
  | zero=>grind[V.lvl]
  | succ n=>
   unfold Go.VE.borrow;unfold br at hr;simp only[V.closed,Bool.false_eq_true,if_false,hr,true_and,if_pos X,ζf];refine⟨J,J6 (by simp;omega) λj u v hu B=>?_,rfl⟩
   have Y  := (ζe.1 hu).1;rw[List.getElem?_take,if_pos Y,List.getElem?_drop]at B;refine mm (hc j u v hu B) λi s t Q ht=>L j i u v s t hu B Q ht n (oA.1 (Io.1 z j u hu) i s Q)
 | fptr J id el off es U cs W hr he ho hx hv L=>
  intro n z
  cases n with
  | zero=>grind[V.lvl]
  | succ n=>
   unfold Go.VE.borrow;unfold br at hr;simp only[V.closed,Bool.false_eq_true,if_false,hr,he,if_pos ho,ζf];refine⟨J,mm Zad λj u v hu B=>?_,rfl⟩
   rw[List.getElem?_drop]at B;exact L j u v hu B n (oA.1 z j u hu)
 | clo f a b D S G T hva aa C I=>
  intro n z
  cases n with
  | zero=>grind[V.lvl]
  | succ n=>
   simp[V.lvl]at z
   by_cases w:(V.clo f D S).closed=true
   .rw[eH _ _ w];simp[V.closed]at w;have e1:D=a:=by
     have:=mm  G λj u v hu hv=>C j u v hu hv n (oA.1 z.1 j u hu)
     have O:=mm    rfl λj u v hu hv=>by rw[hu]at hv;cases hv;exact eH n H (ri.1 w.1 j u hu)
     grind
    have e2:S=b:=by
     have:=mm  T λj u v hu hv=>I j u v hu hv n (oA.1 z.2 j u hu)
     have O:=mm    rfl λj u v hu hv=>by rw[hu]at hv;cases hv;exact eH n H (ri.1 w.2 j u hu)
     grind
    simp_all
   unfold Go.VE.borrow;rw[if_neg w];simp[mm  G λj u v hu hv=>C j u v hu hv n (oA.1 z.1 j u hu),mm  T λj u v hu hv=>I j u v hu hv n (oA.1 z.2 j u hu)]
 | agg a D G hva C=>
  intro n z
  cases n with
  | zero=>grind[V.lvl]
  | succ n=>
   have hm:=mm  G λj u v hu hv=>C j u v hu hv n (oA.1 z j u hu)
   by_cases w:(V.agg D).closed=true
   .rw[eH _ _ w];have O:=mm    rfl λj u v hu hv=>by rw[hu]at hv;cases hv;exact eH n H (ri.1 w j u hu)
    grind
   grind[Go.VE.borrow]
 | tup a D G hva C=>
  intro n z
  cases n with
  | zero=>grind[V.lvl]
  | succ n=>
   have hm:=mm  G λj u v hu hv=>C j u v hu hv n (oA.1 z j u hu)
   by_cases w:(V.tup D).closed=true
   .rw[eH _ _ w];have O:=mm    rfl λj u v hu hv=>by rw[hu]at hv;cases hv;exact eH n H (ri.1 w j u hu)
    grind
   grind[Go.VE.borrow]
def sj{f:V->ST}{k:Nat}:∀{l:So},k∈c_ f l->∃(j:Nat)(u:V),l[j]?=some u/\k∈f u
 |[],h=>by grind[c_]|x::l,h=>by simp[c_]at h;rcases h with h|h;exact⟨0,x,rfl,h⟩;have⟨j,u,b,a⟩:=sj h;exact⟨j+1,u,Zac,a⟩
structure Deep(H:bn)(Z:Nat->Prop):Prop where
 row:∀id es ys,Z id->br H id=some (es,ys)->∀c∈ys,∀u∈c,∃x,FR H Z x u
theorem FR.ct(hd:Deep H Z):∀(n:Nat){x y:V},FR H Z x y->∀k∈ct n H y,Z k
 |0,x,y,r,k,d=>by grind[Go.VE.ct]|n+1,x,y,r,k,d=>by
  unfold Go.VE.ct at d;split at d;simp_all;rename_i U;have D:∀(a a':So),dG H Z a a'->k∈c_ (Go.VE.ct n H) a'->Z k:=λa a' h d=>by obtain⟨j,u,e,z⟩:=sj d;have O:j<a.length:=(by rw[h.1];grind);exact FR.ct hd n (h.2 j _ u (ζd O) e) k z
  have row:∀(id:Nat)es w(l:So),Z id->br H id=some (es,w)->(∀u∈l,∃c∈w,u∈c)->k∈c_ (Go.VE.ct n H) l->Z k:=λid es w l B hr J d=>by obtain⟨j,u,e,z⟩:=sj d;obtain⟨c,g,G⟩:=J u (mem_of_getElem? e);obtain⟨x,L⟩:=hd.row id es w B hr c g u G;exact FR.ct hd n L k z
  cases r with
  |same _ h=>grind[V.mB]|fsl es Q id off w B hr J g hv=>simp only[mem_cons]at d;rcases d with rfl|d;exact B;rw[show(H[id]?).bind Ob.rows=some (es,w)from hr]at d;grind[List.mem_flatten]
  |fptr Q id el off es w cs B hr W X L hv=>simp only[mem_cons]at d;rcases d with rfl|d;exact B;rw[show(H[id]?).bind Ob.rows=some (es,w)from hr]at d;grind
  |clo f a b a' S C T hva I=>simp at d;rcases d with d|d;exact D a a' ⟨C,hva⟩ d;exact D b S ⟨T,I⟩ d
  |agg a a' C hva=>exact D a a' ⟨C,hva⟩ d|tup a a' C hva=>exact D a a' ⟨C,hva⟩ d
theorem dG.cut{cs ys r:So}{off n:Nat}(h:dG H Z cs ys)(a:cut cs off n=some r):∃B,Go.VE.cut ys off n=some B/\dG H Z r B:=by unfold Go.VE.cut at a⊢;have u:=(h.drop off).take n;dsimp only at a⊢;split at a;simp at a;subst a;exact⟨_,by rw[if_pos (by rw[<-u.1];omega)],u⟩;grind
theorem dG.mk{agg:X'}{cs ys:So}{x:V}(h:dG H Z cs ys)(B:mk agg cs=some x):∃y,Go.VE.mk agg ys=some y/\FR H Z x y:=by unfold Go.VE.mk at B⊢;split at B;simp at B;subst B;exact⟨_,Zac,.agg _ _ h.1 h.2⟩;split at B;simp at B;obtain⟨y,ys,rfl,a,u⟩:=h.inv;rw[u.dg];grind;grind
theorem dG.fill:∀{pl:aX (Nat×Nat)}{vs B cells cells' r:So},dG H Z cells cells'->dG H Z vs B->mA cells pl vs=some r->∃D,mA cells' pl B=some D/\dG H Z r D
 |[],vs,B,cells,cells',r,hc,hv,h=>by cases vs with|nil=>rw[hv.dg];grind[mA]|cons v vs=>grind[mA]
 |(off,size)::pl,vs,B,cells,cells',r,hc,hv,h=>by cases vs with|nil=>grind[mA]|cons v vs=>obtain⟨w,B,rfl,a,G⟩:=hv.inv;have k:=a.cells;simp only[mA]at h⊢;rw[<-k.1,<-hc.1];split at h;simp_all;rename_i e;rw[if_neg e];exact dG.fill (((hc.take off).append k).append (hc.drop _)) G h
def FR.xd{k:KT}{x y G J:V}{b:X'}(B:FR H Z x G)(D:FR H Z y J)(h:rj k x y=some b):rj k G J=some b:=by unfold rj at h;split at h;rw[B.bO,D.bO];exact h;rw[D.bO];rcases B.oh with rfl|⟨_,_,_,rfl,_⟩<;>exact h;exact absurd B.closed (by simp[V.closed]);rw[B.jk,D.jk];exact h;rw[D.jk];rcases B.om with rfl|⟨_,_,_,_,_,_,rfl,_⟩<;>exact h;exact absurd B.closed (by simp[V.closed]);rw[B.iB,D.iB];exact h;rw[D.iB,B.fmap];exact h;exact absurd B.closed (by simp[V.closed]);grind
theorem FR.mG{a b a' B:So}{r:X'}(D:dG H Z a a')(G:dG H Z b B)(h:mG a b=some r):Go.VE.mG a' B=some r:=by unfold Go.VE.mG at h;split at h;rename_i u v c d;rw[D.scalar.1 (tK c),G.scalar.1 (tK d)];grind[Go.VE.mG];grind
def BY{k:KT}{x y:V}{b:X'}(h:rj k x y=some b):(y=.bO/\(x=.bO\/(∃es xs,x=.fsl es xs)\/∃id es off len,x=.hsl id es off len))\/
 (y=.jk/\(x=.jk\/(∃cs,x=.fptr cs)\/∃id el off,x=.hptr id el off))\/(y=.iB/\(x=.iB\/(∃B,x=.fmap B)\/∃id,x=.hmap id)):=by
 unfold rj at h
 grind
def Kk{k:aY KT}{e:aY Nat}{op:BinOp}{x y:V}(D:(y=.bO/\(x=.bO\/(∃es xs,x=.fsl es xs)\/∃id es off len,x=.hsl id es off len))\/
 (y=.jk/\(x=.jk\/(∃cs,x=.fptr cs)\/∃id el off,x=.hptr id el off))\/(y=.iB/\(x=.iB\/(∃B,x=.fmap B)\/∃id,x=.hmap id))):
 nj k e op x y=(match k,op with
 |some k,.eql=>(rj k x y).map .bool|some k,.neq=>(rj k x y).map λt=>.bool !t|_,_=>none):=by
 rcases D with⟨rfl,rfl|⟨_,_,rfl⟩|⟨_,_,_,_,rfl⟩⟩|⟨rfl,rfl|⟨_,rfl⟩|⟨_,_,_,rfl⟩⟩|⟨rfl,rfl|⟨_,rfl⟩|⟨_,rfl⟩⟩<;>cases k<;>cases op<;>rfl
def M5{k:aY KT}{e:aY Nat}{op:BinOp}{x y z:V}(h:nj k e op x y=some z):z.good=true:=by
 have w:∀{o:aY X'}{z:V},o.map V.bool=some z->z.good=true:=λh=>by obtain⟨_,_,rfl⟩:=ζf.1 h;rfl
 have u:∀{o:aY X'}{z:V},(o.map λt=>V.bool !t)=some z->z.good=true:=λh=>by obtain⟨_,_,rfl⟩:=ζf.1 h;rfl
 unfold nj at h;(repeat' split at h)<;>first|(simp at h;subst h;rfl)|exact w h|exact u h|simp at h
def FR.bin{k:aY KT}{e:aY Nat}{op:BinOp}{x y G J z:V}(B:FR H Z x G)(D:FR H Z y J)(h:nj k e op x y=some z):nj k e op G J=some z:=by
 have b:=h;unfold nj at h;split at h;rw[B.int,D.int];omega;rw[B.str,D.str];omega;rw[B.bool,D.bool];omega;obtain⟨L,rfl,w⟩:=B.jO;obtain⟨O,rfl,I⟩:=D.jO;split at h;split at h;next C=>obtain⟨r,a,rfl⟩:=ζf.1 h;simp[nj,<-w.1,C,FR.mG w I a]
 grind;split at h;next C=>obtain⟨r,a,rfl⟩:=ζf.1 h;simp[nj,<-w.1,C,FR.mG w I a]
 grind;grind;split at h;obtain⟨r,a,rfl⟩:=ζf.1 h;have u:=FR.xd B D a;rw[Kk (BY u)];grind;obtain⟨r,a,rfl⟩:=ζf.1 h;have u:=FR.xd B D a;rw[Kk (BY u)];grind;grind
def FR.slice{size:Nat}{x J z:V}{l h:Ps}(D:FR H Z x J)(B:jA size x l h=some z):∃U,jA size J l h=some U/\FR H Z z U:=by
 have C:∀{n a b:Nat},ez n l h=some (a,b)->b<=n/\a<=b:=by grind[ez]
 unfold jA at B;split at B;rename_i es I;split at B;rename_i Q;obtain⟨⟨a,b⟩,G,rfl⟩:=ζf.1 B;have⟨S,T⟩:=C G;rcases D.oh with rfl|⟨id,off,W,rfl,L,hr,X,O⟩;refine⟨_,by grind[jA],.same _ ?_⟩;have d:=D.good;refine mE.2 λj u c=>?_;rw[getElem?_drop,getElem?_take]at c;split at c;exact mE.1 d _ u c;grind;refine⟨.hsl id es (off+a) (b-a),by grind[jA],?_⟩;have w:((I.take b).drop a).length=b-a:=Zad;rw[<-w];refine FR.OM L hr Zac ?_;have:=(O.take b).drop a;grind[List.drop_take,drop_drop];grind;exact absurd D.closed (by simp[V.closed]);rw[D.dQ];obtain⟨_,G,rfl⟩:=ζf.1 B;exact⟨.dQ,by grind[jA],.same _ rfl⟩;rw[D.bO];obtain⟨_,G,rfl⟩:=ζf.1 B;exact⟨.bO,by grind[jA],.same _ rfl⟩;grind
def dG.ot{b c:X'}{G D:So}{r:Ps×Ps}(h:dG H Z G D)(B:ot b c G=some r):Go.VE.ot b c D=some r:=by unfold Go.VE.ot at B;split at B;rw[h.dg];exact B;obtain⟨_,_,rfl,a,u⟩:=h.inv;rw[a.int,u.dg];exact B;obtain⟨_,_,rfl,a,u⟩:=h.inv;rw[a.int,u.dg];exact B;obtain⟨_,_,rfl,a,u⟩:=h.inv;obtain⟨_,_,rfl,w,z⟩:=u.inv;rw[a.int,w.int,z.dg];exact B;grind
def dG.bN{N:Nat->Y'}{p:xe}{xs ys:So}{z:V}(W:∀zero pl,p=.build zero pl->V.cH zero=true)(h:dG H Z xs ys)(hp:bN N p xs=some z):∃J,Go.VE.bN N p ys=some J/\FR H Z z J:=by
 unfold Go.VE.bN at hp;split at hp;obtain⟨y,_,rfl,f,w⟩:=h.inv;rw[w.dg];simp only[ζa]at hp;subst hp;exact⟨y,rfl,f⟩;rename_i t a b;obtain⟨w1,_,rfl,f,w⟩:=h.inv;obtain⟨M,_,rfl,C,B⟩:=w.inv;obtain⟨P,_,rfl,T,O⟩:=B.inv;rw[f.bool,O.dg];simp only[ζa]at hp;subst hp;refine⟨if t=true then M else P,rfl,?_⟩;grind;obtain⟨y,_,rfl,f,w⟩:=h.inv;rw[w.dg];unfold O5 at hp;split at hp;exact absurd f.closed (by simp[V.closed]);simp only[ζa]at hp;subst hp;rcases f.om with rfl|⟨_,_,_,_,_,_,rfl,_⟩;exact⟨_,rfl,f⟩;exact⟨_,rfl,f⟩;simp only[ζa]at hp;subst hp;obtain⟨_,_,rfl,_⟩:=f.lT;exact⟨_,rfl,f⟩;simp at hp;obtain⟨_,_,rfl,f,w⟩:=h.inv;obtain⟨_,_,rfl,C,B⟩:=w.inv;rw[B.dg];exact⟨z,FR.bin f C hp,.same _ (M5 hp)⟩;obtain⟨_,_,rfl,f,w⟩:=h.inv;rw[f.bool,w.dg];simp only[ζa]at hp;subst hp;exact⟨_,rfl,.same _ rfl⟩;obtain⟨_,_,rfl,f,w⟩:=h.inv;rw[f.int,w.dg];simp only[ζa]at hp;subst hp;exact⟨_,rfl,.same _ rfl⟩;obtain⟨_,_,rfl,f,w⟩:=h.inv;rw[f.int,w.dg];simp only[ζa]at hp;subst hp;exact⟨_,rfl,.same _ rfl⟩;rename_i off p;obtain⟨y,_,rfl,f,w⟩:=h.inv;rw[w.dg];unfold nD at hp;split at hp;split at hp;rename_i cs R;simp only[ζa]at hp;subst hp;rcases f.om with rfl|⟨id,el,o,es,ys,ds,rfl,Q,m,U,X,L⟩;have q:=f.good;simp only[V.good]at q;exact⟨_,by grind[Go.VE.bN,nD],.same _ (by grind[V.good,A3])⟩;refine⟨.hptr id el (o+off),rfl,FR.FW Q m U (by have:=L.1;grind) ?_⟩;have:=L.drop off;rw[drop_drop]at this;exact this;simp at hp;exact absurd f.closed (by simp[V.closed]);simp at hp;rename_i off size agg cs;obtain⟨y,_,rfl,f,w⟩:=h.inv;rw[w.dg];obtain⟨Y,rfl,g⟩:=f.jO;obtain⟨r,m,x⟩:=ζg.1 hp;obtain⟨A,S,D⟩:=g.cut m;obtain⟨J,G,I⟩:=D.mk x;grind[Go.VE.bN];rename_i size s k n;obtain⟨y,_,rfl,f,w⟩:=h.inv;obtain⟨_,_,rfl,C,B⟩:=w.inv;rw[C.int,B.dg];unfold nJ at hp;split at hp;simp at hp;rename_i E;split at hp;rename_i es xs;split at hp;rename_i U;obtain⟨c,g,rfl⟩:=ζf.1 hp;rcases f.oh with rfl|⟨id,off,ys,rfl,Q,m,hl,L⟩;have q:=f.good;simp only[V.good]at q;exact⟨_,by grind[Go.VE.bN,nJ],.same _ (by grind[V.good,mE])⟩;have hj:n.toNat<xs.length:=(ζe.1 g).1;obtain⟨d,hd,ab⟩:=L.get g;rw[getElem?_take,if_pos hj,getElem?_drop]at hd;exact⟨.hptr id (off+n.toNat) 0,by grind[Go.VE.bN,nJ],FR.FW Q m hd Zab Zac⟩;simp at hp;exact absurd f.closed (by simp[V.closed]);simp at hp;rename_i len size s k n;obtain⟨y,_,rfl,f,w⟩:=h.inv;obtain⟨_,_,rfl,C,B⟩:=w.inv;rw[C.int,B.dg];unfold zI at hp;split at hp;rename_i E;split at hp;split at hp;rename_i cs R;simp only[ζa]at hp;subst hp;rcases f.om with rfl|⟨id,el,o,es,ys,ds,rfl,Q,m,U,X,L⟩;have q:=f.good;simp only[V.good]at q;exact⟨_,by grind[Go.VE.bN,zI],.same _ (by grind[V.good,A3])⟩;refine⟨.hptr id el (o+n.toNat*size),by grind[Go.VE.bN,zI],FR.FW Q m U (by have:=L.1;grind) ?_⟩;have:=L.drop (n.toNat*size);rw[drop_drop]at this;exact this;simp at hp;exact absurd f.closed (by simp[V.closed]);simp at hp;simp at hp;rename_i s k n;obtain⟨y,_,rfl,f,w⟩:=h.inv;obtain⟨_,_,rfl,C,B⟩:=w.inv;rw[f.str,C.int,B.dg];split at hp;next E=>obtain⟨c,g,rfl⟩:=ζf.1 hp;exact⟨_,by grind[Go.VE.bN],.same _ rfl⟩
 simp at hp;rename_i len size agg cs k n;obtain⟨y,_,rfl,f,w⟩:=h.inv;obtain⟨_,_,rfl,C,B⟩:=w.inv;rw[C.int,B.dg];obtain⟨Y,rfl,g⟩:=f.jO;split at hp;rename_i E;obtain⟨r,m,x⟩:=ζg.1 hp;obtain⟨A,S,D⟩:=g.cut m;obtain⟨J,G,I⟩:=D.mk x;grind[Go.VE.bN];simp at hp;rename_i lo hi s bs;obtain⟨y,_,rfl,f,w⟩:=h.inv;rw[f.str];obtain⟨⟨l,h'⟩,F,hp⟩:=ζg.1 hp;obtain⟨⟨l2,ad⟩,aa,rfl⟩:=ζf.1 hp;exact⟨_,by simp only[Go.VE.bN,w.ot F,ζb,aa,map_some],.same _ rfl⟩;rename_i size lo hi s bs;obtain⟨y,_,rfl,f,w⟩:=h.inv;obtain⟨⟨l,h'⟩,F,hp⟩:=ζg.1 hp;obtain⟨J,G,I⟩:=FR.slice f hp;exact⟨J,by simp only[Go.VE.bN,w.ot F,ζb,G],I⟩;obtain⟨y,_,rfl,f,w⟩:=h.inv;obtain⟨_,_,rfl,C,B⟩:=w.inv;obtain⟨_,_,rfl,T,O⟩:=B.inv;rw[C.int,T.int,O.dg];split at hp;rename_i g;simp only[ζa]at hp;subst hp;refine⟨.dQ,?_,.same _ rfl⟩;simp only[ζh]at g;have:Ol y=true:=by have K:=g.1.1;unfold Ol at K;split at K;rcases f.oh with rfl|⟨_,_,_,rfl,_⟩<;>rfl;exact absurd f.closed (by simp[V.closed]);rw[f.dQ];rfl;rw[f.bO];rfl;simp at K
 grind[Go.VE.bN];simp at hp;rename_i vs zero pl;obtain⟨r,m,rfl⟩:=ζf.1 hp;obtain⟨A,S,D⟩:=dG.fill (dG.same (W zero pl rfl)) h m;exact⟨.agg A,by grind[Go.VE.bN],.agg _ _ D.1 D.2⟩;rename_i vs name k;simp only[ζa]at hp;subst hp;exact⟨_,rfl,.clo _ _ _ _ _ (h.take k).1 (h.drop k).1 (h.take k).2 (h.drop k).2⟩;rename_i i vs;obtain⟨y,_,rfl,f,w⟩:=h.inv;rw[w.dg];obtain⟨ws,rfl,hw⟩:=f.sU;obtain⟨J,G,I⟩:=hw.get hp;exact⟨J,G,I⟩;obtain⟨y,_,rfl,f,w⟩:=h.inv;rw[f.str,w.dg];simp only[ζa]at hp;subst hp;exact⟨_,rfl,.same _ rfl⟩;obtain⟨y,_,rfl,f,w⟩:=h.inv;rw[w.dg];unfold oZ at hp;split at hp;simp only[ζa]at hp;subst hp;rcases f.oh with rfl|⟨_,_,_,rfl,_⟩<;>exact⟨_,rfl,.same _ rfl⟩;exact absurd f.closed (by simp[V.closed]);rw[f.dQ];simp only[ζa]at hp;subst hp;exact⟨_,rfl,.same _ rfl⟩;rw[f.bO];simp only[ζa]at hp;subst hp;exact⟨_,rfl,.same _ rfl⟩;simp at hp;obtain⟨y,_,rfl,f,w⟩:=h.inv;rw[w.dg];unfold KI at hp;split at hp;rw[f.bO];simp only[ζa]at hp;subst hp;exact⟨_,rfl,.same _ rfl⟩;rw[f.dQ];simp only[ζa]at hp;subst hp;exact⟨_,rfl,.same _ rfl⟩;simp at hp;obtain⟨_,_,rfl,f,w⟩:=h.inv;obtain⟨_,_,rfl,C,B⟩:=w.inv;rw[f.int,C.int,B.dg];split at hp;next e=>simp only[ζa]at hp;subst hp;exact⟨_,by grind[Go.VE.bN],.same _ rfl⟩
 simp at hp;obtain⟨_,_,rfl,f,w⟩:=h.inv;obtain⟨_,_,rfl,C,B⟩:=w.inv;obtain⟨_,_,rfl,T,O⟩:=B.inv;obtain⟨_,_,rfl,h7,h8⟩:=O.inv;rw[f.int,C.int,T.int,h7.int,h8.dg];split at hp;next e=>simp only[ζa]at hp;subst hp;exact⟨_,by grind[Go.VE.bN],.same _ rfl⟩
 simp at hp;obtain⟨_,_,rfl,f,w⟩:=h.inv;obtain⟨_,_,rfl,C,B⟩:=w.inv;rw[f.int,C.int,B.dg];split at hp;next e=>simp only[ζa]at hp;subst hp;exact⟨_,by grind[Go.VE.bN],.same _ rfl⟩
 simp at hp;obtain⟨_,_,rfl,f,w⟩:=h.inv;obtain⟨_,_,rfl,C,B⟩:=w.inv;rw[f.int,C.int,B.dg];split at hp;rename_i e;simp only[ζa]at hp;subst hp;refine⟨_,by grind[Go.VE.bN],.same _ ?_⟩;grind[V.good,mE,jc,lB];simp at hp;split at hp;rename_i g;obtain rfl:=h.scalar.1 g.1;split at hp;rename_i xs ae;split at hp;rename_i hx;simp only[ζa]at hp;subst hp;refine⟨_,by grind[Go.VE.bN],.same _ ?_⟩;simp only[V.good];exact mE.2 λj u hu=>jc.2 λi v hv=>lB (all_eq_true.1 (all_eq_true.1 hx.2 u (mem_of_getElem? hu)) v (mem_of_getElem? hv));simp at hp;simp at hp;simp at hp;simp only[ζa]at hp;subst hp;rw[h.dg];exact⟨_,rfl,.same _ rfl⟩;simp at hp
end
def uL(p:Nat×Nat)(k:Fl)(es len:Nat):V:=
 match k with
 |.nil=>.bO|.emp=>.dQ|_=>.hsl p.1 es p.2 len
abbrev Nu:=Nat->Nat×Nat
inductive dy(ν:Nu)(m:Tb bJ)(H:bn)(Z:Nat->Prop):SV->V->Prop
 |v(x y:V)(h:FR H Z x y):dy ν m H Z (.v x) y|own(d:Nat)(y:V)(h:∀ob,bl m d=some ob->∃k es xs,ob=.sl k es xs/\y=uL (ν d) k es xs.length):dy ν m H Z (.own d) y|ptr(d o:Nat)(y:V)(h:∀ob,bl m d=some ob->∃cs,ob=.box cs/\y=.hptr (ν d).1 0 o):dy ν m H Z (.ptr d o) y|el(d i o:Nat)(y:V)(h:∀ob,bl m d=some ob->∃k es xs,ob=.sl k es xs/\cR k=true/\y=.hptr (ν d).1 ((ν d).2+i) o):dy ν m H Z (.el d i o) y|mp(d:Nat)(y:V)(h:∀ob,bl m d=some ob->∃kvs,ob=.mp kvs/\y=.hmap (ν d).1):dy ν m H Z (.mp d) y|clo(f:FuncId)(a b:List SV)(a' b':List V)(ha:a.length=a'.length)(hb:b.length=b'.length)
  (hva:∀(j:Nat)u v,a[j]?=some u->a'[j]?=some v->dy ν m H Z u v) (hvb:∀(j:Nat)u v,b[j]?=some u->b'[j]?=some v->dy ν m H Z u v):dy ν m H Z (.clo f a b) (.clo f a' b')
 |tup(a:List SV)(a':List V)(ha:a.length=a'.length)(hva:∀(j:Nat)u v,a[j]?=some u->a'[j]?=some v->dy ν m H Z u v):dy ν m H Z (.tup a) (.tup a')|agg(a:List SV)(a':List V)(ha:a.length=a'.length)(hva:∀(j:Nat)u v,a[j]?=some u->a'[j]?=some v->dy ν m H Z u v):dy ν m H Z (.agg a) (.agg a')|yl(id:Nat):dy ν m H Z (.yl id) (.yld id)
def cn(ν:Nu)(m:Tb bJ)(H:bn)(Z:Nat->Prop)(xs:SW)(ys:So):Prop:=xs.length=ys.length/\∀(j:Nat)u v,xs[j]?=some u->ys[j]?=some v->dy ν m H Z u v
def cF:bJ->X'
 |.sl k _ _=>cR k|_=>true
def gy(ν:Nu)(m:Tb bJ)(id:Nat):Prop:=∃d ob,bl m d=some ob/\cF ob=true/\(ν d).1=id
def xQ(H:bn)(Z:Nat->Prop)(ys:S'):Prop:=∀c∈ys,∀u∈c,∃x,FR H Z x u
def Gp(H:bn)(Z:Nat->Prop)(a b:aX (V×V)):Prop:=a.length=b.length/\∀(j:Nat)u v,a[j]?=some u->b[j]?=some v->(u.1=v.1/\u.1.scalar=true)/\FR H Z u.2 v.2
def eC(ν:Nu)(m:Tb bJ)(H:bn)(Z:Nat->Prop)(d:Nat):bJ->Prop
 |.sl k es xs=>if cR k then∃ys,H[(ν d).1]?=some (.row es ys)/\(ν d).2+xs.length<=ys.length/\iz H Z xs ((ys.drop (ν d).2).take xs.length)/\xQ H Z ys/\(k=.row->(ν d).2=0/\ys.length=xs.length)
  else xs=[]
 |.box cs=>∃es D,H[(ν d).1]?=some (.row es [D])/\cn ν m H Z cs D/\D.all V.one=true|.mp G=>∃B,H[(ν d).1]?=some (.map B)/\Gp H Z G B
structure R(ν:Nu)(Z:Nat->Prop)(st:St)(F:Frame)(H:bn):Prop where
 slot:∀s sv,bl st.g s=some sv->dy ν st.m H Z sv (get F s)
 obj:∀d ob,bl st.m d=some ob->eC ν st.m H Z d ob
 inj:∀d d' ob ob',bl st.m d=some ob->bl st.m d'=some ob'->cF ob=true->cF ob'=true->(ν d).1=(ν d').1->d=d'
 apart:∀d ob,bl st.m d=some ob->cF ob=true->¬Z (ν d).1
 zrow:∀id,Z id->(br H id).isSome=true
 deep:Deep H Z
def sameShape:bJ->bJ->Prop
 |.sl k es xs,.sl G B D=>G=k/\B=es/\D.length=xs.length|.box _,.box _=>True|.mp _,.mp _=>True|_,_=>False
def sameShape.refl(o:bJ):sameShape o o:=by cases o<;>simp[sameShape]
def sameShape.trans{a b c:bJ}(h:sameShape a b)(k:sameShape b c):sameShape a c:=by cases a<;>cases b<;>cases c<;>simp[sameShape]at*<;>simp_all
structure Ev(Rv:Nat->Prop)(ν:Nu)(Z:Nat->Prop)(st:St)(H:bn)(ν':Nu)(Z':Nat->Prop)(st':St)(H':bn):Prop where
 len:H.length<=H'.length
 same:∀id,id<H.length->¬gy ν st.m id->¬Z id->¬Rv id->H'[id]?=H[id]?
 rows:∀id,Z id->Z' id/\br H' id=br H id
 own:∀id,gy ν' st'.m id->gy ν st.m id\/Rv id\/H.length<=id
 frz:∀id,Z' id->Z id\/gy ν st.m id\/Rv id\/H.length<=id
 pin:∀d∈st.pin,∀ob',bl st'.m d=some ob'->∃ob,bl st.m d=some ob/\ν' d=ν d/\sameShape ob ob'
 pins:st'.pin=st.pin
section
variable{Rv Rv':Nat->Prop}{ν ν' ν2:Nu}{Z Z' Z2:Nat->Prop}{st st' st2:St}{m m':Tb bJ}{F F':WP}{H H' H2:bn}
def Ev.refl:Ev Rv ν Z st H ν Z st H:=⟨le_refl _,λ_ _ _ _ _=>rfl,λ_ h=>⟨h,rfl⟩,λ_ h=>.inl h,λ_ h=>.inl h,λ_ _ u h=>⟨u,h,rfl,.refl _⟩,rfl⟩
def Ev.trans(a:Ev Rv ν Z st H ν' Z' st' H')(b:Ev Rv ν' Z' st' H' ν2 Z2 st2 H2):Ev Rv ν Z st H ν2 Z2 st2 H2 where
 len:=le_trans a.len b.len
 same:=λid B u C hr=>by rw[b.same id (Nat.lt_of_lt_of_le B a.len) (λh=>(a.own id h).elim u λh=>h.elim hr λh=>Zaa) (λh=>(a.frz id h).elim C λh=>h.elim u λh=>h.elim hr λh=>Zaa) hr,a.same id B u C hr]
 rows:=λid h=>⟨(b.rows id (a.rows id h).1).1,by rw[(b.rows id (a.rows id h).1).2,(a.rows id h).2]⟩
 own:=λid h=>by rcases b.own id h with h|h|h;exact a.own id h;grind;exact .inr (.inr (le_trans a.len h))
 frz:=λid h=>by rcases b.frz id h with h|h|h|h;exact a.frz id h;rcases a.own id h with h|h|h;grind;grind;grind;grind;exact .inr (.inr (.inr (le_trans a.len h)))
 pin:=λd hd w h=>by have⟨z,c,G,D⟩:=b.pin d (by rw[a.pins];omega) w h;have⟨ob,k1,k2,k3⟩:=a.pin d hd z c;exact⟨ob,k1,Zad,k3.trans D⟩
 pins:=by rw[b.pins,a.pins]
def Ev.weak(h:∀id,Rv id->Rv' id)(a:Ev Rv ν Z st H ν' Z' st' H'):Ev Rv' ν Z st H ν' Z' st' H':=⟨a.len,λid u w z hr=>a.same id u w z (λk=>hr (h id k)),a.rows,λid k=>(a.own id k).imp (λx=>x) (.imp (h id) (λx=>x)),λid k=>(a.frz id k).imp (λx=>x) (.imp (λx=>x) (.imp (h id) (λx=>x))),a.pin,a.pins⟩
theorem cM{α:Type}:∀(g:Tb α)(n:Nat)(v:α),bl (bM g n v) n=some v
 |[],n,v=>by simp[bM,bl]|(k,x)::r,n,v=>by simp[bM];split;(next h=>simp[bl,h]);rename_i h;simp[bl,h,cM r n v]
def ec{α:Type}:∀(g:Tb α){n k:Nat}(v:α),n≠k->bl (bM g n v) k=bl g k
 |[],n,k,v,h=>by simp[bM,bl,h]|(j,x)::r,n,k,v,h=>by simp[bM];split;(next a=>subst a;simp[bl,h]);simp[bl];split;rfl;exact ec r v h
def sD{α:Type}:∀{g:Tb α}{n:Nat}{v:α},bl g n=some v->bM g n v=g
 |[],n,v,h=>by cases h|(k,x)::r,n,v,h=>by simp[bl]at h;simp[bM];split;grind;rename_i e;rw[if_neg e]at h;rw[sD h]
def zf{α:Type}:∀(g:Tb α)(n:Nat),bl (eF n g) n=none
 |[],n=>rfl|(k,x)::r,n=>by simp[eF];split;exact zf r n;rename_i a;simp[bl];rw[if_neg a];exact zf r n
def yS{α:Type}:∀(g:Tb α){n k:Nat},n≠k->bl (eF n g) k=bl g k
 |[],n,k,h=>rfl|(j,x)::r,n,k,h=>by simp[eF];split;(next a=>subst a;simp[bl];rw[if_neg h];exact yS r h);simp[bl];split;rfl;exact yS r h
theorem qC{α:Type}{g:Tb α}{n k:Nat}{v:α}(h:bl (eF n g) k=some v):n≠k/\bl g k=some v:=by by_cases e:n=k;subst e;rw[zf]at h;simp_all;rw[yS g e]at h;grind
def qD{α:Type}{k:Nat}{v:α}:∀{ds:ST}{g:Tb α},bl (pW ds g) k=some v->bl g k=some v
 |[],_,h=>h|d::ds,g,h=>(qC (qD h)).2
def sW{α:Type}{g:Tb α}{k:Nat}{v:α}:∀{l:ST}{r:Tb α},lN g l=some r->bl r k=some v->bl g k=some v
 |[],r,h,B=>by simp[lN]at h;subst h;simp[bl]at B|n::l,r,h,B=>by simp[lN]at h;split at h;rename_i w t G D;simp at h;subst h;simp[bl]at B;split at B;grind;exact sW D B;grind
def A4{d:Nat}:∀{g:Tb SV}{s:Nat}{sv:SV},xO d g=false->bl g s=some sv->sv.c8 d=false
 |[],_,_,_,h=>by simp[bl]at h|(k,x)::r,s,sv,h,B=>by simp[xO]at h;simp[bl]at B;split at B;grind;exact A4 h.2 B
def Bg{d:Nat}:∀{g:Tb bJ}{s:Nat}{ob:bJ},uV d g=false->bl g s=some ob->ob.c8 d=false
 |[],_,_,_,h=>by simp[bl]at h|(k,x)::r,s,sv,h,B=>by simp[uV]at h;simp[bl]at B;split at B;grind;exact Bg h.2 B
theorem v_{d:Nat}:∀{l:SW}{j:Nat}{u:SV},SV.dN d l=false->l[j]?=some u->u.c8 d=false
 |[],_,_,_,h=>Zad|x::r,j,u,h,B=>by simp[SV.dN]at h;cases j with|zero=>grind|succ j=>exact v_ h.2 (by simpa using B)
def uF{d:Nat}:∀{l:SW}{j:Nat}{u:SV},l[j]?=some u->u.c8 d=true->SV.dN d l=true
 |[],_,_,h,_=>Zad|x::r,j,u,h,B=>by simp[SV.dN];cases j with|zero=>grind|succ j=>exact .inr (uF (j:=j) Zac B)
def dy.mono{sv:SV}{y:V}(U:∀id,Z id->Z' id/\br H' id=br H id)
 (r:dy ν m H Z sv y)(B:∀d,sv.c8 d=true->∀ob',bl m' d=some ob'->∃ob,bl m d=some ob/\ν' d=ν d/\sameShape ob ob'):dy ν' m' H' Z' sv y:=by
 induction r with
 |v x y h=>exact .v x y (h.mono U)|own d y h=>
  refine .own d y λob' z=>?_
  have⟨ob,e,I,C⟩:=B d (by simp[SV.c8]) ob' z
  obtain⟨k,es,L,rfl,rfl⟩:=h ob e;cases ob'<;>simp[sameShape]at C
  grind
 |ptr d o y h=>
  refine .ptr d o y λob' z=>?_
  have⟨ob,e,I,C⟩:=B d (by simp[SV.c8]) ob' z
  obtain⟨cs,rfl,rfl⟩:=h ob e;cases ob'<;>simp[sameShape]at C
  grind
 |el d i o y h=>
  refine .el d i o y λob' z=>?_
  have⟨ob,e,I,C⟩:=B d (by simp[SV.c8]) ob' z
  obtain⟨k,es,L,rfl,T,rfl⟩:=h ob e;cases ob'<;>simp[sameShape]at C
  grind
 |mp d y h=>
  refine .mp d y λob' z=>?_
  have⟨ob,e,I,C⟩:=B d (by simp[SV.c8]) ob' z
  obtain⟨cs,rfl,rfl⟩:=h ob e;cases ob'<;>simp[sameShape]at C
  grind
 |clo f a b D O G Q hva S w J=>exact .clo f a b D O G Q (λj u v c g=>w j u v c g λd hd=>B d (by simp[SV.c8,uF c hd])) (λj u v c g=>J j u v c g λd hd=>B d (by simp[SV.c8,uF c hd]))|tup a D G hva w=>exact .tup a D G (λj u v c g=>w j u v c g λd hd=>B d (by simp[SV.c8,uF c hd]))|agg a D G hva w=>exact .agg a D G (λj u v c g=>w j u v c g λd hd=>B d (by simp[SV.c8,uF c hd]))|yl id=>exact .yl id
def cn.mono{sv:SW}{y:So}(B:∀id,Z id->Z' id/\br H' id=br H id)(r:cn ν m H Z sv y)(D:∀d,SV.dN d sv=true->∀ob',bl m' d=some ob'->∃ob,bl m d=some ob/\ν' d=ν d/\sameShape ob ob'):cn ν' m' H' Z' sv y:=⟨r.1,λj u v a b=>(r.2 j u v a b).mono B λd hd=>D d (uF a hd)⟩
def cn.nil:cn ν m H Z [] []:=⟨rfl,Zab⟩
def cn.cons{x:SV}{y:V}{xs:SW}{ys:So}(h:dy ν m H Z x y)(r:cn ν m H Z xs ys):cn ν m H Z (x::xs) (y::ys):=by refine⟨by simp[r.1],λj u v a b=>?_⟩;cases j with|zero=>grind|succ j=>exact r.2 j u v Zac Zac
def cn.inv{x:SV}{xs:SW}{B:So}(r:cn ν m H Z (x::xs) B):∃y ys,B=y::ys/\dy ν m H Z x y/\cn ν m H Z xs ys:=by cases B with|nil=>have:=r.1;grind|cons y ys=>refine⟨y,ys,rfl,r.2 0 x y rfl rfl,by have:=r.1;grind,λj u v a b=>r.2 (j+1) u v Zac Zac⟩
def cn.dg{B:So}(r:cn ν m H Z [] B):B=[]:=by have:=r.1;grind
theorem cn.get{xs:SW}{ys:So}(r:cn ν m H Z xs ys){j:Nat}{u:SV}(h:xs[j]?=some u):∃v,ys[j]?=some v/\dy ν m H Z u v:=by
 have w:=(ζe.1 h).1;have:j<ys.length:=by rw[<-r.1];omega
 exact⟨ys[j],ζd this,r.2 j u _ h (ζd this)⟩
def cn.append{a c:SW}{b d:So}(h:cn ν m H Z a b)(k:cn ν m H Z c d):cn ν m H Z (a++c) (b++d):=by refine⟨by simp[h.1,k.1],λj u v e f=>?_⟩;by_cases w:j<a.length;rw[getElem?_append_left w]at e;rw[getElem?_append_left (by rw[<-h.1];omega)]at f;exact h.2 j u v e f;rw[getElem?_append_right Zaa]at e;rw[getElem?_append_right (by rw[<-h.1];omega),<-h.1]at f;exact k.2 _ u v e f
def cn.take{a:SW}{b:So}(h:cn ν m H Z a b)(n:Nat):cn ν m H Z (a.take n) (b.take n):=by
 refine⟨by simp[h.1],λj u v c d=>?_⟩;rw[getElem?_take]at c d;split at c;next w=>rw[if_pos w]at d;exact h.2 j u v c d
 grind
def cn.drop{a:SW}{b:So}(h:cn ν m H Z a b)(n:Nat):cn ν m H Z (a.drop n) (b.drop n):=by refine⟨by simp[h.1],λj u v c d=>?_⟩;rw[getElem?_drop]at c d;exact h.2 _ u v c d
theorem dy.fr{x y:V}(r:dy ν m H Z (.v x) y):FR H Z x y:=by cases r;assumption
def cn.tU{xs ys:So}(r:dG H Z xs ys):cn ν m H Z (xs.map .v) ys:=by refine⟨by simp[r.1],λj u v a b=>?_⟩;rw[List.getElem?_map,ζf]at a;obtain⟨x,w,rfl⟩:=a;exact .v x v (r.2 j x v w b)
def wZ:∀{svs:SW}{xs:So},dz svs=some xs->svs=xs.map .v
 |[],xs,h=>by simp[dz]at h;grind|x::r,xs,h=>by(cases x<;>simp only[dz]at h<;>first|grind|skip);obtain⟨t,B,rfl⟩:=ζf.1 h;rw[wZ B];rfl
def cn.frl{xs ys:So}(r:cn ν m H Z (xs.map .v) ys):dG H Z xs ys:=by refine⟨by have:=r.1;grind,λj u v b a=>?_⟩;have:(xs.map SV.v)[j]?=some (.v u):=Zac;exact(r.2 j _ v this a).fr
end
section
variable{ν:Nu}{Z:Nat->Prop}{st:St}{m:Tb bJ}{F:WP}{H H1:bn}{N:Nat->Y'}
def rC(nm:Y'->aY Nat):UV->aY Arg
 |.tmp t=>some (.s t)|.const v=>match ofValue 4 v with
  |some c=>if c.good then some (.k c)else none|none=>none
 |.func f=>(nm f).map .f|.global g=>match bX.gl g with
  |some cs=>if(V.fptr cs).good then some (.k (.fptr cs))else none|none=>none
def Hr{nm:Y'->aY Nat}(D:∀f s,nm f=some s->N s=f){g:Tb SV}(G:∀s sv,bl g s=some sv->dy ν m H Z sv (get F s)){o:UV}{x:Arg}{sv:SV}(B:rC nm o=some x)(a:tv N g x=some sv):
 ∃y,ev F o=some y/\dy ν m H Z sv y:=by
 cases o with
 |tmp t=>simp[rC]at B;subst B;exact⟨get F t,rfl,G t sv a⟩|const w=>
  simp[rC]at B;split at B
  .rename_i c hc;split at B
   next u=>simp at B;subst B;simp[tv]at a;subst a;exact⟨c,hc,.v _ _ (.same _ u)⟩
   grind
  grind
 |func f=>simp[rC]at B;obtain⟨z,C,rfl⟩:=B;simp[tv]at a;subst a;exact⟨_,rfl,.v _ _ (by rw[D f z C];exact .same _ rfl)⟩|global i=>
  simp[rC]at B;split at B
  .rename_i c hc;split at B
   next u=>simp at B;subst B;simp[tv]at a;subst a;exact⟨.fptr c,by simp[ev,hc],.v _ _ (.same _ u)⟩
   grind
  grind
def qO{nm:Y'->aY Nat}(D:∀f s,nm f=some s->N s=f){g:Tb SV}(G:∀s sv,bl g s=some sv->dy ν m H Z sv (get F s)):∀{os:aX UV}{xs:QR}{svs:SW},
 os.mapM (rC nm)=some xs->bW N g xs=some svs->∃ys,f_ F os=some ys/\cn ν m H Z svs ys
 |[],xs,svs,B,hv=>by simp at B;subst B;simp[bW]at hv;subst hv;exact⟨[],rfl,.nil⟩|o::os,xs,svs,B,hv=>by simp[ζg]at B;obtain⟨x,J,ys,U,rfl⟩:=B;simp[bW]at hv;split at hv;(next v C b w=>simp at hv;subst hv;have⟨a,B,z⟩:=Hr D G J b;have⟨az,c,u⟩:=qO D G U w;exact⟨a::az,by grind[f_],.cons z u⟩);grind
def dy.lV{d:Nat}{y:V}(r:dy ν m H Z (.own d) y){ob:bJ}(h:bl m d=some ob):∃k es xs,ob=.sl k es xs/\y=uL (ν d) k es xs.length:=by cases r with|own _ _ u=>grind
def dy.ru{d o:Nat}{y:V}(r:dy ν m H Z (.ptr d o) y){ob:bJ}(h:bl m d=some ob):∃cs,ob=.box cs/\y=.hptr (ν d).1 0 o:=by cases r with|ptr _ _ _ u=>grind
def dy.Az{d i o:Nat}{y:V}(r:dy ν m H Z (.el d i o) y){ob:bJ}(h:bl m d=some ob):∃k es xs,ob=.sl k es xs/\cR k=true/\y=.hptr (ν d).1 ((ν d).2+i) o:=by cases r with|el _ _ _ _ u=>grind
def dy.FO{d:Nat}{y:V}(r:dy ν m H Z (.mp d) y){ob:bJ}(h:bl m d=some ob):∃B,ob=.mp B/\y=.hmap (ν d).1:=by cases r with|mp _ _ u=>grind
def dy.lT{f:Y'}{a b:SW}{y:V}(r:dy ν m H Z (.clo f a b) y):∃a' B,y=.clo f a' B/\cn ν m H Z a a'/\cn ν m H Z b B:=by cases r with|clo _ _ _ a' B w z hva u=>exact⟨a',B,rfl,⟨w,hva⟩,⟨z,u⟩⟩
def dy.sU{a:SW}{y:V}(r:dy ν m H Z (.tup a) y):∃a',y=.tup a'/\cn ν m H Z a a':=by cases r with|tup _ a' u hva=>exact⟨a',rfl,u,hva⟩
def dy.jO{a:SW}{y:V}(r:dy ν m H Z (.agg a) y):∃a',y=.agg a'/\cn ν m H Z a a':=by cases r with|agg _ a' u hva=>exact⟨a',rfl,u,hva⟩
def uv{p:Nat×Nat}{k:Fl}{es len:Nat}(h:cR k=true):uL p k es len=.hsl p.1 es p.2 len:=by cases k<;>simp[cR]at h<;>rfl
def n9{x:SV}{y:V}(h:mT m x=true)(r:dy ν m H Z x y):y.cells=[y]/\y.one=true:=by cases x with|v x=>grind[mT]|own d=>have⟨ob,u⟩:=isSome_iff_exists.1 h;obtain⟨k,es,w,rfl,rfl⟩:=r.lV u;cases k<;>exact⟨rfl,rfl⟩|ptr d o=>have⟨ob,u⟩:=isSome_iff_exists.1 h;obtain⟨cs,rfl,rfl⟩:=r.ru u;exact⟨rfl,rfl⟩|el d i o=>have⟨ob,u⟩:=isSome_iff_exists.1 h;obtain⟨k,es,w,rfl,_,rfl⟩:=r.Az u;exact⟨rfl,rfl⟩|mp d=>have⟨ob,u⟩:=isSome_iff_exists.1 h;obtain⟨z,rfl,rfl⟩:=r.FO u;exact⟨rfl,rfl⟩|clo f a b=>obtain⟨B,C,rfl,_⟩:=r.lT;exact⟨rfl,rfl⟩|tup l=>grind[mT]|agg l=>grind[mT]|yl id=>grind[mT]
def Sh{x:SV}{y:V}(h:zw m x=true)(r:dy ν m H Z x y):y.one=true:=by
 cases x with
 |v x=>
  have u:=r.fr;have w:x.one=true:=h;have c:=u.cells;have e:x.cells=[x]:=by cases x<;>first|rfl|grind[V.one]
  rw[e]at c;have g:=c.one;have z:=c.1
  cases y with
  |agg l=>cases u with|same _ _=>grind|agg _ _ _ _=>grind[V.one]
  |tup l=>cases u with|same _ _=>grind|tup _ _ _ _=>grind[V.one]
  |_=>rfl
 |own d=>exact(n9 (x:=.own d) h r).2|ptr d o=>exact(n9 (x:=.ptr d o) h r).2|el d i o=>exact(n9 (x:=.el d i o) h r).2|mp d=>exact(n9 (x:=.mp d) h r).2|clo f a b=>exact(n9 (x:=.clo f a b) h r).2|tup l=>grind[zw,mT]|agg l=>grind[zw,mT]|yl id=>grind[zw,mT]
def H7{l:SW}{ys:So}(h:l.all (zw m)=true)(r:cn ν m H Z l ys):ys.all V.one=true:=by
 refine all_eq_true.2 λy w=>?_;have⟨j,z,e⟩:=List.mem_iff_getElem.1 w;have u:j<l.length:=by rw[r.1];omega
 exact Sh (all_eq_true.1 h _ (List.getElem_mem u)) (r.2 j _ y (ζd u) Zac)
def Rm{x:SV}{y:V}{c:SW}(h:AE m x=some c)(r:dy ν m H Z x y):cn ν m H Z c y.cells:=by
 unfold AE at h;split at h;cases h;exact cn.tU r.fr.cells;cases h;obtain⟨z,rfl,u⟩:=r.jO;exact u;split at h;next w=>cases h;rw[(n9 w r).1];exact .cons r .nil
 simp_all
def LJ:∀{pl:aX (Nat×Nat)}{vs cells l:SW}{B cells':So},cn ν m H Z cells cells'->cn ν m H Z vs B->vm m cells pl vs=some l->∃D,mA cells' pl B=some D/\cn ν m H Z l D
 |[],[],cells,l,B,cells',hc,hv,h=>by rw[hv.dg];simp[vm]at h;subst h;exact⟨_,rfl,hc⟩|[],_::_,_,_,_,_,_,_,h=>by grind[vm]|_::_,[],_,_,_,_,_,_,h=>by grind[vm]|(off,size)::pl,v::vs,cells,l,B,cells',hc,hv,h=>by obtain⟨w,G,rfl,b,J⟩:=hv.inv;simp only[vm]at h;split at h;rename_i c z;have a:=Rm z b;split at h;have⟨D,e1,e2⟩:=LJ (cells':=cells'.take off++w.cells++cells'.drop (off+w.cells.length)) (by rw[<-a.1];exact((hc.take off).append a).append (hc.drop _)) J h;have u:w.cells.length=size/\off+w.cells.length<=cells'.length:=(by rw[<-a.1,<-hc.1];omega);grind[mA];simp_all;simp_all
theorem JU{size o:Nat}{agg:X'}{cs:SW}{B:So}{sv:SV}(h:cn ν m H Z cs B)(hp:xT size agg ((cs.drop o).take size)=some sv):∃y,(cut B o size).bind (mk agg)=some y/\dy ν m H Z sv y:=by
 have u:=(h.drop o).take size;unfold xT at hp;split at hp;have a:cut B o size=some ((B.drop o).take size):=by unfold cut;rw[if_pos (by rw[<-u.1];omega)]
 rw[a];split at hp;split at hp;rename_i D w;cases hp;have z:=by rw[wZ w]at u;exact u.frl
 exact⟨_,by simp_all[mk],.v _ _ (.agg _ _ z.1 z.2)⟩;cases hp;exact⟨_,by simp_all[mk],.agg _ _ u.1 u.2⟩;split at hp;rename_i x w;simp at hp;subst hp;rw[w]at u;have⟨y,G,e,I,C⟩:=u.inv;rw[e,C.dg];grind[mk];grind;grind
theorem Uo{p:xe}{svs:SW}{ys:So}{sv:SV}(Y:∀zero pl,p=.build zero pl->V.cH zero=true)(i:∀d ob,bl m d=some ob->eC ν m H Z d ob)(h:cn ν m H Z svs ys)(hp:zm N m p svs=some sv):∃y,bN N p ys=some y/\dy ν m H Z sv y:=by
 unfold zm at hp;split at hp;obtain⟨y,_,rfl,c,w⟩:=h.inv;rw[w.dg];simp at hp;subst hp;exact⟨y,rfl,c⟩;obtain⟨y,_,rfl,c,w⟩:=h.inv;rw[w.dg];split at hp;next J=>simp at hp;subst hp;have⟨ob,u⟩:=isSome_iff_exists.1 J;obtain⟨cs,rfl,rfl⟩:=c.ru u;exact⟨_,rfl,c⟩
 grind;obtain⟨y,_,rfl,c,w⟩:=h.inv;rw[w.dg];split at hp;next J=>simp at hp;subst hp;have⟨ob,u⟩:=isSome_iff_exists.1 J;obtain⟨k,es,Q,rfl,g,rfl⟩:=c.Az u;exact⟨_,rfl,c⟩
 grind;rename_i t a b;obtain⟨G,_,rfl,c,w⟩:=h.inv;obtain⟨S,_,rfl,C,B⟩:=w.inv;obtain⟨j,_,rfl,x,n⟩:=B.inv;rw[c.fr.bool,n.dg];simp at hp;refine⟨if t=true then S else j,rfl,?_⟩;grind
 .obtain⟨G,_,rfl,c,w⟩:=h.inv;obtain⟨S,_,rfl,C,B⟩:=w.inv;rw[C.fr.bO,B.dg];split at hp
  .rename_i k es Q u;split at hp;simp_all;simp at hp;subst hp;obtain⟨T,L,O,e,rfl⟩:=c.lV u;cases e;cases k<;>first|grind|exact⟨_,rfl,.v _ _ (.same _ rfl)⟩
  grind
 .obtain⟨G,_,rfl,c,w⟩:=h.inv;obtain⟨S,_,rfl,C,B⟩:=w.inv;rw[C.fr.bO,B.dg];split at hp
  .rename_i k es Q u;split at hp;simp_all;simp at hp;subst hp;obtain⟨T,L,O,e,rfl⟩:=c.lV u;cases e;cases k<;>first|grind|exact⟨_,rfl,.v _ _ (.same _ rfl)⟩
  grind
 obtain⟨y,_,rfl,c,w⟩:=h.inv;rw[w.dg];split at hp;next J=>simp at hp;subst hp;have⟨ob,u⟩:=isSome_iff_exists.1 J;obtain⟨cs,rfl,rfl⟩:=c.ru u;exact⟨_,rfl,.ptr _ _ _ λD I=>Zac⟩
 grind;obtain⟨y,_,rfl,c,w⟩:=h.inv;rw[w.dg];split at hp;next J=>simp at hp;subst hp;have⟨ob,u⟩:=isSome_iff_exists.1 J;obtain⟨k,es,Q,rfl,g,rfl⟩:=c.Az u;exact⟨_,rfl,.el _ _ _ _ λD I=>by rw[u]at I;grind⟩
 simp at hp;obtain⟨G,_,rfl,c,w⟩:=h.inv;obtain⟨S,_,rfl,C,B⟩:=w.inv;rw[C.fr.int,B.dg];split at hp;rename_i k es Q u;split at hp;rename_i f;obtain⟨g,rfl,o,U⟩:=f;simp at hp;subst hp;obtain⟨T,L,O,e,rfl⟩:=c.lV u;cases e;rw[uv g];refine⟨.hptr (ν _).1 ((ν _).2+_) 0,by simp only[bN,nJ,if_neg (Int.not_lt.2 o),true_and,if_pos U];rfl,.el _ _ _ _ λD I=>?_⟩;rw[u]at I;grind;simp at hp;simp at hp;obtain⟨G,_,rfl,c,w⟩:=h.inv;obtain⟨S,_,rfl,C,B⟩:=w.inv;rw[C.fr.int,B.dg];split at hp;rename_i f;simp at hp;subst hp;have⟨ob,u⟩:=isSome_iff_exists.1 f.2.2;obtain⟨cs,rfl,rfl⟩:=c.ru u;refine⟨.hptr (ν _).1 0 (_+_),by simp only[bN,zI,if_pos (And.intro f.1 f.2.1)];rfl,.ptr _ _ _ λD I=>?_⟩;rw[u]at I;grind;simp at hp;obtain⟨G,_,rfl,c,w⟩:=h.inv;obtain⟨S,_,rfl,C,B⟩:=w.inv;rw[C.fr.int,B.dg];split at hp;rename_i f;simp at hp;subst hp;have⟨ob,u⟩:=isSome_iff_exists.1 f.2.2;obtain⟨k,es,Q,rfl,g,rfl⟩:=c.Az u;refine⟨.hptr (ν _).1 (_+_) (_+_),by simp only[bN,zI,if_pos (And.intro f.1 f.2.1)];rfl,.el _ _ _ _ λD I=>?_⟩;rw[u]at I;grind;simp at hp;obtain⟨G,_,rfl,c,w⟩:=h.inv;rw[w.dg];split at hp;rename_i k es Q u;simp at hp;subst hp;obtain⟨T,L,O,e,rfl⟩:=c.lV u;cases e;have:=i _ _ u;simp[eC]at this;cases g:k<;>simp[g,cR]at this⊢;subst this;exact⟨_,rfl,.v _ _ (.same _ rfl)⟩;subst this;exact⟨_,rfl,.v _ _ (.same _ rfl)⟩;exact⟨_,rfl,.v _ _ (.same _ rfl)⟩;exact⟨_,rfl,.v _ _ (.same _ rfl)⟩;simp at hp;rename_i vs name k;simp at hp;subst hp;exact⟨_,rfl,.clo _ _ _ _ _ (h.take k).1 (h.drop k).1 (h.take k).2 (h.drop k).2⟩;obtain⟨G,_,rfl,c,w⟩:=h.inv;rw[w.dg];obtain⟨q,rfl,X⟩:=c.sU;have⟨z,r,W⟩:=X.get hp;exact⟨z,r,W⟩;rename_i vs zero pl;obtain⟨l,s,rfl⟩:=ζf.1 hp;have⟨v,c,w⟩:=LJ (cn.tU (dG.same (Y zero pl rfl))) h s;exact⟨.agg v,by grind[Go.VE.bN],.agg _ _ w.1 w.2⟩;obtain⟨G,_,rfl,c,w⟩:=h.inv;rw[w.dg];obtain⟨q,rfl,X⟩:=c.jO;grind[JU,Go.VE.bN];grind
def LI{p:xe}{svs:SW}{ys:So}{sv:SV}(B:∀zero pl,p=.build zero pl->V.cH zero=true)(G:∀d ob,bl m d=some ob->eC ν m H Z d ob)(h:cn ν m H Z svs ys)(hp:kK N m p svs=some sv):
 ∃y,bN N p ys=some y/\dy ν m H Z sv y:=by
 unfold kK at hp;split at hp
 next I u=>obtain⟨z,w,rfl⟩:=ζf.1 hp;rw[wZ u]at h;have⟨C,a,D⟩:=dG.bN B h.frl w;exact⟨C,a,.v _ _ D⟩
 grind[Uo]
def cn.dz{svs:SW}{xs ys:So}(h:cn ν m H Z svs ys)(B:dz svs=some xs):dG H Z xs ys:=by rw[wZ B]at h;exact h.frl
def Ei{k:V}:∀{a b:aX (V×V)}{i:Nat},Gp H Z a b->(jr k a i=some none->jr k b i=some none)/\∀j v,jr k a i=some (some (j,v))->∃B,jr k b i=some (some (j,B))/\FR H Z v B
 |[],b,i,h=>by have:b=[]:=length_eq_zero_iff.1 (by have:=h.1;grind);grind[jr]|(k1,x)::a,[],i,h=>by have:=h.1;grind|(k1,x)::a,(k2,y)::b,i,h=>by have⟨⟨e,_⟩,z⟩:=h.2 0 _ _ rfl rfl;subst e;have w:Gp H Z a b:=⟨by have:=h.1;grind,λj u v c d=>h.2 (j+1) u v Zac Zac⟩;have C:=Ei (i:=i+1) (k:=k) w;grind[jr]
def xR{kk:z_}{k:V}(h:sy kk k=true):k.scalar=true:=by unfold sy at h;split at h;rfl;rfl;simp at h;have⟨a,u⟩:=isSome_iff_exists.1 h.2;exact tK u;grind
def yG{r:Nf}{svs:SW}{ys:So}{sv:SV}(ai:∀s a,r≠.loadF s a)(U:∀kk z ok,r=.lookup kk z ok->z.good=true)(h:cn ν m H Z svs ys)(n:∀d,SV.dN d svs=true->∀ob,bl m d=some ob->eC ν m H Z d ob)(hp:pX m r svs=some sv):
 ∃y,ey H r ys=some y/\dy ν m H Z sv y:=by
 unfold pX at hp;split at hp
 .
  obtain⟨T,_,rfl,b,G⟩:=h.inv;rw[G.dg];split at hp
  .rename_i cs u;obtain⟨aj,e,rfl⟩:=b.ru u;obtain⟨es,ak,o,A,_⟩:=n _ (by simp[SV.dN,SV.c8]) _ u
   grind[JU,ey,eE,Ob.rows]
  grind
 .
  obtain⟨T,_,rfl,b,G⟩:=h.inv;rw[G.dg];split at hp
  .rename_i k es xs u;split at hp
   .rename_i cs W;obtain⟨z,L,rfl⟩:=ζf.1 hp;obtain⟨k1,al,am,e,f,rfl⟩:=b.Az u;cases e;have:=n _ (by simp[SV.dN,SV.c8]) _ u
    simp[eC,f]at this;obtain⟨rs,o,hl,I,_⟩:=this;obtain⟨c,A,M⟩:=I.get W;have N:=(ζe.1 W).1;rw[getElem?_take,if_pos N,getElem?_drop]at A;obtain⟨r1,w,J⟩:=ζg.1 L;obtain⟨r2,P,B⟩:=M.cut w;obtain⟨g,X,Y⟩:=B.mk J;refine⟨g,?_,.v _ _ Y⟩
    grind[ey,eE,Ob.rows]
   grind
  grind
 .
  rename_i size agg p;obtain⟨T,_,rfl,b,G⟩:=h.inv;rw[G.dg];obtain⟨z,L,rfl⟩:=ζf.1 hp;obtain⟨r1,w,J⟩:=ζg.1 L;unfold eE at w;split at w
  .rename_i cs;rcases b.fr.om with rfl|⟨id,el,off,es,ys,an,rfl,Y,o,he,ao,I⟩
   .refine⟨z,by grind[ey,eE],.v _ _ (.same _ ?_)⟩
    have R:=by have:=b.fr.good;simpa[V.good]using this
    obtain⟨r',ap,B⟩:=(dG.same (H:=H) (Z:=Z) R).cut w;obtain⟨g,X,C⟩:=B.mk J;exact C.good
   obtain⟨r2,P,B⟩:=I.cut w;obtain⟨g,X,C⟩:=B.mk J;refine⟨g,?_,.v _ _ C⟩
   grind[br,ey,eE,cut]
  all_goals grind
 .
  rename_i kk z ok d k;obtain⟨T,_,rfl,b,G⟩:=h.inv;obtain⟨E,_,rfl,q,t⟩:=G.inv;rw[t.dg];split at hp
  .rename_i O u;split at hp
   .rename_i f;obtain⟨_,e,rfl⟩:=b.FO u;have Q:=q.fr.scalar.1 (xR f);subst Q;obtain⟨ah,o,af⟩:=n _ (by simp[SV.dN,SV.c8]) _ u
    obtain⟨f1,f2⟩:=Ei af;split at hp
    .rename_i j v I;obtain⟨F,aq,K⟩:=f2 j v I;simp at hp;subst hp;refine⟨if ok=true then .tup [F,.bool true]else F,by grind[ey,oE],?_⟩
     cases ok
     .exact .v _ _ K
     refine .v _ _ (.tup _ _ rfl (dG.cons K (.cons (.same _ rfl) .nil)).2)
    .rename_i I;simp at hp;subst hp;refine⟨if ok=true then .tup [z,.bool false]else z,by grind[ey,oE],?_⟩
     have L:=U kk z ok rfl;cases ok
     .exact .v _ _ (.same _ L)
     exact .v _ _ (.same _ (by grind[V.good,V.cH]))
    grind
   grind
  grind
 .
  rename_i kk z ok p k;obtain⟨T,_,rfl,b,G⟩:=h.inv;obtain⟨E,_,rfl,q,t⟩:=G.inv;rw[t.dg];obtain⟨x,D,rfl⟩:=ζf.1 hp;simp[ey]at D;have L:=U kk z ok rfl;split at D
  .rename_i O S;have key:oE H T=some O/\V.vj O=true:=by
    unfold oE at S;split at S
    .rw[b.fr.iB];simp at S;subst S;exact⟨rfl,rfl⟩
    .rw[b.fr.fmap];simp at S;subst S;exact⟨rfl,by have:=b.fr.good;grind[V.good]⟩
    all_goals grind
   split at D
   .rename_i f;have Q:=q.fr.scalar.1 (xR f);subst Q;split at D
    .rename_i j v I;simp at D;subst D;have hv:=by
      have:∀{l:aX (V×V)}{i:Nat},V.vj l=true->jr E l i=some (some (j,v))->v.good=true:=by intro l;induction l with|nil=>grind[jr]|cons p l ih=>intro i hg h;simp[V.vj]at hg;simp[jr]at h;grind
      exact this key.2 I
     refine⟨if ok=true then .tup [v,.bool true]else v,by grind[ey],?_⟩
     cases ok
     .exact .v _ _ (.same _ hv)
     exact .v _ _ (.same _ (by grind[V.good,V.cH]))
    .rename_i I;simp at D;subst D;refine⟨if ok=true then .tup [z,.bool false]else z,by grind[ey],?_⟩
     cases ok
     .exact .v _ _ (.same _ L)
     exact .v _ _ (.same _ (by grind[V.good,V.cH]))
    simp at D
   simp at D
  simp at D
 all_goals grind
end
section
variable{Rv:Nat->Prop}{ν ν':Nu}{Z Z':Nat->Prop}{st st':St}{m m':Tb bJ}{F F':WP}{H H':bn}
def R.lt(r:R ν Z st F H){id:Nat}(h:gy ν st.m id):id<H.length:=by obtain⟨d,ob,b,u,rfl⟩:=h;have:=r.obj d ob b;cases ob with|sl k es C=>simp only[cF]at u;simp only[eC,u,if_true]at this;have⟨D,a,_⟩:=this;exact(ζe.1 a).1|box cs=>have⟨es,z,a,_⟩:=this;exact(ζe.1 a).1|mp B=>have⟨w,a,_⟩:=this;exact(ζe.1 a).1
def R.yR(r:R ν Z st F H){id:Nat}(h:Z id):id<H.length:=by have:=r.zrow id h;unfold br at this;have⟨x,u⟩:=isSome_iff_exists.1 this;have⟨ob,a,_⟩:=ζg.1 u;exact(ζe.1 a).1
def Deep.mono(d:Deep H Z)(h:∀id,Z id->br H' id=br H id):Deep H' Z where
 row:=λid es z w hr c hc u hu=>by rw[h id w]at hr;have⟨x,B⟩:=d.row id es z w hr c hc u hu;exact⟨x,B.mono λk a=>⟨a,h k a⟩⟩
def xQ.mono{ys:S'}(h:∀id,Z id->Z' id/\br H' id=br H id)(s:xQ H Z ys):xQ H' Z' ys:=λc a u b=>by have⟨x,w⟩:=s c a u b;exact⟨x,w.mono h⟩
def Gp.mono{a b:aX (V×V)}(h:∀id,Z id->Z' id/\br H' id=br H id)(s:Gp H Z a b):Gp H' Z' a b:=⟨s.1,λj u v c d=>⟨(s.2 j u v c d).1,(s.2 j u v c d).2.mono h⟩⟩
def eC.mono{d G:Nat}{ob:bJ}(B:∀id,Z id->Z' id/\br H' id=br H id)(hd:ν' G=ν d)(D:cF ob=true->H'[(ν d).1]?=H[(ν d).1]?)
 (J:∀e,ob.c8 e=true->∀ob',bl m' e=some ob'->∃ob,bl m e=some ob/\ν' e=ν e/\sameShape ob ob')(o:eC ν m H Z d ob):eC ν' m' H' Z' G ob:=by
 cases ob with
 |sl k es S=>
  simp only[eC,hd]at o⊢;split
  next b=>rw[if_pos b]at o;have⟨I,a,u,z,L,O⟩:=o;exact⟨I,by rw[D (by simpa[cF]using b)];exact a,u,z.mono B,L.mono B,O⟩
  rename_i b;rw[if_neg b]at o;exact o
 |box cs=>have⟨es,C,a,u,z⟩:=o;exact⟨es,C,by rw[hd,D rfl];exact a,u.mono B J,z⟩|mp Q=>have⟨w,a,u⟩:=o;exact⟨w,by rw[hd,D rfl];exact a,u.mono B⟩
def j7(ν:Nu)(m:Tb bJ)(e:Nat):∀ob',bl m e=some ob'->∃ob,bl m e=some ob/\ν e=ν e/\sameShape ob ob':=λob' h=>⟨ob',h,rfl,.refl _⟩
def R.heap(r:R ν Z st F H)(D:∀id,gy ν st.m id->H'[id]?=H[id]?)(B:∀id,Z id->br H' id=br H id):R ν Z st F H' where
 slot:=λs u w=>(r.slot s u w).mono (λid h=>⟨h,B id h⟩) λd _=>j7 ν st.m d
 obj:=λd ob hd=>eC.mono (λid h=>⟨h,B id h⟩) rfl (λz=>D _ ⟨d,ob,hd,z,rfl⟩) (λe _=>j7 ν st.m e) (r.obj d ob hd)
 inj:=r.inj
 apart:=r.apart
 zrow:=λid h=>by rw[B id h];exact r.zrow id h
 deep:=r.deep.mono B
def R.put(r:R ν Z st F H){d:Nat}{sv:SV}{y:V}(h:dy ν st.m H Z sv y):R ν Z {st with g:=bM st.g d sv} (set F d y) H where
 slot:=λs x u=>by by_cases e:d=s;subst e;rw[cM]at u;cases u;rw[uR];exact h;rw[ec st.g sv e]at u;rw[kL _ _ e];exact r.slot s x u
 obj:=r.obj
 inj:=r.inj
 apart:=r.apart
 zrow:=r.zrow
 deep:=r.deep
def Ev.slots(g:Tb SV):Ev Rv ν Z st H ν Z {st with g:=g} H:=⟨le_refl _,λ_ _ _ _ _=>rfl,λ_ h=>⟨h,rfl⟩,λ_ h=>.inl h,λ_ h=>.inl h,λ_ _ u h=>⟨u,h,rfl,.refl _⟩,rfl⟩
def jU(ν:Nu)(d:Nat)(p:Nat×Nat):Nu:=λk=>if k=d then p else ν k
theorem iV(ν:Nu)(d:Nat)(p:Nat×Nat):jU ν d p d=p:=if_pos rfl
theorem rA(ν:Nu){d k:Nat}(p:Nat×Nat)(h:k≠d):jU ν d p k=ν k:=if_neg h
def oD{d:Nat}(h:st.new d=true):d∉st.pin/\bl st.m d=none/\xO d st.g=false/\uV d st.m=false:=by unfold St.new at h;simp only[ζh,not_eq_true',Option.isNone_iff_eq_none,List.contains_eq_mem,decide_eq_false_iff_not]at h;exact⟨h.1.1.1,h.1.1.2,h.1.2,h.2⟩
def vN{d:Nat}{ob:bJ}{p:Nat×Nat}{e:Nat}(h:e≠d):∀ob',bl (bM m d ob) e=some ob'->∃ob,bl m e=some ob/\jU ν d p e=ν e/\sameShape ob ob':=λob' u=>by rw[ec m ob (Ne.symm h)]at u;exact⟨ob',u,rA ν p h,.refl _⟩
def R.add(r:R ν Z st F H){d:Nat}(U:st.new d=true){ob:bJ}{p:Nat×Nat}(G:cF ob=true->¬gy ν st.m p.1/\¬Z p.1)(W:eC (jU ν d p) (bM st.m d ob) H Z d ob):
 R (jU ν d p) Z {st with m:=bM st.m d ob} F H:=by
 have⟨T,X,O,Q⟩:=oD U;have key:∀w u,bl (bM st.m d ob) w=some u->w≠d->bl st.m w=some u:=λw u h e=>by rw[ec st.m ob (Ne.symm e)]at h;exact h
 refine⟨λs S J=>?_,λw u hd=>?_,?_,?_,r.zrow,r.deep⟩
 .refine(r.slot s S J).mono (λid h=>⟨h,rfl⟩) λe L=>vN ?_
  rintro rfl;rw[A4 O J]at L;cases L
 .by_cases e:w=d
  .subst e;simp only at hd;rw[cM]at hd;cases hd;exact W
  have C:=key w u hd e;refine eC.mono (λid h=>⟨h,rfl⟩) (rA ν p e) (λ_=>rfl) (λk c=>vN ?_) (r.obj w u C)
  rintro rfl;rw[Bg Q C]at c;cases c
 .intro b d2 o1 o2 a D z I B
  by_cases e1:b=d<;>by_cases e2:d2=d
  .rw[e1,e2]
  .subst e1;rw[iV,rA ν p e2]at B;simp only at a;rw[cM]at a;cases a;exact absurd ⟨d2,o2,key d2 o2 D e2,I,B.symm⟩ (G z).1
  .subst e2;rw[iV,rA ν p e1]at B;simp only at D;rw[cM]at D;cases D;exact absurd ⟨b,o1,key b o1 a e1,z,B⟩ (G I).1
  rw[rA ν p e1,rA ν p e2]at B;exact r.inj b d2 o1 o2 (key b o1 a e1) (key d2 o2 D e2) z I B
 intro b o1 a z
 by_cases e1:b=d
 .subst e1;simp only at a;rw[cM]at a;cases a;rw[iV];exact(G z).2
 rw[rA ν p e1];exact r.apart b o1 (key b o1 a e1) z
def HD{d:Nat}{ob:bJ}{p:Nat×Nat}{id:Nat}(h:gy (jU ν d p) (bM m d ob) id):gy ν m id\/(cF ob=true/\id=p.1):=by have⟨k,o,a,w,u⟩:=h;by_cases e:k=d;subst e;rw[cM]at a;cases a;rw[iV]at u;exact .inr ⟨w,u.symm⟩;rw[rA ν p e]at u;rw[ec m ob (Ne.symm e)]at a;exact .inl ⟨k,o,a,w,u⟩
def Ev.add{d:Nat}(B:st.new d=true){ob:bJ}{p:Nat×Nat}(D:H.length<=H'.length)(G:∀id,id<H.length->¬Rv id->H'[id]?=H[id]?)(J:∀id,Z id->br H' id=br H id)
 (hp:cF ob=true->Rv p.1\/H.length<=p.1):Ev Rv ν Z st H (jU ν d p) Z {st with m:=bM st.m d ob} H' where
 len:=D
 same:=λid h _ _ hr=>G id h hr
 rows:=λid h=>⟨h,J id h⟩
 own:=λid h=>by rcases HD h with h|⟨a,rfl⟩;exact .inl h;exact .inr (hp a)
 frz:=λid h=>.inl h
 pin:=λe w u h=>by have:e≠d:=(by rintro rfl;exact(oD B).1 w);exact vN this u h
 pins:=rfl
def R.gX(r:R ν Z st F H){d:Nat}{ob ob':bJ}(b:bl st.m d=some ob)(D:sameShape ob ob')(W:cF ob'=cF ob)(U:∀id,id≠(ν d).1->H'[id]?=H[id]?)(B:cF ob=true)
 (Y:eC ν (bM st.m d ob') H' Z d ob'):R ν Z {st with m:=bM st.m d ob'} F H':=by
 have z:∀id,Z id->Z id/\br H' id=br H id:=λid h=>⟨h,by
  unfold br;rw[U id (by rintro rfl;exact r.apart d ob b B h)]⟩
 have f:∀e u,bl (bM st.m d ob') e=some u->∃w,bl st.m e=some w/\ν e=ν e/\sameShape w u:=λe u h=>by by_cases k:e=d;subst k;rw[cM]at h;cases h;exact⟨ob,b,rfl,D⟩;rw[ec st.m ob' (Ne.symm k)]at h;exact⟨u,h,rfl,.refl _⟩
 have C:∀e u,bl (bM st.m d ob') e=some u->∃w,bl st.m e=some w/\cF w=cF u:=λe u h=>by by_cases k:e=d;subst k;rw[cM]at h;cases h;exact⟨ob,b,W.symm⟩;rw[ec st.m ob' (Ne.symm k)]at h;exact⟨u,h,rfl⟩
 refine⟨λs O D=>(r.slot s O D).mono z λe _=>f e,λG u hd=>?_,?_,?_,λid h=>by rw[(z id h).2];exact r.zrow id h,r.deep.mono λid h=>(z id h).2⟩
 .by_cases e:G=d
  .subst e;simp only at hd;rw[cM]at hd;cases hd;exact Y
  simp only at hd;rw[ec st.m ob' (Ne.symm e)]at hd;refine eC.mono z rfl (λI=>U _ λh=>e (r.inj G d u ob hd b I B h)) (λk _=>f k) (r.obj G u hd)
 .intro a d2 o1 o2 c Q J S T;have⟨p1,k1,L⟩:=C a o1 c;have⟨p2,k2,X⟩:=C d2 o2 Q;exact r.inj a d2 p1 p2 k1 k2 (by rw[L];exact J) (by rw[X];exact S) T
 intro a o1 c J;have⟨p1,k1,L⟩:=C a o1 c;exact r.apart a p1 k1 (by rw[L];exact J)
def Ev.gX(r:R ν Z st F H){d:Nat}{ob ob':bJ}(a:bl st.m d=some ob)(G:sameShape ob ob')(U:cF ob'=cF ob)(D:∀id,id≠(ν d).1->H'[id]?=H[id]?)(B:cF ob=true)(J:H.length<=H'.length):
 Ev Rv ν Z st H ν Z {st with m:=bM st.m d ob'} H' where
 len:=J
 same:=λid _ z _ _=>D id λe=>z ⟨d,ob,a,B,e.symm⟩
 rows:=λid h=>⟨h,by unfold br;rw[D id (by rintro rfl;exact r.apart d ob a B h)]⟩
 own:=λid⟨k,o,h1,C,w⟩=>by by_cases e:k=d;subst e;simp only at h1;rw[cM]at h1;cases h1;exact .inl ⟨k,ob,a,B,w⟩;simp only at h1;rw[ec st.m ob' (Ne.symm e)]at h1;exact .inl ⟨k,o,h1,C,w⟩
 frz:=λid h=>.inl h
 pin:=λe _ u h=>by by_cases k:e=d;subst k;simp only at h;rw[cM]at h;cases h;exact⟨ob,a,rfl,G⟩;simp only at h;rw[ec st.m ob' (Ne.symm k)]at h;exact⟨u,h,rfl,.refl _⟩
 pins:=rfl
def R.less(r:R ν Z st F H){g:Tb SV}{m':Tb bJ}(a:∀s sv,bl g s=some sv->bl st.g s=some sv)(B:∀d ob,bl m' d=some ob->bl st.m d=some ob):R ν Z {st with g:=g,m:=m'} F H where
 slot:=λs sv z=>(r.slot s sv (a s sv z)).mono (λid h=>⟨h,rfl⟩) λe _ u h=>⟨u,B e u h,rfl,.refl _⟩
 obj:=λd ob hd=>eC.mono (λid h=>⟨h,rfl⟩) rfl (λ_=>rfl) (λe _ u h=>⟨u,B e u h,rfl,.refl _⟩) (r.obj d ob (B d ob hd))
 inj:=λd w ob u b C=>r.inj d w ob u (B d ob b) (B w u C)
 apart:=λd ob h=>r.apart d ob (B d ob h)
 zrow:=r.zrow
 deep:=r.deep
def Ev.less{g:Tb SV}{m':Tb bJ}(B:∀d ob,bl m' d=some ob->bl st.m d=some ob):Ev Rv ν Z st H ν Z {st with g:=g,m:=m'} H:=⟨le_refl _,λ_ _ _ _ _=>rfl,λ_ h=>⟨h,rfl⟩,λ_⟨d,ob,a,w,z⟩=>.inl ⟨d,ob,B d ob a,w,z⟩,λ_ h=>.inl h,λe _ u h=>⟨u,B e u h,rfl,.refl _⟩,rfl⟩
def Ev.heap(B:H.length<=H'.length)(D:∀id,id<H.length->¬gy ν st.m id->¬Z id->¬Rv id->H'[id]?=H[id]?)(G:∀id,Z id->br H' id=br H id):Ev Rv ν Z st H ν Z st H':=⟨B,D,λid h=>⟨h,G id h⟩,λ_ h=>.inl h,λ_ h=>.inl h,λ_ _ u h=>⟨u,h,rfl,.refl _⟩,rfl⟩
def iz.JM{xs ys:S'}(h:iz H Z xs ys):xQ H Z ys:=λc b u d=>by
 have⟨i,e⟩:=mem_iff_getElem?.1 b;have z:i<xs.length:=by rw[h.1];grind
 have a:=h.2 i _ c (ζd z) e;have⟨j,B⟩:=mem_iff_getElem?.1 d;have w:j<(xs[i]).length:=by rw[a.1];grind
 exact⟨_,a.2 j _ u (ζd w) B⟩
theorem iz.same{xs:S'}(h:V.o5 xs=true):iz H Z xs xs:=⟨rfl,λj u v a b=>by rw[a]at b;grind[dG.same,mE]⟩
def qN{z:So}(h:V.cH z=true):∀n,V.o5 (replicate n z)=true
 |0=>rfl|n+1=>by simp[List.replicate_succ,V.o5,h,qN h n]
def DV{es:Nat}:∀{ps qs:aX (Nat×V)}{xs B r:S'},iz H Z xs B->ps.map (·.1)=qs.map (·.1)->dG H Z (ps.map (·.2)) (qs.map (·.2))->fP es xs ps=some r->∃G,fP es B qs=some G/\iz H Z r G
 |[],qs,xs,B,r,D,a,J,h=>by simp_all[fP]|(i,v)::ps,qs,xs,B,r,D,a,J,h=>by cases qs with|nil=>simp_all|cons q qs=>obtain⟨j,w⟩:=q;simp at a;obtain⟨e,a⟩:=a;subst e;obtain⟨w',C,e,u,z⟩:=J.inv;obtain⟨rfl,rfl⟩:=e;have b:=u.cells;simp only[fP]at h⊢;split at h;rw[if_pos ⟨by rw[<-b.1];grind,by rw[<-D.1];grind,by rw[b.one];grind⟩];exact DV (D.set i b) a z h;grind
def zip_fst:∀{idx:ST}{xs:So},idx.length=xs.length->(idx.zip xs).map (·.1)=idx
 |[],xs,_=>Zab|i::idx,[],h=>Zad|i::idx,x::xs,h=>by simp[zip_fst (idx:=idx) (xs:=xs) Zac]
def Hi:∀{idx:ST}{xs:So},idx.length=xs.length->(idx.zip xs).map (·.2)=xs
 |[],[],_=>Zab|[],x::xs,h=>Zad|i::idx,[],h=>Zad|i::idx,x::xs,h=>by simp[Hi (idx:=idx) (xs:=xs) Zac]
def SJ{a:QD}{svs:SW}{ys:So}{d:Nat}{ob:bJ}{sv:SV}(b:Df (.a a)=true)(r:cn ν m H Z svs ys)(h:qv m a svs d=some (ob,sv)):
 ∃o mk,kN a ys=some (o,mk)/\cF ob=true/\o≠.free/\∀(id:Nat)(ν':Nu)(m':Tb bJ)(H':bn),ν' d=(id,0)->bl m' d=some ob->H'[id]?=some o->(∀k,Z k->br H' k=br H k)->
  (∀e,SV.dN e svs=true->∀ob',bl m' e=some ob'->∃ob,bl m e=some ob/\ν' e=ν e/\sameShape ob ob')->eC ν' m' H' Z d ob/\dy ν' m' H' Z sv (mk.val id):=by
 unfold qv at h;split at h
 .
  rename_i size zero;obtain⟨rfl,rfl⟩:=h;rw[r.dg];simp only[Df,ζh]at b;refine⟨_,_,rfl,rfl,Zab,λid ν' m' H' e1 e2 e3 e4 e5=>⟨⟨_,zero,by rw[e1];omega,cn.tU (dG.same b.1),b.2⟩,?_⟩⟩
  exact .ptr _ _ _ λob' u=>by rw[e2]at u;cases u;exact⟨_,rfl,by rw[e1];rfl⟩
 .
  split at h
  .rename_i C;obtain⟨rfl,rfl⟩:=h;obtain⟨y,_,rfl,g,B⟩:=r.inv;rw[B.dg];have i:=g.fr.cells;refine⟨.row y.cells.length [y.cells],.ptr,by simp[kN,i.one,C],rfl,Zab,λid ν' m' H' e1 e2 e3 e4 e5=>⟨⟨_,y.cells,by rw[e1];omega,cn.tU (i.mono λk b=>⟨b,e4 k b⟩),by rw[i.one];simp_all⟩,?_⟩⟩
   exact .ptr _ _ _ λob' u=>by rw[e2]at u;cases u;exact⟨_,rfl,by rw[e1];rfl⟩
  grind
 .
  split at h
  .rename_i z;obtain⟨rfl,rfl⟩:=h;obtain⟨y,_,rfl,g,B⟩:=r.inv;rw[B.dg];obtain⟨L,rfl,S⟩:=g.jO;have T:=H7 z S;refine⟨.row L.length [L],.ptr,by grind[kN,V.cells],rfl,Zab,λid ν' m' H' e1 e2 e3 e4 e5=>⟨⟨_,L,by rw[e1];omega,S.mono (λk b=>⟨b,e4 k b⟩) λe U=>e5 e (by grind[SV.dN,SV.c8]),T⟩,?_⟩⟩
   exact .ptr _ _ _ λob' u=>by rw[e2]at u;cases u;exact⟨_,rfl,by rw[e1];rfl⟩
  grind
 .
  split at h
  .rename_i z;obtain⟨rfl,rfl⟩:=h;obtain⟨y,_,rfl,g,B⟩:=r.inv;rw[B.dg];obtain⟨q,T⟩:=n9 z g;refine⟨.row [y].length [[y]],.ptr,by grind[kN],rfl,Zab,λid ν' m' H' e1 e2 e3 e4 e5=>⟨⟨_,[y],by rw[e1];omega,.cons (g.mono (λk b=>⟨b,e4 k b⟩) λe U=>e5 e (by grind[SV.dN])) .nil,Zad⟩,?_⟩⟩
   exact .ptr _ _ _ λob' u=>by rw[e2]at u;cases u;exact⟨_,rfl,by rw[e1];rfl⟩
  grind
 .
  rename_i size zero k n s c;obtain⟨_,_,rfl,g,B⟩:=r.inv;obtain⟨_,_,rfl,W,X⟩:=B.inv;rw[g.fr.int,W.fr.int,X.dg];split at h
  .rename_i i;obtain⟨rfl,rfl⟩:=h;have O:cR (if n=c then Fl.row else Fl.part)=true:=by split<;>rfl
   refine⟨_,_,by simp only[kN];rw[if_pos i],O,Zab,λid ν' m' H' e1 e2 e3 e4 e5=>⟨?_,?_⟩⟩
   .simp[eC,O,e1];have j:=qN b c.toNat;have Q:n.toNat<=c.toNat:=by omega
    refine⟨_,e3,Zad,?_,(iz.same j).JM,λe=>?_⟩
    .simp[Nat.min_eq_left Q];exact iz.same (qN b _)
    grind
   refine .own _ _ λob' u=>?_
   rw[e2]at u;cases u;exact⟨_,_,_,rfl,by rw[uv O,e1];simp[Mk.val]⟩
  grind
 .
  rename_i vs size len zero idx;split at h
  .rename_i xs Y;split at h
   .rename_i z;obtain⟨rows,l,e⟩:=ζf.1 h;obtain⟨rfl,rfl⟩:=e;have J:=r.dz Y;obtain⟨f,D,w⟩:=DV (qs:=idx.zip ys) (iz.same (qN b len)) (by rw[zip_fst z,zip_fst (by rw[<-J.1];exact z)]) (by rw[Hi z,Hi (by rw[<-J.1];exact z)];exact J) l
    have G:f.length=len:=by have:∀{ps:aX (Nat×V)}{a r:S'},fP size a ps=some r->r.length=a.length:=(by intro ps;induction ps with|nil=>grind[fP]|cons p ps ih=>grind[fP]);rw[this D];simp
    refine⟨.row size f,.sl size len,by simp only[kN];rw[if_pos (by rw[<-J.1];exact z),D];rfl,rfl,Zab,λid ν' m' H' e1 e2 e3 e4 e5=>⟨?_,?_⟩⟩
    .have I:=w.mono λk b=>⟨b,e4 k b⟩
     simp only[eC,e1];refine⟨_,e3,by simp[w.1],?_,I.JM,λ_=>⟨trivial,w.1.symm⟩⟩
     simp[w.1];exact I
    refine .own _ _ λob' u=>?_
    rw[e2]at u;cases u;exact⟨_,_,_,rfl,by rw[w.1,G];grind[uL,Mk.val]⟩
   grind
  grind
 .
  obtain⟨rfl,rfl⟩:=h;rw[r.dg];refine⟨_,_,rfl,rfl,Zab,λid ν' m' H' e1 e2 e3 e4 e5=>⟨⟨_,by rw[e1];exact e3,rfl,Zab⟩,?_⟩⟩
  exact .mp _ _ λob' u=>by rw[e2]at u;cases u;exact⟨_,rfl,by rw[e1];rfl⟩
 grind
def cn.aaM{cs:SW}{B:So}(h:cn ν m H Z cs B){size o:Nat}{x:SV}{y:V}{r:SW}(G:dy ν m H Z x y)(hp:putCells m size o x cs=some r)(D:B.all V.one=true):
 y.cells.length=size/\o+size<=B.length/\y.cells.all V.one=true/\cn ν m H Z r (B.take o++y.cells++B.drop (o+y.cells.length))/\(B.take o++y.cells++B.drop (o+y.cells.length)).all V.one=true:=by
 have u:∀k:Nat,(B.take k).all V.one=true/\(B.drop k).all V.one=true:=λk=>⟨all_eq_true.2 λz C=>all_eq_true.1 D z (List.mem_of_mem_take C),all_eq_true.2 λz C=>all_eq_true.1 D z (List.mem_of_mem_drop C)⟩
 unfold putCells at hp;split at hp
 .split at hp
  .rename_i hc;simp only[ζa]at hp;subst hp;have w:=G.fr.cells;refine⟨by rw[<-w.1];simp_all,by rw[<-h.1];grind,by rw[w.one];grind,?_,?_⟩
   .have e:y.cells.length=size:=by rw[<-w.1];simp_all
    rw[e];exact((h.take o).append (cn.tU w)).append (h.drop _)
   simp only[List.all_append,(u _).1,(u _).2,w.one,hc.2.2,Bool.and_self]
  grind
 .split at hp
  .rename_i hc;simp only[ζa]at hp;subst hp;obtain⟨L,rfl,I⟩:=G.jO;have O:=H7 hc.2.2 I
   grind[cn,V.cells]
  grind
 split at hp
 .rename_i hc;simp only[ζa]at hp;subst hp;have⟨J,Q⟩:=n9 hc.1 G;rw[J];refine⟨by simp[hc.2.1],by rw[<-h.1];grind,Zad,?_,?_⟩
  .exact((h.take o).append (.cons G .nil)).append (h.drop _)
  grind
 grind
def xo{size:Nat}{x:SV}{y:V}{xs:S'}(r:dy ν m H Z x y)(B:∀d ob,bl m d=some ob->eC ν m H Z d ob)(h:kE m size x=some xs):∃ys,dW H size y=some ys/\iz H Z xs ys:=by
 unfold kE at h;split at h;split at h;rename_i k es w u;obtain⟨_,_,_,e,rfl⟩:=r.lV u;cases e;have o:=B _ _ u;simp[eC]at o;split at h;rename_i a;rw[if_pos a]at o;split at h;rename_i z;simp at h;subst h;have⟨ys,b,C,D,_⟩:=o;rw[uv a];grind[dW,Ob.rows];grind;rename_i a;simp at h;subst h;refine⟨[],?_,rfl,Zab⟩;cases k<;>simp[cR]at a<;>rfl;grind;simp at h;subst h;rw[r.fr.bO];exact⟨[],rfl,rfl,Zab⟩;simp at h;subst h;rw[r.fr.dQ];exact⟨[],rfl,rfl,Zab⟩
 .split at h
  .rename_i es w z;simp at h;subst h;have c:=r.fr.good;rcases r.fr.oh with rfl|⟨id,off,ys,rfl,G,b,C,D⟩;all_goals simp_all[dW,iz.same,V.good,br]
  grind
 grind
def Ev.re{m1:Tb bJ}(B:∀d ob,bl m1 d=some ob->bl st.m d=some ob){d:Nat}(U:d∉st.pin){ob:bJ}{p:Nat×Nat}(D:H.length<=H'.length)(G:∀id,id<H.length->¬gy ν st.m id->¬Rv id->H'[id]?=H[id]?)
 (J:∀id,Z id->br H' id=br H id)(hp:cF ob=true->gy ν st.m p.1\/Rv p.1\/H.length<=p.1):Ev Rv ν Z st H (jU ν d p) Z {st with m:=bM m1 d ob} H' where
 len:=D
 same:=λid h C _ hr=>G id h C hr
 rows:=λid h=>⟨h,J id h⟩
 own:=λid h=>by rcases HD h with h|⟨a,rfl⟩;have⟨k,o,a,w,z⟩:=h;exact .inl ⟨k,o,B k o a,w,z⟩;grind
 frz:=λid h=>.inl h
 pin:=λe I u h=>by have:e≠d:=Zac;have⟨o,a,w,z⟩:=vN (ν:=ν) (p:=p) this u h;grind
 pins:=rfl
def Kept(dst:aY Nat)(ν:Nu)(m:Tb bJ)(ν':Nu)(m':Tb bJ):Prop:=∀e u,dst≠some e->bl m' e=some u->∃ob,bl m e=some ob/\ν' e=ν e/\sameShape ob u
def Kept.refl{dst:aY Nat}:Kept dst ν m ν m:=λe u _ h=>⟨u,h,rfl,.refl _⟩
def Kept.gX{dst:aY Nat}{d:Nat}{ob ob':bJ}(a:bl m d=some ob)(B:sameShape ob ob'):Kept dst ν m ν (bM m d ob'):=λe u _ h=>by by_cases k:e=d;grind[cM];rw[ec m ob' (Ne.symm k)]at h;exact⟨u,h,rfl,.refl _⟩
def Kept.add{d:Nat}{ob:bJ}{p:Nat×Nat}{m1:Tb bJ}(B:∀d ob,bl m1 d=some ob->bl m d=some ob):Kept (some d) ν m (jU ν d p) (bM m1 d ob):=λe u w h=>by have:e≠d:=λh=>w (by rw[h]);have⟨o,a,z,C⟩:=vN (ν:=ν) (p:=p) this u h;grind
def mq{d:Nat}:∀e ob,bl (eF d m) e=some ob->bl m e=some ob:=λ_ _ h=>(qC h).2
def Gp.put{k x y:V}{a b r:aX (V×V)}(D:k.scalar=true)(h:Gp H Z a b)(J:FR H Z x y)(hp:sL k x a=some r):∃B,sL k y b=some B/\Gp H Z r B:=by unfold sL at hp;obtain⟨g,d⟩:=Ei h;split at hp;rename_i j v C;simp at hp;subst hp;obtain⟨I,G,_⟩:=d j v C;refine⟨b.set j (k,y),by grind[sL],by simp[h.1],λi u w c z=>?_⟩;rw[getElem?_set]at c z;split at c;grind;rename_i e;rw[if_neg e]at z;exact h.2 i u w c z;simp at hp;subst hp;refine⟨b++[(k,y)],by grind[sL],by simp[h.1],λi u w c z=>?_⟩;by_cases f:i<a.length;rw[getElem?_append_left f]at c;rw[getElem?_append_left (by rw[<-h.1];omega)]at z;exact h.2 i u w c z;rw[getElem?_append_right (by rw[<-h.1];omega),<-h.1]at z;grind;grind
def Nh(r:R ν Z st F H){d:Nat}{cs:SW}(B:bl st.m d=some (.box cs)):∀{l:SW}{D:So},cn ν st.m H Z l D->l.all (PO st.m d)=true->D.all (qt (ν d).1)=true:=by intro l;induction l with|nil=>intro D C _;rw[C.dg];rfl|cons a l O=>intro D C G;obtain⟨w,D,rfl,g1,g2⟩:=C.inv;simp only[all_cons,ζh]at G⊢;refine⟨?_,O g2 G.2⟩;have u:=G.1;unfold PO at u;split at u;rename_i Q T;simp at u;have⟨I,J⟩:=u;split at J;(next S z=>obtain⟨_,_,rfl⟩:=g1.ru z;simp[qt];exactλe=>I (r.inj Q d _ _ z B rfl rfl e));grind;rcases FR.om g1.fr with rfl|⟨id,el,off,_,_,_,rfl,L,_⟩;rfl;simp[qt];rintro rfl;exact r.apart d _ B rfl L;grind
def Ez(r:R ν Z st F H){dst:aY Nat}{l:Ng}{svs:SW}{ys:So}{sv:SV}(U:cn ν st.m H Z svs ys)(h:oT st dst l svs=some (sv,st')):
 ∃y H' ν',fW H l ys=some (y,H')/\R ν' Z st' F H'/\dy ν' st'.m H' Z sv y/\Ev (λ_=>False) ν Z st H ν' Z st' H'/\Kept dst ν st.m ν' st'.m:=by
 unfold oT at h;split at h
 .
  rename_i size d o x;obtain⟨_,_,rfl,a,g⟩:=U.inv;obtain⟨y,_,rfl,X,n⟩:=g.inv;rw[n.dg];split at h
  .rename_i cs w;have⟨ao,hp,e⟩:=ζf.1 h;obtain⟨rfl,rfl⟩:=e;obtain⟨_,_,rfl⟩:=a.ru w;have⟨es,D,K,b,Q⟩:=r.obj d _ w;have⟨p1,p2,p3,p4,p5⟩:=cn.aaM b X hp Q;have I:∀id,id≠(ν d).1->(H.set (ν d).1 (.row es [D.take o++y.cells++D.drop (o+y.cells.length)]))[id]?=H[id]?:=λid G=>by grind
   have C:∀id,Z id->Z id/\br (H.set (ν d).1 (.row es [D.take o++y.cells++D.drop (o+y.cells.length)])) id=br H id:=λid C=>⟨C,by
    unfold br;rw[I id (by rintro rfl;exact r.apart d _ w rfl C)]⟩
   refine⟨.undef,H.set (ν d).1 (.row es [D.take o++y.cells++D.drop (o+y.cells.length)]),ν,?_,?_,.v _ _ (.same _ rfl),Ev.gX r w trivial rfl I rfl Zab,Kept.gX w trivial⟩
   .grind[fW]
   refine r.gX w trivial rfl I rfl ⟨es,_,?_,p4.mono C (λe _ O p=>?_),p5⟩
   .grind
   by_cases k:e=d
   .subst k;rw[cM]at p;cases p;exact⟨_,w,rfl,trivial⟩
   rw[ec st.m _ (Ne.symm k)]at p;exact⟨O,p,rfl,.refl _⟩
  grind
 .
  rename_i size d i o x;obtain⟨_,_,rfl,a,g⟩:=U.inv;obtain⟨y,_,rfl,X,n⟩:=g.inv;rw[n.dg];split at h
  .rename_i k es xs w;split at h
   .rename_i cs ae;split at h
    .rename_i b;obtain⟨rfl,rfl⟩:=h;obtain⟨_,_,_,e,f,rfl⟩:=a.Az w;cases e;have ob:=r.obj d _ w;simp[eC,f]at ob;have⟨rs,K,hl,hf,af,aA⟩:=ob;have⟨c,ap,aa⟩:=hf.get ae;have hi:=(ζe.1 ae).1;rw[getElem?_take,if_pos hi,getElem?_drop]at ap;have hy:=X.fr.cells;have M:y.cells.length=size:=by rw[<-hy.1];exact b.1
     have Y:o+size<=c.length:=by rw[<-aa.1];exact b.2.1
     have q3:y.cells.all V.one=true:=by rw[hy.one];exact b.2.2
     have B:dG H Z (cs.take o++x.cells++cs.drop (o+x.cells.length)) (c.take o++y.cells++c.drop (o+y.cells.length)):=by rw[b.1,M];exact((aa.take o).append hy).append (aa.drop _)
     generalize hN:(c.take o++y.cells++c.drop (o+y.cells.length))=nc at B;have I:∀id,id≠(ν d).1->(H.set (ν d).1 (.row es (rs.set ((ν d).2+i) nc)))[id]?=H[id]?:=λid G=>by rw[getElem?_set];rw[if_neg (Ne.symm G)]
     have J:=f;have C:∀id,Z id->Z id/\br (H.set (ν d).1 (.row es (rs.set ((ν d).2+i) nc))) id=br H id:=λid C=>⟨C,by
      unfold br;rw[I id (by rintro rfl;exact r.apart d _ w J C)]⟩
     have ab:sameShape (.sl k es xs) (.sl k es (xs.set i (cs.take o++x.cells++cs.drop (o+x.cells.length)))):=⟨rfl,rfl,Zab⟩
     refine⟨.undef,H.set (ν d).1 (.row es (rs.set ((ν d).2+i) nc)),ν,?_,?_,.v _ _ (.same _ rfl),Ev.gX r w ab rfl I J Zab,Kept.gX w ab⟩
     .grind[fW]
     refine r.gX w ab rfl I J ?_;simp only[eC,f];have aq:=(ζe.1 K).1;refine⟨_,getElem?_set_self aq,Zac,?_,?_,λe=>?_⟩
     .have e1:List.take (xs.set i (cs.take o++x.cells++cs.drop (o+x.cells.length))).length (List.drop (ν d).2 (rs.set ((ν d).2+i) nc))=((rs.drop (ν d).2).take xs.length).set i nc:=by
       rw[List.length_set,List.drop_set,if_neg Zaa,List.take_set]
       grind
      rw[e1];exact(hf.set i B).mono C
     .intro cc ah u hu;rcases List.mem_or_eq_of_mem_set ah with hm|rfl
      .have⟨z,ar⟩:=af cc hm u hu;exact⟨z,ar.mono C⟩
      have⟨j,hj⟩:=mem_iff_getElem?.1 hu;have ai:=(ζe.1 hj).1;rw[<-B.1]at ai;exact⟨_,(B.2 j _ u (ζd ai) hj).mono C⟩
     grind
    simp at h
   grind
  grind
 .
  rename_i kk d k x;obtain⟨_,_,rfl,a,g⟩:=U.inv;obtain⟨k',_,rfl,X,n⟩:=g.inv;obtain⟨y,_,rfl,h5,h6⟩:=n.inv;rw[h6.dg];split at h
  .rename_i au w;split at h
   .rename_i f;have⟨aB,hp,e⟩:=ζf.1 h;simp at e;obtain⟨rfl,rfl⟩:=e;obtain⟨_,_,rfl⟩:=a.FO w;have av:=X.fr.scalar.1 (xR f);subst av;have⟨aC,K,aw⟩:=r.obj d _ w;have⟨r',aE,ax⟩:=aw.put (xR f) h5.fr hp;have I:∀id,id≠(ν d).1->(H.set (ν d).1 (.map r'))[id]?=H[id]?:=λid G=>by rw[getElem?_set];rw[if_neg (Ne.symm G)]
    have C:∀id,Z id->Z id/\br (H.set (ν d).1 (.map r')) id=br H id:=λid C=>⟨C,by
     unfold br;rw[I id (by rintro rfl;exact r.apart d _ w rfl C)]⟩
    refine⟨.undef,H.set (ν d).1 (.map r'),ν,?_,?_,.v _ _ (.same _ rfl),Ev.gX r w trivial rfl I rfl Zab,Kept.gX w trivial⟩
    .grind[fW]
    refine r.gX w trivial rfl I rfl ⟨r',?_,ax.mono C⟩;rw[getElem?_set_self (ζe.1 K).1]
   simp at h
  simp at h
 .
  rename_i size s x;obtain⟨y1,_,rfl,a,g⟩:=U.inv;obtain⟨y2,_,rfl,X,n⟩:=g.inv;rw[n.dg];split at h
  .rename_i xs e1 e2;have⟨a1,p1,_⟩:=xo a r.obj e1;have⟨a2,p2,Y⟩:=xo X r.obj e2;have:=length_eq_zero_iff.1 (by have:=Y.1;simpa using this.symm)
   subst this
   cases dst with
   |none=>simp at h|some t=>
    have lit:∀(k:Fl)(q:V),cR k=false->uL (ν t) k size 0=q->st.new t=true->(∀y,FR H Z q y->y=q)->FR H Z q y1->
     ∃y H' ν',fW H (.append size) [y1,y2]=some (y,H')/\R ν' Z {st with m:=bM st.m t (.sl k size [])} F H'/\dy ν' (bM st.m t (.sl k size [])) H' Z (.own t) y/\Ev (λ_=>False) ν Z st H ν' Z {st with m:=bM st.m t (.sl k size [])} H'/\Kept (some t) ν st.m ν' (bM st.m t (.sl k size [])):=λk q f aF N hx hf=>by
     have aj:cF (.sl k size [])=true->False:=by grind[cF]
     refine⟨y1,H,jU ν t (ν t),by grind[fW],r.add N (λh=>(aj h).elim) (by grind[eC]),.own _ _ λO A=>?_,Ev.add N (le_refl _) (λ_ _ _=>rfl) (λ_ _=>rfl) (λh=>(aj h).elim),Kept.add λ_ _ h=>h⟩
     rw[cM]at A;cases A;exact⟨_,_,_,rfl,by rw[iV,hx _ hf];grind⟩
    cases s with
    |own d=>
     dsimp only at h;split at h
     .rename_i ob w;split at h
      .rename_i B;simp at h;obtain⟨rfl,rfl⟩:=h;simp[kE,w]at e1
       cases ob with
       |sl k es S=>
        obtain⟨_,_,_,e,rfl⟩:=a.lV w;cases e;have r1:R ν Z {st with m:=eF d st.m} F H:=r.less (λ_ _ h=>h) mq
        have⟨n1,_,_,_⟩:=oD B;have ak:eC (jU ν t (ν d)) (bM (eF d st.m) t (.sl k es S)) H Z t (.sl k es S):=by have o:=r.obj d _ w;grind[eC,iV]
        refine⟨uL (ν d) k es S.length,H,jU ν t (ν d),by grind[fW],r1.add B (λP=>⟨λE=>?_,r.apart d _ w P⟩) ak,.own _ _ λO A=>?_,?_,Kept.add mq⟩
        .have⟨k2,o2,g1,g2,g3⟩:=E;have⟨g4,g5⟩:=qC g1;exact g4 (r.inj d k2 _ o2 w g5 P g2 g3.symm)
        .rw[cM]at A;cases A;exact⟨_,_,_,rfl,by rw[iV]⟩
        by_cases P:cF (.sl k es S)=true
        .exact Ev.re (m1:=eF d st.m) mq n1 (le_refl _) (λ_ _ _ _=>rfl) (λ_ _=>rfl) (λ_=>.inl ⟨d,_,w,P,rfl⟩)
        exact(Ev.less mq).trans (Ev.add B (le_refl _) (λ_ _ _=>rfl) (λ_ _=>rfl) λh=>absurd h P)
       |box cs=>cases e1|mp au=>cases e1
      simp at h
     simp at h
    |v q=>
     cases q with
     |bO=>
      dsimp only at h;split at h
      next N=>simp at h;obtain⟨rfl,rfl⟩:=h;exact lit .nil _ rfl rfl N (λy h=>h.bO) a.fr
      simp at h
     |dQ=>
      dsimp only at h;split at h
      next N=>simp at h;obtain⟨rfl,rfl⟩:=h;exact lit .emp _ rfl rfl N (λy h=>h.dQ) a.fr
      simp at h
     |_=>simp at h
    |_=>simp at h
  .rename_i xs zs G e1 e2;split at h
   .rename_i b;have⟨a1,p1,M⟩:=xo a r.obj e1;have⟨a2,p2,Y⟩:=xo X r.obj e2
    cases dst with
    |none=>simp at h|some t=>
     dsimp only at h;generalize al:giveUp st.m s=m1 at h;split at h
     .rename_i B;simp at h;obtain⟨rfl,rfl⟩:=h;have⟨n1,_,_,_⟩:=oD B;have grow:∃H1,iX H y1=some H1/\H1.length=H.length/\(∀id,¬gy ν st.m id->H1[id]?=H[id]?)/\
       (∀id,gy ν m1 id->H1[id]?=H[id]?)/\(∀id,Z id->br H1 id=br H id):=by
       subst al
       cases s with
       |own d=>
        simp[kE]at e1;split at e1
        .rename_i k es S w;obtain⟨_,_,_,e,rfl⟩:=a.lV w;cases e
         by_cases f:cR k=true
         .have o:=r.obj d _ w;simp[eC,f]at o;have⟨ys,K,_⟩:=o;have J:=f;have I:∀id,id≠(ν d).1->(H.set (ν d).1 .dead)[id]?=H[id]?:=λid G=>by rw[getElem?_set];rw[if_neg (Ne.symm G)]
          refine⟨H.set (ν d).1 .dead,by rw[uv f];grind[iX],Zab,λid E=>I id λe=>E ⟨d,_,w,J,e.symm⟩,λid E=>I id λe=>?_,λid C=>?_⟩
          .have⟨k2,o2,g1,g2,g3⟩:=E;have⟨g4,g5⟩:=qC g1;exact g4 (r.inj d k2 _ o2 w g5 J g2 (by rw[g3,e]))
          unfold br;rw[I id (by rintro rfl;exact r.apart d _ w J C)]
         refine⟨H,?_,rfl,λ_ _=>rfl,λ_ _=>rfl,λ_ _=>rfl⟩
         cases k<;>simp[cR]at f<;>rfl
        simp at e1
       |v q=>
        refine⟨H,?_,rfl,λ_ _=>rfl,λ_ _=>rfl,λ_ _=>rfl⟩
        cases q<;>simp[Lr]at b
        .rw[a.fr.dQ];rfl
        rw[a.fr.bO];rfl
       |_=>simp[Lr]at b
      have⟨H1,g1,g2,g3,g4,g5⟩:=grow;have L:∀e ob,bl m1 e=some ob->bl st.m e=some ob:=by subst al;cases s<;>first|exactλ_ _ h=>h|exact mq
      have am:∀id,gy ν m1 id->id<H.length:=λid⟨k,o,w1,w2,w3⟩=>r.lt ⟨k,o,L k o w1,w2,w3⟩
      have T:∀id,id<H.length->(H1++[Ob.row size (a1++a2)])[id]?=H1[id]?:=λid hl=>getElem?_append_left (by rw[g2];exact hl)
      have ad:∀id,Z id->br (H1++[Ob.row size (a1++a2)]) id=br H id:=λid C=>by have:=g5 id C;unfold br at this⊢;rw[T id (r.yR C)];exact this
      have r1:=r.less (λ_ _ h=>h) L
      have r2:=r1.heap (λid E=>by rw[T id (am id E)];grind) ad
      have ff:=(M.append Y).mono λid C=>⟨C,ad id C⟩
      have W:(H1++[Ob.row size (a1++a2)])[H.length]?=some (.row size (a1++a2)):=by rw[<-g2];simp
      refine⟨.hsl H.length size 0 (xs.length+zs.length),H1++[Ob.row size (a1++a2)],jU ν t (H.length,0),?_,?_,?_,?_,Kept.add L⟩
      .have aD:a2≠[]:=by
        rintro rfl;have ay:=length_eq_zero_iff.1 (by have:=Y.1;simpa using this)
        exact G ay
       have aG:a1.length+a2.length<=2147483648:=by rw[<-M.1,<-Y.1];exact b.1
       have aH:=M.1;have aI:=Y.1;simp_all[fW]
      .refine r2.add B (λ_=>⟨λE=>?_,λC=>?_⟩) ?_
       .grind
       .exact absurd (r.yR C) Zab
       simp only[eC,iV];refine⟨_,W,by simp[M.1,Y.1],?_,ff.JM,λ_=>⟨trivial,by simp[M.1,Y.1]⟩⟩
       have:(xs++zs).length=(a1++a2).length:=by simp[M.1,Y.1]
       rw[this,drop_zero,take_length];exact ff
      .refine .own _ _ λO A=>?_
       simp only at A;rw[cM]at A;cases A;exact⟨_,_,_,rfl,by simp[uL,iV]⟩
      refine Ev.re L n1 (by simp[g2]) (λid hl E _=>?_) ad (λ_=>.inr (.inr (le_refl _)))
      rw[T id hl];grind
     simp at h
   simp at h
  simp at h
 .
  rename_i size d o x l;obtain⟨_,_,rfl,a,g⟩:=U.inv;obtain⟨y,aJ,rfl,X,n⟩:=g.inv;split at h
  .rename_i an;split at h
   .rename_i cs w;have⟨ao,hp,e⟩:=ζf.1 h;simp at e;obtain⟨rfl,rfl⟩:=e;obtain⟨_,_,rfl⟩:=a.ru w;have⟨es,D,K,b,Q⟩:=r.obj d _ w;have⟨p1,p2,p3,p4,p5⟩:=cn.aaM b X hp Q;have I:∀id,id≠(ν d).1->(H.set (ν d).1 (.row es [D.take o++y.cells++D.drop (o+y.cells.length)]))[id]?=H[id]?:=λid G=>by rw[getElem?_set];rw[if_neg (Ne.symm G)]
    have C:∀id,Z id->Z id/\br (H.set (ν d).1 (.row es [D.take o++y.cells++D.drop (o+y.cells.length)])) id=br H id:=λid C=>⟨C,by
     unfold br;rw[I id (by rintro rfl;exact r.apart d _ w rfl C)]⟩
    refine⟨.undef,H.set (ν d).1 (.row es [D.take o++y.cells++D.drop (o+y.cells.length)]),ν,?_,?_,.v _ _ (.same _ rfl),Ev.gX r w trivial rfl I rfl Zab,Kept.gX w trivial⟩
    .simp only[fW,Nh r w n an,if_true,K,List.getElem?_cons_zero,if_pos (And.intro p1 (And.intro p2 p3)),List.set_cons_zero]
    refine r.gX w trivial rfl I rfl ⟨es,_,?_,p4.mono C (λe _ O p=>?_),p5⟩
    .have:=(ζe.1 K).1;rw[getElem?_set_self this]
    by_cases k:e=d
    .subst k;rw[cM]at p;cases p;exact⟨_,w,rfl,trivial⟩
    rw[ec st.m _ (Ne.symm k)]at p;exact⟨O,p,rfl,.refl _⟩
   simp at h
  simp at h
 grind
end
def CM(d:Nat)(st:St):aY St:=
 match bl st.m d with
 |some (.sl k es u)=>some {st with g:=EF (SV.sub d (qw k es u)) st.g,m:=mapM (SV.xC d (qw k es u)) (eF d st.m)}|_=>none
def abq(st:St):Loc->aY SV
 |.s n=>bl st.g n|.c b i=>match bl st.m b with
  |some (.box cs)=>cs[i]?|_=>none
def ghost(x:Gh)(st:St):aY St:=
 match x with
 |.closeS l=>match abq st l with
  |some (.own d)=>CM d st|some _=>some st|none=>none
 |.close d=>CM d st|.closeB d=>match bl st.m d with
  |some (.box cs)=>match dz cs with
   |some u=>some {st with g:=EF (SV.ED d u) st.g,m:=mapM (SV.tL d u) (eF d st.m)}|none=>none
  |_=>none
 |.canon (.s n) d es=>match bl st.g n with
  |some (.v .bO)=>if st.new d then some {st with g:=bM st.g n (.own d),m:=bM st.m d (.sl .nil es [])}else none|some (.v .dQ)=>if st.new d then some {st with g:=bM st.g n (.own d),m:=bM st.m d (.sl .emp es [])}else none|some (.own e)=>if e=d then some st else if st.new d then some {st with g:=Cr e d st.g,m:=xG e d st.m}else none|some (.ptr e _)=>if e=d then some st else if st.new d then some {st with g:=Cr e d st.g,m:=xG e d st.m}else none|_=>none
 |.canon (.c b i) d es=>match bl st.m b with
  |some (.box cs)=>match cs[i]?with
   |some (.v .bO)=>if st.new d then some {st with m:=bM (bM st.m d (.sl .nil es [])) b (.box (cs.set i (.own d)))}else none|some (.v .dQ)=>if st.new d then some {st with m:=bM (bM st.m d (.sl .emp es [])) b (.box (cs.set i (.own d)))}else none|some (.own e)=>if e=d then some st else if st.new d then some {st with g:=Cr e d st.g,m:=xG e d st.m}else none|_=>none
  |_=>none
 |.keep gs w=>match lN st.g gs,lN st.m w with
  |some g,some m=>some {st with g:=g,m:=m}|_,_=>none
 |.drop ds=>some {st with g:=pW ds st.g}
section
variable{Rv:Nat->Prop}{ν ν':Nu}{Z Z':Nat->Prop}{st st':St}{m m':Tb bJ}{F F':WP}{H H':bn}{N:Nat->Y'}
def QS(r:R ν Z st F H){dst:aY Nat}{size d:Nat}{c f:X'}{J:SW}{ys:So}{sv:SV}(D:cn ν st.m H Z (.own d::J) ys)(h:Ch st dst size c f d J=some (sv,st')):
 ∃y ν',bN N (.slice size c f) ys=some y/\R ν' Z st' F H/\dy ν' st'.m H Z sv y/\Ev Rv ν Z st H ν' Z st' H:=by
 unfold Ch at h;obtain⟨i,j,rfl,g,S⟩:=D.inv;split at h
 .rename_i k es L ws t u T;split at h
  .rename_i hk;have⟨⟨l,n⟩,U,h⟩:=ζg.1 h;have⟨⟨a,b⟩,C,h⟩:=ζg.1 h;dsimp only at h;split at h
   .rename_i w;obtain⟨rfl,rfl⟩:=h;obtain⟨_,_,_,e,rfl⟩:=g.lV u;cases e;have W:b<=L.length/\a<=b:=by
     grind[ez]
    have o:=r.obj d _ u;simp[eC,hk.1]at o;have⟨rs,p,q,X,O,_⟩:=o;have z:=hk.1;have r1:R ν Z {st with m:=eF d st.m} F H:=r.less (λ_ _ h=>h) mq
    have G:¬gy ν (eF d st.m) (ν d).1:=by rintro⟨k2,o2,g1,g2,g3⟩;have⟨g4,g5⟩:=qC g1;exact g4 (r.inj d k2 _ o2 u g5 z g2 g3.symm)
    have B:((L.take b).drop a).length=b-a:=Zad
    refine⟨.hsl (ν d).1 es ((ν d).2+a) (b-a),jU ν t ((ν d).1,(ν d).2+a),?_,?_,?_,?_⟩
    .have I:=cn.dz S T;rw[uv hk.1];simp[bN,I.ot U,jA,if_pos hk.2,C]
    .refine r1.add w (λ_=>⟨G,r.apart d _ u z⟩) ?_
     simp[eC,cR,iV];have:=(X.take b).drop a
     grind[List.drop_take,drop_drop]
    .refine .own _ _ λY Q=>?_
     rw[cM]at Q;cases Q;exact⟨_,_,_,rfl,by rw[B];simp[uL,iV]⟩
    exact Ev.re (st:=st) mq (oD w).1 (le_refl _) (λ_ _ _ _=>rfl) (λ_ _=>rfl) (λ_=>.inl ⟨d,_,u,z,rfl⟩)
   grind
  grind
 grind
def IJ{f:SV->SV}:∀{g:Tb SV}{s:Nat},bl (EF f g) s=(bl g s).map f
 |[],s=>rfl|(k,x)::r,s=>by simp[EF,bl];split;rfl;exact IJ
def Bn(f:SW->SW):bJ->bJ
 |.box cs=>.box (f cs)|o=>o
def HL{f:SW->SW}:∀{m:Tb bJ}{d:Nat},bl (mapM f m) d=(bl m d).map (Bn f)
 |[],d=>rfl|(k,x)::r,d=>by cases x<;>simp[mapM,bl]<;>split<;>first|rfl|exact HL
theorem yV{d:Nat}{w:V}:∀{l:SW}{j:Nat},(SV.xC d w l)[j]?=(l[j]?).map (SV.sub d w)
 |[],j=>by simp[SV.xC]|x::r,0=>by simp[SV.xC]|x::r,j+1=>by simp[SV.xC,yV]
def uz{d:Nat}{w:So}:∀{l:SW}{j:Nat},(SV.tL d w l)[j]?=(l[j]?).map (SV.ED d w)
 |[],j=>by simp[SV.tL]|x::r,0=>by simp[SV.tL]|x::r,j+1=>by simp[SV.tL,uz]
def qY{d:Nat}{w:V}:∀{l:SW},(SV.xC d w l).length=l.length
 |[]=>rfl|x::r=>by simp[SV.xC,qY]
def qc{d:Nat}{w:So}:∀{l:SW},(SV.tL d w l).length=l.length
 |[]=>rfl|x::r=>by simp[SV.tL,qc]
def dy.sub{sv:SV}{y:V}{d:Nat}{k:Fl}{es:Nat}{xs:S'}(l:bl m d=some (.sl k es xs))(G:FR H Z' (qw k es xs) (uL (ν d) k es xs.length))(J:∀id,Z id->Z' id)
 (U:∀e ob',bl m' e=some ob'->e≠d/\∃ob,bl m e=some ob/\sameShape ob ob')(r:dy ν m H Z sv y):dy ν m' H Z' (sv.sub d (qw k es xs)) y:=by
 have w:∀id,Z id->Z' id/\br H id=br H id:=λid h=>⟨J id h,rfl⟩
 have C:∀e ob',bl m' e=some ob'->∃ob,bl m e=some ob/\ν e=ν e/\sameShape ob ob':=λe ob' h=>Zac
 induction r with
 |v x y h=>exact .v x y (h.mono w)|own e y h=>
  simp[SV.sub];split
  next I=>subst I;obtain⟨_,_,_,e1,rfl⟩:=h _ l;cases e1;exact .v _ _ G
  exact(dy.own e y h).mono w λe _=>C e
 |ptr e o y h=>exact(dy.ptr e o y h).mono w λe _=>C e|el e i o y h=>exact(dy.el e i o y h).mono w λe _=>C e|mp e y h=>exact(dy.mp e y h).mono w λe _=>C e|clo f a b z L D S hva O B Q=>
  refine .clo f _ _ z L (by rw[qY];omega) (by rw[qY];omega) (λj u v c g=>?_) (λj u v c g=>?_)
  all_goals grind[yV]
 |tup a z D hva B=>
  refine .tup _ z (by rw[qY];omega) (λj u v c g=>?_)
  rw[yV,ζf]at c;grind
 |agg a z D hva B=>
  refine .agg _ z (by rw[qY];omega) (λj u v c g=>?_)
  rw[yV,ζf]at c;grind
 |yl id=>exact .yl id
theorem Xe {f:FuncId} {a b:aX SV} {y:V} (r:dy ν m H Z (.clo f a b) y):dy ν m H Z (UP f a b) y:=by
 unfold UP;split
 .rename_i x z D G;cases r with|clo _ _ _ w B I J hva u=>
  have h1:=cn.dz (ν:=ν) (m:=m) (H:=H) (Z:=Z) (ys:=w) ⟨I,hva⟩ D;have C:=cn.dz (ν:=ν) (m:=m) (H:=H) (Z:=Z) (ys:=B) ⟨J,u⟩ G;exact .v _ _ (.clo f x z w B h1.1 C.1 h1.2 C.2)
 exact r
def dy.ED{sv:SV}{y:V}{d:Nat}{cs:SW}{xs:So}(k:bl m d=some (.box cs))(G:∀o,o<=xs.length->FR H Z' (.fptr (xs.drop o)) (.hptr (ν d).1 0 o))(J:∀id,Z id->Z' id)
 (U:∀e ob',bl m' e=some ob'->e≠d/\∃ob,bl m e=some ob/\sameShape ob ob')(r:dy ν m H Z sv y):dy ν m' H Z' (sv.ED d xs) y:=by
 have w:∀id,Z id->Z' id/\br H id=br H id:=λid h=>⟨J id h,rfl⟩
 have z:∀e ob',bl m' e=some ob'->∃ob,bl m e=some ob/\ν e=ν e/\sameShape ob ob':=λe ob' h=>Zac
 induction r with
 |v x y h=>exact .v x y (h.mono w)|own e y h=>exact(dy.own e y h).mono w λe _=>z e|ptr e o y h=>
  simp only[SV.ED];split
  .rename_i I;subst I;obtain⟨_,e1,rfl⟩:=h _ k;split
   next L=>exact .v _ _ (G o L)
   exact(dy.ptr e o _ h).mono w λe _=>z e
  exact(dy.ptr e o y h).mono w λe _=>z e
 |el e i o y h=>exact(dy.el e i o y h).mono w λe _=>z e|mp e y h=>exact(dy.mp e y h).mono w λe _=>z e|clo f a b B O C Q hva S D T=>
  refine Xe (.clo f _ _ B O (by rw[qc];exact C) (by rw[qc];exact Q) (λj u v c g=>?_) (λj u v c g=>?_))
  .rw[uz,ζf]at c;grind
  rw[uz,ζf]at c;grind
 |tup a B C hva D=>
  refine .tup _ B (by rw[qc];exact C) (λj u v c g=>?_)
  rw[uz,ζf]at c;grind
 |agg a B C hva D=>
  refine .agg _ B (by rw[qc];exact C) (λj u v c g=>?_)
  rw[uz,ζf]at c;grind
 |yl id=>exact .yl id
def eC.Bn{d:Nat}{ob:bJ}{f:SW->SW}(D:∀id,Z id->Z' id)(U:∀l,(f l).length=l.length)
 (G:∀cs B,cn ν m H Z cs B->cn ν m' H Z' (f cs) B)(o:eC ν m H Z d ob):eC ν m' H Z' d (Bn f ob):=by
 have u:∀id,Z id->Z' id/\br H id=br H id:=λid h=>⟨D id h,rfl⟩
 cases ob with
 |sl k es Q=>
  simp[Go.VE.Bn,eC]at o⊢;split
  next b=>rw[if_pos b]at o;have⟨I,a,w,C,J,L⟩:=o;exact⟨I,a,w,C.mono u,J.mono u,L⟩
  grind
 |box cs=>have⟨es,B,a,w,C⟩:=o;exact⟨es,B,a,G cs B w,C⟩|mp O=>have⟨z,a,w⟩:=o;exact⟨z,a,w.mono u⟩
def Ae{f:SW->SW}{ob:bJ}:cF (Bn f ob)=cF ob:=by cases ob<;>rfl
theorem Ql{f:SW->SW}{ob:bJ}:sameShape ob (Bn f ob):=by cases ob<;>simp[Bn,sameShape]
theorem R.shut(r:R ν Z st F H){d:Nat}{ob:bJ}(t:bl st.m d=some ob){fs:SV->SV}{D:SW->SW}(A:∀l,(D l).length=l.length)(P:∀l(j:Nat),(D l)[j]?=(l[j]?).map fs)
 (B:∀id,Z' id↔Z id\/(cF ob=true/\id=(ν d).1))(G:cF ob=true->∃es ys,H[(ν d).1]?=some (.row es ys)/\xQ H Z ys)
 (V:∀m',(∀e ob',bl m' e=some ob'->e≠d/\∃ob,bl st.m e=some ob/\sameShape ob ob')->∀sv y,dy ν st.m H Z sv y->dy ν m' H Z' (fs sv) y):
 R ν Z' {st with g:=EF fs st.g,m:=mapM D (eF d st.m)} F H/\Ev Rv ν Z st H ν Z' {st with g:=EF fs st.g,m:=mapM D (eF d st.m)} H:=by
 have key:∀e ob',bl (mapM D (eF d st.m)) e=some ob'->e≠d/\∃ob,bl st.m e=some ob/\ob'=Bn D ob:=λe ob' h=>by rw[HL,ζf]at h;obtain⟨o,a,rfl⟩:=h;grind[qC]
 have L:∀e ob',bl (mapM D (eF d st.m)) e=some ob'->e≠d/\∃ob,bl st.m e=some ob/\sameShape ob ob':=λe ob' h=>by obtain⟨a,o,z,rfl⟩:=key e ob' h;grind[Ql]
 have E:=V _ L;have T:∀cs C,cn ν st.m H Z cs C->cn ν (mapM D (eF d st.m)) H Z' (D cs) C:=λcs C h=>by refine⟨by rw[A];exact h.1,λj u v i hv=>?_⟩;rw[P,ζf]at i;obtain⟨K,U,rfl⟩:=i;exact E K v (h.2 j K v U hv)
 have w:=λid h=>(B id).2 (.inl h)
 refine⟨⟨λs sv S=>?_,λe ob' W=>?_,λb M o1 o2 a z J N hp=>?_,λb o1 a J=>?_,λid h=>?_,⟨λid es ys O f c hc u i=>?_⟩⟩,⟨le_refl _,λ_ _ _ _ _=>rfl,λid h=>⟨w id h,rfl⟩,?_,?_,?_,rfl⟩⟩
 .rw[IJ,ζf]at S;obtain⟨Q,X,rfl⟩:=S;exact E Q _ (r.slot s Q X)
 .obtain⟨a,o,z,rfl⟩:=key e ob' W;exact eC.Bn w A T (r.obj e o z)
 .obtain⟨_,p1,k1,rfl⟩:=key b o1 a;obtain⟨_,p2,k2,rfl⟩:=key M o2 z;rw[Ae]at J N;exact r.inj b M p1 p2 k1 k2 J N hp
 .obtain⟨Y,p1,k1,rfl⟩:=key b o1 a;rw[Ae]at J;intro O;rcases(B _).1 O with O|⟨I,W⟩
  .exact r.apart b p1 k1 J O
  exact Y (r.inj b d p1 ob k1 t J I W)
 .rcases (B id).1 h with h|⟨I,rfl⟩
  .exact r.zrow id h
  have⟨es,ys,f,_⟩:=G I;unfold br;rw[f];rfl
 .rcases (B id).1 O with h|⟨I,rfl⟩
  .have⟨x,q⟩:=r.deep.row id es ys h f c hc u i;exact⟨x,q.mono λk n=>⟨w k n,rfl⟩⟩
  have⟨ab,ad,aa,S⟩:=G I;unfold br at f;rw[aa]at f;obtain⟨_,rfl⟩:=f;have⟨x,q⟩:=S c hc u i;exact⟨x,q.mono λk n=>⟨w k n,rfl⟩⟩
 .rintro id ⟨e,o,a,z,h3⟩;obtain⟨_,p,k1,rfl⟩:=key e o a;rw[Ae]at z;exact .inl ⟨e,p,k1,z,h3⟩
 .intro id h;rcases(B id).1 h with h|⟨I,rfl⟩
  .grind
  exact .inr (.inl ⟨d,ob,t,I,rfl⟩)
 grind
def LA(r:R ν Z st F H){d:Nat}(h:CM d st=some st'):∃Z',R ν Z' st' F H/\Ev Rv ν Z st H ν Z' st' H:=by
 simp[CM]at h;split at h;rename_i k es w u;simp at h;subst h;have o:=r.obj d _ u;refine⟨λid=>Z id\/(cF (.sl k es w)=true/\id=(ν d).1),R.shut r u (λ_=>qY) (λ_ _=>yV) (λ_=>Iff.rfl) (λB=>?_) (λm' z G y b=>?_)⟩;have a:cR k=true:=B;grind[eC];refine dy.sub u ?_ (λid h=>.inl h) z b;by_cases a:cR k=true;simp[eC,a]at o;have⟨I,b,C,D,J,_⟩:=o;rw[uv a];have e:qw k es w=.fsl es w:=by cases k<;>simp[cR]at a<;>rfl
 rw[e];refine FR.OM (.inr ⟨a,rfl⟩) (by unfold br;rw[b];rfl) C (D.mono λid h=>⟨.inl h,rfl⟩);cases k<;>simp[cR]at a;exact .same _ rfl;exact .same _ rfl;grind
def SE(r:R ν Z st F H){d:Nat}(h:ghost (.closeB d) st=some st'):∃Z',R ν Z' st' F H/\Ev Rv ν Z st H ν Z' st' H:=by
 simp[ghost]at h;split at h;rename_i cs w;split at h;rename_i I J;simp at h;subst h;have⟨es,z,a,b,_⟩:=r.obj d _ w;have C:=b.dz J;have L:xQ H Z [z]:=by intro c B u e;simp[List.mem_singleton]at B;subst B;have⟨j,O⟩:=mem_iff_getElem?.1 e;have Q:j<I.length:=(by rw[C.1];grind);exact⟨_,C.2 j _ u (ζd Q) O⟩
 refine⟨λid=>Z id\/(cF (.box cs)=true/\id=(ν d).1),R.shut r w (λ_=>qc) (λ_ _=>uz) (λ_=>Iff.rfl) (λS=>⟨es,_,a,L⟩) (λm' D T y G=>?_)⟩;refine dy.ED w (λo U=>?_) (λid h=>.inl h) D G;exact FR.FW (.inr ⟨rfl,rfl⟩) (show br H (ν d).1=some (es,[z])by unfold br;rw[a];rfl) rfl (by rw[<-C.1];omega) ((C.drop o).mono λid h=>⟨.inl h,rfl⟩);grind;grind
def vO{d e:Nat}:∀{l:SW}{j:Nat},(SV.xI d e l)[j]?=(l[j]?).map (SV.wX d e)
 |[],j=>by simp[SV.xI]|x::r,0=>by simp[SV.xI]|x::r,j+1=>by simp[SV.xI,vO]
def rz{d e:Nat}:∀{l:SW},(SV.xI d e l).length=l.length
 |[]=>rfl|x::r=>by simp[SV.xI,rz]
def Is{d e:Nat}:∀{g:Tb SV}{s:Nat},bl (Cr d e g) s=(bl g s).map (SV.wX d e)
 |[],s=>rfl|(k,x)::r,s=>by simp[Cr,bl];split;rfl;exact Is
def BJ{d e:Nat}(B:d≠e):∀{m:Tb bJ}{k:Nat},bl m e=none->bl (xG d e m) k=(if k=d then none else(bl m (if k=e then d else k)).map (bJ.wX d e))
 |[],k,_=>by simp[xG,bl]|(n,x)::r,k,h=>by simp[bl]at h;split at h;simp_all;have D:=BJ B (k:=k) h;grind[xG,bl]
def xU(ν:Nu)(d e:Nat):Nu:=λk=>if k=e then ν d else ν k
def dy.wX{sv:SV}{y:V}{d e:Nat}(W:bl m e=none)(U:sv.c8 e=false)(G:d≠e)(r:dy ν m H Z sv y):dy (xU ν d e) (xG d e m) H Z (sv.wX d e) y:=by
 have key:∀k,k≠e->∀w,bl (xG d e m) (if k=d then e else k)=some w->∃ob,bl m k=some ob/\xU ν d e (if k=d then e else k)=ν k/\w=ob.wX d e:=λk l w h=>by rw[BJ G W]at h;by_cases c:k=d;subst c;rw[if_pos rfl,if_neg (Ne.symm G),if_pos rfl,ζf]at h;obtain⟨ob,B,rfl⟩:=h;simp_all[xU];rw[if_neg c,if_neg c,if_neg l,ζf]at h;obtain⟨ob,B,rfl⟩:=h;simp_all[xU]
 induction r with|v x y h=>exact .v x y h|own k y h=>have l:k≠e:=(by simp_all[SV.c8]);refine .own _ y λw D=>?_;obtain⟨ob,c,B,rfl⟩:=key k l w D;obtain⟨_,_,_,rfl,rfl⟩:=h ob c;exact⟨_,_,_,rfl,by rw[B]⟩|ptr k o y h=>have l:k≠e:=(by simp_all[SV.c8]);refine .ptr _ o y λw D=>?_;obtain⟨ob,c,B,rfl⟩:=key k l w D;obtain⟨_,rfl,rfl⟩:=h ob c;exact⟨_,rfl,by rw[B]⟩|el k i o y h=>have l:k≠e:=(by simp_all[SV.c8]);refine .el _ i o y λw D=>?_;obtain⟨ob,c,B,rfl⟩:=key k l w D;obtain⟨_,_,_,rfl,O,rfl⟩:=h ob c;exact⟨_,_,_,rfl,O,by rw[B]⟩|mp k y h=>have l:k≠e:=(by simp_all[SV.c8]);refine .mp _ y λw D=>?_;obtain⟨ob,c,B,rfl⟩:=key k l w D;obtain⟨_,rfl,rfl⟩:=h ob c;exact⟨_,rfl,by rw[B]⟩|clo f a b I Q L X hva S C T=>simp[SV.c8]at U;refine .clo f _ _ I Q (by rw[rz];omega) (by rw[rz];omega) (λj u v g n=>?_) (λj u v g n=>?_);rw[vO,ζf]at g;obtain⟨J,z,rfl⟩:=g;grind[v_];rw[vO,ζf]at g;obtain⟨J,z,rfl⟩:=g;grind[v_]|tup a I L hva C=>refine .tup _ I (by rw[rz];omega) (λj u v g n=>?_);rw[vO,ζf]at g;obtain⟨J,z,rfl⟩:=g;exact C j J v z n (v_ U z)|agg a I L hva C=>refine .agg _ I (by rw[rz];omega) (λj u v g n=>?_);rw[vO,ζf]at g;obtain⟨J,z,rfl⟩:=g;exact C j J v z n (v_ U z)|yl id=>exact .yl id
def LU(r:R ν Z st F H){d e:Nat}(B:d≠e)(Y:st.new e=true):R (xU ν d e) Z {st with g:=Cr d e st.g,m:=xG d e st.m} F H/\Ev Rv ν Z st H (xU ν d e) Z {st with g:=Cr d e st.g,m:=xG d e st.m} H:=by
 have⟨t,J,X,i⟩:=oD Y;have key:∀k w,bl (xG d e st.m) k=some w->∃k0 ob,bl st.m k0=some ob/\w=ob.wX d e/\xU ν d e k=ν k0/\k≠d/\(k=e/\k0=d\/k≠e/\k0=k):=λk w h=>by rw[BJ B J]at h;split at h;simp_all;rename_i a;rw[ζf]at h;obtain⟨ob,z,rfl⟩:=h;by_cases C:k=e;rw[if_pos C]at z;exact⟨d,ob,z,rfl,by grind[xU],a,.inl ⟨C,rfl⟩⟩;rw[if_neg C]at z;exact⟨k,ob,z,rfl,by grind[xU],a,.inr ⟨C,rfl⟩⟩
 have L:∀ob:bJ,cF (ob.wX d e)=cF ob:=λob=>by cases ob<;>rfl
 refine⟨⟨λs sv U=>?_,λk w c=>?_,λb l o1 o2 a z D W hp=>?_,λb o1 a D=>?_,r.zrow,r.deep⟩,⟨le_refl _,λ_ _ _ _ _=>rfl,λid h=>⟨h,rfl⟩,?_,λ_ h=>.inl h,?_,rfl⟩⟩;rw[Is,ζf]at U;obtain⟨O,G,rfl⟩:=U;exact dy.wX J (A4 X G) B (r.slot s O G);obtain⟨k0,ob,a,rfl,z,_,_⟩:=key k w c;have o:=r.obj k0 ob a;cases ob with|sl fl es xs=>grind[bJ.wX,eC]|box cs=>have⟨es,Q,g1,g2,g3⟩:=o;have S:=(by have:=Bg i a;simpa[bJ.c8]using this);refine⟨es,Q,Zac,⟨by rw[rz];exact g2.1,λj u v f n=>?_⟩,g3⟩;rw[vO,ζf]at f;obtain⟨p,I,rfl⟩:=f;exact dy.wX J (v_ S I) B (g2.2 j p v I n)|mp aa=>grind[bJ.wX,eC]
 obtain⟨k1,p1,g1,rfl,e1,q,T⟩:=key b o1 a;obtain⟨k2,p2,g2,rfl,e2,x,y⟩:=key l o2 z;rw[L]at D W;have:=r.inj k1 k2 p1 p2 g1 g2 D W Zac;omega;obtain⟨k1,p1,g1,rfl,e1,_⟩:=key b o1 a;rw[L]at D;rw[e1];exact r.apart k1 p1 g1 D;rintro id ⟨k,o,a,z,C⟩;obtain⟨k1,p1,g1,rfl,e1,_⟩:=key k o a;rw[L]at z;exact .inl ⟨k1,p1,g1,z,Zac⟩;intro k c w h;obtain⟨k1,p1,g1,rfl,e1,q,T⟩:=key k w h;rcases T with⟨rfl,_⟩|⟨T,rfl⟩;grind;exact⟨p1,g1,e1,by cases p1<;>simp[bJ.wX,sameShape]⟩
def R.say(r:R ν Z st F H){n:Nat}{sv:SV}(h:dy ν st.m H Z sv (get F n)):R ν Z {st with g:=bM st.g n sv} F H where
 slot:=λs x u=>by by_cases e:n=s;grind[cM];rw[ec st.g sv e]at u;exact r.slot s x u
 obj:=r.obj
 inj:=r.inj
 apart:=r.apart
 zrow:=r.zrow
 deep:=r.deep
def Ri(r:R ν Z st F H){n d es:Nat}{k:Fl}{x:V}(a:qw k es []=x/\cR k=false)(D:bl st.g n=some (.v x))(B:st.new d=true)(G:∀y,FR H Z x y->y=x)(J:uL (ν d) k es 0=x):
 R (jU ν d (ν d)) Z {st with g:=bM st.g n (.own d),m:=bM st.m d (.sl k es [])} F H/\Ev Rv ν Z st H (jU ν d (ν d)) Z {st with g:=bM st.g n (.own d),m:=bM st.m d (.sl k es [])} H:=by
 have u:cF (.sl k es [])=true->False:=by grind[cF]
 have r1:=r.add B (p:=ν d) (λh=>(u h).elim) (by grind[eC])
 refine⟨r1.say (.own _ _ λz w=>?_),?_⟩
 .rw[cM]at w;cases w;rw[iV,G _ (r.slot n _ D).fr]
  grind
 exact(Ev.add B (le_refl _) (λ_ _ _=>rfl) (λ_ _=>rfl) (λh=>(u h).elim)).trans (Ev.slots _)
def Rq(r:R ν Z st F H){b i d es:Nat}{k:Fl}{x:V}{cs:SW}(n:cR k=false)(U:bl st.m b=some (.box cs))(f:cs[i]?=some (.v x))(D:st.new d=true)(W:∀y,FR H Z x y->y=x)(Y:uL (ν d) k es 0=x):
 ∃ν',R ν' Z {st with m:=bM (bM st.m d (.sl k es [])) b (.box (cs.set i (.own d)))} F H/\Ev Rv ν Z st H ν' Z {st with m:=bM (bM st.m d (.sl k es [])) b (.box (cs.set i (.own d)))} H:=by
 have B:cF (.sl k es [])=true->False:=by grind[cF]
 have r1:=r.add D (p:=ν d) (λh=>(B h).elim) (by grind[eC])
 have C:b≠d:=by rintro rfl;rw[(oD D).2.1]at U;cases U
 have z:bl (bM st.m d (.sl k es [])) b=some (.box cs):=by rw[ec _ _ (Ne.symm C)];omega
 have⟨G,I,g,J,Q⟩:=r1.obj b _ z;have l:∀e w,bl (bM (bM st.m d (.sl k es [])) b (.box (cs.set i (.own d)))) e=some w->∃ob,bl (bM st.m d (.sl k es [])) e=some ob/\jU ν d (ν d) e=jU ν d (ν d) e/\sameShape ob w:=λe w h=>by by_cases L:e=b;subst L;rw[cM]at h;cases h;exact⟨_,z,rfl,trivial⟩;rw[ec _ _ (Ne.symm L)]at h;exact⟨w,h,rfl,.refl _⟩
 refine⟨jU ν d (ν d),r1.gX z trivial rfl (λ_ _=>rfl) rfl ⟨G,I,g,⟨by simp[J.1],λj u v a c=>?_⟩,Q⟩,?_⟩
 .rw[getElem?_set]at a;split at a
  .rename_i e;subst e;split at a
   .cases a;refine .own _ _ λw O=>?_
    rw[ec _ _ C,cM]at O;cases O;rw[iV,W v (J.2 i _ v f c).fr]
    grind
   grind
  exact(J.2 j u v a c).mono (λid h=>⟨h,rfl⟩) λe _=>l e
 exact(Ev.add D (le_refl _) (λ_ _ _=>rfl) (λ_ _=>rfl) (λh=>(B h).elim)).trans (Ev.gX r1 z trivial rfl (λ_ _=>rfl) rfl (le_refl _))
def UX(r:R ν Z st F H){x:Gh}(h:ghost x st=some st'):∃ν' Z',R ν' Z' st' F H/\Ev Rv ν Z st H ν' Z' st' H:=by cases x with|close d=>have⟨Z',a,b⟩:=LA (Rv:=Rv) r h;grind|closeS l=>simp[ghost]at h;split at h;have⟨Z',a,b⟩:=LA (Rv:=Rv) r h;grind;simp at h;subst h;exact⟨ν,Z,r,.refl⟩;grind|closeB d=>have⟨Z',a,b⟩:=SE (Rv:=Rv) r h;grind|keep gs G=>simp[ghost]at h;split at h;(next g m e B=>simp at h;subst h;exact⟨ν,Z,r.less (λs D w=>sW e w) (λd ob hd=>sW B hd),Ev.less (λd ob hd=>sW B hd)⟩);grind|drop ds=>simp[ghost]at h;subst h;exact⟨ν,Z,r.less (λs D w=>qD w) (λd ob hd=>hd),Ev.less (λd ob hd=>hd)⟩|canon l d es=>cases l with|s n=>simp[ghost]at h;split at h;rename_i w;split at h;rename_i u;simp at h;have⟨a,b⟩:=Ri (Rv:=Rv) (es:=es) (k:=.nil) r ⟨rfl,rfl⟩ w u (λy h=>h.bO) rfl;grind;grind;rename_i w;split at h;rename_i u;simp at h;have⟨a,b⟩:=Ri (Rv:=Rv) (es:=es) (k:=.emp) r ⟨rfl,rfl⟩ w u (λy h=>h.dQ) rfl;grind;grind;split at h;simp at h;subst h;exact⟨ν,Z,r,.refl⟩;rename_i z;split at h;rename_i u;simp at h;have⟨a,b⟩:=LU (Rv:=Rv) r z u;grind;grind;split at h;simp at h;subst h;exact⟨ν,Z,r,.refl⟩;rename_i z;split at h;rename_i u;simp at h;have⟨a,b⟩:=LU (Rv:=Rv) r z u;grind;grind;grind|c b i=>simp[ghost]at h;split at h;rename_i cs C;split at h;rename_i w;split at h;rename_i u;simp at h;have⟨ν',a,b⟩:=Rq (Rv:=Rv) (es:=es) (k:=.nil) r rfl C w u (λy h=>h.bO) rfl;grind;grind;rename_i w;split at h;rename_i u;simp at h;have⟨ν',a,b⟩:=Rq (Rv:=Rv) (es:=es) (k:=.emp) r rfl C w u (λy h=>h.dQ) rfl;grind;grind;split at h;simp at h;subst h;exact⟨ν,Z,r,.refl⟩;rename_i z;split at h;rename_i u;simp at h;have⟨a,b⟩:=LU (Rv:=Rv) r z u;grind;grind;grind;grind
end
structure pK(E:Env)(f:FuncId)(q:Iz):Prop where
 keep:E.keep f=true
 own:E.own f=false
 le:∀es xs vs ys,q.go es xs vs=some ys->ys.length<=xs.length/\(q.part=false->ys.length=xs.length)
 none:∀es vs ys,q.go es [] vs=some ys->∀(H:bn)(Z:Nat->Prop)(ws:List V)(w:V),dG H Z vs ws->(w=.bO\/w=.dQ)->∃n X,∀k,n<=k->run E k (.fn f) (w::ws) H=some (if q.part then w else .undef,H++X)
 row:∀es xs vs ys,q.go es xs vs=some ys->∀(H:bn)(Z:Nat->Prop)(ws:List V)(id off:Nat)(rs:List (List V)),dG H Z vs ws->H[id]?=some (.row es rs)->off+xs.length<=rs.length->
  iz H Z xs ((rs.drop off).take xs.length)->xQ H Z rs->¬Z id->∃n rs' X,(∀k,n<=k->run E k (.fn f) (.hsl id es off xs.length::ws) H=some (if q.part then .hsl id es off ys.length else .undef,(H++X).set id (.row es rs')))/\
   rs'.length=rs.length/\iz H Z ys ((rs'.drop off).take ys.length)/\xQ H Z rs'
section
variable{Rv:Nat->Prop}{ν ν':Nu}{Z Z':Nat->Prop}{st st':St}{m m':Tb bJ}{F F':WP}{H H':bn}
def Yi{E:Env}{f:Y'}{q:Iz}(i:pK E f q)(r:R ν Z st F H){args:SW}{ys:So}(K:cn ν st.m H Z args ys){dst:aY Nat}{sv:SV}(h:EY q dst args st=some (sv,st')):
 ∃n y H' ν',(∀k,n<=k->run E k (.fn f) ys H=some (y,H'))/\R ν' Z st' F H'/\dy ν' st'.m H' Z sv y/\Ev Rv ν Z st H ν' Z st' H'/\Kept dst ν st.m ν' st'.m:=by
 unfold EY at h;split at h
 .rename_i d vs;obtain⟨w,p,rfl,M,N⟩:=K.inv;split at h
  .rename_i k es xs zs u G;have s:=cn.dz N G;split at h
   .rename_i ns T;have⟨al,P⟩:=i.le _ _ _ _ T;obtain⟨_,_,_,ee,rfl⟩:=M.lV u;cases ee;have grow:∀X:bn,R ν Z st F (H++X)/\Ev Rv ν Z st H ν Z st (H++X)/\∀id,Z id->br (H++X) id=br H id:=λX=>by
     have j:∀id,id<H.length->(H++X)[id]?=H[id]?:=λid h=>getElem?_append_left h
     have G:∀id,Z id->br (H++X) id=br H id:=λid h=>by unfold br;rw[j id (r.yR h)]
     exact⟨r.heap (λid h=>j id (r.lt h)) G,Ev.heap Zab (λid h _ _ _=>j id h) G,G⟩
    have o:=r.obj d _ u
    cases a:cR k with
    |false=>
     simp only[eC,a,false_eq_true,if_false]at o;subst o;have hw:uL (ν d) k es 0=.bO\/uL (ν d) k es 0=.dQ:=by cases k<;>simp[uL,cR]at a⊢
     have⟨n,X,L⟩:=i.none _ _ _ T H Z p _ s hw;have⟨b,I,U⟩:=grow X;simp only[a,false_eq_true,if_false]at h;split at h
     .rename_i O;split at h
      .rename_i t;split at h
       .rename_i z;simp only[ζa,ζc]at h;obtain⟨rfl,rfl⟩:=h;have r1:R ν Z {st with m:=eF d st.m} F (H++X):=b.less (g:=st.g) (λ_ _ h=>h) mq
        rw[if_pos O]at L;refine⟨n,_,H++X,jU ν t (ν d),L,r1.add z (λl=>by simp[cF,a]at l) (by simp[eC,a]),?_,?_,Kept.add mq⟩
        .refine .own _ _ λah W=>?_
         simp only at W;rw[cM]at W;cases W;exact⟨_,_,_,rfl,by rw[iV];rfl⟩
        exact I.trans (Ev.re (st:=st) mq (oD z).1 (le_refl _) (λ_ _ _ _=>rfl) (λ_ _=>rfl) (λl=>by simp[cF,a]at l))
       cases h
      cases h
     rename_i O;simp only[ζa,ζc]at h;obtain⟨rfl,rfl⟩:=h;rw[if_neg O]at L;have hu:bM st.m d (.sl k es [])=st.m:=sD u;rw[hu];exact⟨n,_,H++X,ν,L,b,.v _ _ (.same _ rfl),I,.refl⟩
    |true=>
     simp only[eC,a,if_true]at o;have⟨rs,v,hl,hf,ab,Q⟩:=o;have B:cF (.sl k es xs)=true:=a;have⟨n,C,X,L,e1,e2,e3⟩:=i.row _ _ _ _ T H Z p _ _ rs s v hl hf ab (r.apart d _ u B);have⟨b,I,U⟩:=grow X;have ai:(ν d).1<(H++X).length:=by have:=(ζe.1 v).1;simp;omega
     have G:∀id,Z id->Z id/\br ((H++X).set (ν d).1 (.row es C)) id=br H id:=λid D=>⟨D,by
      rw[<-U id D];unfold br;rw[List.getElem?_set_ne];rintro rfl;exact r.apart d _ u B D⟩
     have x:∀id,Z id->br ((H++X).set (ν d).1 (.row es C)) id=br (H++X) id:=λid D=>by rw[(G id D).2,U id D]
     have c:∀id,id≠(ν d).1->((H++X).set (ν d).1 (Ob.row es C))[id]?=(H++X)[id]?:=λid aj=>List.getElem?_set_ne (Ne.symm aj)
     have J:((H++X).set (ν d).1 (Ob.row es C))[(ν d).1]?=some (.row es C):=getElem?_set_self ai;rw[uv a];simp only[a,if_true]at h;split at h
     .rename_i O;split at h
      .rename_i t;split at h
       .rename_i z;simp only[ζa,ζc]at h;obtain⟨rfl,rfl⟩:=h;have r1:R ν Z {st with m:=eF d st.m} F (H++X):=b.less (g:=st.g) (λ_ _ h=>h) mq
        have A:¬gy ν (eF d st.m) (ν d).1:=by rintro⟨k2,o2,g1,g2,g3⟩;have⟨g4,g5⟩:=qC g1;exact g4 (r.inj d k2 _ o2 u g5 B g2 g3.symm)
        have r2:R ν Z {st with m:=eF d st.m} F ((H++X).set (ν d).1 (.row es C)):=r1.heap (λid ho=>c id (by rintro rfl;exact A ho)) x
        rw[if_pos O]at L;refine⟨n,_,_,jU ν t (ν d),L,r2.add z (λ_=>⟨A,r.apart d _ u B⟩) ?_,?_,?_,Kept.add mq⟩
        .simp only[eC,cR,if_true,iV];exact⟨C,J,Zaa,e2.mono G,e3.mono G,λe=>by cases e⟩
        .refine .own _ _ λah W=>?_
         simp only at W;rw[cM]at W;cases W;exact⟨_,_,_,rfl,by rw[iV];rfl⟩
        exact I.trans (Ev.re (st:=st) mq (oD z).1 Zab (λid _ ho _=>c id (by rintro rfl;exact ho ⟨d,_,u,B,rfl⟩)) x (λ_=>.inl ⟨d,_,u,B,rfl⟩))
       cases h
      cases h
     rename_i O;simp only[ζa,ζc]at h;obtain⟨rfl,rfl⟩:=h;rw[if_neg O]at L;have ak:q.part=false:=by simpa using O
     have S:=P ak;have Y:sameShape (.sl k es xs) (.sl k es ns):=⟨rfl,rfl,S⟩;refine⟨n,_,_,ν,L,b.gX u Y rfl c B ?_,.v _ _ (.same _ rfl),I.trans (Ev.gX b u Y rfl c B Zab),Kept.gX u Y⟩
     simp only[eC,a,if_true];exact⟨C,J,Zaa,e2.mono G,e3.mono G,λe=>⟨(Q e).1,by rw[e1,(Q e).2,S]⟩⟩
   cases h
  cases h
 cases h
end
def xD:Nat->SW->Tb SV
 |_,[]=>[]|i,v::vs=>(i,v)::xD (i+1) vs
def start(svs:SW)(B:dI):St:=⟨xD 0 svs,B,B.map (·.1),[],true,0⟩
def ku(S:Sys)(c:cm):Prop:=∀f u w rs z,c f u w=some (rs,z)->∀(ν:Nu)(Z:Nat->Prop)(args:So)(H:bn),(S.E.keep f=true\/H=[])->R ν Z (start u w) args H->cn ν w H Z u args->∃n y H' ν' Z' st' F' B,run S.E n (.fn f) args H=some (y,H')/\y=result B/\st'.m=z/\cn ν' z H' Z' rs B/\R ν' Z' st' F' H'/\Ev (λ_=>False) ν Z (start u w) H ν' Z' st' H'
section
variable{Rv:Nat->Prop}{ν ν':Nu}{Z Z':Nat->Prop}{st st':St}{m m':Tb bJ}{F F':WP}{H H' H1:bn}{N:Nat->Y'}
def Ur{k:Fl}{es:Nat}{xs:S'}{d:Nat}(o:eC ν m H Z d (.sl k es xs)):(qw k es xs).good=true:=by
 by_cases a:cR k=true;simp only[eC,a,if_true]at o;have⟨w,_,_,u,_⟩:=o;have e:qw k es xs=.fsl es xs:=by cases k<;>simp[cR]at a<;>rfl
 rw[e];simp only[V.good];exact u.good;cases k<;>simp[cR]at a<;>rfl
mutual
def RW(D:∀d ob,bl m d=some ob->eC ν m H Z d ob):∀(n:Nat)(sv:SV)(x y:V),shut m n sv=some x->dy ν m H Z sv y->x.good=true
 |n,.v x,z,y,h,r=>by simp only[shut,ζa]at h;subst h;exact r.fr.good|n,.own d,z,y,h,r=>by simp only[shut]at h;split at h;(next k es xs B=>simp only[ζa]at h;subst h;exact Ur (D d _ B));simp at h|0,.ptr d o,z,y,h,r=>by simp[shut]at h|n+1,.ptr d o,z,y,h,r=>by simp only[shut]at h;split at h;rename_i cs B;split at h;rename_i xs U;split at h;simp only[ζa]at h;subst h;obtain⟨es,G,_,p,_⟩:=D d _ B;simp only[V.good];exact A3 _ (o9 D n cs xs G U p);simp at h;simp at h;simp at h|n,.el d i o,z,y,h,r=>by cases n<;>simp[shut]at h|n,.yl id,z,y,h,r=>by cases n<;>simp[shut]at h|n,.mp d,z,y,h,r=>by simp only[shut]at h;split at h;rename_i L B;simp only[ζa]at h;subst h;obtain⟨w,_,e⟩:=D d _ B;simp only[V.good];refine Iu.2 λj u g=>?_;have O:j<w.length:=(by rw[<-e.1];exact(ζe.1 g).1);obtain⟨⟨_,c⟩,C⟩:=e.2 j u _ g (ζd O);exact⟨lB c,C.good⟩;simp at h|0,.clo f a b,z,y,h,r=>by simp[shut]at h|n+1,.clo f a b,z,y,h,r=>by simp only[shut]at h;split at h;(next Q x2 c C=>simp only[ζa]at h;subst h;obtain⟨S,T,rfl,W,X⟩:=r.lT;simp only[V.good,ζh];exact⟨o9 D n a Q S c W,o9 D n b x2 T C X⟩);simp at h|0,.tup l,z,y,h,r=>by simp[shut]at h|n+1,.tup l,z,y,h,r=>by simp only[shut]at h;obtain⟨xs,c,rfl⟩:=ζf.1 h;obtain⟨I,rfl,J⟩:=r.sU;simp only[V.good];exact o9 D n l xs I c J|0,.agg l,z,y,h,r=>by simp[shut]at h|n+1,.agg l,z,y,h,r=>by simp only[shut]at h;obtain⟨xs,c,rfl⟩:=ζf.1 h;obtain⟨I,rfl,J⟩:=r.jO;simp only[V.good];exact o9 D n l xs I c J
def o9(D:∀d ob,bl m d=some ob->eC ν m H Z d ob):∀(n:Nat)(svs:SW)(xs ys:So),dc m n svs=some xs->cn ν m H Z svs ys->V.cH xs=true
 |n,[],xs,ys,h,r=>by simp only[dc,ζa]at h;subst h;rfl|n,sv::svs,xs,ys,h,r=>by simp only[dc]at h;split at h;(next y s a G=>simp only[ζa]at h;subst h;obtain⟨J,B,rfl,r1,r2⟩:=r.inv;simp only[V.cH,ζh];exact⟨RW D n sv y J a r1,o9 D n svs s B G r2⟩);simp at h
end
def Ku{f:V->aY V}:∀{xs ys:aX (V×V)},xs.length=ys.length->(∀(j:Nat)u v,xs[j]?=some u->ys[j]?=some v->f v.1=some u.1/\f v.2=some u.2)->nS f ys=some xs
 |[],[],_,_=>rfl|[],y::ys,h,_=>by simp at h|x::xs,[],h,_=>by simp at h|(a,b)::xs,(c,d)::ys,h,B=>by have⟨e,D⟩:=B 0 _ _ rfl rfl;simp only at e D;simp only[nS,e,D,Ku (xs:=xs) (ys:=ys) (by simpa using h) λj u v g i=>B (j+1) u v (by simpa using g) (by simpa using i)]
def JW:∀{l:aX (V×V)}{n:Nat},V.uW n l=true↔∀(j:Nat)u,l[j]?=some u->u.1.lvl n=true/\u.2.lvl n=true
 |[],n=>by simp[V.uW]|(k,x)::l,n=>by simp only[V.uW,ζh,JW (l:=l)];constructor;rintro⟨b,B⟩ j u a;(cases j with|zero=>simp at a;subst a;exact b|succ j=>exact B j u (by simpa using a));intro h;exact⟨h 0 (k,x) rfl,λj u a=>h (j+1) u (by simpa using a)⟩
def wU{n:Nat}{xs ys:So}(D:jl (borrow n H1) ys=some xs)(B:V.jm ys=true):ys=xs:=by
 have w:=mm (f:=borrow n H1) (xs:=ys) (ys:=ys) rfl λj u v a b=>by rw[a]at b;cases b;exact eH n H1 (ri.1 B j u a)
 rw[D]at w;cases w;rfl
mutual
def M7{fr:ST}(G:∀d∈fr,∀e ob,bl m e=some ob->ob.c8 d=false)(J:∀d ob,bl m d=some ob->d∉fr->eC ν m H1 Z d ob):
 ∀(n:Nat)(sv:SV)(x y:V),shut m n sv=some x->(∀d∈fr,sv.c8 d=false)->dy ν m H1 Z sv y->∀k,x.lvl k=true->borrow k H1 y=some x
 |n,.v x,z,y,h,B,r,k,hk=>by simp only[shut,ζa]at h;subst h;exact r.fr.borrow k hk|n,.own d,z,y,h,B,r,k,hk=>by simp only[shut]at h;split at h;rename_i Y es xs D;simp only[ζa]at h;subst h;obtain⟨_,_,_,e,rfl⟩:=r.lV D;cases e;have hd:d∉fr:=λhd=>(by have:=B d hd;simp[SV.c8]at this);have o:=J d _ D hd;by_cases I:cR Y=true;simp only[eC,I,if_true]at o;obtain⟨ys,g,E,F,_⟩:=o;rw[uv I];have e:qw Y es xs=.fsl es xs:=(by cases Y<;>simp[cR]at I<;>rfl);rw[e]at hk⊢;exact(FR.OM (Z:=λ_=>True) trivial (show br H1 (ν d).1=some (es,ys)by unfold br;rw[g];rfl) E (F.mono λid h=>⟨trivial,rfl⟩)).borrow k hk;cases Y<;>simp[cR]at I;exact eH k H1 rfl;exact eH k H1 rfl;simp at h|0,.ptr d o,z,y,h,B,r,k,hk=>by simp[shut]at h|n+1,.ptr d o,z,y,h,B,r,k,hk=>by
  simp only[shut]at h;split at h;rename_i cs D;split at h;rename_i xs q;split at h;rename_i H;simp only[ζa]at h;subst h;obtain⟨_,e,rfl⟩:=r.ru D;cases e;have hd:d∉fr:=λhd=>by have:=B d hd;simp[SV.c8]at this
  obtain⟨es,L,g,s,_⟩:=J d _ D hd
  cases k with
  |zero=>simp[V.lvl]at hk|succ k=>
   simp only[V.lvl]at hk;have K:∀e∈fr,SV.dN e (cs.drop o)=false:=λe M=>by
    have:=G e M d _ D;simp only[bJ.c8]at this
    cases N:SV.dN e (cs.drop o)with
    |false=>rfl|true=>
     exfalso;have:∀{l:SW}{j:Nat},SV.dN e (l.drop j)=true->SV.dN e l=true:=by
      intro l
      induction l with
      |nil=>intro j h;simpa using h|cons a l O=>intro j h;cases j with
       |zero=>simpa using h|succ j=>simp only[SV.dN,or_eq_true];exact .inr (O (by simpa using h))
     rw[this N]at *;simp_all
   have Q:xs.length=cs.length:=by have:∀{l:SW}{r:So},dc m n l=some r->r.length=l.length:=(by intro l;induction l with|nil=>intro r h;simp only[dc,ζa]at h;subst h;rfl|cons a l O=>intro r h;simp only[dc]at h;split at h;(next c S=>simp only[ζa]at h;subst h;simp[O S]);simp at h);exact this q
   have P:dc m n (cs.drop o)=some (xs.drop o):=by have:∀{l:SW}{r:So}{j:Nat},dc m n l=some r->dc m n (l.drop j)=some (r.drop j):=(by intro l;induction l with|nil=>intro r j h;simp only[dc,ζa]at h;subst h;simp[dc]|cons a l O=>intro r j h;have R:=h;simp only[dc]at h;split at h;rename_i c S;simp only[ζa]at h;subst h;(cases j with|zero=>exact R|succ j=>exact O S);simp at h);exact this q
   have hb:=lH G J n (cs.drop o) (xs.drop o) (L.drop o) P K (s.drop o) k hk;unfold borrow;simp only[V.closed,false_eq_true,if_false,g,ζb,Ob.rows,List.getElem?_cons_zero,if_pos (show o<=L.length by rw[<-s.1,<-Q];exact H),hb,map_some]
  simp at h;simp at h;simp at h
 |n,.el d i o,z,y,h,B,r,k,hk=>by cases n<;>simp[shut]at h|n,.yl id,z,y,h,B,r,k,hk=>by cases n<;>simp[shut]at h|n,.mp d,z,y,h,B,r,k,hk=>by simp only[shut]at h;split at h;rename_i ae D;simp only[ζa]at h;subst h;obtain⟨_,e,rfl⟩:=r.FO D;cases e;have hd:d∉fr:=λhd=>(by have:=B d hd;simp[SV.c8]at this);obtain⟨T,g,U⟩:=J d _ D hd;(cases k with|zero=>simp[V.lvl]at hk|succ k=>simp only[V.lvl]at hk;unfold borrow;simp only[V.closed,false_eq_true,if_false,g];rw[Ku (xs:=ae) (ys:=T) U.1 λj u v t hv=>?_];rfl;obtain⟨⟨e1,e2⟩,e3⟩:=U.2 j u v t hv;exact⟨by rw[<-e1];exact eH k H1 (V.mB (lB e2)),e3.borrow k (JW.1 hk j u t).2⟩);simp at h
 |0,.clo f a b,z,y,h,B,r,k,hk=>by simp[shut]at h|n+1,.clo f a b,z,y,h,B,r,k,hk=>by simp only[shut]at h;split at h;rename_i x1 x2 c S;simp only[ζa]at h;subst h;obtain⟨a',A,rfl,ra,rb⟩:=r.lT;(cases k with|zero=>simp[V.lvl]at hk|succ k=>simp only[V.lvl,ζh]at hk;have C:=lH G J n a x1 a' c (λd hd=>by have:=B d hd;simp only[SV.c8,or_eq_false_iff]at this;exact this.1) ra k hk.1;have W:=lH G J n b x2 A S (λd hd=>by have:=B d hd;simp only[SV.c8,or_eq_false_iff]at this;exact this.2) rb k hk.2;by_cases w:(V.clo f a' A).closed=true;rw[eH _ _ w];simp only[V.closed,ζh]at w;rw[wU C w.1,wU W w.2];unfold borrow;rw[if_neg w];simp only[C,W]);simp at h|0,.tup l,z,y,h,B,r,k,hk=>by simp[shut]at h|n+1,.tup l,z,y,h,B,r,k,hk=>by simp only[shut]at h;obtain⟨xs,c,rfl⟩:=ζf.1 h;obtain⟨X,rfl,p⟩:=r.sU;cases k with|zero=>simp[V.lvl]at hk|succ k=>simp only[V.lvl]at hk;have C:=lH G J n l xs X c (λd hd=>by have:=B d hd;simpa[SV.c8]using this) p k hk;by_cases w:(V.tup X).closed=true;rw[eH _ _ w];simp only[V.closed]at w;rw[wU C w];unfold borrow;rw[if_neg w];simp only[C,map_some]
 |0,.agg l,z,y,h,B,r,k,hk=>by simp[shut]at h|n+1,.agg l,z,y,h,B,r,k,hk=>by simp only[shut]at h;obtain⟨xs,c,rfl⟩:=ζf.1 h;obtain⟨X,rfl,p⟩:=r.jO;cases k with|zero=>simp[V.lvl]at hk|succ k=>simp only[V.lvl]at hk;have C:=lH G J n l xs X c (λd hd=>by have:=B d hd;simpa[SV.c8]using this) p k hk;by_cases w:(V.agg X).closed=true;rw[eH _ _ w];simp only[V.closed]at w;rw[wU C w];unfold borrow;rw[if_neg w];simp only[C,map_some]
def lH{fr:ST}(B:∀d∈fr,∀e ob,bl m e=some ob->ob.c8 d=false)(J:∀d ob,bl m d=some ob->d∉fr->eC ν m H1 Z d ob):
 ∀(n:Nat)(svs:SW)(xs ys:So),dc m n svs=some xs->(∀d∈fr,SV.dN d svs=false)->cn ν m H1 Z svs ys->∀k,V.ng k xs=true->jl (borrow k H1) ys=some xs
 |n,[],xs,ys,h,D,r,k,hk=>by simp only[dc,ζa]at h;subst h;rw[r.dg];rfl|n,sv::svs,xs,ys,h,D,r,k,hk=>by simp only[dc]at h;split at h;rename_i y s a U;simp only[ζa]at h;subst h;obtain⟨W,G,rfl,r1,r2⟩:=r.inv;simp only[V.ng,ζh]at hk;have u:=M7 B J n sv y W a (λd hd=>by have:=D d hd;simp only[SV.dN,or_eq_false_iff]at this;exact this.1) r1 k hk.1;have w:=lH B J n svs s G U (λd hd=>by have:=D d hd;simp only[SV.dN,or_eq_false_iff]at this;exact this.2) r2 k hk.2;simp only[jl,u,w];simp at h
end
end
def VM(n:Nat):V.ng n []=true:=by cases n<;>rfl
def Q_(n:Nat)(x:V)(r:So):V.ng n (x::r)=(V.lvl n x&&V.ng n r):=by cases n<;>rfl
mutual
def GN:∀{n:Nat}{x:V},V.lvl n x=true->V.lvl (n+1) x=true
 |0,.fsl ..,h=>by simp[V.lvl]at h|0,.fptr ..,h=>by simp[V.lvl]at h|0,.fmap ..,h=>by simp[V.lvl]at h|0,.agg ..,h=>by simp[V.lvl]at h|0,.tup ..,h=>by simp[V.lvl]at h|0,.clo ..,h=>by simp[V.lvl]at h|n+1,.fsl es xs,h=>by simp only[V.lvl]at h⊢;exact Eo h|n+1,.fptr cs,h=>by simp only[V.lvl]at h⊢;exact uC h|n+1,.fmap B,h=>by simp only[V.lvl]at h⊢;exact GQ h|n+1,.agg cs,h=>by simp only[V.lvl]at h⊢;exact uC h|n+1,.tup cs,h=>by simp only[V.lvl]at h⊢;exact uC h|n+1,.clo f a b,h=>by simp only[V.lvl,ζh]at h⊢;exact⟨uC h.1,uC h.2⟩|0,.bool _,_|0,.int ..,_|0,.str _,_|0,.jk,_|0,.iB,_|0,.uB,_|0,.dQ,_|0,.bO,_|0,.hsl ..,_|0,.hptr ..,_|0,.yld _,_|0,.hmap _,_=>rfl|_+1,.bool _,_|_+1,.int ..,_|_+1,.str _,_|_+1,.jk,_|_+1,.iB,_|_+1,.uB,_|_+1,.dQ,_|_+1,.bO,_|_+1,.hsl ..,_|_+1,.hptr ..,_|_+1,.yld _,_|_+1,.hmap _,_=>rfl
def uC:∀{n:Nat}{x:So},V.ng n x=true->V.ng (n+1) x=true
 |n,[],_=>VM _|n,a::l,h=>by rw[Q_,ζh]at h⊢;exact⟨GN h.1,uC h.2⟩
def Eo:∀{n:Nat}{x:S'},V.rT n x=true->V.rT (n+1) x=true
 |n,[],_=>by simp only[V.rT]|n,a::l,h=>by simp only[V.rT,ζh]at h⊢;exact⟨uC h.1,Eo h.2⟩
def GQ:∀{n:Nat}{x:aX (V×V)},V.uW n x=true->V.uW (n+1) x=true
 |n,[],_=>by simp only[V.uW]|n,(k,v)::l,h=>by simp only[V.uW,ζh]at h⊢;exact⟨⟨GN h.1.1,GN h.1.2⟩,GQ h.2⟩
end
def Au{n m:Nat}(h:n<=m){x:V}(B:V.lvl n x=true):V.lvl m x=true:=by induction h with|refl=>exact B|step _ u=>exact GN u
def q9{n m:Nat}(h:n<=m){x:So}(B:V.ng n x=true):V.ng m x=true:=by induction h with|refl=>exact B|step _ u=>exact uC u
def Vl{n m:Nat}(h:n<=m){x:S'}(B:V.rT n x=true):V.rT m x=true:=by induction h with|refl=>exact B|step _ u=>exact Eo u
def Xn{n m:Nat}(h:n<=m){x:aX (V×V)}(B:V.uW n x=true):V.uW m x=true:=by induction h with|refl=>exact B|step _ u=>exact GQ u
mutual
def CO:∀x:V,∃n,V.lvl n x=true
 |.fsl es xs=>let⟨n,h⟩:=KH xs;⟨n+1,by simp only[V.lvl];exact h⟩|.fptr cs=>let⟨n,h⟩:=oa cs;⟨n+1,by simp only[V.lvl];exact h⟩|.fmap u=>let⟨n,h⟩:=NW u;⟨n+1,by simp only[V.lvl];exact h⟩|.agg cs=>let⟨n,h⟩:=oa cs;⟨n+1,by simp only[V.lvl];exact h⟩|.tup cs=>let⟨n,h⟩:=oa cs;⟨n+1,by simp only[V.lvl];exact h⟩|.clo f a b=>let⟨n,h⟩:=oa a;let⟨m,k⟩:=oa b;⟨max n m+1,by simp only[V.lvl,ζh];exact⟨q9 (le_max_left _ _) h,q9 (le_max_right _ _) k⟩⟩|.bool _|.int ..|.str _|.jk|.iB|.uB|.dQ|.bO|.hsl ..|.hptr ..|.yld _|.hmap _=>⟨0,rfl⟩
def oa:∀x:So,∃n,V.ng n x=true
 |[]=>⟨0,by simp only[V.ng]⟩|a::l=>let⟨n,h⟩:=CO a;let⟨m,k⟩:=oa l;⟨max n m,by simp only[V.ng,ζh];exact⟨Au (le_max_left _ _) h,q9 (le_max_right _ _) k⟩⟩
def KH:∀x:S',∃n,V.rT n x=true
 |[]=>⟨0,by simp only[V.rT]⟩|a::l=>let⟨n,h⟩:=oa a;let⟨m,k⟩:=KH l;⟨max n m,by simp only[V.rT,ζh];exact⟨q9 (le_max_left _ _) h,Vl (le_max_right _ _) k⟩⟩
def NW:∀x:aX (V×V),∃n,V.uW n x=true
 |[]=>⟨0,by simp only[V.uW]⟩|(a,b)::l=>let⟨n,h⟩:=CO a;let⟨m,k⟩:=CO b;let⟨q,p⟩:=NW l;⟨max n (max m q),by simp only[V.uW,ζh];exact⟨⟨Au Zaa h,Au Zaa k⟩,Xn Zaa p⟩⟩
end
section
variable{Rv:Nat->Prop}{ν ν':Nu}{Z Z':Nat->Prop}{st st':St}{m m':Tb bJ}{F F':WP}{H H' H1:bn}{N:Nat->Y'}{S:Sys}{c:cm}
def J7:∀(l:SW)(i s:Nat)(sv:SV),bl (xD i l) s=some sv->∃j,s=i+j/\l[j]?=some sv
 |[],i,s,sv,h=>by simp[xD,bl]at h|x::l,i,s,sv,h=>by simp only[xD,bl]at h;split at h;(next e=>simp only[ζa]at h;subst h;exact⟨0,Zaa,rfl⟩);have⟨j,a,B⟩:=J7 l (i+1) s sv h;exact⟨j+1,Zaa,by simpa using B⟩
def zZ{svs:SW}{args:So}(h:cn ν m H Z svs args):∀s sv,bl (xD 0 svs) s=some sv->dy ν m H Z sv (get args s):=λs sv u=>by obtain⟨j,rfl,w⟩:=J7 svs 0 s sv u;have⟨y,z,r⟩:=h.get w;rw[Nat.zero_add,LD args j y z];exact r
def zM{az:So}(a:V.cH az=true):R (λ_=>(0,0)) (λ_=>False) (start (az.map .v) []) az []/\cn (λ_=>(0,0)) [] [] (λ_=>False) (az.map .v) az:=by have h:cn (λ_=>(0,0)) [] [] (λ_=>False) (az.map .v) az:=cn.tU (dG.same a);refine⟨⟨zZ h,λd ob hd=>by simp[start,bl]at hd,λd w ob u hd=>by simp[start,bl]at hd,λd ob hd=>by simp[start,bl]at hd,λid h=>h.elim,⟨λid es z h=>h.elim⟩⟩,h⟩
def Jo{xs ys:So}(h:dG H Z xs ys):((result xs).scalar=true->result ys=result xs)/\(result ys).scalar=(result xs).scalar:=by cases xs with|nil=>rw[h.dg];exact⟨λ_=>rfl,rfl⟩|cons x xs=>obtain⟨y,ys,rfl,a,u⟩:=h.inv;cases xs with|nil=>rw[u.dg];exact a.scalar|cons x2 xs=>obtain⟨w,ys,rfl,z,B⟩:=u.inv;exact FR.scalar (.tup _ _ h.1 h.2)
def EU(g:ku S c){f:Y'}{az ys:So}{rs:SW}{m':dI}(i:V.cH az=true)(h:c f (az.map .v) []=some (rs,m'))(J:dc m' 8 rs=some ys):
 ∃n r H2,(∀k,n<=k->run S.E k (.fn f) az []=some (r,H2))/\(∀k,n<=k->borrow k H2 r=some (result ys))/\(result ys).good=true:=by
 have⟨W,r1⟩:=zM i;obtain⟨n,y,H2,ν',Z',st',F',B,m,rfl,X,O,Q,_⟩:=g f _ _ _ _ h _ _ az [] (.inr rfl) W r1;subst X;have C:=o9 Q.obj 8 rs ys B J O;have⟨L,T⟩:=oa ys;refine⟨max n (L+1),result B,H2,λk e=>(qh S.E (le_trans (le_max_left ..) e)).go _ _ _ _ m,λk e=>?_,?_⟩
 .have w:=lH (fr:=[]) (λd hd=>by simp at hd) (λd ob hd _=>Q.obj d ob hd) 8 rs _ _ J (λd hd=>by simp at hd) O
  obtain⟨k,rfl⟩:∃j,k=j+1:=⟨k-1,Zaa⟩
  have U:=w k (q9 Zaa T)
  have Y:=w (k+1) (q9 Zaa T)
  have⟨e1,e2⟩:=j8 Y
  cases B with
  |nil=>obtain rfl:=List.eq_nil_of_length_eq_zero e1;exact eH _ H2 rfl|cons z B=>
   cases B with
   |nil=>
    obtain⟨y,rfl⟩:∃y,ys=[y]:=by cases ys with|nil=>simp at e1|cons y l=>cases l with|nil=>exact⟨y,rfl⟩|cons _ _=>simp at e1
    have⟨x,Z,G⟩:=e2 0 y rfl;cases Z;exact G
   |cons z2 B=>
    obtain⟨y,D,l,rfl⟩:∃y D l,ys=y::D::l:=by cases ys with|nil=>simp at e1|cons y l=>cases l with|nil=>simp at e1|cons D l=>exact⟨y,D,l,rfl⟩
    by_cases u:(V.tup (z::z2::B)).closed=true
    .simp only[result];rw[eH _ _ u];simp only[V.closed]at u;rw[wU U u]
    simp only[result];unfold borrow;rw[if_neg u];simp only[U,map_some]
 have:∀{l:So},V.cH l=true->(result l).good=true:=by
  intro l I
  cases l with
  |nil=>rfl|cons a l=>cases l with
   |nil=>simp only[V.cH,ζh]at I;exact I.1|cons b l=>simp only[result,V.good];exact I
 exact this C
theorem Hp {f:FuncId} {args az:aX V} {y r:V} {H2:bn} {n:Nat} (hr:∀k,n<=k->run S.E k (.fn f) az []=some (r,H2)) (D:∀k,n<=k->borrow k H2 r=some y) (hg:y.good=true) {B:Nat} (G:∀k,B<=k->borrows k H args=some az) :
 ∀k,max n B<=k->ck (run S.E k) f args H=some y:=λk hk=>by
 unfold ck;simp only[qf,G k Zaa,hr k Zaa,D k Zaa,V.mB hg,if_true]
def tS(B:∀id,Z id->(br H id).isSome=true){T:ST}{id:Nat}(h:Z id):br (cV H T) id=br H id:=by
 have:=B id h;unfold br at this⊢;rw[jJ];cases u:H[id]?with|none=>rw[u]at this;simp at this|some ob=>
  rw[u]at this;simp only[map_some,ζb];by_cases e:id∈T
  .rw[if_pos e];cases ob<;>first|rfl|simp[Ob.rows]at this
  rw[if_neg e]
def wN{T:ST}{id:Nat}(h:id∉T):(cV H T)[id]?=H[id]?:=by rw[jJ];cases H[id]?<;>simp[h]
def CK{az:So}{args:SW}{ys:So}(B:∀d ob,bl m d=some ob->eC ν m H Z d ob)(h:dc m 8 args=some az)(r:cn ν m H Z args ys):V.cH az=true:=o9 B 8 args az ys h r
def z8{az:So}{args:SW}{ys:So}(r:R ν Z st F H)(B:cn ν st.m H Z args ys)(h:dc st.m 8 args=some az):∃n,∀k,n<=k->borrows k H ys=some az:=
 let⟨n,u⟩:=oa az
 ⟨n,λk a=>lH (fr:=[]) (λd hd=>Zad) (λd ob hd _=>r.obj d ob hd) 8 args az ys h (λd hd=>Zad) B k (q9 a u)⟩
def pN{b id:Nat}(h:id<b):br (H.take b) id=br H id:=by grind[br]
def P8{b:Nat}{fr:ST}{az:So}{args:SW}{ys:So}(r:R ν Z st F H)(B:cn ν st.m H Z args ys)(h:dc st.m 8 args=some az)
 (G:∀d ob,bl st.m d=some ob->cF ob=true->d∉fr->(ν d).1<b)(D:∀id,Z id->id<b)(a:gB st.m fr args=true):∃n,∀k,n<=k->borrows k (H.take b) ys=some az:=by
 have⟨n,w⟩:=oa az;refine⟨n,λk f=>?_⟩
 unfold gB at a;have c:∀d∈fr,SV.dN d args=false/\uV d st.m=false:=λd hd=>by grind
 have u:∀id,Z id->Z id/\br (H.take b) id=br H id:=λid h=>⟨h,pN (D id h)⟩
 refine lH (λd hd e ob z=>Bg (c d hd).2 z) (λd ob hd C=>?_) 8 args az ys h (λd hd=>(c d hd).1) (B.mono u λe _=>j7 ν st.m e) k (q9 f w)
 exact eC.mono u rfl (λI=>Zac) (λe _=>j7 ν st.m e) (r.obj d ob hd)
def N7(hS:ku S c){ops:QP}{place:aY (Nat×Nat)}{dr N:X'}{fr:ST}(ad:dr=place.isSome)(aa:∀b i,place=some (b,i)->N=true->dS ops i=true)
 (e:∀b i,place=some (b,i)->(∀d ob,bl st.m d=some ob->cF ob=true->d∉fr->(ν d).1<b)/\∀id,Z id->id<b)
 (r:R ν Z st F H){args:SW}{ys:So}(g:cn ν st.m H Z args ys){f:Y'}(s:mO S.E ops place f=false){az:So}(t:dc st.m 8 args=some az)(a:(!dr||N)=true\/gB st.m fr args=true)
 {rs:SW}{m':dI}{G:So}(v:c f (az.map .v) []=some (rs,m'))(Y:dc m' 8 rs=some G)(U:(result G).scalar=true\/(dz args).isSome=true):
 ∃n H',(∀k,n<=k->eD S.E (run S.E k) ops place f ys H=some (result G,H'))/\R ν Z st F H'/\dy ν st.m H' Z (.v (result G)) (result G)/\Ev Rv ν Z st H ν Z st H':=by
 have hg:=CK r.obj t g;have⟨A,rr,H2,l,P,E⟩:=EU hS hg v Y;have⟨n2,hb⟩:=z8 r g t;have I:=Hp l P E hb;generalize hn:max A n2=n at I;have ab:=I;have af:∀k,n<=k->c_ (ct k H) ys=c_ (ct n H) ys:=λk s=>Bj s (hb n Zaa)
 have C:∀{H'},dy ν st.m H' Z (.v (result G)) (result G):=.v _ _ (.same _ E);have B:∀T:ST,(∀id∈T,Z id)->R ν Z st F (cV H T)/\Ev Rv ν Z st H ν Z st (cV H T):=λT O=>
  ⟨r.heap (λid ho=>wN λw=>by obtain⟨d,ob,g1,g2,rfl⟩:=ho;exact r.apart d ob g1 g2 (O _ w)) (λid w=>tS r.zrow w),
   Ev.heap (by rw[nu];grind) (λid _ _ Y _=>wN λw=>Y (O id w)) (λid w=>tS r.zrow w)⟩
 have J:(dz args).isSome=true->(∀id∈c_ (ct n H) ys,Z id)/\True:=λQ=>by
  have⟨xs,Q⟩:=isSome_iff_exists.1 Q;have m:=g.dz Q;exact⟨λid w=>by
   have⟨j,u,o,W⟩:=sj w;have K:j<xs.length:=by rw[m.1];grind
   exact FR.ct r.deep n (m.2 j _ u (ζd K) o) id W,trivial⟩
 cases place with
 |none=>
  by_cases z:(result G).scalar=true
  .exact⟨n,H,λk D=>by grind[eD],r,C,.refl⟩
  obtain⟨O,-⟩:=J (U.resolve_left z);have⟨p,q⟩:=B _ O;exact⟨n,cV H (c_ (ct n H) ys),λk D=>by grind[eD,qf],p,C,q⟩
 |some bi=>
  have⟨b,i⟩:=bi;have⟨o1,o2⟩:=e b i rfl;have ah:=ad;have fits:∀k,ck (run S.E k) f ys (H.take b)=some (result G)->(result G).scalar=false->jW (H.take b) (c_ (ct k (H.take b)) ys)=true/\c_ (ct k H) ys=c_ (ct k (H.take b)) ys:=λk _ ai=>by have⟨xs,Q⟩:=isSome_iff_exists.1 (U.resolve_left Zac);have m:=g.dz Q;have L:∀id,Z id->Z id/\br (H.take b) id=br H id:=λid h=>⟨h,pN (o2 id h)⟩;have hd:Deep (H.take b) Z:=⟨λid es ys Y hr c v u o=>by rw[(L id Y).2]at hr;have⟨x,Q⟩:=r.deep.row id es ys Y hr c v u o;exact⟨x,Q.mono L⟩⟩;have M:∀id∈c_ (ct k (H.take b)) ys,Z id:=λid w=>(by have⟨j,u,o,W⟩:=sj w;have K:j<xs.length:=(by rw[m.1];grind);exact FR.ct hd k ((m.2 j _ u (ζd K) o).mono L) id W);refine⟨?_,wH _ λid w=>o2 id (M id w)⟩;unfold jW;rw[all_eq_true];intro id w;have l:=r.zrow id (M id w);rw[<-(L id (M id w)).2]at l;exact l
  rcases a with a|a
  .have aj:=aa b i rfl Zac
   by_cases z:(result G).scalar=true
   .refine⟨n,H,λk D=>?_,r,C,.refl⟩
    grind[eD,sn]
   obtain⟨O,-⟩:=J (U.resolve_left z);have⟨p,q⟩:=B _ O;refine⟨n,cV H (c_ (ct n H) ys),λk D=>?_,p,C,q⟩
   simp only[eD,s,qf,false_eq_true,if_false];split
   next y hy=>have h9:=sn hy;rw[ab k D]at h9;grind
   grind
  have⟨n3,ae⟩:=P8 r g t o1 o2 a;have X:=Hp l P E ae
  by_cases z:(result G).scalar=true
  .refine⟨max A n3,H,λk D=>?_,r,C,.refl⟩
   grind[eD]
  obtain⟨O,-⟩:=J (U.resolve_left z);have⟨p,q⟩:=B _ O;refine⟨max n (max A n3),cV H (c_ (ct n H) ys),λk D=>?_,p,C,q⟩
  simp only[eD,s,qf,false_eq_true,if_false];have h9:=X k Zaa
  grind
theorem HF{α:Type}{k:Nat}{v:α}:∀{ds:ST}{g:Tb α},bl (pW ds g) k=some v->k∉ds
 |[],_,_=>Zab|d::ds,g,h=>by have a:=HF (ds:=ds) h;have u:=(qC (qD h)).1;grind
def Bx:∀{args:SW}{ds:ST},rowsOf args=some ds->∀(j:Nat)u,args[j]?=some u->(∃x,u=.v x)\/∃d,u=.own d/\d∈ds
 |[],_,_,j,u,hu=>Zad|.v x::r,ds,h,j,u,hu=>by cases j with|zero=>grind|succ j=>exact Bx (by simpa[rowsOf]using h) j u Zac
 |.own d::r,ds,h,j,u,hu=>by obtain⟨es,a,rfl⟩:=ζf.1 h;cases j with|zero=>grind|succ j=>rcases Bx a j u Zac with k|⟨w,k1,k2⟩;all_goals grind
 |.ptr ..::_,_,h,_,_,_|.el ..::_,_,h,_,_,_|.mp _::_,_,h,_,_,_|.clo ..::_,_,h,_,_,_|.tup _::_,_,h,_,_,_|.agg _::_,_,h,_,_,_|.yl _::_,_,h,_,_,_=>by simp[rowsOf]at h
def yY:∀{args:SW}{ds:ST}{n:Nat}{az:So},rowsOf args=some ds->dc m n args=some az->∀d∈ds,∃ob,bl m d=some ob
 |[],ds,_,_,h,_,d,hd=>by grind[rowsOf]|x::r,ds,n,az,h,B,d,hd=>by
  simp[dc]at B;split at B;rotate_left;cases B;rename_i y s a D
  cases x with
  |v x=>exact yY (by grind[rowsOf]) D d hd|own e=>
   obtain⟨es,g1,rfl⟩:=ζf.1 h;rcases mem_cons.1 hd with rfl|hd
   .all_goals grind[shut]
   exact yY g1 D d hd
  |_=>simp[rowsOf]at h
def D3{H0:bn}(hd:Deep H0 Z)(W:∀d ob,bl m d=some ob->cF ob=true->(H0[(ν d).1]?).isSome=true->eC ν m H0 Z d ob){args:SW}{ys:So}(U:cn ν m H0 Z args ys){ds:ST}(f:rowsOf args=some ds)
 (G:∀d∈ds,∃ob,bl m d=some ob){q id:Nat}(h:id∈c_ (ct q H0) ys):Z id\/∃d ob,d∈ds/\bl m d=some ob/\cF ob=true/\(ν d).1=id/\∃j es off len:Nat,ys[j]?=some (V.hsl id es off len):=by
 have⟨j,y,Q,a⟩:=sj h;have S:j<args.length:=by rw[U.1];grind
 have b:=ζd S;have C:=U.2 j _ y b Q;rcases Bx f j _ b with⟨x,e⟩|⟨d,e,I⟩
 .rw[e]at C;cases C with|v _ _ hf=>grind[FR.ct]
 rw[e]at C;have⟨ob,B⟩:=G d I;obtain⟨k,es,D,rfl,rfl⟩:=C.lV B
 by_cases w:cR k=true
 .cases q with
  |zero=>grind[ct]|succ q=>
  have J:uL (ν d) k es D.length=.hsl (ν d).1 es (ν d).2 D.length:=by cases k<;>first|rfl|cases w
  rw[J]at a;have T:cF (.sl k es D)=true:=w
  by_cases z:(H0[(ν d).1]?).isSome=true
  .have o:=W d _ B T z;simp[eC,w]at o;have⟨n,g,_,_,X,_⟩:=o;simp only[ct,V.closed,false_eq_true,if_false,g,mem_cons]at a;rcases a with rfl|a
   .grind
   have⟨i,u,b,Y⟩:=sj a;have⟨c,l,L⟩:=List.mem_flatten.1 (mem_of_getElem? b);have⟨x,p⟩:=X c (List.mem_of_mem_drop (List.mem_of_mem_take l)) u L
   grind[FR.ct]
  grind[ct]
 have O:(uL (ν d) k es D.length).closed=true:=by cases k<;>first|rfl|(exact absurd rfl w)
 rw[Co q H0 O]at a;cases a
theorem Yf (hS:ku S c) {ops:aX Oper} {place:aY (Nat×Nat)} {nw:Bool} (ah:∀b i,place=some (b,i)->nw=true->dS ops i=true)
 (hold:∀b i,place=some (b,i)->∀id,Z id->id<b)
 (r:R ν Z st F H) {args:aX SV} {ys:aX V} (W:cn ν st.m H Z args ys) {f:FuncId} (hk:S.E.keep f=false) {az:aX V} (hs:dc st.m 8 args=some az) (ai:(!place.isSome||nw)=true)
 {rs:aX SV} {m':dI} {D:aX V} (hc:c f (az.map .v) []=some (rs,m')) (J:dc m' 8 rs=some D) (aj:(result D).scalar=false) {ds:aX Nat} (hr:rowsOf args=some ds) (U:∀d∈ds,∃ob,bl st.m d=some ob) :
 ∃n H',(∀k,n<=k->eD S.E (run S.E k) ops place f ys H=some (result D,H'))/\R ν Z { st with m:=pW ds st.m } F H'/\dy ν (pW ds st.m) H' Z (.v (result D)) (result D)/\Ev Rv ν Z st H ν Z { st with m:=pW ds st.m } H':=by
 have hg:=CK r.obj hs W;obtain⟨n1,rr,H2,h1,h2,h3⟩:=EU hS hg hc J;obtain⟨n2,X⟩:=z8 r W hs;have B:=Hp h1 h2 h3 X;generalize hn:max n1 n2=n at B;have I:=B;have ak:∀k,n<=k->c_ (ct k H) ys=c_ (ct n H) ys:=λk hk=>Bj hk (X n Zaa)
 have L:∀{H'},dy ν (pW ds st.m) H' Z (.v (result D)) (result D):=.v _ _ (.same _ h3);have z:∀d ob,bl (pW ds st.m) d=some ob->bl st.m d=some ob:=λd ob h=>qD h
 have hT:∀id∈c_ (ct n H) ys,Z id\/∃d ob,d∈ds/\bl st.m d=some ob/\cF ob=true/\(ν d).1=id/\∃j es off len:Nat,ys[j]? = some (V.hsl id es off len):=λid w=>D3 r.deep (λd ob h _ _=>r.obj d ob h) W hr U w
 have r2  := r.less (λ_ _ h=>h) z
 have q1  := r2.heap (λid Y=>wN λw=>by
  obtain⟨d,ob,g1,g2,rfl⟩:=Y;rcases hT _ w with h|⟨d',G,k1,k2,k3,k4,_⟩
  .exact r.apart d ob (z d ob g1) g2 h
  have:=r.inj d' d G ob k2 (z d ob g1) k3 g2 k4
  grind[HF]) (λid w=>tS r.zrow w)
 have q2:Ev Rv ν Z st H ν Z { st with m:=pW ds st.m } (cV H (c_ (ct n H) ys)):=(Ev.heap (by rw[nu];grind) (λid _ Y J _=>wN λw=>by
  rcases hT _ w with h|⟨d',G,k1,k2,k3,k4,_⟩
  .simp_all
  exact Y ⟨d',G,k2,k3,k4⟩) (λid w=>tS r.zrow w)).trans (Ev.less  z)
 cases place with
 | none=>exact⟨n,cV H (c_ (ct n H) ys),λk O=>by grind[eD,mO,qf],q1,L,q2⟩
 | some bi=>
  obtain⟨b,i⟩:=bi;have o2:=hold b i rfl;have fits:∀k,ck (run S.E k) f ys (H.take b)=some (result D)->jW (H.take b) (c_ (ct k (H.take b)) ys)=true/\c_ (ct k H) ys=c_ (ct k (H.take b)) ys:=λk hi=>by
   have C:∀id,Z id->Z id/\br (H.take b) id=br H id:=λid h=>⟨h,pN (o2 id h)⟩
   have hd:Deep (H.take b) Z:=⟨λid es ys J hr c hc u hu=>by
    rw[(C id J).2]at hr;obtain⟨x,hx⟩:=r.deep.row id es ys J hr c hc u hu;exact⟨x,hx.mono C⟩⟩
   have aa  := W.mono C λe _=>j7 ν st.m e
   have ab:∀d ob,bl st.m d=some ob->cF ob=true->((H.take b)[(ν d).1]?).isSome=true->eC ν st.m (H.take b) Z d ob:=λd ob h X ad=>
    eC.mono C rfl (λ_=>by
     grind) (λe _=>j7 ν st.m e) (r.obj d ob h)
   have Q:∀(j:Nat) (y:V),ys[j]? = some y->(borrow k (H.take b) y).isSome=true:=λj y T=>by
    unfold ck at hi;rw[qf]at hi;split at hi
    .rename_i ae af;obtain⟨_,hm⟩:=j8 af;have hj:=(ζe.1 T).1;obtain⟨x,al,am⟩:=hm j _ (ζd (show j<ae.length by omega))
     grind
    cases hi
   have hZ:∀id∈c_ (ct k (H.take b)) ys,id<b/\(br (H.take b) id).isSome=true:=λid w=>by
    rcases D3 hd ab aa hr U w with h|⟨d,ob,k1,k2,k3,k4,j,es,off,len,T⟩
    .have:=r.zrow id h
     grind
    have an:=Q j _ T
    cases k with
    | zero=>grind[borrow,V.closed]
    | succ k=>
    grind[borrow,V.closed,br]
   refine⟨?_,wH _ λid w=>(hZ id w).1⟩
   unfold jW;rw[List.all_eq_true];exact λid w=>(hZ id w).2
  refine⟨n,cV H (c_ (ct n H) ys),λk O=>?_,q1,L,q2⟩
  simp only[eD,mO,hk,qf,Bool.false_and,Bool.false_eq_true,if_false];split
  next y T=>have h9:=sn T;rw[I k O]at h9;grind
  grind
def MG{xs ys:S'}(h:iz H Z xs ys)(B:nN xs=true):ys=xs:=by
 refine(List.ext_getElem h.1 λj a z=>?_).symm;have:=h.2 j _ _ (ζd a) (ζd z);have w:=by unfold nN at B;rw[all_eq_true]at B;have:=B _ (List.getElem_mem a);rw[all_eq_true]at this;exact tE.2 λk u b=>this u (mem_of_getElem? b)
 exact(this.scalar.1 w).symm
def GF:∀{B:ST}{os:Tb bJ}{g:Tb bJ},lN g B=some os->∀k ob,bl os k=some ob->bl g k=some ob
 |[],os,g,h,k,ob,hk=>by grind[lN,bl]|n::r,os,g,h,k,ob,hk=>by simp only[lN]at h;split at h;rename_i v t a D;cases h;simp only[bl]at hk;split at hk;grind;exact GF D k ob hk;cases h
def MB{args:SW}{os:dI}(h:handed m args=some os):∀k ob,bl os k=some ob->bl m k=some ob:=GF h
mutual
def Vx{d:Nat}:∀{x:SV},x.c8 d=true->d∈x.DT
 |.v _,h=>by simp[SV.c8]at h|.own e,h|.ptr e _,h|.el e _ _,h|.mp e,h=>by simp[SV.c8]at h;simp[SV.DT,h]|.clo _ a b,h=>by simp only[SV.c8,or_eq_true]at h;simp only[SV.DT,mem_append];rcases h with h|h;exact .inl (wS h);exact .inr (wS h)
 |.tup l,h|.agg l,h=>by simp only[SV.c8]at h;simp only[SV.DT];exact wS h|.yl _,h=>by simp[SV.c8]at h
def wS{d:Nat}:∀{l:SW},SV.dN d l=true->d∈SV.uj l
 |[],h=>by simp[SV.dN]at h|x::r,h=>by simp only[SV.dN,or_eq_true]at h;simp only[SV.uj,mem_append];rcases h with h|h;exact .inl (Vx h);exact .inr (wS h)
end
def DM{B:ST}{ob:bJ}(h:within B ob=true){e:Nat}(D:ob.c8 e=true):e∈B:=by cases ob with|box cs=>unfold within at h;rw[all_eq_true]at h;simpa using h e (wS D)|sl k es w=>grind[bJ.c8]|mp u=>grind[bJ.c8]
def Fq{B:ST}:∀{l:ST}{a b:Tb bJ},Bo B m' l a=some b->(∀k∈l,bl b k=bl m' k/\∃ob,bl m' k=some ob/\within B ob=true)/\∀k,k∉l->bl b k=bl a k
 |[],a,b,h=>by grind[Bo]|d::r,a,b,h=>by simp[Bo]at h;split at h;rename_i ob D;split at h;rename_i hp;have⟨e,G⟩:=Fq h;refine⟨λk c=>?_,λk c=>?_⟩;grind[cM];simp_all[ec,Ne.symm];grind;grind
def Ju{l:ST}{a b:Tb bJ}(h:mj m' l a=some b):(∀k∈l,bl b k=bl m' k/\∃ob,bl m' k=some ob/\within l ob=true)/\∀k,k∉l->bl b k=bl a k:=Fq h
theorem mem_keys:∀{os:dI}{k:Nat},k∈os.map (·.1)↔∃ob,bl os k=some ob
 |[],k=>by simp[bl]|(d,o)::os,k=>by simp[bl];by_cases e:d=k;simp_all;rw[if_neg e,<-mem_keys];grind
def vX:∀{l:SW}{j:Nat}{u:SV},SV.zD l=true->l[j]?=some u->u.bare=true
 |[],j,u,h,B=>by simp at B|x::r,j,u,h,B=>by simp only[SV.zD,ζh]at h;cases j with|zero=>grind|succ j=>exact vX h.2 (by simpa using B)
theorem dy.bare {Z2:Nat->Prop} {sv:SV} {y:V} (r:dy ν m H Z sv y):sv.bare=true->dy ν m H Z2 sv y:=by
 induction r with
 | v x y h=>
  intro z;have z:x.scalar=true:=z;rw[(h.scalar.1 z)];exact .v _ _ (.same _ (lB z))
 | own d y h=>intro _;exact .own d y h
 | ptr d o y h=>intro _;exact .ptr d o y h
 | el d i o y h=>intro _;exact .el d i o y h
 | mp d y h=>intro _;exact .mp d y h
 | clo f a b B G C z hva I w D=>
  intro h;simp only[SV.bare,ζh]at h;exact .clo f a b B G C z (λj u v hu hv=>w j u v hu hv (vX h.1 hu)) λj u v hu hv=>D j u v hu hv (vX h.2 hu)
 | tup a B C hva w=>intro h;exact .tup a B C λj u v hu hv=>w j u v hu hv (vX h hu)
 | agg a B C hva w=>intro h;exact .agg a B C λj u v hu hv=>w j u v hu hv (vX h hu)
 | yl id=>intro _;exact .yl id
def eC.bare{Z2:Nat->Prop}{d:Nat}{ob:bJ}(h:ob.bare=true)(o:eC ν m H Z d ob):eC ν m H Z2 d ob:=by cases ob with|box cs=>have⟨es,w,b,z,B⟩:=o;exact⟨es,w,b,⟨z.1,λj u v a c=>(z.2 j u v a c).bare (vX h a)⟩,B⟩|sl k es D=>cases h|mp C=>cases h
def Ci(hS:ku S c){f:Y'}(ae:S.E.keep f=true)(r:R ν Z st F H){args:SW}{ys:So}(ha:cn ν st.m H Z args ys){os:dI}(hh:handed st.m args=some os)
 {rs:SW}{m':dI}{J:Tb bJ}(hc:c f args os=some (rs,m'))(x:mj m' (os.map (·.1)) st.m=some J):
 ∃n H' U Z' D F1 K,(∀k,n<=k->run S.E k (.fn f) ys H=some (result K,H'))/\D.m=m'/\cn U m' H' Z' rs K/\R U Z' D F1 H'/\(∀e ob,bl m' e=some ob->e∉os.map (·.1)->cF ob=true->H.length<=(U e).1)/\
  R ν Z' {st with m:=J} F H'/\Ev Rv ν Z st H ν Z' {st with m:=J} H'/\(∀e ob',bl J e=some ob'->∃ob,bl st.m e=some ob/\ν e=ν e/\sameShape ob ob')/\
  ((∀k∈os.map (·.1),Cz J k=true)->R ν Z {st with m:=J} F H'/\Ev Rv ν Z st H ν Z {st with m:=J} H'):=by
 have u:=MB hh;have ab:=ha.mono (λid h=>⟨h,rfl⟩) λe _ ob' h=>⟨ob',u e ob' h,rfl,.refl _⟩
 have r0:R ν Z (start args os) ys H:=by refine⟨zZ ab,λd ob hd=>?_,λd d' ob ob' a z=>r.inj d d' ob ob' (u d ob a) (u d' ob' z),λd ob h=>r.apart d ob (u d ob h),r.zrow,r.deep⟩;exact eC.mono (λid h=>⟨h,rfl⟩) rfl (λ_=>rfl) (λe _ ob' h=>⟨ob',u e ob' h,rfl,.refl _⟩) (r.obj d ob (u d ob hd))
 obtain⟨n,y,H',U,Z',D,F1,K,e1,rfl,rfl,e2,e3,ev⟩:=hS f args os rs m' hc ν Z ys H (.inl ae) r0 ab;have⟨M,b2⟩:=Ju x;have I:∀k ob',k∈os.map (·.1)->bl D.m k=some ob'->∃ob,bl os k=some ob/\U k=ν k/\sameShape ob ob':=λk ob' g h=>ev.pin k g ob' h
 have L:∀id,gy ν os id->gy ν st.m id:=λid⟨k,o,a,z,B⟩=>⟨k,o,u k o a,z,B⟩
 have A:∀ob ob':bJ,sameShape ob ob'->cF ob'=cF ob:=λob ob' h=>by cases ob<;>cases ob'<;>simp[sameShape]at h;all_goals grind[cF]
 have C:∀k ob',bl J k=some ob'->∃ob,bl st.m k=some ob/\sameShape ob ob'/\(k∈os.map (·.1)/\bl D.m k=some ob'/\U k=ν k/\bl os k=some ob/\within (os.map (·.1)) ob'=true\/k∉os.map (·.1)/\ob'=ob):=λk ob' h=>by by_cases g:k∈os.map (·.1);grind;rw[b2 k g]at h;exact⟨ob',h,.refl _,.inr ⟨g,rfl⟩⟩
 have G:∀k ob,k∉os.map (·.1)->bl st.m k=some ob->cF ob=true->H'[(ν k).1]?=H[(ν k).1]?/\¬Z' (ν k).1:=λk ob g h w=>by have ad:¬gy ν os (ν k).1:=(by rintro⟨k2,o2,g1,g2,g3⟩;have:=r.inj k2 k o2 ob (u k2 o2 g1) h g2 w g3;grind[mem_keys]);have af:=r.lt ⟨k,ob,h,w,rfl⟩;have ah:=r.apart k ob h w;refine⟨ev.same _ af ad ah (λh=>h),λai=>?_⟩;rcases ev.frz _ ai with h|h|h|h;simp_all;exact ad h;all_goals grind
 have i:∀e ob',bl J e=some ob'->∃ob,bl st.m e=some ob/\ν e=ν e/\sameShape ob ob':=λe ob' h=>by grind
 have j:∀e ob,bl D.m e=some ob->e∉os.map (·.1)->cF ob=true->H.length<=(U e).1:=λe ob q al w=>by rcases ev.own _ ⟨e,ob,q,w,rfl⟩with⟨k,o,a,z,B⟩|h|h;have g:k∈os.map (·.1):=mem_keys.2 ⟨o,a⟩;have⟨_,ob',h4,_⟩:=M k g;have⟨o2,T,Y,l⟩:=I k ob' g h4;have T:bl os k=some o2:=T;have a:bl os k=some o:=a;rw[a]at T;cases T;have:=e3.inj e k ob ob' q h4 w (by rw[A _ _ l];exact z) (by rw[Y];exact B.symm);grind;all_goals grind
 have W:∀b t o1 o2,bl J b=some o1->bl J t=some o2->cF o1=true->cF o2=true->(ν b).1=(ν t).1->b=t:=λb t o1 o2 a z k1 k2 hp=>by have⟨p1,g1,v,_⟩:=C b o1 a;have⟨p2,g2,s2,_⟩:=C t o2 z;exact r.inj b t p1 p2 g1 g2 (by rw[<-A _ _ v];omega) (by rw[<-A _ _ s2];omega) hp
 have O:∀id,id<H.length->¬gy ν st.m id->¬Z id->¬Rv id->H'[id]?=H[id]?:=λid hl ho hz _=>ev.same id hl (λh=>ho (L id h)) hz (λh=>h)
 have X:∀id,gy ν J id->gy ν st.m id\/Rv id\/H.length<=id:=by rintro id ⟨k,o,a,z,B⟩;have⟨ob,g1,v,_⟩:=C k o a;exact .inl ⟨k,ob,g1,by rw[<-A _ _ v];omega,B⟩
 have N:∀id,Z id->Z id/\br H' id=br H id:=λid h=>⟨h,(ev.rows id h).2⟩
 refine⟨n,H',U,Z',D,F1,K,λk g=>(qh S.E g).go _ _ _ _ e1,rfl,e2,e3,j,⟨λs sv P=>(r.slot s sv P).mono ev.rows λe _=>i e,λk ob' h=>?_,W,λb o1 a k1=>?_,e3.zrow,e3.deep⟩,⟨ev.len,O,ev.rows,X,?_,λe _=>i e,rfl⟩,i,
  λaj=>⟨⟨λs sv P=>(r.slot s sv P).mono N λe _=>i e,λk ob' h=>?_,W,λb o1 a k1=>?_,λid h=>by rw[(ev.rows id h).2];exact r.zrow id h,r.deep.mono λid h=>(ev.rows id h).2⟩,⟨ev.len,O,N,X,λid h=>.inl h,λe _=>i e,rfl⟩⟩⟩
 .obtain⟨ob,a,z,B|⟨B,rfl⟩⟩:=C k ob' h
  .have⟨T,Y,l,q4,q5⟩:=B;refine eC.mono (λid h=>⟨h,rfl⟩) l.symm (λ_=>rfl) (λe q Q z=>?_) (e3.obj k ob' Y)
   have E:=DM q5 q;have⟨u1,ak,p,_⟩:=M e E;rw[u1,p]at z;cases z;have⟨_,_,u4,_⟩:=I e Q E p;exact⟨Q,p,u4.symm,.refl _⟩
  exact eC.mono ev.rows rfl (λw=>(G k ob' B a w).1) (λe _=>i e) (r.obj k ob' a)
 .obtain⟨ob,g1,v,B|⟨B,rfl⟩⟩:=C b o1 a
  .have⟨T,Y,l,q4,q5⟩:=B;rw[<-l];exact e3.apart b o1 Y k1
  grind
 .intro id h;rcases ev.frz id h with h|h|h|h
  .exact .inl h
  .exact .inr (.inl (L id h))
  all_goals grind
 .obtain⟨ob,a,z,B|⟨B,rfl⟩⟩:=C k ob' h
  .have⟨T,Y,l,q4,q5⟩:=B;have x:=aj k T;unfold Cz at x;rw[h]at x;refine eC.bare (Z:=Z') x (eC.mono (λid h=>⟨h,rfl⟩) l.symm (λ_=>rfl) (λe q Q z=>?_) (e3.obj k ob' Y))
   have E:=DM q5 q;have⟨u1,ak,p,_⟩:=M e E;rw[u1,p]at z;cases z;have⟨_,_,u4,_⟩:=I e Q E p;exact⟨Q,p,u4.symm,.refl _⟩
  exact eC.mono N rfl (λw=>(G k ob' B a w).1) (λe _=>i e) (r.obj k ob' a)
 have⟨ob,g1,v,_⟩:=C b o1 a;exact r.apart b ob g1 (by rw[<-A _ _ v];exact k1)
def YH(a:ku S c){f:Y'}(G:S.E.keep f=true)(r:R ν Z st F H){args:SW}{ys:So}(J:cn ν st.m H Z args ys){os:dI}(U:handed st.m args=some os)
 {rs:SW}{m':dI}{D:So}{B:Tb bJ}(b:c f args os=some (rs,m'))(W:dz rs=some D)(Y:mj m' (os.map (·.1)) st.m=some B):
 ∃n y H' Z',(∀k,n<=k->run S.E k (.fn f) ys H=some (y,H'))/\R ν Z' {st with m:=B} F H'/\dy ν B H' Z' (.v (result D)) y/\Ev Rv ν Z st H ν Z' {st with m:=B} H'/\∀e ob',bl B e=some ob'->∃ob,bl st.m e=some ob/\ν e=ν e/\sameShape ob ob':=by
 have⟨n,H',O,Z',C,F1,w,e1,_,e2,_,_,g1,g2,g3,_⟩:=Ci (Rv:=Rv) a G r J U b Y;refine⟨n,result w,H',Z',e1,g1,?_,g2,g3⟩;have u:=e2.dz W;have:FR H' Z' (result D) (result w):=by cases D with|nil=>rw[u.dg];exact .same _ rfl|cons x z=>obtain⟨y,I,rfl,g1,g2⟩:=u.inv;cases z with|nil=>rw[g2.dg];exact g1|cons x2 z=>obtain⟨Q,L,rfl,g3,g4⟩:=g2.inv;exact .tup _ _ u.1 u.2
 exact .v _ _ this
def Aq{ys:So}(h:V.c6 ys=true):(result ys).scalar=true:=by cases ys with|nil=>rfl|cons a l=>cases l with|nil=>simp only[V.c6,ζh]at h;exact h.1|cons b l=>grind[result,V.scalar]
def XR(a:ku S c){f:Y'}(G:S.E.keep f=true)(r:R ν Z st F H){args:SW}{ys:So}(W:cn ν st.m H Z args ys){os:dI}(Y:handed st.m args=some os)
 {rs:SW}{m':dI}{D:So}{B:Tb bJ}(b:c f args os=some (rs,m'))(d:dz rs=some D)(g:mj m' (os.map (·.1)) st.m=some B)(U:V.c6 D=true)(J:∀k∈os.map (·.1),Cz B k=true):
 ∃n H',(∀k,n<=k->run S.E k (.fn f) ys H=some (result D,H'))/\R ν Z {st with m:=B} F H'/\dy ν B H' Z (.v (result D)) (result D)/\Ev Rv ν Z st H ν Z {st with m:=B} H'/\∀e ob',bl B e=some ob'->∃ob,bl st.m e=some ob/\ν e=ν e/\sameShape ob ob':=by
 obtain⟨n,H',z,Z',u,F1,C,e1,_,e2,_,_,_,_,g3,g4⟩:=Ci (Rv:=Rv) a G r W Y b g;obtain⟨g1,g2⟩:=g4 J;have w:=(e2.dz d).scalar.1 U;subst w;exact⟨n,H',e1,g1,.v _ _ (.same _ (lB (Aq U))),g2,g3⟩
def XG(i:ku S c){f:Y'}(U:S.E.keep f=true)(r:R ν Z st F H){args:SW}{ys:So}(Y:cn ν st.m H Z args ys){os:dI}(j:handed st.m args=some os)
 {rest:SW}{m':dI}{G:So}{B:Tb bJ}{e t es:Nat}{k:Fl}{xs:S'}(l:c f args os=some (.own e::rest,m'))(q:dz rest=some G)(s:mj m' (os.map (·.1)) st.m=some B)
 (J:bl m' e=some (.sl k es xs))(W:e∉os.map (·.1))(D:St.new {st with m:=B} t=true):
 ∃n y H' ν' Z',(∀k,n<=k->run S.E k (.fn f) ys H=some (y,H'))/\R ν' Z' {st with m:=bM B t (.sl k es xs)} F H'/\dy ν' (bM B t (.sl k es xs)) H' Z' (C6 (.own t::G.map .v)) y/\Ev Rv ν Z st H ν' Z' {st with m:=bM B t (.sl k es xs)} H'/\Kept (some t) ν st.m ν' (bM B t (.sl k es xs)):=by
 obtain⟨n,H',I,Z',aa,F1,ws,e1,rfl,e2,e3,a,g1,g2,g3,_⟩:=Ci (Rv:=Rv) i U r Y j l s;obtain⟨w,O,rfl,v,A⟩:=e2.inv;have o:=e3.obj e _ J;have Q:cF (.sl k es xs)=true->¬gy ν B (I e).1:=λu=>by rintro⟨k2,o2,g,h2,h3⟩;have⟨o3,E,_,K⟩:=g3 k2 o2 g;have T:cF o3=true:=(by cases o3<;>cases o2<;>simp[sameShape]at K;all_goals grind[cF]);have ab:=r.lt ⟨k2,o3,E,T,rfl⟩;have:=a e _ J W u;omega
 have M:=g1.add D (ob:=.sl k es xs) (p:=I e) (λu=>⟨Q u,e3.apart e _ J u⟩) (by
  grind[eC,iV])
 have b:dy (jU ν t (I e)) (bM B t (.sl k es xs)) H' Z' (.own t) w:=by refine .own _ _ λz X=>?_;rw[cM]at X;cases X;obtain⟨_,_,_,N,rfl⟩:=v.lV J;cases N;exact⟨_,_,_,rfl,by rw[iV]⟩
 have⟨P,n2,n3,n4⟩:=oD D;refine⟨n,result (w::O),H',jU ν t (I e),Z',e1,M,?_,⟨g2.len,g2.same,g2.rows,?_,g2.frz,?_,g2.pins⟩,?_⟩
 .have L:=A.dz q
  cases G with
  |nil=>rw[L.dg];exact b|cons x G=>obtain⟨y,ad,rfl,_,_⟩:=L.inv;exact .tup _ _ (by have:=L.1;grind) (cn.cons b (cn.tU L)).2
 .intro id h;rcases HD h with h|⟨g,rfl⟩
  .exact g2.own id h
  grind
 .intro d hd z h;have C:d≠t:=λe=>P (e▸hd)
  have h:bl (bM B t (.sl k es xs)) d=some z:=h;rw[ec _ _ (Ne.symm C)]at h
  grind[rA]
 intro d z hd h;have C:d≠t:=λe=>hd (by rw[e])
 rw[ec _ _ (Ne.symm C)]at h
 grind[rA]
def Ti(a:ku S c){f:Y'}{az:So}{rs:SW}{m':dI}(b:V.cH az=true)(h:c f (az.map .v) []=some (rs,m')):
 ∃n H2 ν' Z' st' F' ys,(∀k,n<=k->run S.E k (.fn f) az []=some (result ys,H2))/\st'.m=m'/\cn ν' m' H2 Z' rs ys/\R ν' Z' st' F' H2:=by
 have⟨u,r1⟩:=zM b;obtain⟨n,y,H2,ν',Z',st',F',w,d,rfl,z,B,C,_⟩:=a f _ _ _ _ h _ _ az [] (.inr rfl) u r1;exact⟨n,H2,ν',Z',st',F',w,λk e=>(qh S.E e).go _ _ _ _ d,z,B,C⟩
def PC{ys:So}(h:V.c6 ys=true):V.c6 (.bO::ys)=true/\V.c6 (.dQ::ys)=true:=by grind[V.c6,V.scalar]
def cn.ZG{ys:So}(h:V.cH ys=true):cn ν m H Z (ys.map .v) ys:=cn.tU (dG.same h)
def UG(s:ku S c)(hP:∀f q,S.prm f=some q->pK S.E f q){ops:QP}{place:aY (Nat×Nat)}{dr nw:X'}{fr:ST}(W:dr=place.isSome)(U:∀b i,place=some (b,i)->nw=true->dS ops i=true)(aj:∀b i,place=some (b,i)->nw=false->dS ops i=false)
 (g:∀b i,place=some (b,i)->(∀d ob,bl st.m d=some ob->cF ob=true->d∉fr->(ν d).1<b)/\∀id,Z id->id<b)
 (r:R ν Z st F H){args:SW}{ys:So}(Y:cn ν st.m H Z args ys){f:Y'}{dst:aY Nat}{sv:SV}(h:fN S c dst dr (!dr||nw) (gB st.m fr) f args st=some (sv,st')):
 ∃n y H' ν' Z',(∀k,n<=k->eD S.E (run S.E k) ops place f ys H=some (y,H'))/\R ν' Z' st' F H'/\dy ν' st'.m H' Z' sv y/\Ev Rv ν Z st H ν' Z' st' H'/\(dr=true->Z'=Z)/\Kept dst ν st.m ν' st'.m:=by
 unfold fN at h;split at h
 .rename_i A;split at h
  .have C:∀{q:dK}{y:V}{H':bn},gj S.E q f ys H=some (y,H')->eD S.E q ops place f ys H=some (y,H'):=λ{q y H'}hd=>by
    unfold eD
    cases place with
    |none=>rw[if_pos (by grind[mO])];omega|some bi=>
     obtain⟨b,i⟩:=bi;have aH:=W;have aI:=U b i rfl Zac
     rw[if_pos (by grind[mO])]
     grind
   split at h
   .
    rename_i ad;split at h
    .rename_i az hs;have hg:=CK r.obj hs Y;obtain⟨nb,x⟩:=z8 r Y hs;split at h
     .rename_i rs m' hc;obtain⟨na,H2,ν2,Z2,st2,F2,X,ax,rfl,e3,e4⟩:=Ti s hg hc;obtain⟨n,ay,aJ⟩:∃n,na<=n/\nb<=n:=⟨max na nb,le_max_left ..,le_max_right ..⟩;have e1:=λk(A:n<=k)=>ax k (le_trans ay A)
      have L:∀k,n<=k->∀{o:aY (V×bn)},(if(result X).scalar then some (result X,H)else
       match result X with
       |.hsl id es off len=>(tI H.length H2 id es off len).map λ(v,ob)=>(v,H++[ob])|.tup (.hsl id es off len::rest)=>if V.c6 rest then(tI H.length H2 id es off len).map λ(v,ob)=>(.tup (v::rest),H++[ob])else none|_=>none)=o->gj S.E (run S.E k) f ys H=o:=λk D o M=>by
       unfold gj mw;rw[if_pos ad]
       grind[qf]
      have ak:∀G:So,(result G).scalar=true->result X=result G->sv=.v (result G)->st'=st->∃n y H' ν' Z',(∀k,n<=k->eD S.E (run S.E k) ops place f ys H=some (y,H'))/\R ν' Z' st' F H'/\dy ν' st'.m H' Z' sv y/\Ev Rv ν Z st H ν' Z' st' H'/\(dr=true->Z'=Z)/\Kept dst ν st.m ν' st'.m:=by rintro G h1 h2 rfl rfl;exact⟨n,result G,H,ν,Z,λk D=>C (L k D (by rw[h2,if_pos h1])),r,.v _ _ (.same _ (lB h1)),.refl,λ_=>rfl,.refl⟩
      have emp:∀(k:Fl)(es:Nat)(G:So)(rest:SW),V.c6 G=true->∀t,st.new t=true->∀w:V,(k=.nil/\w=.bO\/k=.emp/\w=.dQ)->result (w::G)=result X->dst=some t->sv=C6 (.own t::G.map .v)->st'={st with m:=bM st.m t (.sl k es [])}->
       ∃n y H' ν' Z',(∀k,n<=k->eD S.E (run S.E k) ops place f ys H=some (y,H'))/\R ν' Z' st' F H'/\dy ν' st'.m H' Z' sv y/\Ev Rv ν Z st H ν' Z' st' H'/\(dr=true->Z'=Z)/\Kept dst ν st.m ν' st'.m:=by
       rintro k es G rest N t O w hw al rfl rfl rfl;have aK:cR k=false:=by rcases hw with⟨rfl,_⟩|⟨rfl,_⟩<;>rfl
       have l:dy (jU ν t (0,0)) (bM st.m t (.sl k es [])) H Z (.own t) w:=by refine .own _ _ λQ E=>?_;rw[cM]at E;cases E;exact⟨_,_,_,rfl,by rcases hw with⟨rfl,rfl⟩|⟨rfl,rfl⟩<;>rfl⟩
       have am:(result (w::G)).scalar=true:=Aq (by rcases hw with⟨_,rfl⟩|⟨_,rfl⟩;all_goals simp_all[PC])
       refine⟨n,result (w::G),H,jU ν t (0,0),Z,λk D=>C (L k D (by rw[<-al,if_pos am])),r.add O (λx=>by grind[cF]) (by grind[eC]),?_,
        Ev.add O (le_refl _) (λ_ _ _=>rfl) (λ_ _=>rfl) (λx=>by grind[cF]),λ_=>rfl,Kept.add λ_ _ h=>h⟩
       cases G with
       |nil=>exact l|cons z G=>exact .tup _ _ Zab (cn.cons l (cn.ZG (si N))).2
      split at h
      .rename_i G J;split at h
       next N=>simp at h;exact ak G N ((Jo (e3.dz J)).1 N) h.1.symm h.2.symm
       simp at h
      split at h
      .rename_i e rest t _;obtain⟨w,X,rfl,g1,g2⟩:=e3.inv;split at h
       .
        rename_i es xs G T J;split at h
        .rename_i B;simp at B;obtain⟨⟨c1,P⟩,O⟩:=B;simp at h;obtain⟨rfl,rfl⟩:=h;have o:=e4.obj e _ T;simp only[eC,if_true]at o;obtain⟨rows,hr,aL,hf,aF,an⟩:=o;obtain⟨q1,q2⟩:=an trivial;have ae:=by
          have:=MG hf P;rw[q1,drop_zero,<-q2,take_length]at this;exact this
         subst ae;obtain⟨_,_,_,K,rfl⟩:=g1.lV T;cases K;have I:=(g2.dz J).scalar.1 c1;subst I;have aM:tI H.length H2 (ν2 e).1 es 0 rows.length=some (.hsl H.length es 0 rows.length,.row es rows):=by grind[tI,nN]
         have hH:∀id,id<H.length->(H++[Ob.row es rows])[id]?=H[id]?:=λid hl=>getElem?_append_left hl
         have ao:∀id,Z id->br (H++[Ob.row es rows]) id=br H id:=λid J=>by unfold br;rw[hH id (r.yR J)]
         have r2:=r.heap (λid M=>hH id (r.lt M)) ao
         have aA:V.o5 rows=true:=by refine mE.2 λj u hu=>?_;unfold nN at P;rw[all_eq_true]at P;have:=P u (mem_of_getElem? hu);rw[all_eq_true]at this;grind[jc,lB]
         have hR:=r2.add (ob:=.sl .row es rows) (p:=(H.length,0)) O (λ_=>⟨λM=>absurd (r.lt M) Zab,λJ=>absurd (r.yR J) Zab⟩) (by
          simp only[eC,iV];refine⟨rows,Zab,Zab,?_,(iz.same aA).JM,λ_=>⟨trivial,rfl⟩⟩
          rw[drop_zero,take_length]
          grind[iz.same])
         have l:dy (jU ν t (H.length,0)) (bM st.m t (.sl .row es rows)) (H++[Ob.row es rows]) Z (.own t) (.hsl H.length es 0 rows.length):=by refine .own _ _ λQ E=>?_;rw[cM]at E;cases E;exact⟨_,_,_,rfl,by simp[uL,iV]⟩
         have ap:Ev Rv ν Z st H (jU ν t (H.length,0)) Z {st with m:=bM st.m t (.sl .row es rows)} (H++[Ob.row es rows]):=Ev.add O Zab (λid hl _=>hH id hl) ao (λ_=>.inr (le_refl _))
         have aq:uL (ν2 e) Fl.row es rows.length=.hsl (ν2 e).1 es 0 rows.length:=by grind[uL]
         rw[aq]at L
         cases rest with
         |nil=>
          have:=by simp only[dz,ζa]at J;exact J.symm
          subst this;refine⟨n,_,_,_,Z,λk D=>C (L k D ?_),hR,l,ap,λ_=>rfl,Kept.add λ_ _ h=>h⟩
          grind[result,V.scalar]
         |cons x2 rest=>
          have aB:∃w2 af,X=w2::af:=by have:=g2.1;cases X with|nil=>simp at this|cons a b=>exact⟨a,b,rfl⟩
          obtain⟨w2,af,rfl⟩:=aB;refine⟨n,_,_,_,Z,λk D=>C (L k D (o:=some (.tup (.hsl H.length es 0 rows.length::w2::af),H++[Ob.row es rows])) ?_),hR,?_,ap,λ_=>rfl,Kept.add λ_ _ h=>h⟩
          .grind[result,V.scalar,V.c6]
          exact .tup _ _ Zab (cn.cons l (cn.ZG (si c1))).2
        simp at h
       .rename_i es xs G T J;split at h
        next B=>simp at B;simp at h;obtain⟨rfl,rfl⟩:=h;obtain⟨_,_,_,K,rfl⟩:=g1.lV T;cases K;have I:=(g2.dz J).scalar.1 B.1;subst I;exact emp .nil es X rest B.1 _ B.2 .bO Zab rfl rfl rfl rfl
        simp at h
       .rename_i es xs G T J;split at h
        next B=>simp at B;simp at h;obtain⟨rfl,rfl⟩:=h;obtain⟨_,_,_,K,rfl⟩:=g1.lV T;cases K;have I:=(g2.dz J).scalar.1 B.1;subst I;exact emp .emp es X rest B.1 _ B.2 .dQ Zab rfl rfl rfl rfl
        simp at h
       simp at h
      simp at h
     grind
    grind
   rename_i ad;split at h
   .rename_i q hq;split at h
    .simp at h
    rename_i hd;obtain⟨n,y,H',ν',e1,e2,e3,e4,e5⟩:=Yi (hP f q hq) r Y h;exact⟨n,y,H',ν',Z,λk D=>C (by grind[gj]),e2,e3,e4,λh=>absurd h hd,e5⟩
   split at h
   .rename_i os hh;split at h
    .rename_i rs m' hc;split at h
     .rename_i G m2 J x;split at h
      .simp at h
      rename_i ar;simp at h;obtain⟨rfl,rfl⟩:=h
      cases au:dr with
      |false=>obtain⟨n,y,H',Z',e1,e2,e3,e4,e5⟩:=YH s A r Y hh hc J x;exact⟨n,y,H',ν,Z',λk D=>C (by grind[gj]),e2,e3,e4,(λh=>nomatch h),λe Q _=>e5 e Q⟩|true=>
       rw[au]at ar;have kA:V.c6 G=true/\∀k∈os.map (·.1),Cz m2 k=true:=by simp only[Bool.true_and,not_eq_true',Bool.not_eq_false,ζh,all_eq_true]at ar;grind
       obtain⟨n,H',e1,e2,e3,e4,e5⟩:=XR (Rv:=Rv) s A r Y hh hc J x kA.1 kA.2;exact⟨n,_,H',ν,Z,λk D=>C (by grind[gj]),e2,e3,e4,λ_=>rfl,λe Q _=>e5 e Q⟩
     .rename_i m2 J x;split at h
      .simp at h
      rename_i hd;split at h
      .rename_i e rest t;split at h
       .rename_i k es xs G he aC;split at h
        next B=>simp only[ζh,not_eq_true',List.contains_eq_mem,decide_eq_false_iff_not]at B;simp only[ζa,ζc]at h;obtain⟨rfl,rfl⟩:=h;obtain⟨n,y,H',ν',Z',e1,e2,e3,e4,e5⟩:=XG s A r Y hh hc aC x he B.1 B.2;exact⟨n,y,H',ν',Z',λk D=>C (by grind[gj]),e2,e3,e4,λh=>absurd h hd,e5⟩
        simp at h
       simp at h
      simp at h
     simp at h
    simp at h
   simp at h
  rename_i ab;split at h
  .rename_i ah;simp only[ζh]at ah;have ai:mO S.E ops place f=false:=by
    simp only[Bool.not_eq_true,or_eq_false_iff,Bool.not_eq_false']at ab
    cases place with
    |none=>rw[W]at ab;simp at ab|some bi=>simp[mO,A,ah.1,aj _ _ rfl ab.2]
   split at h
   .rename_i az hs;split at h
    .rename_i rs m' hc;split at h
     .rename_i G J;split at h
      next B=>simp only[or_eq_true]at B;simp at h;obtain⟨rfl,rfl⟩:=h;obtain⟨n,H',e1,e2,e3,e4⟩:=N7 s W U g r Y ai hs (.inr ah.2) hc J B;exact⟨n,_,H',ν,Z,e1,e2,e3,e4,λ_=>rfl,.refl⟩
      simp at h
     simp at h
    simp at h
   simp at h
  simp at h
 rename_i A;have aD:S.E.keep f=false:=Zac
 have ai:mO S.E ops place f=false:=by simp_all[mO]
 split at h
 .rename_i az hs;split at h
  .rename_i hl;split at h
   .rename_i rs m' hc;split at h
    .rename_i G J;split at h
     .rename_i B;simp only[or_eq_true]at B;simp at h;obtain⟨rfl,rfl⟩:=h;obtain⟨n,H',e1,e2,e3,e4⟩:=N7 s W U g r Y ai hs Zac hc J B
      exact⟨n,_,H',ν,Z,e1,e2,e3,e4,λ_=>rfl,.refl⟩
     rename_i aG;split at h
     .rename_i aE;obtain⟨ds,av,e⟩:=ζf.1 h;simp at e;obtain⟨rfl,rfl⟩:=e;have aw:(result G).scalar=false:=by
       grind
      obtain⟨n,H',e1,e2,e3,e4⟩:=Yf s U (λb i hp=>(g b i hp).2) r Y aD hs (by rw[<-W];exact aE) hc J aw av (yY av hs)
      exact⟨n,_,H',ν,Z,e1,e2,e3,e4,λ_=>rfl,λe Q _ h=>⟨Q,qD h,rfl,.refl _⟩⟩
     simp at h
    simp at h
   simp at h
  simp at h
 simp at h
end
structure CX where
 E:Env
 nm:FuncId->Option Nat
 nt:Nat
def Ec(ops:QP)(o:Oper):aY (aY (Nat×X')):=
 match o.guard with
 |none=>some none|some (j,b)=>((ops[j]?).bind (·.dst)).map λd=>some (d,b)
def AY(a:Nat):aY Nat->X'
 |none=>true|some d=>decide (d<a)
def zR(B:X')(ops:QP)(i:Nat)(k:K)(os:aX UV):K×aX UV×X':=
 if B&& !dS ops i then match k,os,uk false ops i with
  |.l (.store n),.tmp u::w,some (a,l)=>if u=a then(.l (.storeF n),(.tmp u::w)++l.map .tmp,true)else(k,os,false)|.l (.append n),os,_=>if zQ ops i then(.e n,os,true)else(k,os,false)|.r (.load n ag),[.tmp u],_=>if(rP ops i u).isEmpty then(k,os,false)else(.r (.loadF n ag),.tmp u::(rP ops i u).map .tmp,false)|_,_,_=>(k,os,false)
 else(k,os,B&&dS ops i)
def Ge(B:X')(ops:QP)(i:Nat)(k:K)(os:aX UV):(zR B ops i k os=(k,os,B&&dS ops i)/\∀n ag a',B=true->dS ops i=false->k=.r (.load n ag)->os=[.tmp a']->rP ops i a'=[])\/
 (B=true/\dS ops i=false/\∃n a l D,k=.l (.store n)/\os=.tmp a::D/\uk false ops i=some (a,l)/\zR B ops i k os=(.l (.storeF n),os++l.map .tmp,true))\/
 (B=true/\dS ops i=false/\∃n ag a,k=.r (.load n ag)/\os=[.tmp a]/\zR B ops i k os=(.r (.loadF n ag),.tmp a::(rP ops i a).map .tmp,false))\/
 (B=true/\dS ops i=false/\zQ ops i=true/\∃n,k=.l (.append n)/\zR B ops i k os=(.e n,os,true)):=by
 unfold zR;split
 .rename_i h;simp only[ζh,not_eq_true']at h;split
  .rename_i n a' D a l hk;split
   next e=>subst e;refine .inr (.inl ⟨h.1,h.2,n,a',l,D,rfl,rfl,hk,?_⟩);simp only[zR,h.1,h.2,hk,Bool.not_false,Bool.and_self,if_true]
   exact .inl ⟨by rw[h.2,Bool.and_false],λn ag a' _ _ e=>by cases e⟩
  .rename_i n;split
   next C=>refine .inr (.inr (.inr ⟨h.1,h.2,C,n,rfl,rfl⟩))
   exact .inl ⟨by rw[h.2,Bool.and_false],λn ag a' _ _ e=>by cases e⟩
  .rename_i n ag a';split
   .rename_i G;refine .inl ⟨by rw[h.2,Bool.and_false],λn ag a2 _ _ _ e=>?_⟩
    simp only[List.cons.injEq,Operand.tmp.injEq,and_true]at e;subst e;simpa using G
   exact .inr (.inr (.inl ⟨h.1,h.2,n,ag,a',rfl,rfl,rfl⟩))
  rename_i u w z;refine .inl ⟨by rw[h.2,Bool.and_false],λn ag a2 _ _ e1 e2=>?_⟩
  first|exact(z _ _ _ e1 e2).elim|exact(z _ _ _ _ e1 e2 rfl).elim|exact(u _ _ _ e1 e2).elim|exact(w _ _ _ e1 e2).elim|exact(u _ _ _ _ e1 e2 rfl).elim|exact(w _ _ _ _ e1 e2 rfl).elim
 rename_i h;refine .inl ⟨rfl,λn ag a2 hd I _ _=>?_⟩
 rw[hd,I]at h;exact absurd rfl h
def oG(X:CX)(B:X')(ops:QP)(i:Nat)(o:Oper):aY RO:=
 if AY X.nt o.dst&& !(B&&(cQ o.op==.call&&LS ops i))then
  match Ec ops o,resolve X.E X.nm o.op with
  |some gd,some (k,os)=>if Df k then if B&&Gt X.E ops i then match k,o.op with
   |.a (.makeSl size zero),.makeSlice ..=>(os.mapM (rC X.nm)).map λaz=>⟨o.dst,gd,false,.p (.makeC size zero),az,[],[]⟩|.a (.buildSl size len zero idx),.buildSlice ..=>if size≠0/\len=0/\idx=[]then(os.mapM (rC X.nm)).map λaz=>⟨o.dst,gd,false,.p .emptyC,az,[],[]⟩else(os.mapM (rC X.nm)).map λaz=>⟨o.dst,gd,false,.p (.buildC size len zero idx),az,[],[]⟩|_,_=>none
   else((zR B ops i k os).2.1.mapM (rC X.nm)).map λaz=>⟨o.dst,gd,(zR B ops i k os).2.2,(zR B ops i k os).1,az,[],[]⟩else none
  |_,_=>none
 else none
def FQ{E:Env}{N:Nat->Y'}{F:WP}{op:Op}{ys:So}{size:Nat}{zero:So}{y:V}(B:∃t l c,op=.buildSlice t l c)(h:C4 E N F op ys (.a (.buildSl size 0 zero [])))(G:size≠0)(D:bN N .emptyC ys=some y):rS E F op=some y:=by
 obtain⟨t,l,c,rfl⟩:=B;have⟨g1,g2⟩:=h;unfold bN at D;split at D<;>first|(rename_i e;cases e;done)|skip
 all_goals simp_all[kN,fP,rS]
def CD{es:Nat}:∀{vs:aX (Nat×V)}{xs ys:S'},fP es xs vs=some ys->ys.length=xs.length
 |[],xs,ys,h=>by grind[fP]|(i,v)::r,xs,ys,h=>by simp only[fP]at h;split at h;have:=CD h;grind;cases h
def Fa{E:Env}{N:Nat->Y'}{F:WP}{op:Op}{ys:So}{size len:Nat}{zero:So}{idx:ST}{y:V}(D:∃t l c,op=.buildSlice t l c)(h:C4 E N F op ys (.a (.buildSl size len zero idx)))(B:bN N (.buildC size len zero idx) ys=some y):rS E F op=some y:=by
 obtain⟨t,l,c,rfl⟩:=D;have⟨g1,g2⟩:=h;simp only[bN]at B;split at B;rename_i a;split at B;rename_i w u;split at B;rename_i C;have G:len=w.length:=by have:=CD u;rw[this];simp
 have z:=g2 _ (show kN (.buildSl size len zero idx) ys=some (.row size w,.sl size len)by grind[kN]);grind[rS];cases B;cases B;cases B
def Gi{E:Env}{N:Nat->Y'}{F:WP}{op:Op}{ys:So}{size:Nat}{zero:So}{y:V}(D:∃t l c,op=.makeSlice t l c)(h:C4 E N F op ys (.a (.makeSl size zero)))(B:bN N (.makeC size zero) ys=some y):rS E F op=some y:=by
 obtain⟨t,l,c,rfl⟩:=D;have⟨g1,g2⟩:=h;unfold bN at B;split at B<;>first|(rename_i e;cases e;done)|skip
 rename_i k n w m e;cases e;split at B;rename_i c;obtain⟨rfl,rfl,z,rfl,C,G⟩:=c;have u:=g2 _ (show kN (.makeSl size zero) [.int .i64 n,.int .i64 n]=some (.row size (replicate n.toNat zero),.sl size n.toNat)by grind[kN]);grind[rS];cases B;cases B
def FY{X:CX}{dr:X'}{ops:QP}{i:Nat}{o:Oper}{ro:RO}(a:oG X dr ops i o=some ro):AY X.nt o.dst=true/\∃g now k az,Ec ops o=some g/\ro=⟨o.dst,g,now,k,az,[],[]⟩:=by
 unfold oG at a;split at a
 .rename_i hd;have hd:=(Bool.and_eq_true_iff.1 hd).1;split at a
  .rename_i g k os hg hr;split at a;(·(repeat' split at a)<;>first|(cases a;done)|(obtain⟨az,u,rfl⟩:=ζf.1 a;exact⟨hd,_,_,_,_,hg,rfl⟩));cases a
  cases a
 cases a
def Iy{X:CX}{dr:X'}{ops:QP}{i:Nat}{o:Oper}{ro:RO}(a:oG X dr ops i o=some ro)(hd:dr=true)(B:cQ o.op=.call):LS ops i=false:=by
 unfold oG at a;split at a;next h=>subst hd;simp[B]at h;exact h.2
 cases a
structure Good(X:CX)(S:Sys):Prop where
 E:X.E=S.E
 N:∀f s,X.nm f=some s->S.N s=f
 prm:∀f q,S.prm f=some q->pK S.E f q
section
variable{Rv:Nat->Prop}{ν ν':Nu}{Z Z':Nat->Prop}{st st':St}{m m':Tb bJ}{F F':WP}{H H' H1:bn}{S:Sys}{c:cm}{X:CX}
def Old(b:Nat)(fr:ST)(ν:Nu)(Z:Nat->Prop)(m:Tb bJ):Prop:=(∀d ob,bl m d=some ob->cF ob=true->d∉fr->(ν d).1<b)/\∀id,Z id->id<b
def qp{fr:ST}:∀{svs:SW},fM fr svs=true->∀d∈fr,SV.dN d svs=false
 |[],_,d,_=>rfl|.v _::r,h,d,hd=>(qp (svs:=r) (by grind[fM]) d hd)|.ptr e _::r,h,d,hd=>by simp[fM,not_eq_true']at h;simp[SV.dN,SV.c8];exact⟨λe=>h.1 (e▸hd),qp h.2 d hd⟩|.el e _ _::r,h,d,hd=>by simp[fM,not_eq_true']at h;simp[SV.dN,SV.c8];exact⟨λe=>h.1 (e▸hd),qp h.2 d hd⟩|.mp e::r,h,d,hd=>by simp[fM,not_eq_true']at h;simp[SV.dN,SV.c8];exact⟨λe=>h.1 (e▸hd),qp h.2 d hd⟩|.own _::r,h,_,_=>by grind[fM]|.clo ..::r,h,_,_=>by grind[fM]|.tup _::r,h,_,_=>by grind[fM]|.agg _::r,h,_,_=>by grind[fM]|.yl _::r,h,_,_=>by grind[fM]
def FM(S:Sys)(ops:QP)(place:aY (Nat×Nat))(dr:X')(F:WP)(op:Op)(dst:aY Nat)(ν:Nu)(Z:Nat->Prop)(st:St)(H:bn)(sv:SV)(st':St):Prop:=∃n y H' ν' Z',(∀k,n<=k->cZ S.E (run S.E k) ops place F H op=some (y,H'))/\R ν' Z' st' F H'/\dy ν' st'.m H' Z' sv y/\Ev (λid=>∃b j,place=some (b,j)/\id=b+j) ν Z st H ν' Z' st' H'/\(dr=true->Z'=Z/\Kept dst ν st.m ν' st'.m)
def A1{E:Env}{F:WP}{H:bn}{place:aY (Nat×Nat)}{op:Op}{v:V}(h:bP E F op=some v):u5 E F H place op=some v:=by simp_all[u5]
def BH:∀{xs ys:S'}{l:Rd},iz H Z xs ys->ny xs=some l->ny ys=some l
 |[],ys,l,h,B=>by have:=h.1;have:ys=[]:=List.eq_nil_of_length_eq_zero Zac;grind|x::xs,[],l,h,B=>by have:=h.1;simp at this|x::xs,y::ys,l,h,B=>by unfold ny at B;split at B;grind;rename_i n r e;cases e;obtain⟨k,c,rfl⟩:=ζf.1 B;have d:=h.2 0 _ y rfl rfl;obtain⟨u,z,rfl,p1,p2⟩:=d.inv;rw[p2.dg,p1.int];have:=BH (xs:=xs) (ys:=ys) ⟨by have:=h.1;grind,λj a b w B=>h.2 (j+1) a b w B⟩ c;grind[ny];cases B
def SA(gd:Good X S){ops:QP}{place:aY (Nat×Nat)}{dr:X'}{op:Op}{dst:aY Nat}{p:xe}{svs:SW}{ys:So}(b:Df (.p p)=true)(r:R ν Z st F H)(rs:cn ν st.m H Z svs ys)
 (B:C4 X.E S.N F op ys (.p p)){sv:SV}(h:(kK S.N st.m p svs).map (λx=>(x,st))=some (sv,st')):FM S ops place dr F op dst ν Z st H sv st':=by
 have⟨x,w,e⟩:=ζf.1 h;obtain⟨rfl,rfl⟩:=e;have⟨y,z,u⟩:=LI (λzero pl e=>by grind[Df]) r.obj rs w
 have⟨a,C⟩:=B;exact⟨0,y,H,ν,Z,λq _=>by unfold cZ;rw[a];simp only[<-gd.E,A1 (C y z),map_some],r,u,.refl,λ_=>⟨rfl,.refl⟩⟩
def Cl(gd:Good X S){ops:QP}{place:aY (Nat×Nat)}{dr:X'}{op:Op}{p:xe}{svs:SW}{ys:So}(hp:∀zero pl,p≠.build zero pl)(B:cQ op=.alloc)(D:p9 X.E ops place=true)(G:∀y,bN S.N p ys=some y->rS X.E F op=some y)
 (r:R ν Z st F H)(rs:cn ν st.m H Z svs ys){sv:SV}(h:(kK S.N st.m p svs).map (λx=>(x,st))=some (sv,st')):FM S ops place dr F op none ν Z st H sv st':=by
 have⟨x,w,e⟩:=ζf.1 h;simp only[ζc]at e;obtain⟨rfl,rfl⟩:=e;have⟨y,z,u⟩:=LI (N:=S.N) (λzero pl e=>absurd e (hp zero pl)) r.obj rs w
 refine⟨0,y,H,ν,Z,λq _=>?_,r,u,.refl,λ_=>⟨rfl,.refl⟩⟩
 unfold cZ;rw[B];simp only[D,if_true,<-gd.E,G y z,map_some]
def Od:∀{D B:aX UV}{vs:So},f_ F (D++B)=some vs->∃G J,f_ F D=some G/\f_ F B=some J/\vs=G++J
 |[],B,vs,h=>⟨[],vs,rfl,h,rfl⟩|x::D,B,vs,h=>by obtain⟨a,az,b,U,rfl⟩:=jV h;obtain⟨G,J,g1,g2,rfl⟩:=Od U;simp_all[f_]
def D_:∀{l:ST}{vs:So},f_ F (l.map Operand.tmp)=some vs->vs=l.map (get F)
 |[],vs,h=>s6 h|x::l,vs,h=>by obtain⟨a,az,b,B,rfl⟩:=jV h;simp[ev]at b;subst b;rw[D_ B];rfl
def aaG(gd:Good X S){call:dK}{ops:QP}{b j n a:Nat}{l:ST}{o:Oper}{B:aX UV}{ys:So}{y:V}(c:resolve X.E X.nm o.op=some (.l (.store n),.tmp a::B))(D:f_ F ((.tmp a::B)++l.map Operand.tmp)=some ys)
 (J:uk false ops j=some (a,l))(U:dS ops j=false)(e1:fW H (.storeF n) ys=some (y,H')):cZ S.E call ops (some (b,j)) F H o.op=some (y,H'):=by
 obtain⟨W,Y,d,I,rfl⟩:=Od D;have⟨g1,g2⟩:=kM gd.N c d;obtain⟨w,L,z,O,rfl⟩:=jV d;simp[ev]at z;have u:∃v,L=[v]:=by have C:∃x,B=[x]:=(by unfold resolve at c;((repeat' split at c)<;>first|grind|skip);(all_goals (try (have⟨_,_,e⟩:=ζf.1 c;simp[K.l.injEq,Ng.store.injEq,reduceCtorEq]at e)));grind);obtain⟨x,rfl⟩:=C;obtain⟨v,Z,_,Q,rfl⟩:=jV O;rw[s6 Q];grind
 obtain⟨v,rfl⟩:=u;rw[D_ I,<-z]at e1;simp at e1
 cases G:get F a with
 |hptr id el off=>
  rw[G]at e1;simp only[fW]at e1;split at e1
  .have T:sq ops j F=true:=by
    unfold sq
    grind
   unfold cZ;rw[g1];simp[T,<-gd.E];refine g2 _ _ ?_;rw[<-z,G];exact e1
  grind
 |_=>rw[G]at e1;simp[fW]at e1
def Js{E:Env}{nm:Y'->aY Nat}{op:Op}{s:Nat}{a:X'}{os:aX UV}(h:resolve E nm op=some (.r (.loadF s a),os)):False:=by
 unfold resolve at h;(repeat' split at h)<;>first|grind|skip
 all_goals simp_all
def LG{E:Env}{nm:Y'->aY Nat}{op:Op}{s a':Nat}{a:X'}{t:W'}{os:aX UV}(h:resolve E nm op=some (.r (.load s a),os)):∃t x,op=.load t x/\os=[x]:=by
 unfold resolve at h;(repeat' split at h)<;>first|grind|skip
 all_goals simp_all
 grind
def Sw{E:Env}{nm:Y'->aY Nat}{ops:QP}{j:Nat}{op:Op}{q:Nf}{os:aX UV}(a:resolve E nm op=some (.r q,os))(h:∀n ag a',K.r q=.r (.load n ag)->os=[.tmp a']->∀t,op=.load t (.tmp a')->rP ops j a'=[]):qo ops j F op=true:=by
 unfold qo;split;rename_i t a';have:∃n ag,q=.load n ag/\os=[.tmp a']:=by have⟨d,_,e⟩:=ζf.1 a;grind
 grind;rfl
def Ys(gd:Good X S){ops:QP}{b j n a:Nat}{ag:X'}{fr:ST}{o:Oper}{svs:SW}{ys:So}{dst:aY Nat}{x:SV}(c:resolve X.E X.nm o.op=some (.r (.load n ag),[.tmp a]))(W:f_ F (.tmp a::(rP ops j a).map Operand.tmp)=some ys)(rs:cn ν st.m H Z svs ys)
 (Y:fM fr svs=true)(A:b<=H.length)(E:∀d ob,bl st.m d=some ob->cF ob=true->d∉fr->(ν d).1<b)(D:∀id,Z id->id<b)(r:R ν Z st F H)(U:pX st.m (.loadF n ag) svs=some x):FM S ops (some (b,j)) true F o.op dst ν Z st H x st:=by
 obtain⟨w,i,k,m,rfl⟩:=jV W;simp[ev]at k;have K:=D_ m;unfold pX at U;split at U<;>first|(rename_i u;cases u;done)|skip
 .rename_i size agg d off l u;cases u;split at U
  .rename_i C;split at U
   .rename_i cs B;obtain⟨w',M,e,g1,g2⟩:=rs.inv;cases e;have G:=Nh r B g2 C;obtain⟨_,_,rfl⟩:=g1.ru B;have I:∀id,Z id->Z id/\br (H.take b) id=br H id:=λid h=>⟨h,pN (D id h)⟩
    have J:∀id,Z id->Z id/\br H id=br (H.take b) id:=λid h=>⟨h,(pN (D id h)).symm⟩
    have N:d∉fr:=λf=>by have:=qp Y d f;grind[SV.dN,SV.c8]
    obtain⟨y,p,O⟩:=yG (r:=.load n ag) (λs a e=>by cases e) (λkk z ok e=>by cases e) (cn.cons (g1.mono I λe _=>j7 ν st.m e) .nil) (λg Q ob L=>by
     have P:g∉fr:=λf=>by have:=(by simpa[SV.dN,SV.c8]using Q);grind
     exact eC.mono I rfl (λhb=>Zac) (λe _=>j7 ν st.m e) (r.obj g ob L)) (by simp[pX,B];omega)
    obtain⟨k1,k2⟩:=kM gd.N c (show f_ F [.tmp a]=some [.hptr (ν d).1 0 off]from by grind[f_])
    have T:qo ops j F o.op=true:=by obtain⟨t,x',e1,e2⟩:=LG (a':=0) (t:=0) c;rw[e1];simp at e2;subst e2;simp[qo];intro s hs;have v:get F s∈i:=Zac;have:=all_eq_true.1 G _ v;grind[qt]
    refine⟨0,y,H,ν,Z,λq _=>?_,r,O.mono J (λe _=>j7 ν st.m e),.refl,λ_=>⟨rfl,.refl⟩⟩
    unfold cZ;rw[k1];simp[<-gd.E,k2 (H.take b) y p,T]
   grind
  grind
 grind
def GX{E:Env}{nm:Y'->aY Nat}{op:Op}{n:Nat}{os:aX UV}(h:resolve E nm op=some (.l (.append n),os)){y:V}{ys:So}(b:f_ F os=some (y::ys))(B:y=.bO\/y=.dQ):isApp op=true/\sw F op=true:=by
 have key:∃args u p s x,op=.call {callee:=.builtin .append,args:=args,argTypes:=u}/\args.toList=[s,x]/\os=[s,x]/\p=():=by unfold resolve at h;((repeat' split at h)<;>first|(simp at h;done)|skip);grind
 obtain⟨args,u,_,s,x,rfl,c,rfl,_⟩:=key;have⟨a,az,w,z,e⟩:=jV b;cases e;refine⟨rfl,?_⟩;simp only[sw,c,w];all_goals grind
def aav(gd:Good X S)(hS:ku S c){ops:QP}{place:aY (Nat×Nat)}{dr:X'}{fr:ST}{i:Nat}(G:dr=place.isSome)(P:∀b j,place=some (b,j)->j=i)
 (K:∀b j,place=some (b,j)->b<=H.length/\Old b fr ν Z st.m)
 {o:Oper}{ro:RO}(E:oG X dr ops i o=some ro)(aF:∀b j,place=some (b,j)->ops[j]?=some o)(am:∀b j,place=some (b,j)->cQ o.op=.alloc->H[b+j]?=some .free)
 (r:R ν Z st F H){sv:SV}(h:nX S c dr fr ro st=some (sv,st')):
 FM S ops place dr F o.op (AT ro) ν Z st H sv st':=by
 have aw:=λhd hl=>Iy E hd hl
 unfold oG at E;split at E
 .split at E
  .rename_i g k os hg hr;split at E
   .rename_i A;split at E
    .rename_i ah;simp only[ζh]at ah;have an:p9 X.E ops place=true:=by
      cases place with
      |none=>rw[G]at ah;exact absurd ah.1 Zab|some O=>have⟨b,j⟩:=O;rw[P b j rfl];exact ah.2
     split at E
     .rename_i size zero t l c U;obtain⟨az,M,rfl⟩:=ζf.1 E;unfold nX at h;split at h
      next L B=>have⟨ys,C,rs⟩:=qO gd.N r.slot M B;have J:=kM gd.N hr C;exact Cl gd (λ_ _ e=>by cases e) J.1 an (λy hy=>Gi ⟨_,_,_,U⟩ J hy) r rs h
      simp at h
     .rename_i size len zero idx t l c U;split at E
      .rename_i aG;obtain⟨aH,rfl,rfl⟩:=aG;obtain⟨az,M,rfl⟩:=ζf.1 E;unfold nX at h;split at h
       next L B=>have⟨ys,C,rs⟩:=qO gd.N r.slot M B;have J:=kM gd.N hr C;exact Cl gd (λ_ _ e=>by cases e) J.1 an (λy hy=>FQ ⟨_,_,_,U⟩ J aH hy) r rs h
       simp at h
      obtain⟨az,M,rfl⟩:=ζf.1 E;unfold nX at h;split at h
      next L B=>have⟨ys,C,rs⟩:=qO gd.N r.slot M B;have J:=kM gd.N hr C;exact Cl gd (λ_ _ e=>by cases e) J.1 an (λy hy=>Fa ⟨_,_,_,U⟩ J hy) r rs h
      simp at h
     cases E
    rename_i ai;have al:p9 X.E ops place=false:=by cases place with|none=>rfl|some O=>have⟨b,j⟩:=O;have I:=P b j rfl;cases ax:Gt X.E ops j with|false=>exact ax|true=>exact absurd (by rw[G,<-I,ax];rfl) ai
    rcases Ge dr ops i k os with⟨hq,aI⟩|⟨u,ao,n,a,l,aT,rfl,rfl,aJ,hq⟩|⟨u,ao,n,ag,a,rfl,rfl,hq⟩|⟨u,ao,aK,n,rfl,hq⟩
    rotate_left
    .rw[hq]at E;obtain⟨az,M,rfl⟩:=ζf.1 E;unfold nX at h;split at h
     .rename_i L B;have⟨ys,C,rs⟩:=qO gd.N r.slot M B;simp only[u,Bool.not_true,Bool.false_or,if_true]at h;have⟨y,H',ν',e1,e2,e3,e4,e5⟩:=Ez r rs h;refine⟨0,y,H',ν',Z,λq _=>?_,e2,e3,e4.weak (λ_ h=>h.elim),λ_=>⟨rfl,e5⟩⟩
      cases place with
      |none=>rw[G]at u;cases u|some O=>have⟨b,j⟩:=O;have I:=P b j rfl;subst I;exact aaG gd hr C aJ ao e1
     simp at h
    .rw[hq]at E;obtain⟨az,M,rfl⟩:=ζf.1 E;unfold nX at h;split at h
     .rename_i L B;have⟨ys,C,rs⟩:=qO gd.N r.slot M B;simp only[u,Bool.not_true,Bool.or_self,Bool.false_or]at h;split at h
      .rename_i ap;have⟨x,hx,e⟩:=ζf.1 h;simp only[ζc]at e;obtain⟨rfl,rfl⟩:=e
       cases place with
       |none=>rw[G]at u;cases u|some O=>have⟨b,j⟩:=O;have I:=P b j rfl;subst I;have⟨ay,aq,aj⟩:=K b j rfl;rw[u];exact Ys gd hr C rs ap ay aq aj r hx
      simp at h
     simp at h
    .rw[hq]at E;obtain⟨az,M,rfl⟩:=ζf.1 E;unfold nX at h;split at h
     rotate_left
     .simp at h
     rename_i L B;have⟨ys,C,rs⟩:=qO gd.N r.slot M B;simp only at h;have key:∃e x,(e=V.bO\/e=V.dQ)/\L=[.v e,x]/\oT st o.dst (.append n) L=some (sv,st'):=by split at h;exact⟨_,_,.inl rfl,rfl,h⟩;exact⟨_,_,.inr rfl,rfl,h⟩;cases h
     obtain⟨e,x,he,rfl,hl⟩:=key;have⟨y,H',ν',e1,e2,e3,e4,e5⟩:=Ez r rs hl;have⟨g1,g2⟩:=kM gd.N hr C;refine⟨0,y,H',ν',Z,λq _=>?_,e2,e3,e4.weak (λ_ h=>h.elim),λ_=>⟨rfl,e5⟩⟩
     obtain⟨y1,zs,rfl,f1,f2⟩:=rs.inv;have aL:y1=.bO\/y1=.dQ:=by cases f1 with|v _ _ hf=>rcases he with rfl|rfl<;>first|exact .inl hf.bO|exact .inr hf.dQ
     cases place with
     |none=>rw[G]at u;cases u|some O=>have⟨b,j⟩:=O;have I:=P b j rfl;subst I;have⟨r1,r2⟩:=GX hr C aL;exact Rz r1 (by rw[<-gd.E];exact g2 _ _ e1) (.inr ⟨aK,r2,(K b j rfl).1⟩)
    rw[hq]at E;obtain⟨az,M,rfl⟩:=ζf.1 E;unfold nX at h;split at h
    .rename_i L B;have⟨ys,C,rs⟩:=qO gd.N r.slot M B;have D:=kM gd.N hr C;simp only at h
     cases k with
     |p p=>
      cases p with
      |slice size lo P=>
       simp only at h;split at h
       .rename_i d bs;split at h
        .simp at h
        rename_i ar;have⟨y,ν',h1,h2,h3,h4⟩:=QS (N:=S.N) (Rv:=λid=>∃b j,place=some (b,j)/\id=b+j) r rs h
        have⟨g1,g2⟩:=D;exact⟨0,y,H,ν',Z,λq _=>by unfold cZ;rw[g1];simp only[<-gd.E,A1 (g2 y h1),map_some],h2,h3,h4,λhd=>absurd hd ar⟩
       exact SA gd A r rs D h
      |_=>exact SA gd A r rs D h
     |r q=>
      simp only at h;split at h
      .rename_i W;have⟨x,hx,e⟩:=ζf.1 h;simp only[ζc]at e;obtain⟨rfl,rfl⟩:=e;have⟨g1,g2⟩:=D;have au:∀kk z ok,q=.lookup kk z ok->z.good=true:=λkk z ok e=>by subst e;simpa[Df]using A
       have ab:∀s a,q≠.loadF s a:=λs a e=>by subst e;exact Js hr
       cases place with
       |none=>
        have⟨y,hy,ad⟩:=yG ab au rs (λd _ ob hd=>r.obj d ob hd) hx
        exact⟨0,y,H,ν,Z,λq _=>by unfold cZ;rw[g1];simp only[<-gd.E,g2 H y hy,map_some],r,ad,.refl,λ_=>⟨rfl,.refl⟩⟩
       |some O=>
        have⟨b,j⟩:=O;have⟨ay,aq,aj⟩:=K b j rfl;have u:dr=true:=G;subst u;have I:=P b j rfl;subst I;simp only[Bool.not_true,Bool.false_or,Bool.true_and]at W;have aA:qo ops j F o.op=true:=Sw hr λn ag a' e1 e2 t e3=>by by_cases T:dS ops j=true;exact Fb (aF b j rfl) e3 T;exact aI n ag a' rfl (by simpa using T) e1 e2
        by_cases T:dS ops j=true
        .have⟨y,hy,ad⟩:=yG ab au rs (λd _ ob hd=>r.obj d ob hd) hx
         have hH:=g2 H y hy;refine⟨0,y,H,ν,Z,λq _=>?_,r,ad,.refl,λ_=>⟨rfl,.refl⟩⟩
         unfold cZ;rw[g1];simp only[<-gd.E,aA,if_true];split
         next v hv=>have:=BC hv;rw[hH]at this;cases this;rfl
         rw[if_pos T,hH];rfl
        have ap:fM fr L=true:=by simpa[T]using W
        have aa:∀id,Z id->Z id/\br (H.take b) id=br H id:=λid h=>⟨h,pN (aj id h)⟩
        have aB:∀id,Z id->Z id/\br H id=br (H.take b) id:=λid h=>⟨h,(pN (aj id h)).symm⟩
        have⟨y,hy,ad⟩:=yG (H:=H.take b) ab au (rs.mono aa λe _=>j7 ν st.m e) (λd hd ob aC=>by
         have ab:d∉fr:=λhf=>by rw[qp ap d hf]at hd;cases hd
         exact eC.mono aa rfl (λhb=>by rw[getElem?_take,if_pos (aq d ob aC hb ab)]) (λe _=>j7 ν st.m e) (r.obj d ob aC)) hx
        refine⟨0,y,H,ν,Z,λq _=>?_,r,ad.mono aB (λe _=>j7 ν st.m e),.refl,λ_=>⟨rfl,.refl⟩⟩
        unfold cZ;rw[g1];simp only[<-gd.E,g2 (H.take b) y hy,aA,if_true]
      simp at h
     |a q=>
      simp only at h;split at h
      .rename_i d hd;split at h
       .rename_i Y;have⟨⟨ob,x⟩,hx,e⟩:=ζf.1 h;simp only[ζc]at e;obtain⟨rfl,rfl⟩:=e;have⟨ae,mk,e1,e2,e3,e4⟩:=SJ A rs hx;have⟨g1,g2⟩:=D;have⟨n1,n2,n3,n4⟩:=oD Y;have av:∀p:Nat×Nat,∀e,SV.dN e L=true->∀af,bl (bM st.m d ob) e=some af->∃ob,bl st.m e=some ob/\jU ν d p e=ν e/\sameShape ob af:=λp e he=>by
         refine vN ?_;rintro rfl;have:∀{xs:QR}{vs:SW},bW S.N st.g xs=some vs->SV.dN e vs=false:=by intro xs;induction xs with|nil=>intro vs h;simp only[bW,ζa]at h;subst h;rfl|cons a xs ih=>intro vs h;simp only[bW]at h;split at h;rename_i v aU h1 h2;simp only[ζa]at h;subst h;simp only[SV.dN,or_eq_false_iff];refine⟨?_,ih h2⟩;(cases a with|s n=>exact A4 n3 h1|k c=>simp only[tv,ζa]at h1;subst h1;rfl|f s=>simp only[tv,ζa]at h1;subst h1;rfl);simp at h
         rw[this B]at he;cases he
        have fin:∀(id:Nat)(Hn:bn),H.length<=Hn.length->Hn[id]?=some ae->(∀k,k<H.length->k≠id->Hn[k]?=H[k]?)->(∀k,gy ν st.m k->k≠id)->(∀k,Z k->k≠id)->
         R (jU ν d (id,0)) Z {st with m:=bM st.m d ob} F Hn/\dy (jU ν d (id,0)) (bM st.m d ob) Hn Z x (mk.val id)/\(∀k,Z k->br Hn k=br H k):=λid Hn hl aM J ho hz=>by
         have aa:∀k,Z k->br Hn k=br H k:=λk A=>by unfold br;rw[J k (r.yR A) (hz k A)]
         have⟨a1,a2⟩:=e4 id (jU ν d (id,0)) (bM st.m d ob) Hn (iV _ _ _) (cM _ _ _) aM aa (av _);have r2:R ν Z st F Hn:=r.heap (λk A=>J k (r.lt A) (ho k A)) aa
         exact⟨r2.add Y (λ_=>⟨λh=>ho _ h rfl,λh=>hz _ h rfl⟩) a1,a2,aa⟩
        have aD:o.dst=some d:=hd
        cases place with
        |none=>
         have⟨f1,f2,f3⟩:=fin H.length (H++[ae]) Zab Zab (λk A _=>getElem?_append_left A) (λk A=>ne_of_lt (r.lt A)) (λk A=>ne_of_lt (r.yR A))
         refine⟨0,mk.val H.length,H++[ae],jU ν d (H.length,0),Z,λq _=>?_,f1,f2,Ev.add Y Zab (λk A _=>getElem?_append_left A) f3 (λ_=>.inr (le_refl _)),λhh=>?_⟩
         .unfold cZ;rw[g1];simp only[al,false_eq_true,if_false,<-gd.E,g2 _ e1]
         rw[G]at hh;cases hh
        |some O=>
         have⟨b,j⟩:=O;have hf:=am b j rfl g1;have aN:=(ζe.1 hf).1;have nf:∀k,gy ν st.m k->k≠b+j:=λk A e=>by subst e;have⟨d',af,w1,w2,w3⟩:=A;have:=r.obj d' af w1;cases af with|sl fl es xs=>simp only[cF]at w2;simp only[eC,w2,if_true]at this;have⟨_,Q,_⟩:=this;rw[w3,hf]at Q;cases Q|box cs=>have⟨_,_,Q,_⟩:=this;rw[w3,hf]at Q;cases Q|mp aV=>have⟨_,Q,_⟩:=this;rw[w3,hf]at Q;cases Q
         have nz:∀k,Z k->k≠b+j:=λk A e=>by subst e;have:=r.zrow _ A;unfold br at this;rw[hf]at this;simp[Ob.rows]at this
         have⟨f1,f2,f3⟩:=fin (b+j) (H.set (b+j) ae) Zab (by rw[getElem?_set_self aN]) (λk _ A=>by rw[getElem?_set,if_neg (Ne.symm A)]) nf nz
         refine⟨0,mk.val (b+j),H.set (b+j) ae,jU ν d (b+j,0),Z,λq _=>?_,f1,f2,Ev.add Y Zab (λk _ A=>?_) f3 (λ_=>.inl ⟨b,j,rfl,rfl⟩),λ_=>⟨rfl,?_⟩⟩
         .unfold cZ;rw[g1];simp only[al,false_eq_true,if_false,<-gd.E,g2 _ e1,hf]
         .rw[getElem?_set,if_neg λe=>A ⟨b,j,rfl,e.symm⟩]
         have:AT ⟨o.dst,g,dr&&dS ops j,.a q,az,[],[]⟩=some d:=aD;have I:=P b j rfl;subst I;rw[this];exact Kept.add λ_ _ h=>h
       simp at h
      simp at h
     |l q=>
      simp only at h;split at h
      .rename_i W;have⟨y,H',ν',e1,e2,e3,e4,e5⟩:=Ez r rs h;have⟨g1,g2⟩:=D;refine⟨0,y,H',ν',Z,λq _=>?_,e2,e3,e4.weak (λ_ h=>h.elim),λ_=>⟨rfl,e5⟩⟩
       unfold cZ;rw[g1];simp only[<-gd.E]
       cases place with
       |none=>exact g2 _ _ e1|some O=>
        have⟨b,j⟩:=O;have u:dr=true:=G;subst u;have I:=P b j rfl;subst I;have T:dS ops j=true:=by simpa using W
        simp only[T,if_true];exact g2 _ _ e1
      simp at h
     |e n=>exact D.elim|b=>
      simp only at h;split at h
      .cases h
      rename_i ar;have aO:dr=false:=by simpa using ar
      have aP:place=none:=by cases place with|none=>rfl|some O=>rw[aO]at G;simp at G
      subst aP;split at h
      next x=>have⟨xs,h1,h2⟩:=ζg.1 h;have⟨l,h3,e⟩:=ζf.1 h2;simp only[ζc]at e;obtain⟨rfl,rfl⟩:=e;have⟨g1,y,e1,g2⟩:=D;have⟨y',_,e2,r1,r2⟩:=rs.inv;rw[e1]at e2;cases e2;have⟨zs,k1,k2⟩:=xo r1 r.obj h1;have hz:ny zs=some l:=BH k2 h3;have⟨q1,q2⟩:=g2 H zs l k1 hz;exact⟨0,_,H,ν,Z,λq _=>by unfold cZ;rw[g1];simp only[u5,<-gd.E,q1,q2,map_some],r,.v _ _ (.same _ rfl),.refl,λ_=>⟨rfl,.refl⟩⟩
      cases h
     |c=>
      simp only at h;have⟨g1,f',aW,e1,e2⟩:=D;have go:∀(f:Y')(args:SW)(ak:So),cn ν st.m H Z args ak->lM F o.op=some (.fn f,ak)->fN S c o.dst dr (!dr||(dr&&dS ops i)) (gB st.m fr) f args st=some (sv,st')->
       FM S ops place dr F o.op (AT ⟨o.dst,g,dr&&dS ops i,.c,az,[],[]⟩) ν Z st H sv st':=λf args ak aQ aE aR=>by
       have⟨n,y,H',ν',Z',p1,p2,p3,p4,p5,p6⟩:=UG (ops:=ops) (Rv:=λid=>∃b j,place=some (b,j)/\id=b+j) hS gd.prm G (λb j hp hn=>by
        have:=P b j hp;subst this;simp only[ζh]at hn;exact hn.2) (λb j hp hn=>by have:=P b j hp;subst this;rw[G,hp]at hn;simpa using hn) (λb j hp=>(K b j hp).2) r aQ aR
       refine⟨n,y,H',ν',Z',λq hq=>?_,p2,p3,p4,λhd=>⟨p5 hd,p6⟩⟩
       have aS:yZ ops place ak=true:=by cases place with|none=>rfl|some O=>simp only[yZ,P _ _ rfl,aw G g1];rfl
       unfold cZ;rw[g1];simp only[aE,aS,if_true];exact p1 q hq
      split at h
      next f a b vs=>have⟨w,ws,ew,r1,r2⟩:=rs.inv;rw[ew]at e1;simp only[List.cons.injEq]at e1;obtain⟨rfl,rfl⟩:=e1;obtain⟨a',b',rfl,ra,rb⟩:=r1.lT;exact go f _ _ ((ra.append r2).append rb) e2 h
      next f a b vs=>have⟨w,ws,ew,r1,r2⟩:=rs.inv;rw[ew]at e1;simp only[List.cons.injEq]at e1;obtain⟨rfl,rfl⟩:=e1;obtain⟨a',b',rfl,ra,rb⟩:=r1.fr.lT;exact go f _ _ (((cn.tU ra).append r2).append (cn.tU rb)) e2 h
      simp at h
    simp at h
   simp at E
  simp at E
 simp at E
end
def gH(N:Nat->Y')(g:Tb SV)(o:RO):aY (Nat×SW):=
 match o.k,bW N g o.az with
 |.c,some (.yl id::u)=>some (id,u)|_,_=>none
open Classical in
def gp(S:Sys)(c:cm)(dr:X')(fr:ST)(o:RO)(st:St):aY St:=
 match wanted st.g o.gd with
 |some true=>match gH S.N st.g o with
  |some (id,z)=>if dr then none else match dz z,st.want with
   |some B,w::u=>if B=w/\id=st.yid then some (cW {st with want:=u} o.dst (.v (.bool (st.more|| !u.isEmpty))))else none|_,_=>none
  |none=>(nX S c dr fr o st).map λ(x,st')=>cW st' o.dst x
 |some false=>some (cW st o.dst (.v .undef))|none=>none
def RO.strip(o:RO):RO:={o with dead:=[],pre:=[]}
def qV:Pi->St->aY St
 |[],st=>some st|x::r,st=>(ghost x st).bind (qV r)
def CL:Gh->X'
 |.keep ..=>true|.drop _=>true|_=>false
def Eu(dr:X')(l:Pi)(st:St):aY St:=if dr then(if l.all CL then qV l st else none)else qV l st
def rG(ds:ST)(st:St):St:={st with g:=pW ds st.g}
def pL(S:Sys)(c:cm)(dr:X'):ST->R0->St->aY St
 |_,[],st=>some st|fr,o::r,st=>match(Eu dr o.pre st).bind (gp S c dr fr o.strip)with
  |some st'=>pL S c dr (if dr then tB fr o.strip else fr) r (rG o.dead st')|none=>none
abbrev JT:=aX (aX V)->(Nat->Prop)->(Nat->Prop)->bn->Prop
structure Yc(S:Sys)(J:JT)(more:Bool)(yid:Nat):Prop where
 yT:∀w O Z H O' Z' H',J w O Z H->H.length<=H'.length->(∀i,i<H.length->¬O i->¬Z i->H'[i]?=H[i]?)->(∀i,Z i->Z' i/\br H' i=br H i)->
  (∀i,O' i->O i\/H.length<=i)->(∀i,Z' i->Z i\/O i\/H.length<=i)->J w O' Z' H'
 yield:∀x ws O Z H args,J (x::ws) O Z H->dG H Z x args->(∀i,Z i->(br H i).isSome=true)->Deep H Z->(∀i,O i->¬Z i/\i<H.length)->
  ∃n H',run S.E n (.yld yid) args H=some (.bool (more|| !ws.isEmpty),H')/\J ws O Z H'/\H.length<=H'.length/\(∀i,O i->H'[i]?=H[i]?)/\(∀i,Z i->br H' i=br H i)
structure Fix(ν:Nu)(st:St)(ν':Nu)(st':St):Prop where
 pin:∀d∈st.pin,∀ob',bl st'.m d=some ob'->∃ob,bl st.m d=some ob/\ν' d=ν d/\sameShape ob ob'
 pins:st'.pin=st.pin
 more:st'.more=st.more
 yid:st'.yid=st.yid
section
variable{Rv:Nat->Prop}{ν ν' ν2:Nu}{Z Z':Nat->Prop}{st st' st2:St}{m m':Tb bJ}{F F':WP}{H H' H1:bn}{S:Sys}{c:cm}{X:CX}{J:JT}
def Fix.refl:Fix ν st ν st:=⟨λ_ _ u h=>⟨u,h,rfl,.refl _⟩,rfl,rfl,rfl⟩
def Fix.trans(a:Fix ν st ν' st')(b:Fix ν' st' ν2 st2):Fix ν st ν2 st2:=
 ⟨λd hd u h=>by
  have⟨w,c,B,z⟩:=b.pin d (by rw[a.pins];omega) u h
  have⟨ob,k1,k2,k3⟩:=a.pin d hd w c;exact⟨ob,k1,Zad,k3.trans z⟩,by rw[b.pins,a.pins],by rw[b.more,a.more],by rw[b.yid,a.yid]⟩
def Ev.beside(y:Yc S J st.more st.yid)(a:Ev (λ_=>False) ν Z st H ν' Z' st' H')(B:st'.want=st.want)(j:J st.want (gy ν st.m) Z H):J st'.want (gy ν' st'.m) Z' H':=by
 rw[B];exact y.yT _ _ _ _ _ _ _ j a.len (λi b u w=>a.same i b u w (λh=>h)) a.rows (λi h=>(a.own i h).imp (λh=>h) (λh=>h.elim (λh=>h.elim) (λh=>h)))
  (λi h=>(a.frz i h).imp (λh=>h) (λh=>h.imp (λh=>h) (λh=>h.elim (λh=>h.elim) (λh=>h))))
def yj(D:∀s sv,bl st.g s=some sv->dy ν m H Z sv (get F s)){ops:QP}{o:Oper}{gd:aY (Nat×X')}(a:Ec ops o=some gd){t:X'}(B:wanted st.g gd=some t):gT ops F o=t:=by unfold Ec at a;unfold gT;cases u:o.guard with|none=>rw[u]at a;simp at a;simp[wanted]at B;grind|some C=>rw[u]at a;obtain⟨d,hd,rfl⟩:=ζf.1 a;simp[hd];simp[wanted]at B;split at B;(next c b=>simp at B;subst B;rw[(D d _ b).fr.bool]);rename_i x G b;simp at B;subst B;have w:=(D d _ b).fr;split;rename_i c z;rw[z]at w;cases w;grind;rfl;grind
def R3{q:Iz}{dst:aY Nat}{args:SW}{sv:SV}(h:EY q dst args st=some (sv,st')):st'.want=st.want/\st'.pin=st.pin/\st'.more=st.more/\st'.yid=st.yid:=by unfold EY at h;grind
def Vb{dr:X'}{fr:ST}{ro:RO}{sv:SV}(h:nX S c dr fr ro st=some (sv,st')):st'.want=st.want/\st'.pin=st.pin/\st'.more=st.more/\st'.yid=st.yid:=by
 unfold nX at h;split at h
 .split at h;split at h;split at h;simp at h;unfold Ch at h;split at h;split at h;have⟨_,_,h⟩:=ζg.1 h;have⟨_,_,h⟩:=ζg.1 h;dsimp only at h;split at h;simp only[ζa,ζc]at h;obtain⟨_,rfl⟩:=h;exact⟨rfl,rfl,rfl,rfl⟩;simp at h;simp at h;simp at h;have⟨_,_,e⟩:=ζf.1 h;simp only[ζc]at e;obtain⟨_,rfl⟩:=e;exact⟨rfl,rfl,rfl,rfl⟩;have⟨_,_,e⟩:=ζf.1 h;simp only[ζc]at e;obtain⟨_,rfl⟩:=e;exact⟨rfl,rfl,rfl,rfl⟩;split at h;have⟨_,_,e⟩:=ζf.1 h;simp only[ζc]at e;obtain⟨_,rfl⟩:=e;exact⟨rfl,rfl,rfl,rfl⟩;simp at h;split at h;split at h;have⟨_,_,e⟩:=ζf.1 h;simp only[ζc]at e;obtain⟨_,rfl⟩:=e;exact⟨rfl,rfl,rfl,rfl⟩;simp at h;simp at h
  .split at h
   .unfold oT at h;((repeat' split at h)<;>first|(simp at h;done)|(simp only[ζa,ζc]at h;obtain⟨_,rfl⟩:=h;exact⟨rfl,rfl,rfl,rfl⟩)|(have⟨_,_,e⟩:=ζf.1 h;simp only[ζc]at e;obtain⟨_,rfl⟩:=e;exact⟨rfl,rfl,rfl,rfl⟩)|skip);dsimp only at h;(repeat' split at h)<;>first|(simp at h;done)|(simp only[ζa,ζc]at h;obtain⟨_,rfl⟩:=h;exact⟨rfl,rfl,rfl,rfl⟩)
   simp at h
  .have hc:∀{dst dr now old f args},fN S c dst dr now old f args st=some (sv,st')->st'.want=st.want/\st'.pin=st.pin/\st'.more=st.more/\st'.yid=st.yid:=(by intro dst dr now old f args h;unfold fN at h;(repeat' split at h)<;>first|exact R3 h|(have⟨_,_,e⟩:=ζf.1 h;simp only[ζc]at e;obtain⟨_,rfl⟩:=e;exact⟨rfl,rfl,rfl,rfl⟩)|(simp at h;done)|(simp only[ζa,ζc]at h;obtain⟨_,rfl⟩:=h;exact⟨rfl,rfl,rfl,rfl⟩));split at h;exact hc h;exact hc h;simp at h
  split at h;simp at h;split at h;have⟨_,_,h⟩:=ζg.1 h;have⟨_,_,e⟩:=ζf.1 h;simp only[ζc]at e;obtain⟨_,rfl⟩:=e;exact⟨rfl,rfl,rfl,rfl⟩;simp at h;have w:∀{dst l u},oT st dst l u=some (sv,st')->st'.want=st.want/\st'.pin=st.pin/\st'.more=st.more/\st'.yid=st.yid:=by intro dst l u h;unfold oT at h;((repeat' split at h)<;>first|(simp at h;done)|(simp only[ζa,ζc]at h;obtain⟨_,rfl⟩:=h;exact⟨rfl,rfl,rfl,rfl⟩)|(have⟨_,_,e⟩:=ζf.1 h;simp only[ζc]at e;obtain⟨_,rfl⟩:=e;exact⟨rfl,rfl,rfl,rfl⟩)|skip);all_goals (dsimp only at h;(repeat' split at h)<;>first|(simp at h;done)|(simp only[ζa,ζc]at h;obtain⟨_,rfl⟩:=h;exact⟨rfl,rfl,rfl,rfl⟩))
  split at h;exact w h;exact w h;simp at h
 simp at h
def C_(r:R ν Z st F H){a:Nat}{dst:aY Nat}(hd:AY a dst=true){sv:SV}{y:V}(h:dy ν st.m H Z sv y):∃F',lE a F dst y=some F'/\R ν Z (cW st dst sv) F' H:=by cases dst with|none=>exact⟨F,rfl,r⟩|some d=>have:=(by simpa[AY]using hd);exact⟨set F d y,by simp[lE,if_pos this],r.put h⟩
def Fx(st:St)(dst:aY Nat)(sv:SV):(cW st dst sv).m=st.m/\(cW st dst sv).want=st.want/\(cW st dst sv).pin=st.pin/\(cW st dst sv).more=st.more/\(cW st dst sv).yid=st.yid:=by cases dst<;>exact⟨rfl,rfl,rfl,rfl,rfl⟩
def N9(gd:Good X S)(p:ku S c){ops:QP}{place:aY (Nat×Nat)}{dr:X'}{fr:ST}{i:Nat}(G:dr=place.isSome)(q:∀b j,place=some (b,j)->j=i)
 (a:∀b j,place=some (b,j)->b<=H.length/\Old b fr ν Z st.m)
 {o:Oper}{ro:RO}(l:oG X dr ops i o=some ro)(J:∀b j,place=some (b,j)->ops[j]?=some o)(D:∀b j,place=some (b,j)->cQ o.op=.alloc->H[b+j]?=some .free)
 (r:R ν Z st F H)(B:gH S.N st.g ro=none\/dr=true)(h:gp S c dr fr ro st=some st'):
 ∃n F' H' ν' Z',(∀k,n<=k->iH S.E (run S.E k) X.nt ops place o F H=some (F',H'))/\R ν' Z' st' F' H'/\Ev (λid=>∃b j,place=some (b,j)/\id=b+j) ν Z st H ν' Z' st' H'/\
  (dr=true->Z'=Z/\Kept (AT ro) ν st.m ν' st'.m)/\st'.want=st.want/\Fix ν st ν' st':=by
 have I:=l;obtain⟨u,g,now,k,az,m,rfl⟩:=FY l;unfold gp at h;split at h
 .rename_i L;have w:=yj r.slot m L;have T:(nX S c dr fr ⟨o.dst,g,now,k,az,[],[]⟩ st).map (λ(x,st')=>cW st' o.dst x)=some st':=by
   split at h
   .rename_i id vs C;rcases B with B|B
    .rw[B]at C;cases C
    subst B;simp at h
   exact h
  obtain⟨⟨x,O⟩,hd,rfl⟩:=ζf.1 T;have⟨n,y,H',ν',Z',e1,e2,e3,e4,e5⟩:=aav gd p G q a I J D r hd;have⟨U,Q,W,Y⟩:=Vb hd;have⟨F',e,f⟩:=C_ e2 u e3;have⟨p1,p2,p3,p4,p5⟩:=Fx O o.dst x;refine⟨n,F',H',ν',Z',λk s=>?_,f,?_,λhd=>⟨(e5 hd).1,by rw[p1];exact(e5 hd).2⟩,by rw[p2,U],⟨λd hd=>by rw[p1];exact e4.pin d hd,by rw[p3,Q],by rw[p4,W],by rw[p5,Y]⟩⟩
  .unfold iH;simp only[w,if_true,e1 k s,e,map_some]
  exact⟨e4.len,e4.same,e4.rows,λid h=>e4.own id (by rw[p1]at h;exact h),e4.frz,λd hd=>by rw[p1];exact e4.pin d hd,by rw[p3,Q]⟩
 .rename_i L;have w:=yj r.slot m L;simp only[ζa]at h;subst h;have⟨F',e,f⟩:=C_ r u (.v V.undef V.undef (.same _ rfl));have⟨p1,p2,p3,p4,p5⟩:=Fx st o.dst (.v .undef);refine⟨0,F',H,ν,Z,λk _=>?_,f,?_,λ_=>⟨rfl,by rw[p1];exact .refl⟩,p2,⟨λd hd=>by rw[p1];exactλz h=>⟨z,h,rfl,.refl _⟩,p3,p4,p5⟩⟩
  .unfold iH;simp only[w,false_eq_true,if_false,e,map_some]
  exact⟨le_refl _,λ_ _ _ _ _=>rfl,λ_ h=>⟨h,rfl⟩,λ_ h=>.inl (by rw[p1]at h;exact h),λ_ h=>.inl h,λd hd=>by rw[p1];exactλz h=>⟨z,h,rfl,.refl _⟩,p3⟩
 simp at h
def To(gd:Good X S)(y:Yc S J st.more st.yid){ops:QP}{fr:ST}{i:Nat}{o:Oper}{ro:RO}(a:oG X false ops i o=some ro)
 (r:R ν Z st F H)(j:J st.want (gy ν st.m) Z H){id:Nat}{vs:SW}(B:gH S.N st.g ro=some (id,vs))(D:wanted st.g ro.gd=some true)(h:gp S c false fr ro st=some st'):
 ∃n F' H',(∀k,n<=k->iH S.E (run S.E k) X.nt ops none o F H=some (F',H'))/\R ν Z st' F' H'/\J st'.want (gy ν st'.m) Z H'/\Fix ν st ν st':=by
 unfold oG at a;simp only[Bool.false_and,false_eq_true,if_false,Bool.not_false,Bool.and_true]at a;split at a
 .rename_i C;split at a
  .rename_i g k os hg hr;split at a
   .obtain⟨az,U,rfl⟩:=ζf.1 a;unfold gp at h;simp only at D;have L:=yj r.slot hg D;rw[D]at h;simp only[B,false_eq_true,if_false]at h;unfold gH at B;split at B
    .rename_i W Y b G;simp only[ζa,ζc]at B;obtain⟨rfl,rfl⟩:=B;simp only at b G;subst b;have⟨ys,O,rs⟩:=qO gd.N r.slot U G;have⟨g1,E,K,e1,e2⟩:=kM gd.N hr O;have⟨w,M,f,r1,r2⟩:=rs.inv;rw[f]at e1;simp only[List.cons.injEq]at e1;obtain⟨rfl,rfl⟩:=e1;cases r1;simp only at e2;split at h
     .rename_i xs x I hx u;split at h
      .rename_i z;obtain⟨rfl,rfl⟩:=z;simp only[ζa]at h;subst h;rw[u]at j;have⟨n,H',p1,p2,p3,p4,p5⟩:=y.yield _ _ _ _ _ _ j (r2.dz hx) r.zrow r.deep (λi e=>⟨by obtain⟨d,ob,l,m,rfl⟩:=e;exact r.apart d ob l m,r.lt e⟩)
       have r3:R ν Z st F H':=r.heap p4 p5;have r4:R ν Z {st with want:=I} F H':=⟨r3.slot,r3.obj,r3.inj,r3.apart,r3.zrow,r3.deep⟩;have⟨F',p,q⟩:=C_ (st:={st with want:=I}) r4 C (sv:=.v (.bool (st.more|| !I.isEmpty))) (.v _ _ (.same _ rfl));have⟨T,s,t,v,A⟩:=Fx {st with want:=I} o.dst (.v (.bool (st.more|| !I.isEmpty)));refine⟨n,F',H',λk b=>?_,q,by rw[T,s];exact p2,⟨λd hd=>by rw[T];exactλQ h=>⟨Q,h,rfl,.refl _⟩,t,v,A⟩⟩
       unfold iH cZ;rw[g1,e2];simp only[L,if_true,(qh S.E b).go _ _ _ _ p1,p,map_some]
      simp at h
     simp at h
    simp at B
   simp at a
  simp at a
 simp at a
def mX(X:CX)(B:X')(ops:QP):Nat->QP->aY R0
 |_,[]=>some []|i,o::r=>match oG X B ops i o,mX X B ops (i+1) r with
  |some ro,some rs=>some (ro::rs)|_,_=>none
def R.AR(r:R ν Z st F H)(ds:ST):R ν Z (rG ds st) F H:=r.less (λs w u=>qD u) (λd ob hd=>hd)
def Fix.AR{ds:ST}(f:Fix ν (rG ds st) ν' st'):Fix ν st ν' st':=⟨f.pin,f.pins,f.more,f.yid⟩
def Fix.ghost(r:R ν Z st F H)(y:Yc S J st.more st.yid)(j:J st.want (gy ν st.m) Z H){x:Gh}(h:ghost x st=some st'):∃ν' Z',R ν' Z' st' F H/\J st'.want (gy ν' st'.m) Z' H/\Fix ν st ν' st':=by
 have⟨ν',Z',a,u⟩:=UX (Rv:=λ_=>False) r h;have w:st'.want=st.want/\st'.more=st.more/\st'.yid=st.yid:=by unfold Go.VE.ghost CM at h;(repeat' split at h)<;>first|grind|grind
 exact⟨ν',Z',a,u.beside y w.1 j,⟨u.pin,u.pins,w.2.1,w.2.2⟩⟩
def Fix.quiet(r:R ν Z st F H):∀{l:Pi}{st':St},l.all CL=true->Go.VE.qV l st=some st'->R ν Z st' F H/\Ev Rv ν Z st H ν Z st' H/\st'.want=st.want/\Fix ν st ν st'/\∀d ob,bl st'.m d=some ob->bl st.m d=some ob:=by intro l;induction l generalizing st with|nil=>intro st' _ h;simp[Go.VE.qV]at h;subst h;exact⟨r,.refl,rfl,.refl,λ_ _ h=>h⟩|cons x l C=>intro st' z h;simp only[all_cons,ζh]at z;have⟨D,a,G⟩:=ζg.1 h;have key:∃g m,D={st with g:=g,m:=m}/\(∀s u,bl g s=some u->bl st.g s=some u)/\∀d ob,bl m d=some ob->bl st.m d=some ob:=(by cases x with|keep gs L=>simp[Go.VE.ghost]at a;split at a;(next g m b I=>simp at a;subst a;exact⟨g,m,rfl,λs u B=>sW b B,λd ob hd=>sW I hd⟩);grind|drop ds=>simp[Go.VE.ghost]at a;subst a;exact⟨_,st.m,rfl,λs u B=>qD B,λ_ _ h=>h⟩|_=>simp[CL]at z);obtain⟨g,m,rfl,J,w⟩:=key;have⟨a1,a2,a3,a4,a5⟩:=C (r.less J w) z.2 G;exact⟨a1,(Ev.less w).trans a2,a3,Fix.trans (st':={st with g:=g,m:=m}) ⟨λd _ ob h=>⟨ob,w d ob h,rfl,.refl _⟩,rfl,rfl,rfl⟩ a4,λd ob h=>w d ob (a5 d ob h)⟩
def Fix.qV:∀{l:Pi}{ν:Nu}{Z:Nat->Prop}{st st':St},R ν Z st F H->Yc S J st.more st.yid->J st.want (gy ν st.m) Z H->qV l st=some st'->∃ν' Z',R ν' Z' st' F H/\J st'.want (gy ν' st'.m) Z' H/\Fix ν st ν' st'
 |[],ν,Z,st,st',r,y,j,h=>by simp[Go.VE.qV]at h;subst h;exact⟨ν,Z,r,j,.refl⟩|x::l,ν,Z,st,st',r,y,j,h=>by have⟨B,b,D⟩:=ζg.1 h;have⟨z,C,r1,u,a⟩:=Fix.ghost r y j b;have⟨ν2,Z2,r2,w,c⟩:=Fix.qV r1 (by rw[a.more,a.yid];omega) u D;exact⟨ν2,Z2,r2,w,a.trans c⟩
def T_(gd:Good X S)(e:ku S c){ops:QP}{fr:ST}{i:Nat}{o:Oper}{ro:RO}{B:St}(a:oG X false ops i o=some ro)(y:Yc S J st.more st.yid)(r:R ν Z st F H)(j:J st.want (gy ν st.m) Z H)(G:gp S c false fr ro st=some B):
 ∃n F' H' ν' Z',(∀k,n<=k->iH S.E (run S.E k) X.nt ops none o F H=some (F',H'))/\R ν' Z' B F' H'/\J B.want (gy ν' B.m) Z' H'/\Fix ν st ν' B:=by
 by_cases L:wanted st.g ro.gd=some true
 .cases C:gH S.N st.g ro with
  |none=>
   have⟨n,F',H',ν',Z',e1,e2,e3,e4,e5,e6⟩:=N9 gd e (place:=none) rfl (λb j h=>by cases h) (λb j h=>by cases h) a (λb j h=>by cases h) (λb j h=>by cases h) r (.inl C) G
   exact⟨n,F',H',ν',Z',e1,e2,(e3.weak (λid⟨b,j,h,_⟩=>by cases h)).beside y e5 j,e6⟩
  |some p=>have⟨id,Q⟩:=p;have⟨n,F',H',e1,e2,e3,e4⟩:=To gd y a r j C L G;exact⟨n,F',H',ν,Z,e1,e2,e3,e4⟩
 have u:gp S c false fr ro st=some B:=G;have O:gH S.N st.g {ro with az:=[]}=none:=by unfold gH;simp[bW]
 obtain⟨n,F',H',ν',Z',e1,e2,e3,e4,e5,e6⟩:∃n F' H' ν' Z',(∀k,n<=k->iH S.E (run S.E k) X.nt ops none o F H=some (F',H'))/\R ν' Z' B F' H'/\Ev (λ_=>False) ν Z st H ν' Z' B H'/\True/\B.want=st.want/\Fix ν st ν' B:=by unfold gp at u;split at u;(next w=>exact absurd w L);rename_i w;simp only[ζa]at u;subst u;unfold oG at a;simp only[Bool.false_and,false_eq_true,if_false,Bool.not_false,Bool.and_true]at a;split at a;rename_i D;split at a;rename_i g k os f q;split at a;obtain⟨az,T,rfl⟩:=ζf.1 a;have I:=yj r.slot f w;have⟨F',l,m⟩:=C_ r D (.v V.undef V.undef (.same _ rfl));have⟨p1,p2,p3,p4,p5⟩:=Fx st o.dst (.v .undef);refine⟨0,F',H,ν,Z,λk _=>?_,m,?_,trivial,p2,⟨λd hd=>by rw[p1];exactλz h=>⟨z,h,rfl,.refl _⟩,p3,p4,p5⟩⟩;unfold iH;simp only[I,false_eq_true,if_false,l,map_some];exact⟨le_refl _,λ_ _ _ _ _=>rfl,λ_ h=>⟨h,rfl⟩,λ_ h=>.inl (by rw[p1]at h;exact h),λ_ h=>.inl h,λd hd=>by rw[p1];exactλz h=>⟨z,h,rfl,.refl _⟩,p3⟩;simp at a;simp at a;simp at a;simp at u
 exact⟨n,F',H',ν',Z',e1,e2,e3.beside y e5 j,e6⟩
def R5(gd:Good X S)(d:ku S c){ops:QP}{fr:ST}:∀(rest:QP){i:Nat}{B:R0}{ν:Nu}{Z:Nat->Prop}{st st':St}{F:WP}{H:bn},mX X false ops i rest=some (B.map RO.strip)->pL S c false fr B st=some st'->
 Yc S J st.more st.yid->R ν Z st F H->J st.want (gy ν st.m) Z H->
 ∃n F' H' ν' Z',(∀k,n<=k->ox S.E (run S.E k) X.nt ops rest F H=some (F',H'))/\R ν' Z' st' F' H'/\J st'.want (gy ν' st'.m) Z' H'/\Fix ν st ν' st'
 |[],i,B,ν,Z,st,st',F,H,hc,h,y,r,j=>by simp only[mX,ζa]at hc;have:=List.map_eq_nil_iff.1 hc.symm;subst this;simp[pL]at h;subst h;exact⟨0,F,H,ν,Z,λ_ _=>rfl,r,j,.refl⟩|o::rest,i,B,ν,Z,st,st',F,H,hc,h,y,r,j=>by simp[mX]at hc;split at hc;rename_i Q rs f T;obtain⟨u,w,rfl,C,D⟩:∃u w,B=u::w/\Q=u.strip/\rs=w.map RO.strip:=(by cases B with|nil=>simp_all|cons a b=>grind);subst D;simp[pL,<-C]at h;split at h;rename_i z G;have⟨U,I,G⟩:=ζg.1 G;have⟨v,x,g,W,L⟩:=Fix.qV r y j I;have⟨Y,F1,H1,A,E,a1,a2,a3,O⟩:=T_ gd d f (by rw[L.more,L.yid];omega) g W G;have a4:=L.trans O;have⟨l,m,H2,ν2,Z2,p,q,s,t⟩:=R5 gd d rest T h (by show Yc S J z.more z.yid;rw[a4.more,a4.yid];omega) (R.AR a2 u.dead) a3;refine⟨max Y l,m,H2,ν2,Z2,λk e=>?_,q,s,a4.trans (Fix.AR t)⟩;simp[ox,a1 k (le_trans (le_max_left _ _) e),p k (le_trans (le_max_right _ _) e)];grind;grind
def Old.next{b:Nat}{fr:ST}{o:RO}(h:Old b fr ν Z m)(a:Kept (AT o) ν m ν' m'):Old b (tB fr o) ν' Z m':=by
 refine⟨λd ob hd D w=>?_,h.2⟩;have z:d∉fr:=λJ=>w (by unfold tB;grind);have B:AT o≠some d:=λe=>w (by unfold tB;grind);have⟨u,c,G,I⟩:=a d ob B hd;have C:cF u=true:=by cases u<;>cases ob<;>simp[sameShape]at I<;>first|rfl|(simp[cF]at D⊢;grind)
 rw[G];exact h.1 d u c C z
def HB(r:R ν Z st F H){id:Nat}(h:gy ν st.m id):H[id]?≠some .free:=by obtain⟨d,ob,a,u,rfl⟩:=h;have:=r.obj d ob a;cases ob with|sl k es C=>simp[cF]at u;simp[eC,u]at this;grind|box cs=>have⟨es,z,b,_⟩:=this;grind|mp B=>have⟨w,b,_⟩:=this;grind
def P5(r:R ν Z st F H){id:Nat}(h:Z id):H[id]?≠some .free:=λe=>by have:=r.zrow id h;unfold br at this;rw[e]at this;simp[Ob.rows]at this
def Ev.AR{ds:ST}(e:Ev Rv ν Z (rG ds st) H ν' Z' st' H'):Ev Rv ν Z st H ν' Z' st' H':=⟨e.len,e.same,e.rows,e.own,e.frz,e.pin,e.pins⟩
def Sj(gd:Good X S)(g:ku S c){ops:QP}{b k:Nat}(G:uf ops=true->k=ops.length):∀(len:Nat){i:Nat}{B:R0}{fr:ST}{ν:Nu}{Z:Nat->Prop}{st st':St}{F:WP}{H:bn},
 i+len=ops.length->mX X true ops i (ops.drop i)=some (B.map RO.strip)->pL S c true fr B st=some st'->R ν Z st F H->b<=H.length->Old b fr ν Z st.m->(∀j,i<=j->j<k->H[b+j]?=some .free)->
 ∃n F' H' ν',(∀q,n<=q->lG S.E (run S.E q) X.nt ops b (List.range' i len) F H=some (F',H'))/\R ν' Z st' F' H'/\Ev (λid=>b<=id) ν Z st H ν' Z st' H'/\st'.want=st.want/\Fix ν st ν' st'
 |0,i,B,fr,ν,Z,st,st',F,H,hl,hc,h,r,hb,J,hf=>by rw[List.drop_of_length_le Zaa]at hc;simp only[mX,ζa]at hc;have:B=[]:=List.map_eq_nil_iff.1 hc.symm;subst this;simp[pL]at h;subst h;exact⟨0,F,H,ν,λ_ _=>rfl,r,.refl,rfl,.refl⟩|len+1,i,B,fr,ν,Z,st,st',F,H,hl,hc,h,r,hb,J,hf=>by
  have l:i<ops.length:=Zaa;have m:=ζd l;rw[List.drop_eq_getElem_cons l]at hc;simp[mX]at hc;split at hc
  .rename_i ro rs h1 h2;obtain⟨u,w,rfl,Q,T⟩:∃u w,B=u::w/\ro=u.strip/\rs=w.map RO.strip:=by cases B with|nil=>simp_all|cons a b=>grind
   subst T;simp only[pL,<-Q]at h;split at h
   .rename_i ab U;obtain⟨W,z,U⟩:=ζg.1 U;simp only[Eu,if_true]at z;split at z;rotate_left;simp_all;rename_i L;obtain⟨f,o,p,s,t⟩:=Fix.quiet r L z;have J:Old b fr ν Z W.m:=⟨λd ob hd=>J.1 d ob (t d ob hd),J.2⟩;obtain⟨v,F1,H1,V,Z1,a1,a2,a3,a4,a5,a6⟩:=N9 gd g (place:=some (b,i)) rfl (λO j e=>Zac) (λO j e=>Zac) h1 (λO j e=>Zac) (λO j e ad=>by
     have:uf ops=true:=by
      unfold uf
      grind
     grind) f (.inr rfl) U
    obtain⟨rfl,C⟩:=a4 rfl;have I:=a3.weak λid⟨O,j,e,h⟩=>by cases e;omega
    obtain⟨x,y,H2,ν2,A,E,K,M,N⟩:=Sj gd g G len Zaa h2 h (R.AR a2 u.dead) (le_trans hb a3.len) (J.next C) (λj ae Y=>by have D:=hf j Zaa Y;have P:=(ζe.1 D).1;rw[I.same (b+j) P (λh=>HB f h D) (λh=>P5 f h D) Zaa];omega);refine⟨max v x,y,H2,ν2,λq L=>?_,E,o.trans ((I.weak λid e=>Zaa).trans (Ev.AR K)),by rw[M,<-p];exact a5,s.trans (a6.trans (Fix.AR N))⟩;simp[List.range'_succ,lG,m,a1 q (le_trans (le_max_left _ _) L),A q (le_trans (le_max_right _ _) L)]
   grind
  grind
end
def bS(X:CX):X'->Code->aY RC
 |_,.skip=>some .skip|_,.label _=>some .skip|_,.region _ ops B=>
  if B then(if ze ops.toList&&CF ops.toList then(mX X true ops.toList 0 ops.toList).map .rK else none)
  else(mX X false ops.toList 0 ops.toList).map .ops
 |ro,.seq a b=>match bS X ro a,bS X ro b with
  |some a,some b=>some (.seq a b)|_,_=>none
 |ro,.cond c a b=>match rC X.nm c,bS X ro a,bS X ro b with
  |some x,some a,some b=>some (.cond x a b)|_,_,_=>none
 |ro,.block id c=>(bS X ro c).map (.block id)|ro,.loop c=>(bS X ro c).map .loop|ro,.rangeFunc g ps D G=>
  if ro|| !(ps.toList.all (·<X.nt))then none else
  match rC X.nm g,bS X true D,bS X true G with
  |some x,some a,some b=>some (.each x ps.toList a b)|_,_,_=>none
 |_,.exit id=>some (.exit id)|_,.ret=>some .ret|_,_=>none
def erase:RC->RC
 |.seq a b=>.seq (erase a) (erase b)|.cond x a b=>.cond x (erase a) (erase b)|.block id c=>.block id (erase c)|.loop c=>.loop (erase c)|.each g ps a b=>.each g ps (erase a) (erase b)|.gh _ c=>erase c|.hg c _=>erase c|.ops l=>.ops (l.map RO.strip)|.rK l=>.rK (l.map RO.strip)|c=>c
def kH(step:St->aY (Out×St)):Nat->St->aY (Out×St)
 |0,_=>none|k+1,st=>match step st with
  |some (.norm,st')=>kH step k st'|r=>r
open Classical in
def qG(step:St->aY (Out×St))(st:St):aY (Out×St):=if h:∃k r,kH step k st=some r then some (Classical.choose (choose_spec h))else none
def Ba{step:St->aY (Out×St)}:∀{k B:Nat}{st:St}{r:Out×St},k<=B->kH step k st=some r->kH step B st=some r
 |0,_,_,_,_,h=>by simp[kH]at h|k+1,0,_,_,hk,_=>Zaa|k+1,B+1,st,r,hk,h=>by simp only[kH]at h⊢;split at h;(next st' D=>rw[Ba (Nat.le_of_succ_le_succ hk) h]);exact h
def oW{step:St->aY (Out×St)}{st:St}{r:Out×St}:qG step st=some r↔∃k,kH step k st=some r:=by
 unfold qG;constructor;intro h;split at h;next u=>simp only[ζa]at h;exact⟨_,by rw[<-h];exact choose_spec (choose_spec u)⟩
 simp at h;rintro⟨k,a⟩;have u:∃k r,kH step k st=some r:=⟨k,r,a⟩;rw[dif_pos u];have z:=choose_spec (choose_spec u);have B:=Ba (le_max_left (Classical.choose u) k) z;have w:=Ba (le_max_right (Classical.choose u) k) a;rw[B]at w;exact w
def jT(ps:ST)(A B:St->aY (Out×St))(st:St)(x:So)(m:Tb bJ):aY (Out×Tb bJ):=
 if x.length=ps.length then
  match A {g:=zy st.g ps (x.map .v),m:=m,pin:=st.pin++sE st.g,want:=[],more:=true,yid:=0}with
  |some (.norm,u)=>(B u).map λ(o,st2)=>(o,st2.m)|_=>none
 else none
def s8(step:So->Tb bJ->aY (Out×Tb bJ)):S'->Tb bJ->aY (Out×Tb bJ)
 |[],m=>some (.norm,m)|x::xs,m=>match step x m with
  |some (.norm,m')=>s8 step xs m'|r=>r
def cN(S:Sys)(c:cm):RC->St->aY (Out×St)
 |.skip,st=>some (.norm,st)|.ops l,st=>(pL S c false [] l st).map λst=>(.norm,st)|.rK l,st=>(pL S c true [] l st).map λst=>(.norm,st)|.seq a b,st=>match cN S c a st with
  |some (.norm,st')=>cN S c b st'|r=>r
 |.cond x a b,st=>match tv S.N st.g x with
  |some (.v (.bool t))=>if t then cN S c a st else cN S c b st|_=>none
 |.block id a,st=>match cN S c a st with
  |some (.exit B,st')=>if B=id then some (.norm,st')else some (.exit B,st')|r=>r
 |.loop a,st=>qG (cN S c a) st|.each g ps a b,st=>match tv S.N st.g g with
  |some (.v (.clo f x y))=>match S.items f x y with
   |some xs=>(s8 (jT ps (cN S c a) (cN S c b) st) xs st.m).map λ(o,m)=>(o,{st with m:=m})|none=>none
  |_=>none
 |.exit id,st=>some (.exit id,st)|.ret,st=>some (.ret,st)|.gh x a,st=>(ghost x st).bind (cN S c a)|.hg a x,st=>match cN S c a st with
  |some (.norm,st')=>(ghost x st').map λst=>(.norm,st)|r=>r
def eU(S:Sys)(f:Y')(a b:So)(xs:S'):Prop:=∀u more,(more=true/\u=xs\/more=false/\u≠[]/\∃r,xs=u++r)->∀yid J,Yc S J more yid->∀Z w z H,dG H Z a w->dG H Z b z->(∀i,Z i->(br H i).isSome=true)->Deep H Z->J u (λ_=>False) Z H->∃n y H' B Z',(∀k,n<=k->run S.E k (.fn f) (w++.yld yid::z) H=some (y,H'))/\J [] B Z' H'
section
variable{ν ν' ν2:Nu}{Z Z':Nat->Prop}{st st' st2:St}{m m':Tb bJ}{F F':WP}{H H' H1:bn}{S:Sys}{c:cm}{X:CX}{J:JT}
end
inductive zJ(step:List V->Tb bJ->Option (Out×Tb bJ))(o:Out)(mf:Tb bJ):List (List V)->Bool->Tb bJ->Prop
 |nil(h:o=.norm):zJ step o mf [] true mf|next(x:List V)(ws:List (List V))(more:Bool)(m m1:Tb bJ)(h:step x m=some (.norm,m1))(r:zJ step o mf ws more m1):zJ step o mf (x::ws) more m|last(x:List V)(m:Tb bJ)(h:step x m=some (o,mf))(ho:o≠.norm):zJ step o mf [x] false m
def Gr{step:So->Tb bJ->aY (Out×Tb bJ)}{o:Out}{D:Tb bJ}:∀{xs:S'}{m:Tb bJ},s8 step xs m=some (o,D)->
 ∃B more,(more=true/\B=xs\/more=false/\B≠[]/\∃r,xs=B++r)/\zJ step o D B more m
 |[],m,h=>by obtain⟨rfl,rfl⟩:=h;exact⟨[],true,.inl ⟨rfl,rfl⟩,.nil rfl⟩|x::xs,m,h=>by simp[s8]at h;split at h;rename_i m' u;have⟨B,more,b,a⟩:=Gr h;refine⟨x::B,more,?_,.next x B more m m' u a⟩;grind;refine⟨[x],false,.inr ⟨rfl,Zab,xs,rfl⟩,.last x m h λe=>?_⟩;simp_all
def xq(O0 Z0:Nat->Prop)(H0:bn):JT:=λw O Z H=>w=[]/\H0.length<=H.length/\(∀i,i<H0.length->¬O0 i->¬Z0 i->H[i]?=H0[i]?)/\(∀i,Z0 i->Z i/\br H i=br H0 i)/\(∀i,O i->O0 i\/H0.length<=i)/\(∀i,Z i->Z0 i\/O0 i\/H0.length<=i)
section
variable{ν ν' ν2:Nu}{Z Z':Nat->Prop}{st st' st2:St}{m m':Tb bJ}{F F':WP}{H H' H1:bn}{S:Sys}{c:cm}{X:CX}{J:JT}{O0 Z0:Nat->Prop}{H0:bn}
def xq.yT{w:S'}{O Z B Z':Nat->Prop}{H H':bn}(j:xq O0 Z0 H0 w O Z H)(D:H.length<=H'.length)(G:∀i,i<H.length->¬O i->¬Z i->H'[i]?=H[i]?)(a:∀i,Z i->Z' i/\br H' i=br H i)
 (J:∀i,B i->O i\/H.length<=i)(U:∀i,Z' i->Z i\/O i\/H.length<=i):xq O0 Z0 H0 w B Z' H':=by
 have⟨u,z,I,C,L,Q⟩:=j;refine⟨u,le_trans z D,λi b S T=>?_,λi h=>⟨(a i (C i h).1).1,Zac⟩,λi h=>?_,λi h=>?_⟩
 .grind
 .grind
 grind
def xq.yc{more:X'}{yid:Nat}:Yc S (xq O0 Z0 H0) more yid where
 yT:=λ_ _ _ _ _ _ _ j a u w z B=>j.yT a u w z B
 yield:=λx C O Z H args j=>by have⟨h,_⟩:=j;cases h
def xq.refl(r:R ν Z st F H):xq (gy ν st.m) Z H [] (gy ν st.m) Z H:=⟨rfl,le_refl _,λ_ _ _ _=>rfl,λi h=>⟨h,rfl⟩,λi h=>.inl h,λi h=>.inl h⟩
mutual
def FA{d:Nat}:∀{sv:SV},sv.c8 d=true->d∈sv.names
 |.v _,h=>by simp[SV.c8]at h|.own e,h=>by simp[SV.c8]at h;simp[SV.names,h]|.ptr e _,h=>by simp[SV.c8]at h;simp[SV.names,h]|.el e _ _,h=>by simp[SV.c8]at h;simp[SV.names,h]|.mp e,h=>by simp[SV.c8]at h;simp[SV.names,h]|.clo f a b,h=>by simp only[SV.c8,or_eq_true]at h;simp only[SV.names,mem_append];exact h.imp tC tC|.tup l,h=>by simp only[SV.c8]at h;simp only[SV.names];exact tC h|.agg l,h=>by simp only[SV.c8]at h;simp only[SV.names];exact tC h|.yl _,h=>by simp[SV.c8]at h
def tC{d:Nat}:∀{l:SW},SV.dN d l=true->d∈SV.y8 l
 |[],h=>by simp[SV.dN]at h|x::r,h=>by simp only[SV.dN,or_eq_true]at h;simp only[SV.y8,mem_append];exact h.imp FA tC
end
def DY{d:Nat}:∀{g:Tb SV}{s:Nat}{sv:SV},bl g s=some sv->sv.c8 d=true->d∈sE g
 |[],s,sv,h,_=>by simp[bl]at h|(k,x)::r,s,sv,h,B=>by simp[bl]at h;simp[sE];split at h;simp at h;subst h;exact .inl (FA B);exact .inr (DY h B)
def R.abm(r:R ν Z st F H){Z2:Nat->Prop}(f:∀i,Z2 i->¬gy ν st.m i)(G:∀i,Z2 i->(br H i).isSome=true)(J:Deep H Z2):R ν (λi=>Z i\/Z2 i) st F H:=by have w:∀i,Z i->(Z i\/Z2 i)/\br H i=br H i:=λi h=>⟨.inl h,rfl⟩;have z:∀i,Z2 i->(Z i\/Z2 i)/\br H i=br H i:=λi h=>⟨.inr h,rfl⟩;refine⟨λs I L=>(r.slot s I L).mono w λe _=>j7 ν st.m e,λd ob hd=>eC.mono w rfl (λ_=>rfl) (λe _=>j7 ν st.m e) (r.obj d ob hd),r.inj,λd ob hd C b=>?_,λi a=>?_,⟨λid es D a hr c hc u hu=>?_⟩⟩;rcases b with b|b;exact r.apart d ob hd C b;exact f _ b ⟨d,ob,hd,C,rfl⟩;exact a.elim (r.zrow i) (G i);rcases a with a|a;have⟨x,B⟩:=r.deep.row id es D a hr c hc u hu;exact⟨x,B.mono w⟩;have⟨x,B⟩:=J.row id es D a hr c hc u hu;exact⟨x,B.mono z⟩
def R.aal:∀{ps:ST}{xs:So}{vs:So}{g:Tb SV}{F:WP},R ν Z {st with g:=g} F H->dG H Z xs vs->xs.length=ps.length->R ν Z {st with g:=zy g ps (xs.map .v)} (AI ps vs F) H
 |[],xs,vs,g,F,r,h,B=>by have:=length_eq_zero_iff.1 B;subst this;exact r|p::ps,[],vs,g,F,r,h,B=>Zad|p::ps,x::xs,vs,g,F,r,h,B=>by obtain⟨w,z,rfl,a,u⟩:=h.inv;exact R.aal (ps:=ps) (r.put (.v _ _ a)) u Zac
def vn(X:CX)(S:Sys)(ro:X')(code:Code)(B:St->aY (Out×St)):Prop:=∀st o st',B st=some (o,st')->∀(J:JT)ν Z F H,Yc S J st.more st.yid->R ν Z st F H->J st.want (gy ν st.m) Z H->∃n F' H' ν' Z',(∀k,n<=k->exec S.E (run S.E k) k ro X.nt code F H=some (o,F',H'))/\R ν' Z' st' F' H'/\J st'.want (gy ν' st'.m) Z' H'/\Fix ν st ν' st'
def WE(st:St)(m:Tb bJ):St:={g:=st.g,m:=m,pin:=st.pin++sE st.g,want:=[],more:=true,yid:=0}
def JI(X:CX)(st:St)(F:WP)(ν:Nu)(O0 Z0:Nat->Prop)(H0:bn)(B:Nat)(ps:ST)(J U:Code)(step:So->Tb bJ->aY (Out×Tb bJ))(o:Out)(G:Tb bJ)(more:X'):JT:=λw O Z H=>∃m z D u,R z D (WE st m) F H/\xq O0 Z0 H0 [] (gy z m) D H/\(∀i,O i->¬gy z m i/\¬D i/\i≠B/\H0.length<=i)/\(∀i,Z i->¬gy z m i/\i≠B/\(Z0 i\/H0.length<=i))/\¬gy z m B/\¬D B/\H0.length<=B/\H[B]?=some (.loop u)/\(u.frame=F/\u.nt=X.nt/\u.params=ps/\u.assign=J/\u.body=U)/\(∀d∈st.pin++sE st.g,∀C,bl m d=some C->∃ob,bl st.m d=some ob/\z d=ν d/\sameShape ob C)/\((zJ step o G w more m/\u.st=.ready/\u.pend=none)\/(w=[]/\m=G/\u.st=.done/\u.pend=some o))
def JI.yT{w:S'}{O Z G Z':Nat->Prop}{H H':bn}{B:Nat}{ps:ST}{J U:Code}{step:So->Tb bJ->aY (Out×Tb bJ)}{o:Out}{W:Tb bJ}{more:X'}
 (j:JI X st F ν O0 Z0 H0 B ps J U step o W more w O Z H)(Y:H.length<=H'.length)(D:∀i,i<H.length->¬O i->¬Z i->H'[i]?=H[i]?)(x:∀i,Z i->Z' i/\br H' i=br H i)
 (e:∀i,G i->O i\/H.length<=i)(f:∀i,Z' i->Z i\/O i\/H.length<=i):JI X st F ν O0 Z0 H0 B ps J U step o W more w G Z' H':=by
 have⟨m,S,I,T,r,g,b,c,k,l,n,p,q,s,t⟩:=j;have u:=λi a=>D i (r.lt a) (λh=>(b i h).1 a) (λh=>(c i h).1 a)
 have z:∀i,I i->br H' i=br H i:=λi a=>by by_cases C:Z i;grind;unfold br;rw[D i (r.yR a) (λh=>(b i h).2.1 a) C]
 have y:=(ζe.1 p).1;refine⟨m,S,I,T,r.heap u z,?_,λi h=>?_,λi h=>?_,k,l,n,?_,q,s,t⟩
 .have⟨j1,L,j3,j4,j5,j6⟩:=g;refine⟨j1,le_trans L Y,λi d v Q=>?_,λi h=>⟨(j4 i h).1,Zac⟩,j5,j6⟩
  rw[D i (Nat.lt_of_lt_of_le d L) (λh=>by have:=(b i h).2.2.2;omega) (λh=>by rcases(c i h).2.2 with h|h;exact Q h;omega),j3 i d v Q]
 .rcases e i h with h|h
  .exact b i h
  exact⟨λa=>absurd (r.lt a) Zaa,λa=>absurd (r.yR a) Zaa,Zaa,Zaa⟩
 .rcases f i h with h|h|h
  .exact c i h
  .exact⟨(b i h).1,(b i h).2.2.1,.inr (b i h).2.2.2⟩
  exact⟨λa=>absurd (r.lt a) Zaa,Zaa,.inr Zaa⟩
 grind
def JI.yield(S:Sys){A B:St->aY (Out×St)}{N P:Code}(hA:vn X S true N A)(hB:vn X S true P B){D:Nat}{ps:ST}(ax:ps.all (·<X.nt)=true){o:Out}{q:Tb bJ}{more:X'}
 {x:So}{g:S'}{O Z:Nat->Prop}{H:bn}{args:So}(j:JI X st F ν O0 Z0 H0 D ps N P (jT ps A B st) o q more (x::g) O Z H)
 (hx:dG H Z x args)(an:∀i,Z i->(br H i).isSome=true)(ay:Deep H Z)(aA:∀i,O i->¬Z i/\i<H.length):
 ∃n H',run S.E n (.yld D) args H=some (.bool (more|| !g.isEmpty),H')/\JI X st F ν O0 Z0 H0 D ps N P (jT ps A B st) o q more g O Z H'/\H.length<=H'.length/\(∀i,O i->H'[i]?=H[i]?)/\(∀i,Z i->br H' i=br H i):=by
 have⟨m,t,k,f,r,ej,d1,v,l1,l2,l3,l4,⟨q1,q2,q3,q4,q5⟩,l6,l7⟩:=j;have aB:zJ (jT ps A B st) o q (x::g) more m/\f.st=.ready/\f.pend=none:=by grind
 have⟨hE,T,aC⟩:=aB;have U:∃y m1,jT ps A B st x m=some (y,m1)/\(y=.norm/\zJ (jT ps A B st) o q g more m1/\(more|| !g.isEmpty)=true\/y≠.norm/\y=o/\m1=q/\g=[]/\more=false):=by cases hE with|next _ _ _ _ m1 h hr=>refine⟨.norm,m1,h,.inl ⟨rfl,hr,?_⟩⟩;cases hr<;>simp|last _ _ h ho=>grind
 have⟨y,m1,w,ab⟩:=U;unfold jT at w;split at w
 .rename_i ad;split at w
  .rename_i ah aD;have⟨⟨z,st2⟩,aE,e⟩:=ζf.1 w;simp at e;obtain⟨rfl,rfl⟩:=e;have aF:=(ζe.1 l4).1;have r1:=r.abm (λi a=>(v i a).1) an ay
   have aG:dG H (λi=>k i\/Z i) x args:=hx.mono λi a=>⟨.inr a,rfl⟩
   have r2:=R.aal (st:=WE st m) r1 aG ad;have⟨nA,F2,H2,ν2,Z2,a1,a2,a3,a4⟩:=hA _ _ _ aD (xq (gy t m) (λi=>k i\/Z i) H) t _ _ H xq.yc r2 (xq.refl r1)
   have⟨b1,b2,b3,b4,E,b6⟩:=a3;have ai:¬(k D\/Z D):=λh=>h.elim l2 λh=>(v D h).2.1 rfl
   have ao:H2[D]?=some (.loop f):=by rw[b3 D aF l1 ai];omega
   have ae:D<H2.length:=Zaa
   have W:¬gy ν2 ah.m D:=λh=>(E D h).elim l1 λh=>Zaa
   have aj:¬Z2 D:=λh=>by rcases b6 D h with h|h|h;exact ai h;exact l1 h;omega
   have u:∀(ob:Ob)(Hh:bn)(i:Nat),i≠D->(Hh.set D ob)[i]?=Hh[i]?:=λob Hh i Y=>by rw[getElem?_set,if_neg (Ne.symm Y)]
   have r3:R ν2 Z2 ah F2 (H2.set D (.loop {f with st:=.busy})):=a2.heap (λi a=>u _ _ i λe=>W (e▸a)) (λi a=>by unfold br;rw[u _ _ i λe=>aj (e▸a)])
   have⟨nB,F4,c,K,l,c1,c2,c3,c4⟩:=hB _ _ _ aE (xq (gy ν2 ah.m) Z2 (H2.set D (.loop {f with st:=.busy}))) ν2 Z2 F2 _ xq.yc r3 (by
    rw[b1];exact xq.refl r3)
   have⟨_,g2,g3,g4,g5,g6⟩:=c3;simp at g2 g3 g5 g6;have ap:c[D]?=some (.loop {f with st:=.busy}):=by rw[g3 D ae W aj,getElem?_set_self ae]
   have aq:D<c.length:=Zaa
   have ar:=λh=>(g5 D h).elim W λh=>Zaa
   have au:¬l D:=λh=>by rcases g6 D h with h|h|h;exact aj h;exact W h;omega
   generalize M:({f with st:=(if z==.norm then DO.ready else DO.done),pend:=(if z==.norm then none else some z)}:yw)=G;have r5:R K l st2 F4 (c.set D (.loop G)):=c2.heap (λi a=>u _ _ i λe=>ar (e▸a)) (λi a=>by unfold br;rw[u _ _ i λe=>au (e▸a)])
   have L:H.length<=(c.set D (.loop G)).length:=by simp;omega
   have ak:∀i,i<H.length->i≠D->¬gy t m i->¬(k i\/Z i)->(c.set D (.loop G))[i]?=H[i]?:=λi b J I p=>by rw[u _ _ i J,g3 i Zaa (λh=>(E i h).elim I λh=>Zaa) (λh=>by rcases b6 i h with h|h|h;exact p h;exact I h;omega),u _ _ i J,b3 i b I p]
   have C:∀i,(k i\/Z i)->l i/\br (c.set D (.loop G)) i=br H i:=λi a=>by have Y:i≠D:=λe=>ai (e▸a);have⟨t1,t2⟩:=b4 i a;have⟨t3,t4⟩:=g4 i t1;refine⟨t3,?_⟩;rw[<-t2];have:br (H2.set D (.loop {f with st:=.busy})) i=br H2 i:=(by unfold br;rw[u _ _ i Y]);rw[<-this,<-t4];unfold br;rw[u _ _ i Y]
   have Q:∀i,gy K st2.m i->gy t m i\/H.length<=i:=λi a=>by rcases g5 i a with h|h;exact E i h;exact .inr Zaa
   have af:∀i,l i->(k i\/Z i)\/gy t m i\/H.length<=i:=λi a=>by rcases g6 i a with h|h|h;exact b6 i h;rcases E i h with h|h;exact .inr (.inl h);exact .inr (.inr h);exact .inr (.inr Zaa)
   have fx:=a4.trans c4;have r6:R K l (WE st st2.m) F (c.set D (.loop G)):=⟨λs sv hs=>(r.slot s sv hs).mono (λi a=>C i (.inl a)) λd hd al am=>fx.pin d (List.mem_append_right _ (DY hs hd)) al am,r5.obj,r5.inj,r5.apart,r5.zrow,r5.deep⟩
   have av:run S.E (max nA nB+1) (.yld D) args H=some (.bool (z==.norm),c.set D (.loop G)):=by simp only[run,lP,l4];rw[if_pos (by rw[q3];exact⟨by rw[<-hx.1];exact ad,by rw[q2];exact ax⟩)];rw[q1,q2,q3,q4,q5];rw[a1 _ (le_max_left _ _)];simp only[ao,T];rw[c1 _ (le_max_right _ _)];simp only[ap];rw[<-M]
   refine⟨max nA nB+1,c.set D (.loop G),?_,⟨st2.m,K,l,G,r6,?_,λi a=>?_,λi a=>?_,ar,au,l3,?_,?_,λd hd al am=>?_,?_⟩,L,λi a=>?_,λi a=>(C i (.inr a)).2⟩
   .rw[av];rcases ab with⟨b,_,I⟩|⟨b,_,_,p,h5⟩
    .rw[b,I];rfl
    rw[p,h5]
    cases aH:z with
    |norm=>exact absurd aH b|_=>rfl
   .have⟨j1,j2,j3,j4,j5,j6⟩:=ej;refine⟨rfl,le_trans j2 L,λi b J I=>?_,λi h=>⟨(C i (.inl (j4 i h).1)).1,by rw[(C i (.inl (j4 i h).1)).2,(j4 i h).2]⟩,λi h=>?_,λi h=>?_⟩
    .rw[ak i Zaa Zaa (λh=>by rcases j5 i h with h|h;exact J h;omega) (λh=>by
      rcases h with h|h
      .rcases j6 i h with h|h|h;exact I h;exact J h;omega
      rcases(v i h).2.2 with h|h;exact I h;omega),j3 i b J I]
    .rcases Q i h with h|h
     .exact j5 i h
     exact .inr Zaa
    rcases af i h with(h|h)|h|h
    .exact j6 i h
    .rcases (v i h).2.2 with h|h;exact .inl h;exact .inr (.inr h)
    .rcases j5 i h with h|h;exact .inr (.inl h);exact .inr (.inr h)
    exact .inr (.inr Zaa)
   .have⟨t1,t2⟩:=aA i a;have⟨t3,t4,t5,t6⟩:=d1 i a;refine⟨λh=>(Q i h).elim t3 λh=>Zaa,λh=>?_,t5,t6⟩
    rcases af i h with(h|h)|h|h
    .exact t4 h
    .exact t1 h
    .exact t3 h
    omega
   .have⟨t1,t2,t3⟩:=v i a;have aJ:i<H.length:=by
     have:=an i a;unfold br at this
     cases hh:H[i]?with
     |none=>rw[hh]at this;simp at this|some _=>exact(ζe.1 hh).1
    exact⟨λh=>(Q i h).elim t1 λh=>Zaa,t2,t3⟩
   .rw[getElem?_set_self aq]
   .subst M;exact⟨q1,q2,q3,q4,q5⟩
   .have⟨aI,b,J,I⟩:=fx.pin d hd al am;have⟨ob,k1,k2,k3⟩:=l6 d hd aI b;exact⟨ob,k1,by rw[J,k2],k3.trans I⟩
   .rcases ab with⟨b,J,I⟩|⟨b,J,I,p,h5⟩
    .left;subst b;subst M;exact⟨J,rfl,rfl⟩
    right;subst M;have hb:¬(z==Out.norm)=true:=by simpa using b
    refine⟨p,I,?_,?_⟩
    .show (if(z==Out.norm)=true then DO.ready else DO.done)=DO.done;rw[if_neg hb]
    show(if(z==Out.norm)=true then none else some z)=some o;rw[if_neg hb,J]
   grind
  grind
 grind
end
section
variable{ν ν' ν2:Nu}{Z Z':Nat->Prop}{st st' st2:St}{m m':Tb bJ}{F F':WP}{H H' H1:bn}{S:Sys}{c:cm}{X:CX}{J:JT}
def Sg(gd:Good X S)(m:ku S c){ro:X'}{id:Nat}{ops:Array Oper}{l:R0}(p:mX X true ops.toList 0 ops.toList=some (l.map RO.strip))(hd:(ze ops.toList&&CF ops.toList)=true):
 vn X S ro (.region id ops true) (λst=>(pL S c true [] l st).map λst=>(.norm,st)):=by
 intro st o st' h J ν Z F H y r j;have⟨G,f,e⟩:=ζf.1 h;simp only[ζc]at e;obtain⟨rfl,rfl⟩:=e;generalize w:(if uf ops.toList then H++replicate ops.toList.length .free else H)=H0;generalize g:(if uf ops.toList then ops.toList.length else 0)=k;have u:∀i,i<H.length->H0[i]?=H[i]?:=λi a=>by rw[<-w];split;exact getElem?_append_left a;rfl
 have z:H.length<=H0.length:=by rw[<-w];split<;>simp
 have I:R ν Z st F H0:=r.heap (λi a=>u i (r.lt a)) (λi a=>by unfold br;rw[u i (r.yR a)])
 have B:∀q,0<=q->q<k->H0[H.length+q]?=some .free:=λq _ C=>by rw[<-g]at C;split at C;rename_i D;rw[<-w,if_pos D,getElem?_append_right Zaa];simp only[Nat.add_sub_cancel_left];rw[List.getElem?_replicate,if_pos C];omega
 have⟨n,F',H',ν',e1,e2,e3,e4,e5⟩:=Sj gd m (ops:=ops.toList) (b:=H.length) (k:=k) (λD=>by rw[<-g,if_pos D]) ops.toList.length (i:=0) (fr:=[]) Zaa (by simpa using p) f I z
  ⟨λd ob hd L _=>r.lt ⟨d,ob,hd,L,rfl⟩,λi a=>r.yR a⟩ B
 refine⟨n,F',H',ν',Z,λq C=>?_,e2,?_,e5⟩
 .simp only[exec,lp,if_true,hd,ζf,ζc,true_and];refine⟨(F',H'),?_,rfl,rfl⟩;rw[w];have:=e1 q C;rw[List.range_eq_range'];exact this
 rw[e4];refine y.yT _ _ _ _ _ _ _ j (le_trans z e3.len) (λi f O Q=>by rw[e3.same i Zaa O Q Zaa,u i f]) (λi a=>⟨a,by rw[(e3.rows i a).2];unfold br;rw[u i (r.yR a)]⟩) (λi a=>?_) (λi a=>.inl a)
 rcases e3.own i a with h|h|h
 .exact .inl h
 .exact .inr h
 exact .inr Zaa
def XM{ro:X'}{code:Code}{f:St->aY (Out×St)}(U:vn X S ro code f):vn X S ro (.loop code) (qG f):=by
 intro st o st' h J ν Z F H y r j;have⟨k,a⟩:=oW.1 h;have key:∀k st ν Z F H,kH f k st=some (o,st')->Yc S J st.more st.yid->R ν Z st F H->J st.want (gy ν st.m) Z H->
  ∃n F' H' ν' Z',(∀q,n<=q->∀u,k<=u->mF (exec S.E (run S.E q) q ro X.nt code) u F H=some (o,F',H'))/\R ν' Z' st' F' H'/\J st'.want (gy ν' st'.m) Z' H'/\Fix ν st ν' st':=by
  intro k
  induction k with
  |zero=>intro st ν Z F H h;simp[kH]at h|succ k L=>
   intro st ν Z F H h y r j;simp only[kH]at h;split at h
   .rename_i z B;have⟨C,F1,H1,D,G,a1,a2,a3,a4⟩:=U st .norm z B J ν Z F H y r j;have⟨O,Q,H2,ν2,Z2,T,W,Y,b⟩:=L z D G F1 H1 h (by rw[a4.more,a4.yid];exact y) a2 a3
    refine⟨max C O,Q,H2,ν2,Z2,λq w u I=>?_,W,Y,a4.trans b⟩
    cases u with
    |zero=>omega|succ u=>simp only[mF,a1 q (le_trans (le_max_left _ _) w)];exact T q (le_trans (le_max_right _ _) w) u Zaa
   rename_i B;have⟨C,F1,H1,D,G,a1,a2,a3,a4⟩:=U st o st' h J ν Z F H y r j;have c:o≠.norm:=λe=>by subst e;exact B st' h
   refine⟨C,F1,H1,D,G,λq w u I=>?_,a2,a3,a4⟩
   cases u with
   |zero=>omega|succ u=>simp only[mF,a1 q w];cases o<;>first|exact absurd rfl c|rfl
 have⟨n,F',H',ν',Z',e1,e2,e3,e4⟩:=key k st ν Z F H a y r j;refine⟨max n k,F',H',ν',Z',λq w=>?_,e2,e3,e4⟩;simp only[exec];exact e1 q (le_trans (le_max_left _ _) w) q (le_trans (le_max_right _ _) w)
def Xm(gd:Good X S)(hI:∀f a b xs,S.items f a b=some xs->eU S f a b xs){g:UV}{ps:Array Tmp}{U W:Code}{x:Arg}{A B:St->aY (Out×St)}
 (ab:ps.toList.all (·<X.nt)=true)(hx:rC X.nm g=some x)(hA:vn X S true U A)(hB:vn X S true W B):
 vn X S false (.rangeFunc g ps U W) (λst=>match tv S.N st.g x with
 |some (.v (.clo f x y))=>match S.items f x y with
  |some xs=>(s8 (jT ps.toList A B st) xs st.m).map λ(o,m)=>(o,{st with m:=m})|none=>none
 |_=>none):=by
 intro st o st' h J ν Z F H y r j;dsimp only at h;split at h
 .rename_i f a b ad;split at h
  .rename_i xs ae;have⟨⟨s,t⟩,hE,e⟩:=ζf.1 h;simp only[ζc]at e;obtain⟨rfl,rfl⟩:=e;have⟨yv,hy,ry⟩:=Hr gd.N r.slot hx ad;obtain⟨a',b',rfl,ra,rb⟩:=ry.fr.lT;have⟨N,more,Q,hR⟩:=Gr hE;generalize I:(⟨.ready,none,F,X.nt,ps.toList,U,W⟩:yw)=u;have z:∀i,i<H.length->(H++[Ob.loop u])[i]?=H[i]?:=λi c=>getElem?_append_left c
   have C:∀i,Z i->br (H++[Ob.loop u]) i=br H i:=λi c=>by unfold br;rw[z i (r.yR c)]
   have r0:R ν Z (WE st st.m) F (H++[Ob.loop u]):=by have:=r.heap (H':=H++[Ob.loop u]) (λi c=>z i (r.lt c)) C;exact⟨this.slot,this.obj,this.inj,this.apart,this.zrow,this.deep⟩
   have D:∀i,Z i->Z i/\br (H++[Ob.loop u]) i=br H i:=λi c=>⟨c,C i c⟩
   have j0:JI X st F ν (gy ν st.m) Z H H.length ps.toList U W (jT ps.toList A B st) s t more N (λ_=>False) Z (H++[Ob.loop u]):=by refine⟨st.m,ν,Z,u,r0,⟨rfl,Zab,λi l _ _=>z i l,λi c=>⟨c,C i c⟩,λi c=>.inl c,λi c=>.inl c⟩,λi c=>c.elim,λi c=>⟨λv=>?_,ne_of_lt (r.yR c),.inl c⟩,λv=>absurd (r.lt v) Zab,λhz=>absurd (r.yR hz) Zab,le_refl _,Zab,?_,λd _ af h=>⟨af,h,rfl,.refl _⟩,.inl ⟨hR,?_,?_⟩⟩;obtain⟨d,ob,g1,g2,rfl⟩:=v;exact r.apart d ob g1 g2 c;subst I;exact⟨rfl,rfl,rfl,rfl,rfl⟩;subst I;rfl;subst I;rfl
   have ah:Yc S (JI X st F ν (gy ν st.m) Z H H.length ps.toList U W (jT ps.toList A B st) s t more) more H.length:=⟨λw O Z1 H1 O' Z' H' E l Y p K h5=>JI.yT E l Y p K h5,λx1 aj O Z1 H1 args E l Y p K=>JI.yield S hA hB ab E l Y p K⟩
   have⟨n,yy,H',O',Z',e1,e2⟩:=hI f a b xs ae N more Q H.length _ ah Z a' b' (H++[Ob.loop u]) (ra.mono D) (rb.mono D) (λi c=>by rw[C i c];exact r.zrow i c) (r.deep.mono C) j0
   have⟨m1,νb,P,M,r1,⟨_,k2,k3,k4,k5,k6⟩,_,_,l1,l2,l3,V,_,l6,l7⟩:=e2;have aa:m1=t/\(M.st=.ready\/M.st=.done)/\M.pend.getD .norm=s:=by rcases l7 with⟨g1,g2,g3⟩|⟨_,g1,g2,g3⟩;(cases g1 with|nil hn=>exact⟨rfl,.inl g2,by rw[g3,hn];rfl⟩);exact⟨g1,.inr g2,by rw[g3];rfl⟩
   obtain⟨rfl,k,T⟩:=aa;have ak:H.length<H'.length:=(ζe.1 V).1;have G:∀i,i≠H.length->(H'.set H.length .dead)[i]?=H'[i]?:=λi ai=>by rw[getElem?_set,if_neg (Ne.symm ai)]
   have L:∀i,P i->br (H'.set H.length .dead) i=br H' i:=λi c=>by unfold br;rw[G i λe=>l2 (e▸c)]
   have r2:=r1.heap (H':=H'.set H.length .dead) (λi c=>G i λe=>l1 (e▸c)) L
   refine⟨n,F,H'.set H.length .dead,νb,P,λq hq=>?_,⟨r2.slot,r2.obj,r2.inj,r2.apart,r2.zrow,r2.deep⟩,?_,⟨λd hd=>l6 d (List.mem_append_left _ hd),rfl,rfl,rfl⟩⟩
   .simp only[exec,hy];rw[I,e1 q hq];simp only[V];rcases k with k|k<;>rw[k]<;>simp only[T]
   refine y.yT _ _ _ _ _ _ _ j (by simp only[List.length_set];omega) (λi l Y p=>by rw[G i Zaa,k3 i l Y p]) (λi c=>⟨(k4 i c).1,by rw[L i (k4 i c).1,(k4 i c).2]⟩) k5 k6
  simp at h
 simp at h
end
end Go.VE
