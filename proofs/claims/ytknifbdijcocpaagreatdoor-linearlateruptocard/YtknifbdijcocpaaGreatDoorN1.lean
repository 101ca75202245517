/-
 The second layer: named objects in the place of rows; texts, calls, iterators.
-/
import Derived.Test.YtknifbdijcocpaaGreatDoorV2
set_option linter.all false
open List(all_cons all_eq_true drop_drop drop_zero getElem?_append_left getElem?_append_right getElem?_cons_zero getElem?_drop getElem?_set getElem?_set_self getElem?_take length_eq_zero_iff mem_append mem_cons mem_iff_getElem? mem_of_getElem? mem_of_mem_drop replicate take take_length)
open Go.VE.V(cV closed lY scalar)
open Bool(false_eq_true not_eq_true' or_eq_false_iff or_eq_true)
open Option(isSome_iff_exists map_some)
open Nat(le_max_left le_max_right le_refl le_trans)
open Classical(choose_spec)
namespace Go.VE
variable[bY]
inductive Fl where|nil|emp|row|part
 deriving DecidableEq,Inhabited
inductive SV where
 |v(x:V)|own(d:Nat)|ptr(d off:Nat)|el(d i off:Nat)|mp(d:Nat)|clo(f:FuncId)(a b:List SV)|tup(l:List SV)|agg(l:List SV)|yl(id:Nat)
 deriving Inhabited
inductive bJ where
 |sl(k:Fl)(es:Nat)(xs:List (List V))|box(cs:List SV)|mp(kvs:List (V×V))
abbrev Tb(α:Type):=L' (Nat×α)
def bh{α:Type}:Tb α->Nat->Lk α
 |[],_=>none|(k,v)::r,n=>if k=n then some v else bh r n
def bN{α:Type}:Tb α->Nat->α->Tb α
 |[],n,v=>[(n,v)]|(k,x)::r,n,v=>if k=n then(k,v)::r else(k,x)::bN r n v
def eo{α:Type}(n:Nat):Tb α->Tb α
 |[]=>[]|(k,x)::r=>if k=n then eo n r else(k,x)::eo n r
def oH{α:Type}:L' Nat->Tb α->Tb α
 |[],g=>g|d::ds,g=>oH ds (eo d g)
def yq{α:Type}:Tb α->L' Nat->L' α->Tb α
 |g,p::ps,v::vs=>yq (bN g p v) ps vs|g,_,_=>g
def kr{α:Type}(g:Tb α):L' Nat->Lk (Tb α)
 |[]=>some []|n::r=>match bh g n,kr g r with
  |some v,some t=>some ((n,v)::t)|_,_=>none
structure St where
 g:Tb SV
 m:Tb bJ
 pin:List Nat
 want:List (List V)
 more:Bool
 yid:Nat
structure Hq where
 part:Bool
 go:Nat->List (List V)->List V->Option (List (List V))
structure Sys where
 E:Env
 N:Nat->FuncId
 items:FuncId->List V->List V->Option (List (List V))
 yo:FuncId->List V->Option V
 prm:FuncId->Option Hq
inductive Arg where
 |s(n:Nat)|k(c:V)|f(name:Nat)
inductive Loc where
 |s(n:Nat)|c(b i:Nat)
inductive Gh where
 |close(d:Nat)|closeB(d:Nat)|canon(l:Loc)(d:Nat)(es:Nat)|keep(gs ms:List Nat)|drop(ds:List Nat)|closeS(l:Loc)
structure RO where
 dst:Option Nat
 gd:Option (Nat×Bool)
 now:Bool
 k:K
 az:List Arg
 dead:List Nat:=[]
 pre:List Gh:=[]
inductive RC where
 |skip|ops(l:List RO)|qn(l:List RO)|seq(a b:RC)|cond(x:Arg)(a b:RC)|block(id:Nat)(c:RC)|loop(c:RC)|each(g:Arg)(ps:List Nat)(a b:RC)|exit(id:Nat)|ret|gh(x:Gh)(c:RC)|hg(c:RC)(x:Gh)
inductive RV where
 |s(n:Nat)|ld(n size:Nat)(agg:Bool)
structure RF where
 na:Nat
 rs:List RV
 body:RC
mutual
def SV.c6(d:Nat):SV->Bool
 |.v _=>false|.own e=>e==d|.ptr e _=>e==d|.el e _ _=>e==d|.mp e=>e==d|.clo _ a b=>SV.dK d a||SV.dK d b|.tup l=>SV.dK d l|.agg l=>SV.dK d l|.yl _=>false
def SV.dK(d:Nat):L' SV->Bool
 |[]=>false|x::r=>SV.c6 d x||SV.dK d r
end
def bJ.c6(d:Nat):bJ->Bool
 |.box cs=>SV.dK d cs|_=>false
def wJ(d:Nat):Tb SV->Bool
 |[]=>false|(_,x)::r=>SV.c6 d x||wJ d r
def tM(d:Nat):Tb bJ->Bool
 |[]=>false|(_,x)::r=>bJ.c6 d x||tM d r
def St.new(st:St)(d:Nat):Bool:= !(st.pin.contains d)&&(bh st.m d).isNone&& !(wJ d st.g)&& !(tM d st.m)
mutual
def SV.vT(d e:Nat):SV->SV
 |.v x=>.v x|.own k=>.own (if k=d then e else k)|.ptr k o=>.ptr (if k=d then e else k) o|.el k i o=>.el (if k=d then e else k) i o|.mp k=>.mp (if k=d then e else k)|.clo f a b=>.clo f (SV.wj d e a) (SV.wj d e b)|.tup l=>.tup (SV.wj d e l)|.agg l=>.agg (SV.wj d e l)|.yl id=>.yl id
def SV.wj(d e:Nat):L' SV->L' SV
 |[]=>[]|x::r=>SV.vT d e x::SV.wj d e r
end
def bJ.vT(d e:Nat):bJ->bJ
 |.box cs=>.box (SV.wj d e cs)|o=>o
def A1(d e:Nat):Tb SV->Tb SV
 |[]=>[]|(n,x)::r=>(n,x.vT d e)::A1 d e r
def vY(d e:Nat):Tb bJ->Tb bJ
 |[]=>[]|(n,x)::r=>((if n=d then e else n),x.vT d e)::vY d e r
mutual
def SV.sub(d:Nat)(w:V):SV->SV
 |.own k=>if k=d then .v w else .own k|.clo f a b=>.clo f (SV.v8 d w a) (SV.v8 d w b)|.tup l=>.tup (SV.v8 d w l)|.agg l=>.agg (SV.v8 d w l)|x=>x
def SV.v8(d:Nat)(w:V):L' SV->L' SV
 |[]=>[]|x::r=>SV.sub d w x::SV.v8 d w r
end
def dy:L' SV->Lk (L' V)
 |[]=>some []|.v x::r=>(dy r).map (x::·)|_::_=>none
def SY(f:FuncId)(a b:L' SV):SV:=
 match dy a,dy b with
 |some x,some y=>.v (.clo f x y)|_,_=>.clo f a b
mutual
def SV.DO(d:Nat)(cs:L' V):SV->SV
 |.ptr k o=>if k=d then(if o<=cs.length then .v (.fptr (cs.drop o))else .ptr k o)else .ptr k o|.clo f a b=>SY f (SV.sG d cs a) (SV.sG d cs b)|.tup l=>.tup (SV.sG d cs l)|.agg l=>.agg (SV.sG d cs l)|x=>x
def SV.sG(d:Nat)(cs:L' V):L' SV->L' SV
 |[]=>[]|x::r=>SV.DO d cs x::SV.sG d cs r
end
def Db(f:SV->SV):Tb SV->Tb SV
 |[]=>[]|(n,x)::r=>(n,f x)::Db f r
def mapM(f:L' SV->L' SV):Tb bJ->Tb bJ
 |[]=>[]|(n,.box cs)::r=>(n,.box (f cs))::mapM f r|(n,o)::r=>(n,o)::mapM f r
mutual
def SV.names:SV->L' Nat
 |.own d|.ptr d _|.el d _ _|.mp d=>[d]|.clo _ a b=>SV.xK a++SV.xK b|.tup l=>SV.xK l|.agg l=>SV.xK l|_=>[]
def SV.xK:L' SV->L' Nat
 |[]=>[]|x::r=>SV.names x++SV.xK r
end
def qJ:Tb SV->L' Nat
 |[]=>[]|(_,x)::r=>SV.names x++qJ r
def o6(k:Fl)(es:Nat)(xs:L' (L' V)):V:=
 match k with
 |.nil=>.bM|.emp=>.dL|_=>.fsl es xs
mutual
def V.lvl:Nat->V->Bool
 |n,.fsl _ xs=>match n with|0=>false|n+1=>V.qt n xs
 |n,.fptr cs=>match n with|0=>false|n+1=>V.mc n cs
 |n,.fmap B=>match n with|0=>false|n+1=>V.t_ n B
 |n,.agg cs=>match n with|0=>false|n+1=>V.mc n cs
 |n,.tup cs=>match n with|0=>false|n+1=>V.mc n cs
 |n,.clo _ a b=>match n with|0=>false|n+1=>V.mc n a&&V.mc n b
 |_,_=>true
def V.mc:Nat->L' V->Bool
 |_,[]=>true|n,x::r=>V.lvl n x&&V.mc n r
def V.qt:Nat->L' (L' V)->Bool
 |_,[]=>true|n,x::r=>V.mc n x&&V.qt n r
def V.t_:Nat->L' (V×V)->Bool
 |_,[]=>true|n,(k,x)::r=>V.lvl n k&&V.lvl n x&&V.t_ n r
end
mutual
def shut(m:Tb bJ):Nat->SV->Lk V
 |_,.v x=>some x|_,.own d=>match bh m d with
  |some (.sl k es xs)=>some (o6 k es xs)|_=>none
 |n+1,.ptr d o=>match bh m d with
  |some (.box cs)=>match c8 m n cs with
   |some xs=>if o<=xs.length then some (.fptr (xs.drop o))else none|none=>none
  |_=>none
 |_,.mp d=>match bh m d with
  |some (.mp B)=>some (.fmap B)|_=>none
 |n+1,.clo f a b=>match c8 m n a,c8 m n b with
  |some x,some y=>some (.clo f x y)|_,_=>none
 |n+1,.tup l=>(c8 m n l).map .tup|n+1,.agg l=>(c8 m n l).map .agg|_,_=>none
def c8(m:Tb bJ):Nat->L' SV->Lk (L' V)
 |_,[]=>some []|n,x::r=>match shut m n x,c8 m n r with
  |some y,some s=>some (y::s)|_,_=>none
end
end Go.VE
namespace Go.VE
variable[bY]
mutual
def V.good:V->Bool
 |.hsl ..|.hptr ..|.yld ..|.hmap ..=>false|.fsl _ xs=>V.nW xs|.fptr cs=>V.cE cs|.fmap B=>V.ud B|.clo _ a b=>V.cE a&&V.cE b|.agg cs=>V.cE cs|.tup cs=>V.cE cs|_=>true
def V.cE:L' V->Bool
 |[]=>true|x::r=>V.good x&&V.cE r
def V.nW:L' (L' V)->Bool
 |[]=>true|x::r=>V.cE x&&V.nW r
def V.ud:L' (V×V)->Bool
 |[]=>true|(k,x)::r=>V.good k&&V.good x&&V.ud r
end
abbrev dD:=Tb bJ
abbrev b9:=FuncId->L' SV->dD->Lk (L' SV×dD)
def rT(N:Nat->FuncId)(g:Tb SV):Arg->Lk SV
 |.s n=>bh g n|.k c=>some (.v c)|.f s=>some (.v (.clo (N s) [] []))
def bW(N:Nat->FuncId)(g:Tb SV):L' Arg->Lk (L' SV)
 |[]=>some []|x::r=>match rT N g x,bW N g r with
  |some v,some vs=>some (v::vs)|_,_=>none
def cO:Fl->Bool
 |.row|.part=>true|_=>false
def lZ(m:Tb bJ):SV->Bool
 |.own d|.ptr d _|.el d _ _|.mp d=>(bh m d).isSome|.clo ..=>true|_=>false
def yG(m:Tb bJ):SV->Bool
 |.v x=>x.one|x=>lZ m x
def y8(m:Tb bJ):SV->Lk (L' SV)
 |.v x=>some (x.cells.map .v)|.agg l=>some l|x=>if lZ m x then some [x]else none
def uc(m:Tb bJ)(cells:L' SV):L' (Nat×Nat)->L' SV->Lk (L' SV)
 |[],[]=>some cells|(off,size)::pl,v::vs=>match y8 m v with
  |some c=>if c.length=size/\off+c.length<=cells.length then uc m (cells.take off++c++cells.drop (off+c.length)) pl vs else none|none=>none
 |_,_=>none
def wQ(size:Nat)(agg:Bool)(cs:L' SV):Lk SV:=
 if cs.length=size then
  if agg then match dy cs with
   |some u=>some (.v (.agg u))|none=>some (.agg cs)
  else match cs with
   |[x]=>some x|_=>none
 else none
def yx(N:Nat->FuncId)(m:Tb bJ):vL->L' SV->Lk SV
 |.id,[x]=>some x|.nilc,[.ptr d o]=>if(bh m d).isSome then some (.ptr d o)else none|.nilc,[.el d i o]=>if(bh m d).isSome then some (.el d i o)else none|.pick,[.v (.bool t),a,b]=>some (if t then a else b)|.bin (some .slice) _ .eql,[.own d,.v .bM]=>match bh m d with
  |some (.sl k _ _)=>if k=.emp then none else some (.v (.bool (k==.nil)))|_=>none
 |.bin (some .slice) _ .neq,[.own d,.v .bM]=>match bh m d with
  |some (.sl k _ _)=>if k=.emp then none else some (.v (.bool (!(k==.nil))))|_=>none
 |.fieldAddr off,[.ptr d o]=>if(bh m d).isSome then some (.ptr d (o+off))else none|.fieldAddr off,[.el d i o]=>if(bh m d).isSome then some (.el d i (o+off))else none|.idxS size,[.own d,.v (.int _ i)]=>match bh m d with
  |some (.sl k es xs)=>if cO k/\es=size/\0<=i/\i.toNat<xs.length then some (.el d i.toNat 0)else none|_=>none
 |.idxA len size,[.ptr d o,.v (.int _ i)]=>if 0<=i/\i<len/\(bh m d).isSome then some (.ptr d (o+i.toNat*size))else none|.idxA len size,[.el d j o,.v (.int _ i)]=>if 0<=i/\i<len/\(bh m d).isSome then some (.el d j (o+i.toNat*size))else none|.lenSl,[.own d]=>match bh m d with
  |some (.sl _ _ xs)=>some (.v (.int .i64 xs.length))|_=>none
 |.clo name k,vs=>some (.clo (N name) (vs.take k) (vs.drop k))|.ext i,[.tup l]=>l[i]?|.build zero pl,vs=>(uc m (zero.map .v) pl vs).map .agg|.field off size agg,[.agg l]=>wQ size agg ((l.drop off).take size)|_,_=>none
def jJ(N:Nat->FuncId)(m:Tb bJ)(p:vL)(svs:L' SV):Lk SV:=
 match dy svs with
 |some u=>(bl N p u).map .v|none=>yx N m p svs
def Nj(m:Tb bJ)(d:Nat):SV->Bool
 |.ptr B _=>B != d&&(match bh m B with|some (.box _)=>true|_=>false)|.v (.fptr _)=>true|_=>false
def oF(m:Tb bJ):LC->L' SV->Lk SV
 |.load size agg,[.ptr d o]=>match bh m d with
  |some (.box cs)=>wQ size agg ((cs.drop o).take size)|_=>none
 |.load size agg,[.el d i o]=>match bh m d with
  |some (.sl _ _ xs)=>match xs[i]?with
   |some cs=>((cut cs o size).bind (mk agg)).map .v|none=>none
  |_=>none
 |.load size agg,[.v p]=>((ey [] p size).bind (mk agg)).map .v|.lookup kk z ok,[.mp d,.v k]=>match bh m d with
  |some (.mp B)=>if qD kk k then match iK k B 0 with
   |some (some (_,v))=>some (.v (if ok then .tup [v,.bool true]else v))|some none=>some (.v (if ok then .tup [z,.bool false]else z))|none=>none
   else none
  |_=>none
 |.lookup kk z ok,[.v p,.v k]=>(eZ [] (.lookup kk z ok) [p,k]).map .v|.loadF size agg,.ptr d o::l=>if l.all (Nj m d)=true then match bh m d with
  |some (.box cs)=>wQ size agg ((cs.drop o).take size)|_=>none
  else none
 |_,_=>none
def fm(fr:L' Nat):L' SV->Bool
 |[]=>true|.v _::r=>fm fr r|.ptr d _::r=> !(fr.contains d)&&fm fr r|.el d _ _::r=> !(fr.contains d)&&fm fr r|.mp d::r=> !(fr.contains d)&&fm fr r|_=>false
def oP(m:Tb bJ)(a:Qk)(svs:L' SV)(d:Nat):Lk (bJ×SV):=
 match a,svs with
 |.alloc _ zero,[]=>some (.box (zero.map .v),.ptr d 0)|.box,[.v x]=>if x.cells.all V.one then some (.box (x.cells.map .v),.ptr d 0)else none|.box,[.agg l]=>if l.all (yG m)then some (.box l,.ptr d 0)else none|.box,[x]=>if lZ m x then some (.box [x],.ptr d 0)else none|.makeSl size zero,[.v (.int k n),.v (.int w c)]=>if k=.i64/\w=.i64/\0<=n/\n<=c/\c<=2147483648 then some (.sl (if n=c then .row else .part) size (replicate n.toNat zero),.own d)else none|.buildSl size len zero idx,z=>match dy z with
  |some u=>if idx.length=u.length then(fG size (replicate len zero) (idx.zip u)).map λB=>(.sl .row size B,.own d)else none|none=>none
 |.makeMap,[]=>some (.mp [],.mp d)|_,_=>none
def jA(m:Tb bJ)(size:Nat):SV->Lk (L' (L' V))
 |.own d=>match bh m d with
  |some (.sl k es xs)=>if cO k then(if es=size then some xs else none)else some []|_=>none
 |.v .bM=>some []|.v .dL=>some []|.v (.fsl es xs)=>if es=size then some xs else none|_=>none
def J7:SV->Bool
 |.own _|.v .bM|.v .dL=>true|_=>false
def putCells(m:Tb bJ)(size o:Nat)(sv:SV)(cs:L' SV):Lk (L' SV):=
 match sv with
 |.v x=>if x.cells.length=size/\o+size<=cs.length/\x.cells.all V.one=true then some (cs.take o++x.cells.map .v++cs.drop (o+size))else none|.agg l=>if l.length=size/\o+size<=cs.length/\l.all (yG m)=true then some (cs.take o++l++cs.drop (o+size))else none|x=>if lZ m x=true/\size=1/\o+1<=cs.length then some (cs.take o++[x]++cs.drop (o+1))else none
def giveUp(m:Tb bJ):SV->Tb bJ
 |.own d=>eo d m|_=>m
def nY(st:St)(dst:Lk Nat):LY->L' SV->Lk (SV×St)
 |.store size,[.ptr d o,x]=>match bh st.m d with
  |some (.box cs)=>(putCells st.m size o x cs).map λcs=>(.v .undef,{st with m:=bN st.m d (.box cs)})|_=>none
 |.store size,[.el d i o,.v x]=>match bh st.m d with
  |some (.sl k es xs)=>match xs[i]?with
   |some cs=>if x.cells.length=size/\o+size<=cs.length/\x.cells.all V.one=true then
    some (.v .undef,{st with m:=bN st.m d (.sl k es (xs.set i (cs.take o++x.cells++cs.drop (o+x.cells.length))))})else none
   |none=>none
  |_=>none
 |.mapUp kk,[.mp d,.v k,.v x]=>match bh st.m d with
  |some (.mp B)=>if qD kk k then(qU k x B).map λB=>(.v .undef,{st with m:=bN st.m d (.mp B)})else none|_=>none
 |.append size,[s,x]=>match jA st.m size s,jA st.m size x with
  |some _,some []=>match dst with
   |some t=>match s with
    |.own d=>match bh st.m d with
     |some ob=>if St.new {st with m:=eo d st.m} t then some (.own t,{st with m:=bN (eo d st.m) t ob})else none|none=>none
    |.v .bM=>if st.new t then some (.own t,{st with m:=bN st.m t (.sl .nil size [])})else none|.v .dL=>if st.new t then some (.own t,{st with m:=bN st.m t (.sl .emp size [])})else none|_=>none
   |none=>none
  |some xs,some ys=>
   if xs.length+ys.length<=2147483648/\J7 s=true then
    let m1:=giveUp st.m s
    match dst with
    |some t=>if St.new {st with m:=m1} t then some (.own t,{st with m:=bN m1 t (.sl .row size (xs++ys))})else none|none=>none
   else none
  |_,_=>none
 |.storeF size,.ptr d o::x::l=>if l.all (Nj st.m d)=true then match bh st.m d with
  |some (.box cs)=>(putCells st.m size o x cs).map λcs=>(.v .undef,{st with m:=bN st.m d (.box cs)})|_=>none
  else none
 |_,_=>none
def AY(st:St)(dst:Lk Nat)(size:Nat)(lo hi:Bool)(d:Nat)(B:L' SV):Lk (SV×St):=
 match bh st.m d,dy B,dst with
 |some (.sl k es u),some z,some t=>
  if cO k=true/\es=size then
   (mz lo hi z).bind λ(l,h)=>(dX u.length l h).bind λ(l,h)=>
    let w:=eo d st.m
    if St.new {st with m:=w} t then some (.own t,{st with m:=bN w t (.sl .part es ((u.take h).drop l))})else none
  else none
 |_,_,_=>none
def BZ:L' SV->SV
 |[x]=>x|l=>.tup l
mutual
def SV.CG:SV->L' Nat
 |.v _=>[]|.own e=>[e]|.ptr e _=>[e]|.el e _ _=>[e]|.mp e=>[e]|.clo _ a b=>SV.sO a++SV.sO b|.tup l=>SV.sO l|.agg l=>SV.sO l|.yl _=>[]
def SV.sO:L' SV->L' Nat
 |[]=>[]|x::r=>SV.CG x++SV.sO r
end
def bJ.CG:bJ->L' Nat
 |.box cs=>SV.sO cs|_=>[]
def reach(m:Tb bJ):Nat->L' Nat->L' Nat->L' Nat
 |0,_,seen=>seen|_+1,[],seen=>seen|n+1,d::r,seen=>if seen.contains d then reach m n r seen else reach m n ((match bh m d with|some ob=>bJ.CG ob|none=>[])++r) (seen++[d])
def handed(m:Tb bJ)(l:L' SV):Lk dD:=kr m (reach m 32 (SV.sO l) [])
mutual
def SV.bare:SV->Bool
 |.v x=>x.scalar|.clo _ a b=>SV.xV a&&SV.xV b|.tup l=>SV.xV l|.agg l=>SV.xV l|_=>true
def SV.xV:L' SV->Bool
 |[]=>true|x::r=>SV.bare x&&SV.xV r
end
def bJ.bare:bJ->Bool
 |.box cs=>SV.xV cs|_=>false
def AX(m:Tb bJ)(k:Nat):Bool:=match bh m k with
 |some ob=>ob.bare|none=>true
def within(B:L' Nat)(ob:bJ):Bool:=ob.CG.all B.contains
def Aw(B:L' Nat)(m':dD):L' Nat->Tb bJ->Lk (Tb bJ)
 |[],m=>some m|d::r,m=>match bh m' d with
  |some ob=>if within B ob then Aw B m' r (bN m d ob)else none|none=>none
def lp(m':dD)(l:L' Nat)(m:Tb bJ):Lk (Tb bJ):=Aw l m' l m
def mw(xs:L' (L' V)):Bool:=xs.all λx=>x.all scalar
def Dn(q:Hq)(dst:Lk Nat)(args:L' SV)(st:St):Lk (SV×St):=
 match args with
 |.own d::z=>match bh st.m d,dy z with
  |some (.sl k es u),some B=>match q.go es u B with
   |some w=>if q.part then match dst with
    |some t=>if St.new {st with m:=eo d st.m} t then some (.own t,{st with m:=bN (eo d st.m) t (if cO k then .sl .part es w else .sl k es u)})else none|none=>none
    else some (.v .undef,{st with m:=bN st.m d (if cO k then .sl k es w else .sl k es u)})
   |none=>none
  |_,_=>none
 |_=>none
def rowsOf:L' SV->Lk (L' Nat)
 |[]=>some []|.v _::r=>rowsOf r|.own d::r=>(rowsOf r).map (d::·)|_=>none
def fu(S:Sys)(c:b9)(dst:Lk Nat)(dr now:Bool)(old:L' SV->Bool)(f:FuncId)(args:L' SV)(st:St):Lk (SV×St):=
 if S.E.keep f then
  if now then
   if S.E.own f then
    match c8 st.m 8 args with
    |some az=>
     match c f (az.map .v) []with
     |some (rs,m')=>match dy rs with
      |some u=>if(result u).scalar then some (.v (result u),st)else none|none=>match rs,dst with
       |.own e::rest,some t=>match bh m' e,dy rest with
        |some (.sl .row es z),some u=>
         if cV u&&mw z&&st.new t then
          some (BZ (.own t::u.map .v),{st with m:=bN st.m t (.sl .row es z)})
         else none
        |some (.sl .nil es _),some u=>if cV u&&st.new t then some (BZ (.own t::u.map .v),{st with m:=bN st.m t (.sl .nil es [])})else none|some (.sl .emp es _),some u=>if cV u&&st.new t then some (BZ (.own t::u.map .v),{st with m:=bN st.m t (.sl .emp es [])})else none|_,_=>none
       |_,_=>none
     |none=>none
    |none=>none
   else match S.prm f with
    |some q=>if dr then none else Dn q dst args st|none=>match handed st.m args with
    |some os=>match c f args os with
     |some (rs,m')=>match dy rs,lp m' (os.map (·.1)) st.m with
      |some u,some w=>if dr&& !(cV u&&os.all λx=>AX w x.1)then none else some (.v (result u),{st with m:=w})|none,some w=>if dr then none else match rs,dst with
       |.own e::rest,some t=>match bh m' e,dy rest with
        |some (.sl k es z),some u=>if !(os.map (·.1)).contains e&&St.new {st with m:=w} t then some (BZ (.own t::u.map .v),{st with m:=bN w t (.sl k es z)})else none|_,_=>none
       |_,_=>none
      |_,_=>none
     |none=>none
    |none=>none
  else if S.E.own f&&old args then match c8 st.m 8 args with
   |some az=>match c f (az.map .v) []with
    |some (rs,m')=>match c8 m' 8 rs with
     |some u=>if(result u).scalar||(dy args).isSome then some (.v (result u),st)else none|none=>none
    |none=>none
   |none=>none
  else none
 else match c8 st.m 8 args with
  |some az=>if now||old args then
   match c f (az.map .v) []with
   |some (rs,m')=>match c8 m' 8 rs with
    |some u=>if(result u).scalar||(dy args).isSome then some (.v (result u),st)
     else if now then(rowsOf args).map λds=>(.v (result u),{st with m:=oH ds st.m})
     else none
    |none=>none
   |none=>none
   else none
  |none=>none
def fZ(m:Tb bJ)(fr:L' Nat)(args:L' SV):Bool:=fr.all λd=> !(SV.dK d args)&& !(tM d m)
def B3:K->Bool
 |.p (.build zero _)=>V.cE zero|.r (.lookup _ z _)=>z.good|.a (.alloc _ zero)=>V.cE zero&&zero.all V.one|.a (.makeSl _ zero)=>V.cE zero|.a (.buildSl _ _ zero _)=>V.cE zero|_=>true
def mR(S:Sys)(c:b9)(dr:Bool)(fr:L' Nat)(o:RO)(st:St):Lk (SV×St):=
 match bW S.N st.g o.az with
 |some u=>match o.k with
  |.p (.slice size lo hi)=>match u with
   |.own d::z=>if dr then none else AY st o.dst size lo hi d z|u=>(jJ S.N st.m (.slice size lo hi) u).map λx=>(x,st)
  |.p p=>(jJ S.N st.m p u).map λx=>(x,st)|.r r=>if !dr||o.now||fm fr u then(oF st.m r u).map λx=>(x,st)else none|.a a=>match o.dst with
   |some d=>if st.new d then(oP st.m a u d).map λ(ob,x)=>(x,{st with m:=bN st.m d ob})else none|none=>none
  |.l l=>if !dr||o.now then nY st o.dst l u else none|.c=>match u with
   |.clo f a b::w=>fu S c o.dst dr (!dr||o.now) (fZ st.m fr) f (a++w++b) st|.v (.clo f a b)::w=>fu S c o.dst dr (!dr||o.now) (fZ st.m fr) f (a.map .v++w++b.map .v) st|_=>none
  |.b=>if dr then none else match u with
   |[x]=>(jA st.m 1 x).bind λB=>(mh B).map λl=>(.v (.str (nj l)),st)|_=>none
  |.e n=>match u with
   |[.v .bM,x]=>nY st o.dst (.append n) [.v .bM,x]|[.v .dL,x]=>nY st o.dst (.append n) [.v .dL,x]|_=>none
 |none=>none
def cT(st:St)(dst:Lk Nat)(x:SV):St:=
 match dst with
 |none=>st|some d=>{st with g:=bN st.g d x}
def wanted(g:Tb SV):Lk (Nat×Bool)->Lk Bool
 |none=>some true|some (s,b)=>match bh g s with
  |some (.v (.bool c))=>some (c==b)|some (.v _)=>some false|_=>none
def Au(o:RO):Lk Nat:=
 match o.k with
 |.p _|.r _=>none|_=>o.dst
def sj(fr:L' Nat)(o:RO):L' Nat:=
 match Au o with
 |some d=>d::fr|none=>fr
def bq(H:bn)(id:Nat):Lk (Nat×L' (L' V)):=(H[id]?).bind Ob.rows
mutual
theorem V.lH:∀{x:V},x.good=true->x.closed=true
 |.hsl ..,h|.hptr ..,h|.yld _,h|.hmap _,h=>by simp[V.good]at h|.fsl ..,_|.fptr ..,_|.fmap ..,_=>rfl|.bool _,_|.int ..,_|.str _,_|.dL,_|.bM,_|.iI,_|.gD,_|.tF,_=>rfl|.clo _ a b,h=>by simp only[V.good,ζh]at h;simp only[closed,ζh];exact⟨V.o5 h.1,V.o5 h.2⟩|.agg cs,h=>by simp only[V.good]at h;simp only[closed];exact V.o5 h|.tup cs,h=>by simp only[V.good]at h;simp only[closed];exact V.o5 h
theorem V.o5:∀{l:L' V},V.cE l=true->lY l=true
 |[],_=>rfl|x::r,h=>by simp only[V.cE,ζh]at h;simp only[lY,ζh];exact⟨V.lH h.1,V.o5 h.2⟩
end
theorem iz:∀{l:L' V},V.cE l=true↔∀(j:Nat)u,l[j]?=some u->u.good=true
 |[]=>by simp[V.cE]|x::l=>by simp[V.cE,iz];constructor;grind;intro h;exact⟨h 0 x rfl,λj u a=>h (j+1) u Zac⟩
theorem lE:∀{l:L' (L' V)},V.nW l=true↔∀(j:Nat)u,l[j]?=some u->V.cE u=true
 |[]=>by simp[V.nW]|x::l=>by simp[V.nW,lE];constructor;grind;intro h;exact⟨h 0 x rfl,λj u a=>h (j+1) u Zac⟩
theorem HJ:∀{l:L' (V×V)},V.ud l=true↔∀(j:Nat)u,l[j]?=some u->u.1.good=true/\u.2.good=true
 |[]=>by simp[V.ud]|(k,x)::l=>by simp only[V.ud,ζh,HJ];constructor;grind;intro h;exact⟨h 0 (k,x) rfl,λj u a=>h (j+1) u Zac⟩
theorem Aj{l:L' V}(n:Nat)(h:V.cE l=true):V.cE (l.drop n)=true:=iz.2 λj u a=>iz.1 h (n+j) u Zac
inductive FR(H:bn)(Z:Nat->Prop):V->V->Prop
 |same(x:V)(h:x.good=true):FR H Z x x|fsl(es:Nat)(xs:List (List V))(id off:Nat)(ys:List (List V))(hz:Z id)(hr:bq H id=some (es,ys))(hl:off+xs.length<=ys.length)
  (hc:∀(i:Nat)a b,xs[i]?=some a->ys[off+i]?=some b->a.length=b.length)
  (hv:∀(i j:Nat)a b u v,xs[i]?=some a->ys[off+i]?=some b->a[j]?=some u->b[j]?=some v->FR H Z u v):FR H Z (.fsl es xs) (.hsl id es off xs.length)
 |fptr(xs:List V)(id el off es:Nat)(ys:List (List V))(cs:List V)(hz:Z id)(hr:bq H id=some (es,ys))(he:ys[el]?=some cs)(ho:off<=cs.length)(hx:xs.length=cs.length-off)
  (hv:∀(j:Nat)u v,xs[j]?=some u->cs[off+j]?=some v->FR H Z u v):FR H Z (.fptr xs) (.hptr id el off)
 |clo(f:FuncId)(a b a' b':List V)(ha:a.length=a'.length)(hb:b.length=b'.length)(hva:∀(j:Nat)u v,a[j]?=some u->a'[j]?=some v->FR H Z u v)(hvb:∀(j:Nat)u v,b[j]?=some u->b'[j]?=some v->FR H Z u v):FR H Z (.clo f a b) (.clo f a' b')|agg(a a':List V)(ha:a.length=a'.length)(hva:∀(j:Nat)u v,a[j]?=some u->a'[j]?=some v->FR H Z u v):FR H Z (.agg a) (.agg a')|tup(a a':List V)(ha:a.length=a'.length)(hva:∀(j:Nat)u v,a[j]?=some u->a'[j]?=some v->FR H Z u v):FR H Z (.tup a) (.tup a')
def dB(H:bn)(Z:Nat->Prop)(xs ys:L' V):Prop:=xs.length=ys.length/\∀(j:Nat)u v,xs[j]?=some u->ys[j]?=some v->FR H Z u v
def gH(H:bn)(Z:Nat->Prop)(xs ys:L' (L' V)):Prop:=xs.length=ys.length/\∀(j:Nat)u v,xs[j]?=some u->ys[j]?=some v->dB H Z u v
section
variable{H H':bn}{Z Z':Nat->Prop}
theorem FR.mono(h:∀id,Z id->Z' id/\bq H' id=bq H id){x y:V}(r:FR H Z x y):FR H' Z' x y:=by induction r with|same x h=>exact .same x h|fsl es B id off C D hr J hc hv G=>exact .fsl es B id off C (h id D).1 Zac J hc G|fptr B id el off es C cs D hr L O Q hv G=>exact .fptr B id el off es C cs (h id D).1 Zac L O Q G|clo f a b w S z T hva U u I=>exact .clo f a b w S z T u I|agg a w z hva u=>exact .agg a w z u|tup a w z hva u=>exact .tup a w z u
theorem dB.mono(h:∀id,Z id->Z' id/\bq H' id=bq H id){x y:L' V}(r:dB H Z x y):dB H' Z' x y:=⟨r.1,λj u v a b=>(r.2 j u v a b).mono h⟩
theorem gH.mono(h:∀id,Z id->Z' id/\bq H' id=bq H id){x y:L' (L' V)}(r:gH H Z x y):gH H' Z' x y:=⟨r.1,λj u v a b=>(r.2 j u v a b).mono h⟩
theorem dB.nil:dB H Z [] []:=⟨rfl,Zab⟩
theorem dB.cons{x y:V}{xs ys:L' V}(h:FR H Z x y)(r:dB H Z xs ys):dB H Z (x::xs) (y::ys):=by refine⟨by simp[r.1],λj u v a b=>?_⟩;cases j with|zero=>grind|succ j=>exact r.2 j u v Zac Zac
theorem dB.inv{x:V}{xs B:L' V}(r:dB H Z (x::xs) B):∃y ys,B=y::ys/\FR H Z x y/\dB H Z xs ys:=by cases B with|nil=>have:=r.1;grind|cons y ys=>refine⟨y,ys,rfl,r.2 0 x y rfl rfl,by have:=r.1;grind,λj u v a b=>r.2 (j+1) u v Zac Zac⟩
theorem dB.c9{B:L' V}(r:dB H Z [] B):B=[]:=by have:=r.1;grind
theorem dB.get{xs ys:L' V}(r:dB H Z xs ys){j:Nat}{u:V}(h:xs[j]?=some u):∃v,ys[j]?=some v/\FR H Z u v:=by
 have w:=(ζe.1 h).1;have:j<ys.length:=by rw[<-r.1];omega
 exact⟨ys[j],ζd this,r.2 j u _ h (ζd this)⟩
theorem gH.get{xs ys:L' (L' V)}(r:gH H Z xs ys){j:Nat}{u:L' V}(h:xs[j]?=some u):∃v,ys[j]?=some v/\dB H Z u v:=by
 have w:=(ζe.1 h).1;have:j<ys.length:=by rw[<-r.1];omega
 exact⟨ys[j],ζd this,r.2 j u _ h (ζd this)⟩
theorem dB.append{a b c d:L' V}(h:dB H Z a b)(k:dB H Z c d):dB H Z (a++c) (b++d):=by refine⟨by simp[h.1,k.1],λj u v e f=>?_⟩;by_cases w:j<a.length;rw[getElem?_append_left w]at e;rw[getElem?_append_left (by rw[<-h.1];omega)]at f;exact h.2 j u v e f;rw[getElem?_append_right Zaa]at e;rw[getElem?_append_right (by rw[<-h.1];omega),<-h.1]at f;exact k.2 _ u v e f
theorem gH.append{a b c d:L' (L' V)}(h:gH H Z a b)(k:gH H Z c d):gH H Z (a++c) (b++d):=by refine⟨by simp[h.1,k.1],λj u v e f=>?_⟩;by_cases w:j<a.length;rw[getElem?_append_left w]at e;rw[getElem?_append_left (by rw[<-h.1];omega)]at f;exact h.2 j u v e f;rw[getElem?_append_right Zaa]at e;rw[getElem?_append_right (by rw[<-h.1];omega),<-h.1]at f;exact k.2 _ u v e f
theorem dB.take{a b:L' V}(h:dB H Z a b)(n:Nat):dB H Z (a.take n) (b.take n):=by
 refine⟨by simp[h.1],λj u v c d=>?_⟩;rw[getElem?_take]at c d;split at c;next w=>rw[if_pos w]at d;exact h.2 j u v c d
 grind
theorem dB.drop{a b:L' V}(h:dB H Z a b)(n:Nat):dB H Z (a.drop n) (b.drop n):=by refine⟨by simp[h.1],λj u v c d=>?_⟩;rw[getElem?_drop]at c d;exact h.2 _ u v c d
theorem gH.take{a b:L' (L' V)}(h:gH H Z a b)(n:Nat):gH H Z (a.take n) (b.take n):=by
 refine⟨by simp[h.1],λj u v c d=>?_⟩;rw[getElem?_take]at c d;split at c;next w=>rw[if_pos w]at d;exact h.2 j u v c d
 grind
theorem gH.drop{a b:L' (L' V)}(h:gH H Z a b)(n:Nat):gH H Z (a.drop n) (b.drop n):=by refine⟨by simp[h.1],λj u v c d=>?_⟩;rw[getElem?_drop]at c d;exact h.2 _ u v c d
theorem dB.set{a b:L' V}(h:dB H Z a b)(n:Nat){x y:V}(B:FR H Z x y):dB H Z (a.set n x) (b.set n y):=by refine⟨by simp[h.1],λj u v c d=>?_⟩;rw[getElem?_set]at c d;split at c;grind;rename_i e;rw[if_neg e]at d;exact h.2 j u v c d
theorem gH.set{a b:L' (L' V)}(h:gH H Z a b)(n:Nat){x y:L' V}(B:dB H Z x y):gH H Z (a.set n x) (b.set n y):=by refine⟨by simp[h.1],λj u v c d=>?_⟩;rw[getElem?_set]at c d;split at c;grind;rename_i e;rw[if_neg e]at d;exact h.2 j u v c d
theorem dB.same{l:L' V}(h:V.cE l=true):dB H Z l l:=⟨rfl,λj u v a b=>by rw[a]at b;cases b;exact .same u (iz.1 h j u a)⟩
theorem FR.good{x y:V}(r:FR H Z x y):x.good=true:=by induction r with|same x h=>omega|fsl es C id off D G hr O hc hv I=>refine lE.2 λi a z=>iz.2 λj u c=>?_;grind|fptr C id el off es D cs G hr Q S T hv I=>refine iz.2 λj u c=>?_;grind|clo f a b B U z W hva J w L=>simp[V.good];refine⟨iz.2 λj u c=>?_,iz.2 λj u c=>?_⟩;grind;grind|agg a B z hva w=>refine iz.2 λj u c=>?_;grind|tup a B z hva w=>simp[V.good];refine iz.2 λj u c=>?_;grind
theorem FR.closed{x y:V}(r:FR H Z x y):x.closed=true:=V.lH r.good
theorem dB.good{xs ys:L' V}(r:dB H Z xs ys):V.cE xs=true:=iz.2 λj u a=>by obtain⟨v,_,h⟩:=r.get a;exact h.good
theorem gH.good{xs ys:L' (L' V)}(r:gH H Z xs ys):V.nW xs=true:=lE.2 λj u a=>by obtain⟨v,_,h⟩:=r.get a;exact h.good
theorem FR.bool{b:Bool}{y:V}(r:FR H Z (.bool b) y):y=.bool b:=by cases r;rfl
theorem FR.int{k:IntKind}{n:Int}{y:V}(r:FR H Z (.int k n) y):y=.int k n:=by cases r;rfl
theorem FR.str{s:ByteArray}{y:V}(r:FR H Z (.str s) y):y=.str s:=by cases r;rfl
theorem FR.dL{y:V}(r:FR H Z .dL y):y=.dL:=by cases r;rfl
theorem FR.bM{y:V}(r:FR H Z .bM y):y=.bM:=by cases r;rfl
theorem FR.iI{y:V}(r:FR H Z .iI y):y=.iI:=by cases r;rfl
theorem FR.gD{y:V}(r:FR H Z .gD y):y=.gD:=by cases r;rfl
theorem FR.tF{y:V}(r:FR H Z .tF y):y=.tF:=by cases r;rfl
theorem FR.fmap{B:L' (V×V)}{y:V}(r:FR H Z (.fmap B) y):y=.fmap B:=by cases r;rfl
theorem FR.jc{a:L' V}{y:V}(r:FR H Z (.agg a) y):∃a',y=.agg a'/\dB H Z a a':=by cases r with|same _ h=>exact⟨a,rfl,.same (by simpa[V.good]using h)⟩|agg _ a' u hva=>exact⟨a',rfl,u,hva⟩
theorem FR.qZ{a:L' V}{y:V}(r:FR H Z (.tup a) y):∃a',y=.tup a'/\dB H Z a a':=by cases r with|same _ h=>exact⟨a,rfl,.same (by simpa[V.good]using h)⟩|tup _ a' u hva=>exact⟨a',rfl,u,hva⟩
theorem FR.kN{f:FuncId}{a b:L' V}{y:V}(r:FR H Z (.clo f a b) y):∃a' B,y=.clo f a' B/\dB H Z a a'/\dB H Z b B:=by cases r with|same _ h=>simp[V.good]at h;exact⟨a,b,rfl,.same h.1,.same h.2⟩|clo _ _ _ a' B w z hva u=>exact⟨a',B,rfl,⟨w,hva⟩,⟨z,u⟩⟩
theorem FR.mV{es:Nat}{xs:L' (L' V)}{y:V}(r:FR H Z (.fsl es xs) y):y=.fsl es xs\/
 ∃id off ys,y=.hsl id es off xs.length/\Z id/\bq H id=some (es,ys)/\off+xs.length<=ys.length/\gH H Z xs ((ys.drop off).take xs.length):=by
 cases r with
 |same _ h=>grind|fsl _ _ id off ys z hr B hc hv=>
  refine .inr ⟨id,off,ys,rfl,z,hr,B,by simp;omega,λj u v a w=>?_⟩
  have C:=(ζe.1 a).1;rw[getElem?_take,if_pos C,getElem?_drop]at w;exact⟨hc j u v a w,λi s t D G=>hv j i u v s t a w D G⟩
theorem FR.Nn{es:Nat}{xs:L' (L' V)}{id off:Nat}{ys:L' (L' V)}(B:Z id)(c:bq H id=some (es,ys))(D:off+xs.length<=ys.length)(h:gH H Z xs ((ys.drop off).take xs.length)):
 FR H Z (.fsl es xs) (.hsl id es off xs.length):=by
 have key:∀(i:Nat)a b,xs[i]?=some a->ys[off+i]?=some b->dB H Z a b:=λi a b w z=>by refine h.2 i a b w ?_;grind
 exact .fsl es xs id off ys B c D (λi a b w z=>(key i a b w z).1) (λi j a b u v w z d e=>(key i a b w z).2 j u v d e)
theorem FR.nh{xs:L' V}{y:V}(r:FR H Z (.fptr xs) y):y=.fptr xs\/
 ∃id el off es ys cs,y=.hptr id el off/\Z id/\bq H id=some (es,ys)/\ys[el]?=some cs/\off<=cs.length/\dB H Z xs (cs.drop off):=by
 cases r with
 |same _ h=>grind|fptr _ id el off es ys cs w hr z B D hv=>
  refine .inr ⟨id,el,off,es,ys,cs,rfl,w,hr,z,B,by simp_all,λj u v a C=>?_⟩
  grind
theorem FR.E7{xs:L' V}{id el off es:Nat}{ys:L' (L' V)}{cs:L' V}(B:Z id)(a:bq H id=some (es,ys))(D:ys[el]?=some cs)(G:off<=cs.length)(h:dB H Z xs (cs.drop off)):FR H Z (.fptr xs) (.hptr id el off):=.fptr xs id el off es ys cs B a D G (by have:=h.1;grind) (λj u v b c=>h.2 j u v b Zac)
theorem FR.cells{x y:V}(r:FR H Z x y):dB H Z x.cells y.cells:=by
 have one:∀{a b:V},FR H Z a b->dB H Z [a] [b]:=λh=>.cons h .nil
 cases r with
 |same _ h=>cases x<;>first|exact one (.same _ h)|(exact dB.same h)
 |fsl es z id off B C hr G hc hv=>exact one (.fsl es z id off B C hr G hc hv)|fptr z id el off es B cs C hr I J L hv=>exact one (.fptr z id el off es B cs C hr I J L hv)|clo f a b w O u Q hva D=>exact one (.clo f a b w O u Q hva D)|agg a w u hva=>exact⟨u,hva⟩|tup a w u hva=>exact one (.tup a w u hva)
theorem FR.one{x y:V}(r:FR H Z x y):y.one=x.one:=by cases r<;>rfl
theorem dB.one:∀{xs ys:L' V},dB H Z xs ys->ys.all V.one=xs.all V.one
 |[],ys,r=>by rw[r.c9]|x::xs,D,r=>by obtain⟨y,ys,rfl,h,B⟩:=r.inv;simp[h.one,B.one]
theorem sx:∀{l:L' V},cV l=true↔∀(j:Nat)u,l[j]?=some u->u.scalar=true
 |[]=>by simp[cV]|x::l=>by simp[cV,sx];constructor;grind;intro h;exact⟨h 0 x rfl,λj u a=>h (j+1) u Zac⟩
theorem FR.scalar{x y:V}(r:FR H Z x y):(x.scalar=true->y=x)/\y.scalar=x.scalar:=by
 have key:∀(a w:List V),a.length=w.length->(∀(j:Nat)u v,a[j]?=some u->w[j]?=some v->(u.scalar=true->v=u)/\v.scalar=u.scalar)->(V.cV a=true->w=a)/\V.cV w=V.cV a:=by
  intro a w B G;have h1:V.cV a=true->w=a:=by intro I;refine(List.ext_getElem B λj h1 C=>?_).symm;exact(((G j _ _ (ζd h1) (ζd C)).1 (sx.1 I j _ (ζd h1)))).symm
  refine⟨h1,?_⟩;cases I:V.cV a with|true=>grind|false=>
   cases D:V.cV w with|false=>rfl|true=>
    have:V.cV a=true:=sx.2 λj u hu=>by have J:j<w.length:=Zac;have:=(G j u _ hu (ζd J)).2;rw[<-this];exact sx.1 D j _ (ζd J)
    grind
 induction r with|same x h=>grind|fsl=>exact⟨λh=>by simp[V.scalar]at h,rfl⟩|fptr=>exact⟨λh=>by simp[V.scalar]at h,rfl⟩|clo=>exact⟨λh=>by simp[V.scalar]at h,rfl⟩|agg a w B hva z=>obtain⟨h1,C⟩:=key a w B z;exact⟨λh=>by rw[h1 (by simpa[V.scalar]using h)],by simpa[V.scalar]using C⟩|tup a w B hva z=>obtain⟨h1,C⟩:=key a w B z;exact⟨λh=>by rw[h1 (by simpa[V.scalar]using h)],by simpa[V.scalar]using C⟩
theorem dB.scalar{a a':List V}(r:dB H Z a a'):(V.cV a=true->a'=a)/\V.cV a'=V.cV a:=by obtain⟨h1,u⟩:=FR.scalar (.tup a a' r.1 r.2);simp[V.scalar]at h1 u;grind
theorem sA:∀{l:L' V}{a:L' Int},iS l=some a->cV l=true
 |[],_,_=>rfl|x::l,a,h=>by
  unfold iS at h;split at h;grind;next n r e=>cases e;obtain⟨b,B,_⟩:=ζf.1 h;simp[cV,scalar];exact sA B
  grind
end
mutual
theorem kj:∀{x:V},x.scalar=true->x.good=true
 |.bool _,_|.int ..,_|.str _,_|.iI,_|.gD,_|.tF,_|.dL,_|.bM,_=>rfl|.agg cs,h=>by simp only[scalar]at h;simp only[V.good];exact qC h|.tup cs,h=>by simp only[scalar]at h;simp only[V.good];exact qC h|.fsl ..,h|.hsl ..,h|.fptr ..,h|.hptr ..,h|.clo ..,h|.yld _,h|.fmap _,h|.hmap _,h=>by simp[scalar]at h
theorem qC:∀{l:L' V},cV l=true->V.cE l=true
 |[],_=>rfl|x::r,h=>by simp only[cV,ζh]at h;simp only[V.cE,ζh];exact⟨kj h.1,qC h.2⟩
end
section
variable{H H':bn}{Z Z':Nat->Prop}
theorem lz{f:V->Lk V}:∀{xs ys:L' V},xs.length=ys.length->(∀(j:Nat)u v,xs[j]?=some u->ys[j]?=some v->f v=some u)->iU f ys=some xs
 |[],[],_,_=>rfl|[],y::ys,h,_=>by simp_all|x::xs,[],h,_=>by simp_all|x::xs,y::ys,h,B=>by simp[iU,B 0 x y rfl rfl,lz (xs:=xs) (ys:=ys) Zac λj u v a b=>B (j+1) u v Zac Zac]
theorem Iw{f:V->Lk V}:∀{xs ys:L' (L' V)},xs.length=ys.length->(∀(j:Nat)u v,xs[j]?=some u->ys[j]?=some v->iU f v=some u)->mC f ys=some xs
 |[],[],_,_=>rfl|[],y::ys,h,_=>by simp_all|x::xs,[],h,_=>by simp_all|x::xs,y::ys,h,B=>by simp[mC,B 0 x y rfl rfl,Iw (xs:=xs) (ys:=ys) Zac λj u v a b=>B (j+1) u v Zac Zac]
theorem p_:∀{l:L' V},lY l=true↔∀(j:Nat)u,l[j]?=some u->u.closed=true
 |[]=>by simp[lY]|x::l=>by simp[lY,p_];constructor;grind;intro h;exact⟨h 0 x rfl,λj u a=>h (j+1) u Zac⟩
theorem nk:∀{l:L' V}{n:Nat},V.mc n l=true↔∀(j:Nat)u,l[j]?=some u->u.lvl n=true
 |[],n=>by simp[V.mc]|x::l,n=>by simp[V.mc,nk];constructor;grind;intro h;exact⟨h 0 x rfl,λj u a=>h (j+1) u Zac⟩
theorem Ht:∀{l:L' (L' V)}{n:Nat},V.qt n l=true↔∀(j:Nat)u,l[j]?=some u->V.mc n u=true
 |[],n=>by simp[V.qt]|x::l,n=>by simp[V.qt,Ht];constructor;grind;intro h;exact⟨h 0 x rfl,λj u a=>h (j+1) u Zac⟩
theorem eA(n:Nat)(H:bn){x:V}(h:x.closed=true):borrow n H x=some x:=kR n H h
theorem FR.borrow{x y:V}(r:FR H Z x y):∀n,x.lvl n=true->borrow n H y=some x:=by
 induction r with
 |same x h=>exactλn _=>eA n H (V.lH h)|fsl es J id off U W hr X hc hv L=>intro n z;cases n with|zero=>simp[V.lvl]at z|succ n=>unfold Go.VE.borrow;unfold bq at hr;simp only[V.closed,Bool.false_eq_true,if_false,hr,true_and,if_pos X,ζf];refine⟨J,Iw (by simp;omega) λj u v hu B=>?_,rfl⟩;have Y:=(ζe.1 hu).1;rw[List.getElem?_take,if_pos Y,List.getElem?_drop]at B;refine lz (hc j u v hu B) λi s t Q ht=>L j i u v s t hu B Q ht n (nk.1 (Ht.1 z j u hu) i s Q)
 |fptr J id el off es U cs W hr he ho hx hv L=>intro n z;cases n with|zero=>simp[V.lvl]at z|succ n=>unfold Go.VE.borrow;unfold bq at hr;simp only[V.closed,Bool.false_eq_true,if_false,hr,he,if_pos ho,ζf];refine⟨J,lz (by simp_all) λj u v hu B=>?_,rfl⟩;rw[List.getElem?_drop]at B;exact L j u v hu B n (nk.1 z j u hu)
 |clo f a b D S G T hva aa C I=>
  intro n z;cases n with|zero=>simp[V.lvl]at z|succ n=>
   simp[V.lvl]at z;by_cases w:(V.clo f D S).closed=true;rw[eA _ _ w];simp[V.closed]at w;have e1:D=a:=by
    have:=lz G λj u v hu hv=>C j u v hu hv n (nk.1 z.1 j u hu);have O:=lz rfl λj u v hu hv=>by rw[hu]at hv;cases hv;exact eA n H (p_.1 w.1 j u hu)
    grind
   have e2:S=b:=by
    have:=lz T λj u v hu hv=>I j u v hu hv n (nk.1 z.2 j u hu);have O:=lz rfl λj u v hu hv=>by rw[hu]at hv;cases hv;exact eA n H (p_.1 w.2 j u hu)
    grind
   simp_all;unfold Go.VE.borrow;rw[if_neg w];simp[lz G λj u v hu hv=>C j u v hu hv n (nk.1 z.1 j u hu),lz T λj u v hu hv=>I j u v hu hv n (nk.1 z.2 j u hu)]
 |agg a D G hva C=>
  intro n z;cases n with|zero=>simp[V.lvl]at z|succ n=>
   have hm:=lz G λj u v hu hv=>C j u v hu hv n (nk.1 z j u hu);by_cases w:(V.agg D).closed=true;rw[eA _ _ w];have O:=lz rfl λj u v hu hv=>by rw[hu]at hv;cases hv;exact eA n H (p_.1 w j u hu)
   grind;unfold Go.VE.borrow;grind
 |tup a D G hva C=>
  intro n z;cases n with|zero=>simp[V.lvl]at z|succ n=>
   have hm:=lz G λj u v hu hv=>C j u v hu hv n (nk.1 z j u hu);by_cases w:(V.tup D).closed=true;rw[eA _ _ w];have O:=lz rfl λj u v hu hv=>by rw[hu]at hv;cases hv;exact eA n H (p_.1 w j u hu)
   grind;unfold Go.VE.borrow;grind
theorem qK{f:V->L' Nat}{k:Nat}:∀{l:L' V},k∈cW f l->∃(j:Nat)(u:V),l[j]?=some u/\k∈f u
 |[],h=>by simp[cW]at h|x::l,h=>by simp[cW]at h;rcases h with h|h;exact⟨0,x,rfl,h⟩;obtain⟨j,u,b,a⟩:=qK h;exact⟨j+1,u,Zac,a⟩
structure Deep(H:bn)(Z:Nat->Prop):Prop where
 row:∀id es ys,Z id->bq H id=some (es,ys)->∀c∈ys,∀u∈c,∃x,FR H Z x u
theorem FR.cn(hd:Deep H Z):∀(n:Nat){x y:V},FR H Z x y->∀k∈cn n H y,Z k
 |0,x,y,r,k,d=>by simp[Go.VE.cn]at d|n+1,x,y,r,k,d=>by
  unfold Go.VE.cn at d;split at d;simp_all;rename_i J;have G:∀(a a':L' V),dB H Z a a'->k∈cW (Go.VE.cn n H) a'->Z k:=λa a' h d=>by
   obtain⟨j,u,e,z⟩:=qK d;have S:j<a.length:=by rw[h.1];grind
   exact FR.cn hd n (h.2 j _ u (ζd S) e) k z
  have row:∀(id:Nat)es w(l:L' V),Z id->bq H id=some (es,w)->(∀u∈l,∃c∈w,u∈c)->k∈cW (Go.VE.cn n H) l->Z k:=λid es w l B hr L d=>by obtain⟨j,u,e,z⟩:=qK d;obtain⟨c,g,C⟩:=L u (mem_of_getElem? e);obtain⟨x,O⟩:=hd.row id es w B hr c g u C;exact FR.cn hd n O k z
  cases r with
  |same _ h=>exact absurd (V.lH h) J|fsl es T id off w B hr L g hv=>simp only[mem_cons]at d;rcases d with rfl|d;exact B;rw[show(H[id]?).bind Ob.rows=some (es,w)from hr]at d;exact row id es w _ B hr (λu e=>by obtain⟨c,g,C⟩:=List.mem_flatten.1 e;exact⟨c,mem_of_mem_drop (List.mem_of_mem_take g),C⟩) d
  |fptr T id el off es w cs B hr Q X O hv=>simp only[mem_cons]at d;rcases d with rfl|d;exact B;rw[show(H[id]?).bind Ob.rows=some (es,w)from hr]at d;simp only[Q,Option.getD_some]at d;exact row id es w _ B hr (λu e=>⟨cs,mem_of_getElem? Q,mem_of_mem_drop e⟩) d
  |clo f a b a' U D W hva I=>simp at d;rcases d with d|d;exact G a a' ⟨D,hva⟩ d;exact G b U ⟨W,I⟩ d
  |agg a a' D hva=>exact G a a' ⟨D,hva⟩ d|tup a a' D hva=>exact G a a' ⟨D,hva⟩ d
theorem dB.cut{cs ys r:L' V}{off n:Nat}(h:dB H Z cs ys)(a:cut cs off n=some r):∃B,Go.VE.cut ys off n=some B/\dB H Z r B:=by unfold Go.VE.cut at a⊢;have u:=(h.drop off).take n;dsimp only at a⊢;split at a;simp at a;subst a;exact⟨_,by rw[if_pos (by rw[<-u.1];omega)],u⟩;grind
theorem dB.mk{agg:Bool}{cs ys:L' V}{x:V}(h:dB H Z cs ys)(B:mk agg cs=some x):∃y,Go.VE.mk agg ys=some y/\FR H Z x y:=by unfold Go.VE.mk at B⊢;split at B;simp at B;subst B;exact⟨_,Zac,.agg _ _ h.1 h.2⟩;split at B;simp at B;obtain⟨y,ys,rfl,a,u⟩:=h.inv;rw[u.c9];grind;grind
theorem dB.fill:∀{pl:L' (Nat×Nat)}{vs B cells cells' r:L' V},dB H Z cells cells'->dB H Z vs B->lC cells pl vs=some r->∃D,lC cells' pl B=some D/\dB H Z r D
 |[],vs,B,cells,cells',r,hc,hv,h=>by cases vs with|nil=>rw[hv.c9];simp[lC]at h⊢;grind|cons v vs=>simp[lC]at h
 |(off,size)::pl,vs,B,cells,cells',r,hc,hv,h=>by cases vs with|nil=>simp[lC]at h|cons v vs=>obtain⟨w,B,rfl,a,G⟩:=hv.inv;have k:=a.cells;simp only[lC]at h⊢;rw[<-k.1,<-hc.1];split at h;simp_all;rename_i e;rw[if_neg e];exact dB.fill (((hc.take off).append k).append (hc.drop _)) G h
theorem FR.vr{k:KT}{x y G J:V}{b:Bool}(B:FR H Z x G)(D:FR H Z y J)(h:pV k x y=some b):pV k G J=some b:=by unfold pV at h;split at h;rw[B.bM,D.bM];exact h;rw[D.bM];rcases B.mV with rfl|⟨_,_,_,rfl,_⟩<;>exact h;exact absurd B.closed (by simp[V.closed]);rw[B.iI,D.iI];exact h;rw[D.iI];rcases B.nh with rfl|⟨_,_,_,_,_,_,rfl,_⟩<;>exact h;exact absurd B.closed (by simp[V.closed]);rw[B.gD,D.gD];exact h;rw[D.gD,B.fmap];exact h;exact absurd B.closed (by simp[V.closed]);grind
theorem FR.lM{a b a' B:L' V}{r:Bool}(D:dB H Z a a')(G:dB H Z b B)(h:lM a b=some r):Go.VE.lM a' B=some r:=by unfold Go.VE.lM at h;split at h;rename_i u v c d;rw[D.scalar.1 (sA c),G.scalar.1 (sA d)];unfold Go.VE.lM;grind;grind
theorem Bh{k:KT}{x y:V}{b:Bool}(h:pV k x y=some b):(y=.bM/\(x=.bM\/(∃es xs,x=.fsl es xs)\/∃id es off len,x=.hsl id es off len))\/
 (y=.iI/\(x=.iI\/(∃cs,x=.fptr cs)\/∃id el off,x=.hptr id el off))\/(y=.gD/\(x=.gD\/(∃B,x=.fmap B)\/∃id,x=.hmap id)):=by
 unfold pV at h
 grind
theorem KI{k:Lk KT}{e:Lk Nat}{op:BinOp}{x y:V}(D:(y=.bM/\(x=.bM\/(∃es xs,x=.fsl es xs)\/∃id es off len,x=.hsl id es off len))\/
 (y=.iI/\(x=.iI\/(∃cs,x=.fptr cs)\/∃id el off,x=.hptr id el off))\/(y=.gD/\(x=.gD\/(∃B,x=.fmap B)\/∃id,x=.hmap id))):
 h_ k e op x y=(match k,op with
 |some k,.eql=>(pV k x y).map .bool|some k,.neq=>(pV k x y).map λt=>.bool !t|_,_=>none):=by
 rcases D with⟨rfl,rfl|⟨_,_,rfl⟩|⟨_,_,_,_,rfl⟩⟩|⟨rfl,rfl|⟨_,rfl⟩|⟨_,_,_,rfl⟩⟩|⟨rfl,rfl|⟨_,rfl⟩|⟨_,rfl⟩⟩<;>cases k<;>cases op<;>rfl
theorem Lp{k:Lk KT}{e:Lk Nat}{op:BinOp}{x y z:V}(h:h_ k e op x y=some z):z.good=true:=by
 have w:∀{o:Lk Bool}{z:V},o.map V.bool=some z->z.good=true:=λh=>by obtain⟨_,_,rfl⟩:=ζf.1 h;rfl
 have u:∀{o:Lk Bool}{z:V},(o.map λt=>V.bool !t)=some z->z.good=true:=λh=>by obtain⟨_,_,rfl⟩:=ζf.1 h;rfl
 unfold h_ at h;(repeat' split at h)<;>first|(simp at h;subst h;rfl)|exact w h|exact u h|simp at h
theorem FR.bin{k:Lk KT}{e:Lk Nat}{op:BinOp}{x y G J z:V}(B:FR H Z x G)(D:FR H Z y J)(h:h_ k e op x y=some z):h_ k e op G J=some z:=by
 have b:=h;unfold h_ at h;split at h;rw[B.int,D.int];omega;rw[B.str,D.str];omega;rw[B.bool,D.bool];omega;obtain⟨L,rfl,w⟩:=B.jc;obtain⟨O,rfl,I⟩:=D.jc;split at h;split at h;next C=>obtain⟨r,a,rfl⟩:=ζf.1 h;simp[h_,<-w.1,C,FR.lM w I a]
 grind;split at h;next C=>obtain⟨r,a,rfl⟩:=ζf.1 h;simp[h_,<-w.1,C,FR.lM w I a]
 grind;grind;split at h;obtain⟨r,a,rfl⟩:=ζf.1 h;have u:=FR.vr B D a;rw[KI (Bh u)];grind;obtain⟨r,a,rfl⟩:=ζf.1 h;have u:=FR.vr B D a;rw[KI (Bh u)];grind;grind
theorem FR.slice{size:Nat}{x J z:V}{l h:Option Int}(D:FR H Z x J)(B:iG size x l h=some z):∃U,iG size J l h=some U/\FR H Z z U:=by
 have G:∀{n lo hi:Nat},dX n l h=some (lo,hi)->hi<=n/\lo<=hi:=by intro n lo hi e;unfold dX at e;grind
 unfold iG at B;split at B;rename_i es I;split at B;rename_i L;obtain⟨⟨lo,hi⟩,w,rfl⟩:=ζf.1 B;obtain⟨Q,W⟩:=G w;rcases D.mV with rfl|⟨id,off,O,rfl,S,hr,X,T⟩;refine⟨_,by simp[iG,if_pos L,w],.same _ ?_⟩;have hg:=D.good;refine lE.2 λj u hu=>?_;rw[List.getElem?_drop,List.getElem?_take]at hu;split at hu;exact lE.1 hg _ u hu;grind;refine⟨.hsl id es (off+lo) (hi-lo),by simp[iG,if_pos L,w],?_⟩;have C:((I.take hi).drop lo).length=hi-lo:=by simp_all
 rw[<-C];refine FR.Nn S hr Zac ?_;have:=(T.take hi).drop lo;have e:List.drop lo (List.take hi (List.take I.length (List.drop off O)))=List.take (hi-lo) (List.drop (off+lo) O):=by rw[List.take_take,Nat.min_eq_left Q,List.drop_take,List.drop_drop]
 grind;grind;exact absurd D.closed (by simp[V.closed]);rw[D.dL];obtain⟨_,w,rfl⟩:=ζf.1 B;exact⟨.dL,by simp[iG,w],.same _ rfl⟩;rw[D.bM];obtain⟨_,w,rfl⟩:=ζf.1 B;exact⟨.bM,by simp[iG,w],.same _ rfl⟩;grind
theorem dB.mz{lo hi:Bool}{G D:L' V}{r:Lk Int×Lk Int}(h:dB H Z G D)(B:mz lo hi G=some r):Go.VE.mz lo hi D=some r:=by unfold Go.VE.mz at B;split at B;rw[h.c9];exact B;obtain⟨_,_,rfl,a,u⟩:=h.inv;rw[a.int,u.c9];exact B;obtain⟨_,_,rfl,a,u⟩:=h.inv;rw[a.int,u.c9];exact B;obtain⟨_,_,rfl,a,u⟩:=h.inv;obtain⟨_,_,rfl,w,z⟩:=u.inv;rw[a.int,w.int,z.c9];exact B;grind
theorem dB.bl{N:Nat->FuncId}{p:vL}{xs ys:L' V}{z:V}(Y:∀zero pl,p=.build zero pl->V.cE zero=true)(h:dB H Z xs ys)(hp:bl N p xs=some z):∃U,Go.VE.bl N p ys=some U/\FR H Z z U:=by
 unfold Go.VE.bl at hp;split at hp;obtain⟨y,_,rfl,f,w⟩:=h.inv;rw[w.c9];simp only[ζa]at hp;subst hp;exact⟨y,rfl,f⟩;rename_i t a b;obtain⟨w1,_,rfl,f,w⟩:=h.inv;obtain⟨w2,_,rfl,B,C⟩:=w.inv;obtain⟨w3,_,rfl,S,T⟩:=C.inv;rw[f.bool,T.c9];simp only[ζa]at hp;subst hp;refine⟨if t=true then w2 else w3,rfl,?_⟩;cases t;exact S;exact B;obtain⟨y,_,rfl,f,w⟩:=h.inv;rw[w.c9];unfold NP at hp;split at hp;exact absurd f.closed (by simp[closed]);simp only[ζa]at hp;subst hp;rcases f.nh with rfl|⟨_,_,_,_,_,_,rfl,_⟩;exact⟨_,rfl,f⟩;exact⟨_,rfl,f⟩;simp only[ζa]at hp;subst hp;obtain⟨_,_,rfl,_⟩:=f.kN;exact⟨_,rfl,f⟩;simp at hp;obtain⟨_,_,rfl,f,w⟩:=h.inv;obtain⟨_,_,rfl,B,C⟩:=w.inv;rw[C.c9];exact⟨z,FR.bin f B hp,.same _ (Lp hp)⟩;obtain⟨_,_,rfl,f,w⟩:=h.inv;rw[f.bool,w.c9];simp only[ζa]at hp;subst hp;exact⟨_,rfl,.same _ rfl⟩;obtain⟨_,_,rfl,f,w⟩:=h.inv;rw[f.int,w.c9];simp only[ζa]at hp;subst hp;exact⟨_,rfl,.same _ rfl⟩;obtain⟨_,_,rfl,f,w⟩:=h.inv;rw[f.int,w.c9];simp only[ζa]at hp;subst hp;exact⟨_,rfl,.same _ rfl⟩;rename_i off p;obtain⟨y,_,rfl,f,w⟩:=h.inv;rw[w.c9];unfold iD at hp;split at hp;split at hp;rename_i cs X;simp only[ζa]at hp;subst hp;rcases f.nh with rfl|⟨id,el,o,es,ys,ds,rfl,W,m,Q,aa,O⟩;have q:=f.good;simp only[V.good]at q;exact⟨_,by simp only[Go.VE.bl,iD,if_pos X],.same _ (by simp only[V.good];exact Aj _ q)⟩;refine⟨.hptr id el (o+off),rfl,FR.E7 W m Q (by have:=O.1;simp at this;omega) ?_⟩;have:=O.drop off;rw[drop_drop]at this;exact this;simp at hp;exact absurd f.closed (by simp[closed]);simp at hp;rename_i off size agg cs;obtain⟨y,_,rfl,f,w⟩:=h.inv;rw[w.c9];obtain⟨ab,rfl,g⟩:=f.jc;obtain⟨r,m,x⟩:=ζg.1 hp;obtain⟨A,J,I⟩:=g.cut m;obtain⟨U,D,G⟩:=I.mk x;exact⟨U,by simp only[Go.VE.bl,J,ζb,D],G⟩;rename_i size s k n;obtain⟨y,_,rfl,f,w⟩:=h.inv;obtain⟨_,_,rfl,B,C⟩:=w.inv;rw[B.int,C.c9];unfold mH at hp;split at hp;simp at hp;rename_i L;split at hp;rename_i es xs;split at hp;rename_i Q;obtain⟨c,g,rfl⟩:=ζf.1 hp;rcases f.mV with rfl|⟨id,off,ys,rfl,W,m,hl,O⟩;have q:=f.good;simp only[V.good]at q;exact⟨_,by simp only[Go.VE.bl,mH,if_neg L,if_pos Q,g,map_some],.same _ (by simp only[V.good];exact lE.1 q _ _ g)⟩;have P:n.toNat<xs.length:=(ζe.1 g).1;obtain⟨d,hd,ad⟩:=O.get g;rw[getElem?_take,if_pos P,getElem?_drop]at hd;exact⟨.hptr id (off+n.toNat) 0,by simp only[Go.VE.bl,mH,if_neg L,if_pos (And.intro Q P)],FR.E7 W m hd Zab (by simpa using ad)⟩;simp at hp;exact absurd f.closed (by simp[closed]);simp at hp;rename_i len size s k n;obtain⟨y,_,rfl,f,w⟩:=h.inv;obtain⟨_,_,rfl,B,C⟩:=w.inv;rw[B.int,C.c9];unfold yh at hp;split at hp;rename_i L;split at hp;split at hp;rename_i cs X;simp only[ζa]at hp;subst hp;rcases f.nh with rfl|⟨id,el,o,es,ys,ds,rfl,W,m,Q,aa,O⟩;have q:=f.good;simp only[V.good]at q;exact⟨_,by simp only[Go.VE.bl,yh,if_pos L,if_pos X],.same _ (by simp only[V.good];exact Aj _ q)⟩;refine⟨.hptr id el (o+n.toNat*size),by simp only[Go.VE.bl,yh,if_pos L],FR.E7 W m Q (by have:=O.1;simp at this;omega) ?_⟩;have:=O.drop (n.toNat*size);rw[drop_drop]at this;exact this;simp at hp;exact absurd f.closed (by simp[closed]);simp at hp;simp at hp;rename_i s k n;obtain⟨y,_,rfl,f,w⟩:=h.inv;obtain⟨_,_,rfl,B,C⟩:=w.inv;rw[f.str,B.int,C.c9];split at hp;next L=>obtain⟨c,g,rfl⟩:=ζf.1 hp;exact⟨_,by simp only[Go.VE.bl,if_pos L,g,map_some],.same _ rfl⟩
 simp at hp;rename_i len size agg cs k n;obtain⟨y,_,rfl,f,w⟩:=h.inv;obtain⟨_,_,rfl,B,C⟩:=w.inv;rw[B.int,C.c9];obtain⟨ab,rfl,g⟩:=f.jc;split at hp;next L=>obtain⟨r,m,x⟩:=ζg.1 hp;obtain⟨A,J,I⟩:=g.cut m;obtain⟨U,D,G⟩:=I.mk x;exact⟨U,by simp only[Go.VE.bl,if_pos L,J,ζb,D],G⟩
 simp at hp;rename_i lo hi s bs;obtain⟨y,_,rfl,f,w⟩:=h.inv;rw[f.str];obtain⟨⟨l,h'⟩,E,hp⟩:=ζg.1 hp;obtain⟨⟨l2,ah⟩,ae,rfl⟩:=ζf.1 hp;exact⟨_,by simp only[Go.VE.bl,w.mz E,ζb,ae,map_some],.same _ rfl⟩;rename_i size lo hi s bs;obtain⟨y,_,rfl,f,w⟩:=h.inv;obtain⟨⟨l,h'⟩,E,hp⟩:=ζg.1 hp;obtain⟨U,D,G⟩:=FR.slice f hp;exact⟨U,by simp only[Go.VE.bl,w.mz E,ζb,D],G⟩;obtain⟨y,_,rfl,f,w⟩:=h.inv;obtain⟨_,_,rfl,B,C⟩:=w.inv;obtain⟨_,_,rfl,S,T⟩:=C.inv;rw[B.int,S.int,T.c9];split at hp;rename_i g;simp only[ζa]at hp;subst hp;refine⟨.dL,?_,.same _ rfl⟩;simp only[ζh]at g;have:Oz y=true:=by have F:=g.1.1;unfold Oz at F;split at F;rcases f.mV with rfl|⟨_,_,_,rfl,_⟩<;>rfl;exact absurd f.closed (by simp[closed]);rw[f.dL];rfl;rw[f.bM];rfl;simp at F
 simp only[Go.VE.bl,this,g.1.2,g.2,Bool.and_self,if_true];simp at hp;rename_i vs zero pl;obtain⟨r,m,rfl⟩:=ζf.1 hp;obtain⟨A,J,I⟩:=dB.fill (dB.same (Y zero pl rfl)) h m;exact⟨.agg A,by simp only[Go.VE.bl,J,map_some],.agg _ _ I.1 I.2⟩;rename_i vs name k;simp only[ζa]at hp;subst hp;exact⟨_,rfl,.clo _ _ _ _ _ (h.take k).1 (h.drop k).1 (h.take k).2 (h.drop k).2⟩;rename_i i vs;obtain⟨y,_,rfl,f,w⟩:=h.inv;rw[w.c9];obtain⟨ws,rfl,hw⟩:=f.qZ;obtain⟨U,D,G⟩:=hw.get hp;exact⟨U,D,G⟩;obtain⟨y,_,rfl,f,w⟩:=h.inv;rw[f.str,w.c9];simp only[ζa]at hp;subst hp;exact⟨_,rfl,.same _ rfl⟩;obtain⟨y,_,rfl,f,w⟩:=h.inv;rw[w.c9];unfold o8 at hp;split at hp;simp only[ζa]at hp;subst hp;rcases f.mV with rfl|⟨_,_,_,rfl,_⟩<;>exact⟨_,rfl,.same _ rfl⟩;exact absurd f.closed (by simp[closed]);rw[f.dL];simp only[ζa]at hp;subst hp;exact⟨_,rfl,.same _ rfl⟩;rw[f.bM];simp only[ζa]at hp;subst hp;exact⟨_,rfl,.same _ rfl⟩;simp at hp;obtain⟨y,_,rfl,f,w⟩:=h.inv;rw[w.c9];unfold Ja at hp;split at hp;rw[f.bM];simp only[ζa]at hp;subst hp;exact⟨_,rfl,.same _ rfl⟩;rw[f.dL];simp only[ζa]at hp;subst hp;exact⟨_,rfl,.same _ rfl⟩;simp at hp;obtain⟨_,_,rfl,f,w⟩:=h.inv;obtain⟨_,_,rfl,B,C⟩:=w.inv;rw[f.int,B.int,C.c9];split at hp;next e=>simp only[ζa]at hp;subst hp;exact⟨_,by simp only[Go.VE.bl,if_pos e],.same _ rfl⟩
 simp at hp;obtain⟨_,_,rfl,f,w⟩:=h.inv;obtain⟨_,_,rfl,B,C⟩:=w.inv;obtain⟨_,_,rfl,S,T⟩:=C.inv;obtain⟨_,_,rfl,h7,h8⟩:=T.inv;rw[f.int,B.int,S.int,h7.int,h8.c9];split at hp;next e=>simp only[ζa]at hp;subst hp;exact⟨_,by simp only[Go.VE.bl,if_pos e],.same _ rfl⟩
 simp at hp;obtain⟨_,_,rfl,f,w⟩:=h.inv;obtain⟨_,_,rfl,B,C⟩:=w.inv;rw[f.int,B.int,C.c9];split at hp;next e=>simp only[ζa]at hp;subst hp;exact⟨_,by simp only[Go.VE.bl,if_pos e],.same _ rfl⟩
 simp at hp;obtain⟨_,_,rfl,f,w⟩:=h.inv;obtain⟨_,_,rfl,B,C⟩:=w.inv;rw[f.int,B.int,C.c9];split at hp;rename_i e;simp only[ζa]at hp;subst hp;refine⟨_,by simp only[Go.VE.bl,if_pos e],.same _ ?_⟩;simp only[V.good];refine lE.2 λj u K=>?_;have:=List.eq_of_mem_replicate (mem_of_getElem? K);subst this;exact iz.2 λi v M=>kj (all_eq_true.1 e.2.2.2.2.2 v (mem_of_getElem? M));simp at hp;split at hp;rename_i g;obtain rfl:=h.scalar.1 g.1;split at hp;rename_i xs af;split at hp;rename_i R;simp only[ζa]at hp;subst hp;refine⟨_,by simp only[Go.VE.bl,if_pos g,af,if_pos R],.same _ ?_⟩;simp only[V.good];exact lE.2 λj u K=>iz.2 λi v M=>kj (all_eq_true.1 (all_eq_true.1 R.2 u (mem_of_getElem? K)) v (mem_of_getElem? M));simp at hp;simp at hp;simp at hp;simp only[ζa]at hp;subst hp;rw[h.c9];exact⟨_,rfl,.same _ rfl⟩;simp at hp
end
def tn(p:Nat×Nat)(k:Fl)(es len:Nat):V:=
 match k with
 |.nil=>.bM|.emp=>.dL|_=>.hsl p.1 es p.2 len
abbrev Nu:=Nat->Nat×Nat
inductive dn(ν:Nu)(m:Tb bJ)(H:bn)(Z:Nat->Prop):SV->V->Prop
 |v(x y:V)(h:FR H Z x y):dn ν m H Z (.v x) y|own(d:Nat)(y:V)(h:∀ob,bh m d=some ob->∃k es xs,ob=.sl k es xs/\y=tn (ν d) k es xs.length):dn ν m H Z (.own d) y|ptr(d o:Nat)(y:V)(h:∀ob,bh m d=some ob->∃cs,ob=.box cs/\y=.hptr (ν d).1 0 o):dn ν m H Z (.ptr d o) y|el(d i o:Nat)(y:V)(h:∀ob,bh m d=some ob->∃k es xs,ob=.sl k es xs/\cO k=true/\y=.hptr (ν d).1 ((ν d).2+i) o):dn ν m H Z (.el d i o) y|mp(d:Nat)(y:V)(h:∀ob,bh m d=some ob->∃kvs,ob=.mp kvs/\y=.hmap (ν d).1):dn ν m H Z (.mp d) y|clo(f:FuncId)(a b:List SV)(a' b':List V)(ha:a.length=a'.length)(hb:b.length=b'.length)
  (hva:∀(j:Nat)u v,a[j]?=some u->a'[j]?=some v->dn ν m H Z u v) (hvb:∀(j:Nat)u v,b[j]?=some u->b'[j]?=some v->dn ν m H Z u v):dn ν m H Z (.clo f a b) (.clo f a' b')
 |tup(a:List SV)(a':List V)(ha:a.length=a'.length)(hva:∀(j:Nat)u v,a[j]?=some u->a'[j]?=some v->dn ν m H Z u v):dn ν m H Z (.tup a) (.tup a')|agg(a:List SV)(a':List V)(ha:a.length=a'.length)(hva:∀(j:Nat)u v,a[j]?=some u->a'[j]?=some v->dn ν m H Z u v):dn ν m H Z (.agg a) (.agg a')|yl(id:Nat):dn ν m H Z (.yl id) (.yld id)
def cg(ν:Nu)(m:Tb bJ)(H:bn)(Z:Nat->Prop)(xs:L' SV)(ys:L' V):Prop:=xs.length=ys.length/\∀(j:Nat)u v,xs[j]?=some u->ys[j]?=some v->dn ν m H Z u v
def cD:bJ->Bool
 |.sl k _ _=>cO k|_=>true
def fS(ν:Nu)(m:Tb bJ)(id:Nat):Prop:=∃d ob,bh m d=some ob/\cD ob=true/\(ν d).1=id
def wR(H:bn)(Z:Nat->Prop)(ys:L' (L' V)):Prop:=∀c∈ys,∀u∈c,∃x,FR H Z x u
def D4(H:bn)(Z:Nat->Prop)(a b:L' (V×V)):Prop:=a.length=b.length/\∀(j:Nat)u v,a[j]?=some u->b[j]?=some v->(u.1=v.1/\u.1.scalar=true)/\FR H Z u.2 v.2
def en(ν:Nu)(m:Tb bJ)(H:bn)(Z:Nat->Prop)(d:Nat):bJ->Prop
 |.sl k es xs=>if cO k then∃ys,H[(ν d).1]?=some (.row es ys)/\(ν d).2+xs.length<=ys.length/\gH H Z xs ((ys.drop (ν d).2).take xs.length)/\wR H Z ys/\(k=.row->(ν d).2=0/\ys.length=xs.length)
  else xs=[]
 |.box cs=>∃es D,H[(ν d).1]?=some (.row es [D])/\cg ν m H Z cs D/\D.all V.one=true|.mp G=>∃B,H[(ν d).1]?=some (.map B)/\D4 H Z G B
structure R(ν:Nu)(Z:Nat->Prop)(st:St)(F:Frame)(H:bn):Prop where
 slot:∀s sv,bh st.g s=some sv->dn ν st.m H Z sv (get F s)
 obj:∀d ob,bh st.m d=some ob->en ν st.m H Z d ob
 inj:∀d d' ob ob',bh st.m d=some ob->bh st.m d'=some ob'->cD ob=true->cD ob'=true->(ν d).1=(ν d').1->d=d'
 apart:∀d ob,bh st.m d=some ob->cD ob=true->¬Z (ν d).1
 zrow:∀id,Z id->(bq H id).isSome=true
 deep:Deep H Z
def sameShape:bJ->bJ->Prop
 |.sl k es xs,.sl G B D=>G=k/\B=es/\D.length=xs.length|.box _,.box _=>True|.mp _,.mp _=>True|_,_=>False
theorem sameShape.refl(o:bJ):sameShape o o:=by cases o<;>simp[sameShape]
theorem sameShape.trans{a b c:bJ}(h:sameShape a b)(k:sameShape b c):sameShape a c:=by cases a<;>cases b<;>cases c<;>simp[sameShape]at*<;>simp_all
structure Ev(Rv:Nat->Prop)(ν:Nu)(Z:Nat->Prop)(st:St)(H:bn)(ν':Nu)(Z':Nat->Prop)(st':St)(H':bn):Prop where
 len:H.length<=H'.length
 same:∀id,id<H.length->¬fS ν st.m id->¬Z id->¬Rv id->H'[id]?=H[id]?
 rows:∀id,Z id->Z' id/\bq H' id=bq H id
 own:∀id,fS ν' st'.m id->fS ν st.m id\/Rv id\/H.length<=id
 frz:∀id,Z' id->Z id\/fS ν st.m id\/Rv id\/H.length<=id
 pin:∀d∈st.pin,∀ob',bh st'.m d=some ob'->∃ob,bh st.m d=some ob/\ν' d=ν d/\sameShape ob ob'
 pins:st'.pin=st.pin
section
variable{Rv Rv':Nat->Prop}{ν ν' ν2:Nu}{Z Z' Z2:Nat->Prop}{st st' st2:St}{m m':Tb bJ}{F F':Frame}{H H' H2:bn}
theorem Ev.refl:Ev Rv ν Z st H ν Z st H:=⟨le_refl _,λ_ _ _ _ _=>rfl,λ_ h=>⟨h,rfl⟩,λ_ h=>.inl h,λ_ h=>.inl h,λ_ _ u h=>⟨u,h,rfl,.refl _⟩,rfl⟩
theorem Ev.trans(a:Ev Rv ν Z st H ν' Z' st' H')(b:Ev Rv ν' Z' st' H' ν2 Z2 st2 H2):Ev Rv ν Z st H ν2 Z2 st2 H2 where
 len:=le_trans a.len b.len
 same:=λid B u C hr=>by rw[b.same id (Nat.lt_of_lt_of_le B a.len) (λh=>(a.own id h).elim u λh=>h.elim hr λh=>Zaa) (λh=>(a.frz id h).elim C λh=>h.elim u λh=>h.elim hr λh=>Zaa) hr,a.same id B u C hr]
 rows:=λid h=>⟨(b.rows id (a.rows id h).1).1,by rw[(b.rows id (a.rows id h).1).2,(a.rows id h).2]⟩
 own:=λid h=>by rcases b.own id h with h|h|h;exact a.own id h;grind;exact .inr (.inr (le_trans a.len h))
 frz:=λid h=>by rcases b.frz id h with h|h|h|h;exact a.frz id h;rcases a.own id h with h|h|h;grind;grind;grind;grind;exact .inr (.inr (.inr (le_trans a.len h)))
 pin:=λd hd w h=>by obtain⟨z,c,G,D⟩:=b.pin d (by rw[a.pins];omega) w h;obtain⟨ob,k1,k2,k3⟩:=a.pin d hd z c;exact⟨ob,k1,by simp_all,k3.trans D⟩
 pins:=by rw[b.pins,a.pins]
theorem Ev.weak(h:∀id,Rv id->Rv' id)(a:Ev Rv ν Z st H ν' Z' st' H'):Ev Rv' ν Z st H ν' Z' st' H':=⟨a.len,λid u w z hr=>a.same id u w z (λk=>hr (h id k)),a.rows,λid k=>(a.own id k).imp (λx=>x) (.imp (h id) (λx=>x)),λid k=>(a.frz id k).imp (λx=>x) (.imp (λx=>x) (.imp (h id) (λx=>x))),a.pin,a.pins⟩
theorem cI{α:Type}:∀(g:Tb α)(n:Nat)(v:α),bh (bN g n v) n=some v
 |[],n,v=>by simp[bN,bh]|(k,x)::r,n,v=>by
  simp[bN];split;next h=>simp[bh,h]
  rename_i h;simp[bh,h,cI r n v]
theorem dW{α:Type}:∀(g:Tb α){n k:Nat}(v:α),n≠k->bh (bN g n v) k=bh g k
 |[],n,k,v,h=>by simp[bN,bh,h]|(j,x)::r,n,k,v,h=>by
  simp[bN];split;next a=>subst a;simp[bh,h]
  simp[bh];split;rfl;exact dW r v h
theorem qN{α:Type}:∀{g:Tb α}{n:Nat}{v:α},bh g n=some v->bN g n v=g
 |[],n,v,h=>by cases h|(k,x)::r,n,v,h=>by simp[bh]at h;simp[bN];split;grind;rename_i e;rw[if_neg e]at h;rw[qN h]
theorem xC{α:Type}:∀(g:Tb α)(n:Nat),bh (eo n g) n=none
 |[],n=>rfl|(k,x)::r,n=>by simp[eo];split;exact xC r n;rename_i a;simp[bh];rw[if_neg a];exact xC r n
theorem xB{α:Type}:∀(g:Tb α){n k:Nat},n≠k->bh (eo n g) k=bh g k
 |[],n,k,h=>rfl|(j,x)::r,n,k,h=>by
  simp[eo];split;next a=>subst a;simp[bh];rw[if_neg h];exact xB r h
  simp[bh];split;rfl;exact xB r h
theorem pe{α:Type}{g:Tb α}{n k:Nat}{v:α}(h:bh (eo n g) k=some v):n≠k/\bh g k=some v:=by by_cases e:n=k;subst e;rw[xC]at h;simp_all;rw[xB g e]at h;grind
theorem pG{α:Type}{k:Nat}{v:α}:∀{ds:L' Nat}{g:Tb α},bh (oH ds g) k=some v->bh g k=some v
 |[],_,h=>h|d::ds,g,h=>(pe (pG h)).2
theorem rO{α:Type}{g:Tb α}{k:Nat}{v:α}:∀{l:L' Nat}{r:Tb α},kr g l=some r->bh r k=some v->bh g k=some v
 |[],r,h,B=>by simp[kr]at h;subst h;simp[bh]at B|n::l,r,h,B=>by simp[kr]at h;split at h;rename_i w t G D;simp at h;subst h;simp[bh]at B;split at B;grind;exact rO D B;grind
theorem Ao{d:Nat}:∀{g:Tb SV}{s:Nat}{sv:SV},wJ d g=false->bh g s=some sv->sv.c6 d=false
 |[],_,_,_,h=>by simp[bh]at h|(k,x)::r,s,sv,h,B=>by simp[wJ]at h;simp[bh]at B;split at B;grind;exact Ao h.2 B
theorem zV{d:Nat}:∀{g:Tb bJ}{s:Nat}{ob:bJ},tM d g=false->bh g s=some ob->ob.c6 d=false
 |[],_,_,_,h=>by simp[bh]at h|(k,x)::r,s,sv,h,B=>by simp[tM]at h;simp[bh]at B;split at B;grind;exact zV h.2 B
theorem uR{d:Nat}:∀{l:L' SV}{j:Nat}{u:SV},SV.dK d l=false->l[j]?=some u->u.c6 d=false
 |[],_,_,_,h=>by simp_all|x::r,j,u,h,B=>by simp[SV.dK]at h;cases j with|zero=>grind|succ j=>exact uR h.2 (by simpa using B)
theorem tg{d:Nat}:∀{l:L' SV}{j:Nat}{u:SV},l[j]?=some u->u.c6 d=true->SV.dK d l=true
 |[],_,_,h,_=>by simp_all|x::r,j,u,h,B=>by simp[SV.dK];cases j with|zero=>grind|succ j=>exact .inr (tg (j:=j) Zac B)
theorem dn.mono{sv:SV}{y:V}(U:∀id,Z id->Z' id/\bq H' id=bq H id)
 (r:dn ν m H Z sv y)(B:∀d,sv.c6 d=true->∀ob',bh m' d=some ob'->∃ob,bh m d=some ob/\ν' d=ν d/\sameShape ob ob'):dn ν' m' H' Z' sv y:=by
 induction r with
 |v x y h=>exact .v x y (h.mono U)|own d y h=>
  refine .own d y λob' z=>?_
  obtain⟨ob,e,I,C⟩:=B d (by simp[SV.c6]) ob' z
  obtain⟨k,es,L,rfl,rfl⟩:=h ob e;cases ob'<;>simp[sameShape]at C
  grind
 |ptr d o y h=>
  refine .ptr d o y λob' z=>?_
  obtain⟨ob,e,I,C⟩:=B d (by simp[SV.c6]) ob' z
  obtain⟨cs,rfl,rfl⟩:=h ob e;cases ob'<;>simp[sameShape]at C
  grind
 |el d i o y h=>
  refine .el d i o y λob' z=>?_
  obtain⟨ob,e,I,C⟩:=B d (by simp[SV.c6]) ob' z
  obtain⟨k,es,L,rfl,T,rfl⟩:=h ob e;cases ob'<;>simp[sameShape]at C
  grind
 |mp d y h=>
  refine .mp d y λob' z=>?_
  obtain⟨ob,e,I,C⟩:=B d (by simp[SV.c6]) ob' z
  obtain⟨cs,rfl,rfl⟩:=h ob e;cases ob'<;>simp[sameShape]at C
  grind
 |clo f a b D O G Q hva S w J=>exact .clo f a b D O G Q (λj u v c g=>w j u v c g λd hd=>B d (by simp[SV.c6,tg c hd])) (λj u v c g=>J j u v c g λd hd=>B d (by simp[SV.c6,tg c hd]))|tup a D G hva w=>exact .tup a D G (λj u v c g=>w j u v c g λd hd=>B d (by simp[SV.c6,tg c hd]))|agg a D G hva w=>exact .agg a D G (λj u v c g=>w j u v c g λd hd=>B d (by simp[SV.c6,tg c hd]))|yl id=>exact .yl id
theorem cg.mono{sv:L' SV}{y:L' V}(B:∀id,Z id->Z' id/\bq H' id=bq H id)(r:cg ν m H Z sv y)(D:∀d,SV.dK d sv=true->∀ob',bh m' d=some ob'->∃ob,bh m d=some ob/\ν' d=ν d/\sameShape ob ob'):cg ν' m' H' Z' sv y:=⟨r.1,λj u v a b=>(r.2 j u v a b).mono B λd hd=>D d (tg a hd)⟩
theorem cg.nil:cg ν m H Z [] []:=⟨rfl,Zab⟩
theorem cg.cons{x:SV}{y:V}{xs:L' SV}{ys:L' V}(h:dn ν m H Z x y)(r:cg ν m H Z xs ys):cg ν m H Z (x::xs) (y::ys):=by refine⟨by simp[r.1],λj u v a b=>?_⟩;cases j with|zero=>grind|succ j=>exact r.2 j u v Zac Zac
theorem cg.inv{x:SV}{xs:L' SV}{B:L' V}(r:cg ν m H Z (x::xs) B):∃y ys,B=y::ys/\dn ν m H Z x y/\cg ν m H Z xs ys:=by cases B with|nil=>have:=r.1;grind|cons y ys=>refine⟨y,ys,rfl,r.2 0 x y rfl rfl,by have:=r.1;grind,λj u v a b=>r.2 (j+1) u v Zac Zac⟩
theorem cg.c9{B:L' V}(r:cg ν m H Z [] B):B=[]:=by have:=r.1;grind
theorem cg.get{xs:L' SV}{ys:L' V}(r:cg ν m H Z xs ys){j:Nat}{u:SV}(h:xs[j]?=some u):∃v,ys[j]?=some v/\dn ν m H Z u v:=by
 have w:=(ζe.1 h).1;have:j<ys.length:=by rw[<-r.1];omega
 exact⟨ys[j],ζd this,r.2 j u _ h (ζd this)⟩
theorem cg.append{a c:L' SV}{b d:L' V}(h:cg ν m H Z a b)(k:cg ν m H Z c d):cg ν m H Z (a++c) (b++d):=by refine⟨by simp[h.1,k.1],λj u v e f=>?_⟩;by_cases w:j<a.length;rw[getElem?_append_left w]at e;rw[getElem?_append_left (by rw[<-h.1];omega)]at f;exact h.2 j u v e f;rw[getElem?_append_right Zaa]at e;rw[getElem?_append_right (by rw[<-h.1];omega),<-h.1]at f;exact k.2 _ u v e f
theorem cg.take{a:L' SV}{b:L' V}(h:cg ν m H Z a b)(n:Nat):cg ν m H Z (a.take n) (b.take n):=by
 refine⟨by simp[h.1],λj u v c d=>?_⟩;rw[getElem?_take]at c d;split at c;next w=>rw[if_pos w]at d;exact h.2 j u v c d
 grind
theorem cg.drop{a:L' SV}{b:L' V}(h:cg ν m H Z a b)(n:Nat):cg ν m H Z (a.drop n) (b.drop n):=by refine⟨by simp[h.1],λj u v c d=>?_⟩;rw[getElem?_drop]at c d;exact h.2 _ u v c d
theorem dn.fr{x y:V}(r:dn ν m H Z (.v x) y):FR H Z x y:=by cases r;assumption
theorem cg.sB{xs ys:L' V}(r:dB H Z xs ys):cg ν m H Z (xs.map .v) ys:=by refine⟨by simp[r.1],λj u v a b=>?_⟩;rw[List.getElem?_map,ζf]at a;obtain⟨x,w,rfl⟩:=a;exact .v x v (r.2 j x v w b)
theorem vJ:∀{svs:L' SV}{xs:L' V},dy svs=some xs->svs=xs.map .v
 |[],xs,h=>by simp[dy]at h;grind|x::r,xs,h=>by
  cases x<;>simp only[dy]at h<;>first|grind|skip
  obtain⟨t,B,rfl⟩:=ζf.1 h;rw[vJ B];rfl
theorem cg.Yh{xs ys:L' V}(r:cg ν m H Z (xs.map .v) ys):dB H Z xs ys:=by refine⟨by have:=r.1;grind,λj u v b a=>?_⟩;have:(xs.map SV.v)[j]?=some (.v u):=Zac;exact(r.2 j _ v this a).fr
end
section
variable{ν:Nu}{Z:Nat->Prop}{st:St}{m:Tb bJ}{F:Frame}{H H1:bn}{N:Nat->FuncId}
def qg(nm:FuncId->Lk Nat):Operand->Lk Arg
 |.tmp t=>some (.s t)|.const v=>match ofValue 4 v with
  |some c=>if c.good then some (.k c)else none|none=>none
 |.func f=>(nm f).map .f|.global g=>match bY.gl g with
  |some cs=>if(V.fptr cs).good then some (.k (.fptr cs))else none|none=>none
theorem Fv{nm:FuncId->Lk Nat}(D:∀f s,nm f=some s->N s=f){g:Tb SV}(G:∀s sv,bh g s=some sv->dn ν m H Z sv (get F s)){o:Operand}{x:Arg}{sv:SV}(B:qg nm o=some x)(a:rT N g x=some sv):
 ∃y,ev F o=some y/\dn ν m H Z sv y:=by
 cases o with
 |tmp t=>simp[qg]at B;subst B;exact⟨get F t,rfl,G t sv a⟩|const w=>
  simp[qg]at B;split at B
  .rename_i c hc;split at B
   next u=>simp at B;subst B;simp[rT]at a;subst a;exact⟨c,hc,.v _ _ (.same _ u)⟩
   grind
  grind
 |func f=>simp[qg]at B;obtain⟨z,C,rfl⟩:=B;simp[rT]at a;subst a;exact⟨_,rfl,.v _ _ (by rw[D f z C];exact .same _ rfl)⟩|global i=>
  simp[qg]at B;split at B
  .rename_i c hc;split at B
   next u=>simp at B;subst B;simp[rT]at a;subst a;exact⟨.fptr c,by simp[ev,hc],.v _ _ (.same _ u)⟩
   grind
  grind
theorem pN{nm:FuncId->Lk Nat}(D:∀f s,nm f=some s->N s=f){g:Tb SV}(G:∀s sv,bh g s=some sv->dn ν m H Z sv (get F s)):∀{os:L' Operand}{xs:L' Arg}{svs:L' SV},
 os.mapM (qg nm)=some xs->bW N g xs=some svs->∃ys,fI F os=some ys/\cg ν m H Z svs ys
 |[],xs,svs,B,hv=>by simp at B;subst B;simp[bW]at hv;subst hv;exact⟨[],rfl,.nil⟩|o::os,xs,svs,B,hv=>by
  simp[ζg]at B;obtain⟨x,J,ys,U,rfl⟩:=B;simp[bW]at hv;split at hv;next v C c w=>simp at hv;subst hv;obtain⟨a,B,z⟩:=Fv D G J c;obtain⟨az,b,u⟩:=pN D G U w;exact⟨a::az,by simp[fI,B,b],.cons z u⟩
  grind
theorem dn.kK{d:Nat}{y:V}(r:dn ν m H Z (.own d) y){ob:bJ}(h:bh m d=some ob):∃k es xs,ob=.sl k es xs/\y=tn (ν d) k es xs.length:=by cases r with|own _ _ u=>grind
theorem dn.qe{d o:Nat}{y:V}(r:dn ν m H Z (.ptr d o) y){ob:bJ}(h:bh m d=some ob):∃cs,ob=.box cs/\y=.hptr (ν d).1 0 o:=by cases r with|ptr _ _ _ u=>grind
theorem dn.zz{d i o:Nat}{y:V}(r:dn ν m H Z (.el d i o) y){ob:bJ}(h:bh m d=some ob):∃k es xs,ob=.sl k es xs/\cO k=true/\y=.hptr (ν d).1 ((ν d).2+i) o:=by cases r with|el _ _ _ _ u=>grind
theorem dn.Ff{d:Nat}{y:V}(r:dn ν m H Z (.mp d) y){ob:bJ}(h:bh m d=some ob):∃B,ob=.mp B/\y=.hmap (ν d).1:=by cases r with|mp _ _ u=>grind
theorem dn.kN{f:FuncId}{a b:L' SV}{y:V}(r:dn ν m H Z (.clo f a b) y):∃a' B,y=.clo f a' B/\cg ν m H Z a a'/\cg ν m H Z b B:=by cases r with|clo _ _ _ a' B w z hva u=>exact⟨a',B,rfl,⟨w,hva⟩,⟨z,u⟩⟩
theorem dn.qZ{a:L' SV}{y:V}(r:dn ν m H Z (.tup a) y):∃a',y=.tup a'/\cg ν m H Z a a':=by cases r with|tup _ a' u hva=>exact⟨a',rfl,u,hva⟩
theorem dn.jc{a:L' SV}{y:V}(r:dn ν m H Z (.agg a) y):∃a',y=.agg a'/\cg ν m H Z a a':=by cases r with|agg _ a' u hva=>exact⟨a',rfl,u,hva⟩
theorem ta{p:Nat×Nat}{k:Fl}{es len:Nat}(h:cO k=true):tn p k es len=.hsl p.1 es p.2 len:=by cases k<;>simp[cO]at h<;>rfl
theorem mK{x:SV}{y:V}(h:lZ m x=true)(r:dn ν m H Z x y):y.cells=[y]/\y.one=true:=by cases x with|v x=>simp[lZ]at h|own d=>obtain⟨ob,u⟩:=isSome_iff_exists.1 h;obtain⟨k,es,w,rfl,rfl⟩:=r.kK u;cases k<;>exact⟨rfl,rfl⟩|ptr d o=>obtain⟨ob,u⟩:=isSome_iff_exists.1 h;obtain⟨cs,rfl,rfl⟩:=r.qe u;exact⟨rfl,rfl⟩|el d i o=>obtain⟨ob,u⟩:=isSome_iff_exists.1 h;obtain⟨k,es,w,rfl,_,rfl⟩:=r.zz u;exact⟨rfl,rfl⟩|mp d=>obtain⟨ob,u⟩:=isSome_iff_exists.1 h;obtain⟨z,rfl,rfl⟩:=r.Ff u;exact⟨rfl,rfl⟩|clo f a b=>obtain⟨B,C,rfl,_⟩:=r.kN;exact⟨rfl,rfl⟩|tup l=>simp[lZ]at h|agg l=>simp[lZ]at h|yl id=>simp[lZ]at h
theorem Qn{x:SV}{y:V}(h:yG m x=true)(r:dn ν m H Z x y):y.one=true:=by
 cases x with
 |v x=>
  have u:=r.fr;have w:x.one=true:=h;have c:=u.cells;have e:x.cells=[x]:=by cases x<;>first|rfl|(simp[V.one]at w)
  rw[e]at c;have g:=c.one;have z:=c.1
  cases y with
  |agg l=>cases u with|same _ _=>grind|agg _ _ _ _=>simp[V.one]at w
  |tup l=>cases u with|same _ _=>grind|tup _ _ _ _=>simp[V.one]at w
  |_=>rfl
 |own d=>exact(mK (x:=.own d) h r).2|ptr d o=>exact(mK (x:=.ptr d o) h r).2|el d i o=>exact(mK (x:=.el d i o) h r).2|mp d=>exact(mK (x:=.mp d) h r).2|clo f a b=>exact(mK (x:=.clo f a b) h r).2|tup l=>simp[yG,lZ]at h|agg l=>simp[yG,lZ]at h|yl id=>simp[yG,lZ]at h
theorem G4{l:L' SV}{ys:L' V}(h:l.all (yG m)=true)(r:cg ν m H Z l ys):ys.all V.one=true:=by
 refine all_eq_true.2 λy w=>?_;obtain⟨j,z,e⟩:=List.mem_iff_getElem.1 w;have u:j<l.length:=by rw[r.1];omega
 exact Qn (all_eq_true.1 h _ (List.getElem_mem u)) (r.2 j _ y (ζd u) Zac)
theorem Qp{x:SV}{y:V}{c:L' SV}(h:y8 m x=some c)(r:dn ν m H Z x y):cg ν m H Z c y.cells:=by
 unfold y8 at h;split at h;cases h;exact cg.sB r.fr.cells;cases h;obtain⟨z,rfl,u⟩:=r.jc;exact u;split at h;next w=>cases h;rw[(mK w r).1];exact .cons r .nil
 simp_all
theorem Jd:∀{pl:L' (Nat×Nat)}{vs cells l:L' SV}{B cells':L' V},cg ν m H Z cells cells'->cg ν m H Z vs B->uc m cells pl vs=some l->∃D,lC cells' pl B=some D/\cg ν m H Z l D
 |[],[],cells,l,B,cells',hc,hv,h=>by rw[hv.c9];simp[uc]at h;subst h;exact⟨_,rfl,hc⟩|[],_::_,_,_,_,_,_,_,h=>by simp[uc]at h|_::_,[],_,_,_,_,_,_,h=>by simp[uc]at h|(off,size)::pl,v::vs,cells,l,B,cells',hc,hv,h=>by
  obtain⟨w,G,rfl,b,J⟩:=hv.inv;simp only[uc]at h;split at h;rename_i c z;have a:=Qp z b;split at h;obtain⟨D,e1,e2⟩:=Jd (cells':=cells'.take off++w.cells++cells'.drop (off+w.cells.length)) (by rw[<-a.1];exact((hc.take off).append a).append (hc.drop _)) J h;have u:w.cells.length=size/\off+w.cells.length<=cells'.length:=by rw[<-a.1,<-hc.1];omega
  simp[lC];grind;simp_all;simp_all
theorem JX{size o:Nat}{agg:Bool}{cs:L' SV}{B:L' V}{sv:SV}(h:cg ν m H Z cs B)(hp:wQ size agg ((cs.drop o).take size)=some sv):∃y,(cut B o size).bind (mk agg)=some y/\dn ν m H Z sv y:=by
 have u:=(h.drop o).take size;unfold wQ at hp;split at hp;have a:cut B o size=some ((B.drop o).take size):=by unfold cut;rw[if_pos (by rw[<-u.1];omega)]
 rw[a];split at hp;split at hp;rename_i G w;cases hp;have z:=by rw[vJ w]at u;exact u.Yh
 exact⟨_,by unfold mk;grind,.v _ _ (.agg _ _ z.1 z.2)⟩;cases hp;exact⟨_,by unfold mk;grind,.agg _ _ u.1 u.2⟩;split at hp;next x w=>simp at hp;subst hp;rw[w]at u;obtain⟨y,I,e,C,D⟩:=u.inv;rw[e,D.c9];exact⟨y,by unfold mk;grind,C⟩
 grind;grind
theorem SG{p:vL}{svs:L' SV}{ys:L' V}{sv:SV}(i:∀zero pl,p=.build zero pl->V.cE zero=true)(j:∀d ob,bh m d=some ob->en ν m H Z d ob)(h:cg ν m H Z svs ys)(hp:yx N m p svs=some sv):∃y,bl N p ys=some y/\dn ν m H Z sv y:=by
 unfold yx at hp;split at hp;obtain⟨y,_,rfl,c,w⟩:=h.inv;rw[w.c9];simp at hp;subst hp;exact⟨y,rfl,c⟩;obtain⟨y,_,rfl,c,w⟩:=h.inv;rw[w.c9];split at hp;next J=>simp at hp;subst hp;obtain⟨ob,u⟩:=isSome_iff_exists.1 J;obtain⟨cs,rfl,rfl⟩:=c.qe u;exact⟨_,rfl,c⟩
 grind;obtain⟨y,_,rfl,c,w⟩:=h.inv;rw[w.c9];split at hp;next J=>simp at hp;subst hp;obtain⟨ob,u⟩:=isSome_iff_exists.1 J;obtain⟨k,es,Q,rfl,f,rfl⟩:=c.zz u;exact⟨_,rfl,c⟩
 grind;rename_i t a b;obtain⟨I,_,rfl,c,w⟩:=h.inv;obtain⟨S,_,rfl,D,C⟩:=w.inv;obtain⟨n,_,rfl,E,o⟩:=C.inv;rw[c.fr.bool,o.c9];simp at hp;refine⟨if t=true then S else n,rfl,?_⟩;grind
 .obtain⟨I,_,rfl,c,w⟩:=h.inv;obtain⟨S,_,rfl,D,C⟩:=w.inv;rw[D.fr.bM,C.c9];split at hp
  .rename_i k es Q u;split at hp;simp_all;simp at hp;subst hp;obtain⟨T,L,O,e,rfl⟩:=c.kK u;cases e;cases k<;>first|grind|exact⟨_,rfl,.v _ _ (.same _ rfl)⟩
  grind
 .obtain⟨I,_,rfl,c,w⟩:=h.inv;obtain⟨S,_,rfl,D,C⟩:=w.inv;rw[D.fr.bM,C.c9];split at hp
  .rename_i k es Q u;split at hp;simp_all;simp at hp;subst hp;obtain⟨T,L,O,e,rfl⟩:=c.kK u;cases e;cases k<;>first|grind|exact⟨_,rfl,.v _ _ (.same _ rfl)⟩
  grind
 obtain⟨y,_,rfl,c,w⟩:=h.inv;rw[w.c9];split at hp;next J=>simp at hp;subst hp;obtain⟨ob,u⟩:=isSome_iff_exists.1 J;obtain⟨cs,rfl,rfl⟩:=c.qe u;exact⟨_,rfl,.ptr _ _ _ λG B=>Zac⟩
 grind;obtain⟨y,_,rfl,c,w⟩:=h.inv;rw[w.c9];split at hp;next J=>simp at hp;subst hp;obtain⟨ob,u⟩:=isSome_iff_exists.1 J;obtain⟨k,es,Q,rfl,f,rfl⟩:=c.zz u;exact⟨_,rfl,.el _ _ _ _ λG B=>by rw[u]at B;cases B;exact⟨_,_,_,rfl,f,rfl⟩⟩
 simp at hp;obtain⟨I,_,rfl,c,w⟩:=h.inv;obtain⟨S,_,rfl,D,C⟩:=w.inv;rw[D.fr.int,C.c9];split at hp;rename_i k es Q u;split at hp;rename_i g;obtain⟨f,rfl,q,U⟩:=g;simp at hp;subst hp;obtain⟨T,L,O,e,rfl⟩:=c.kK u;cases e;rw[ta f];refine⟨.hptr (ν _).1 ((ν _).2+_) 0,by simp only[bl,mH,if_neg (Int.not_lt.2 q),true_and,if_pos U];rfl,.el _ _ _ _ λG B=>?_⟩;rw[u]at B;cases B;exact⟨_,_,_,rfl,f,rfl⟩;simp at hp;simp at hp;obtain⟨I,_,rfl,c,w⟩:=h.inv;obtain⟨S,_,rfl,D,C⟩:=w.inv;rw[D.fr.int,C.c9];split at hp;rename_i g;simp at hp;subst hp;obtain⟨ob,u⟩:=isSome_iff_exists.1 g.2.2;obtain⟨cs,rfl,rfl⟩:=c.qe u;refine⟨.hptr (ν _).1 0 (_+_),by simp only[bl,yh,if_pos (And.intro g.1 g.2.1)];rfl,.ptr _ _ _ λG B=>?_⟩;rw[u]at B;cases B;exact⟨_,rfl,rfl⟩;simp at hp;obtain⟨I,_,rfl,c,w⟩:=h.inv;obtain⟨S,_,rfl,D,C⟩:=w.inv;rw[D.fr.int,C.c9];split at hp;rename_i g;simp at hp;subst hp;obtain⟨ob,u⟩:=isSome_iff_exists.1 g.2.2;obtain⟨k,es,Q,rfl,f,rfl⟩:=c.zz u;refine⟨.hptr (ν _).1 (_+_) (_+_),by simp only[bl,yh,if_pos (And.intro g.1 g.2.1)];rfl,.el _ _ _ _ λG B=>?_⟩;rw[u]at B;cases B;exact⟨_,_,_,rfl,f,rfl⟩;simp at hp;obtain⟨I,_,rfl,c,w⟩:=h.inv;rw[w.c9];split at hp;rename_i k es Q u;simp at hp;subst hp;obtain⟨T,L,O,e,rfl⟩:=c.kK u;cases e;have:=j _ _ u;simp[en]at this;cases f:k<;>simp[f,cO]at this⊢;subst this;exact⟨_,rfl,.v _ _ (.same _ rfl)⟩;subst this;exact⟨_,rfl,.v _ _ (.same _ rfl)⟩;exact⟨_,rfl,.v _ _ (.same _ rfl)⟩;exact⟨_,rfl,.v _ _ (.same _ rfl)⟩;simp at hp;rename_i vs name k;simp at hp;subst hp;exact⟨_,rfl,.clo _ _ _ _ _ (h.take k).1 (h.drop k).1 (h.take k).2 (h.drop k).2⟩;obtain⟨I,_,rfl,c,w⟩:=h.inv;rw[w.c9];obtain⟨r,rfl,W⟩:=c.qZ;obtain⟨z,s,X⟩:=W.get hp;exact⟨z,s,X⟩;rename_i vs zero pl;obtain⟨l,v,rfl⟩:=ζf.1 hp;obtain⟨x,c,w⟩:=Jd (cg.sB (dB.same (i zero pl rfl))) h v;exact⟨.agg x,by simp[Go.VE.bl,c],.agg _ _ w.1 w.2⟩;obtain⟨I,_,rfl,c,w⟩:=h.inv;rw[w.c9];obtain⟨r,rfl,W⟩:=c.jc;obtain⟨y,A,Y⟩:=JX W hp;exact⟨y,by simp[Go.VE.bl];exact A,Y⟩;grind
theorem JF{p:vL}{svs:L' SV}{ys:L' V}{sv:SV}(B:∀zero pl,p=.build zero pl->V.cE zero=true)(D:∀d ob,bh m d=some ob->en ν m H Z d ob)(h:cg ν m H Z svs ys)(hp:jJ N m p svs=some sv):
 ∃y,bl N p ys=some y/\dn ν m H Z sv y:=by
 unfold jJ at hp;split at hp
 next I u=>obtain⟨z,w,rfl⟩:=ζf.1 hp;rw[vJ u]at h;obtain⟨C,a,G⟩:=dB.bl B h.Yh w;exact⟨C,a,.v _ _ G⟩
 exact SG B D h hp
theorem cg.dy{svs:L' SV}{xs ys:L' V}(h:cg ν m H Z svs ys)(B:dy svs=some xs):dB H Z xs ys:=by rw[vJ B]at h;exact h.Yh
theorem C_{k:V}:∀{a b:L' (V×V)}{i:Nat},D4 H Z a b->(iK k a i=some none->iK k b i=some none)/\∀j v,iK k a i=some (some (j,v))->∃B,iK k b i=some (some (j,B))/\FR H Z v B
 |[],b,i,h=>by have:b=[]:=length_eq_zero_iff.1 (by have:=h.1;grind);subst this;exact⟨λh=>h,λj v h=>by simp[iK]at h⟩|(k1,x)::a,[],i,h=>by have:=h.1;grind|(k1,x)::a,(k2,y)::b,i,h=>by obtain⟨⟨e,_⟩,z⟩:=h.2 0 _ _ rfl rfl;subst e;have w:D4 H Z a b:=⟨by have:=h.1;grind,λj u v c d=>h.2 (j+1) u v Zac Zac⟩;have C:=C_ (i:=i+1) (k:=k) w;simp only[iK];grind
theorem wO{kk:yW}{k:V}(h:qD kk k=true):k.scalar=true:=by unfold qD at h;split at h;rfl;rfl;simp at h;obtain⟨a,u⟩:=isSome_iff_exists.1 h.2;exact sA u;grind
theorem xM{r:LC}{svs:L' SV}{ys:L' V}{sv:SV}(R:∀s a,r≠.loadF s a)(W:∀kk z ok,r=.lookup kk z ok->z.good=true)(h:cg ν m H Z svs ys)(q:∀d,SV.dK d svs=true->∀ob,bh m d=some ob->en ν m H Z d ob)(hp:oF m r svs=some sv):
 ∃y,eZ H r ys=some y/\dn ν m H Z sv y:=by
 unfold oF at hp;split at hp
 .
  obtain⟨X,_,rfl,b,J⟩:=h.inv;rw[J.c9];split at hp
  .rename_i cs u;obtain⟨am,e,rfl⟩:=b.qe u;obtain⟨es,an,f,n,_⟩:=q _ (by simp[SV.dK,SV.c6]) _ u
   obtain⟨y,hy,ae⟩:=JX n hp;refine⟨y,?_,ae⟩;simp[eZ,ey,f,Ob.rows,getElem?_cons_zero];omega
  grind
 .
  obtain⟨X,_,rfl,b,J⟩:=h.inv;rw[J.c9];split at hp
  .rename_i k es xs u;split at hp
   .rename_i cs Y;obtain⟨z,L,rfl⟩:=ζf.1 hp;obtain⟨k1,ao,ap,e,g,rfl⟩:=b.zz u;cases e;have:=q _ (by simp[SV.dK,SV.c6]) _ u
    simp[en,g]at this;obtain⟨rs,f,hl,B,_⟩:=this;obtain⟨c,n,af⟩:=B.get Y;have hj:=(ζe.1 Y).1;rw[getElem?_take,if_pos hj,getElem?_drop]at n;obtain⟨r1,w,C⟩:=ζg.1 L;obtain⟨r2,Q,D⟩:=af.cut w;obtain⟨o,S,F⟩:=D.mk C;refine⟨o,?_,.v _ _ F⟩;simp[eZ,ey,f,Ob.rows,n,Q,S]
   grind
  grind
 .
  rename_i size agg p;obtain⟨X,_,rfl,b,J⟩:=h.inv;rw[J.c9];obtain⟨z,L,rfl⟩:=ζf.1 hp;obtain⟨r1,w,C⟩:=ζg.1 L;unfold ey at w;split at w
  .rename_i cs;rcases b.fr.nh with rfl|⟨id,el,off,es,ys,ah,rfl,F,f,he,aq,B⟩
   .refine⟨z,by simp[eZ,ey,w,C],.v _ _ (.same _ ?_)⟩
    have ai:=by have:=b.fr.good;simpa[V.good]using this
    obtain⟨r',ar,D⟩:=(dB.same (H:=H) (Z:=Z) ai).cut w;obtain⟨o,S,G⟩:=D.mk C;exact G.good
   obtain⟨r2,Q,D⟩:=B.cut w;obtain⟨o,S,G⟩:=D.mk C;refine⟨o,?_,.v _ _ G⟩;unfold bq at f;simp[eZ,ey,f,he];have:cut ah off size=some r2:=by unfold cut at Q⊢;grind
   grind
  .grind
  grind
 .
  rename_i kk z ok d k;obtain⟨X,_,rfl,b,J⟩:=h.inv;obtain⟨K,_,rfl,t,A⟩:=J.inv;rw[A.c9];split at hp
  .rename_i T u;split at hp
   .rename_i g;obtain⟨_,e,rfl⟩:=b.Ff u;have U:=t.fr.scalar.1 (wO g);subst U;obtain⟨al,f,aj⟩:=q _ (by simp[SV.dK,SV.c6]) _ u
    obtain⟨f1,f2⟩:=C_ aj;split at hp
    .rename_i j v B;obtain⟨M,ak,N⟩:=f2 j v B;simp at hp;subst hp;refine⟨if ok=true then .tup [M,.bool true]else M,by simp[eZ,ny,f,g,ak],?_⟩
     cases ok
     .exact .v _ _ N
     refine .v _ _ (.tup _ _ rfl (dB.cons N (.cons (.same _ rfl) .nil)).2)
    .rename_i B;simp at hp;subst hp;refine⟨if ok=true then .tup [z,.bool false]else z,by simp[eZ,ny,f,g,f1 B],?_⟩
     have L:=W kk z ok rfl;cases ok
     .exact .v _ _ (.same _ L)
     exact .v _ _ (.same _ (by simp[V.good,V.cE,L]))
    grind
   grind
  grind
 .
  rename_i kk z ok p k;obtain⟨X,_,rfl,b,J⟩:=h.inv;obtain⟨K,_,rfl,t,A⟩:=J.inv;rw[A.c9];obtain⟨x,I,rfl⟩:=ζf.1 hp;simp[eZ]at I;have L:=W kk z ok rfl;split at I
  .rename_i T O;have key:ny H X=some T/\V.ud T=true:=by
    unfold ny at O;split at O
    .rw[b.fr.gD];simp at O;subst O;exact⟨rfl,rfl⟩
    .rw[b.fr.fmap];simp at O;subst O;exact⟨rfl,by have:=b.fr.good;simpa[V.good]using this⟩
    .simp at O
    simp at O
   split at I
   .rename_i g;have U:=t.fr.scalar.1 (wO g);subst U;split at I
    .rename_i j v B;simp at I;subst I;have P:=by
      have:∀{l:L' (V×V)}{i:Nat},V.ud l=true->iK K l i=some (some (j,v))->v.good=true:=by intro l;induction l with|nil=>intro i _ h;simp[iK]at h|cons p l ih=>intro i E h;simp[V.ud]at E;simp[iK]at h;split at h;obtain⟨_,rfl⟩:=h;exact E.1.2;exact ih E.2 h;simp at h
      exact this key.2 B
     refine⟨if ok=true then .tup [v,.bool true]else v,by simp[eZ,key.1,g,B],?_⟩
     cases ok
     .exact .v _ _ (.same _ P)
     exact .v _ _ (.same _ (by simp[V.good,V.cE,P]))
    .rename_i B;simp at I;subst I;refine⟨if ok=true then .tup [z,.bool false]else z,by simp[eZ,key.1,g,B],?_⟩
     cases ok
     .exact .v _ _ (.same _ L)
     exact .v _ _ (.same _ (by simp[V.good,V.cE,L]))
    simp at I
   simp at I
  simp at I
 .exact absurd rfl (R _ _)
 grind
end
section
variable{Rv:Nat->Prop}{ν ν':Nu}{Z Z':Nat->Prop}{st st':St}{m m':Tb bJ}{F F':Frame}{H H':bn}
theorem R.lt(r:R ν Z st F H){id:Nat}(h:fS ν st.m id):id<H.length:=by obtain⟨d,ob,b,u,rfl⟩:=h;have:=r.obj d ob b;cases ob with|sl k es C=>simp only[cD]at u;simp only[en,u,if_true]at this;obtain⟨D,a,_⟩:=this;exact(ζe.1 a).1|box cs=>obtain⟨es,z,a,_⟩:=this;exact(ζe.1 a).1|mp B=>obtain⟨w,a,_⟩:=this;exact(ζe.1 a).1
theorem R.xq(r:R ν Z st F H){id:Nat}(h:Z id):id<H.length:=by have:=r.zrow id h;unfold bq at this;obtain⟨x,u⟩:=isSome_iff_exists.1 this;obtain⟨ob,a,_⟩:=ζg.1 u;exact(ζe.1 a).1
theorem Deep.mono(d:Deep H Z)(h:∀id,Z id->bq H' id=bq H id):Deep H' Z where
 row:=λid es z w hr c hc u hu=>by rw[h id w]at hr;obtain⟨x,B⟩:=d.row id es z w hr c hc u hu;exact⟨x,B.mono λk a=>⟨a,h k a⟩⟩
theorem wR.mono{ys:L' (L' V)}(h:∀id,Z id->Z' id/\bq H' id=bq H id)(s:wR H Z ys):wR H' Z' ys:=λc a u b=>by obtain⟨x,w⟩:=s c a u b;exact⟨x,w.mono h⟩
theorem D4.mono{a b:L' (V×V)}(h:∀id,Z id->Z' id/\bq H' id=bq H id)(s:D4 H Z a b):D4 H' Z' a b:=⟨s.1,λj u v c d=>⟨(s.2 j u v c d).1,(s.2 j u v c d).2.mono h⟩⟩
theorem en.mono{d G:Nat}{ob:bJ}(B:∀id,Z id->Z' id/\bq H' id=bq H id)(hd:ν' G=ν d)(D:cD ob=true->H'[(ν d).1]?=H[(ν d).1]?)
 (J:∀e,ob.c6 e=true->∀ob',bh m' e=some ob'->∃ob,bh m e=some ob/\ν' e=ν e/\sameShape ob ob')(o:en ν m H Z d ob):en ν' m' H' Z' G ob:=by
 cases ob with
 |sl k es S=>
  simp only[en,hd]at o⊢;split
  next b=>rw[if_pos b]at o;obtain⟨I,a,u,z,L,O⟩:=o;exact⟨I,by rw[D (by simpa[cD]using b)];exact a,u,z.mono B,L.mono B,O⟩
  rename_i b;rw[if_neg b]at o;exact o
 |box cs=>obtain⟨es,C,a,u,z⟩:=o;exact⟨es,C,by rw[hd,D rfl];exact a,u.mono B J,z⟩|mp Q=>obtain⟨w,a,u⟩:=o;exact⟨w,by rw[hd,D rfl];exact a,u.mono B⟩
theorem jm(ν:Nu)(m:Tb bJ)(e:Nat):∀ob',bh m e=some ob'->∃ob,bh m e=some ob/\ν e=ν e/\sameShape ob ob':=λob' h=>⟨ob',h,rfl,.refl _⟩
theorem R.heap(r:R ν Z st F H)(D:∀id,fS ν st.m id->H'[id]?=H[id]?)(B:∀id,Z id->bq H' id=bq H id):R ν Z st F H' where
 slot:=λs u w=>(r.slot s u w).mono (λid h=>⟨h,B id h⟩) λd _=>jm ν st.m d
 obj:=λd ob hd=>en.mono (λid h=>⟨h,B id h⟩) rfl (λz=>D _ ⟨d,ob,hd,z,rfl⟩) (λe _=>jm ν st.m e) (r.obj d ob hd)
 inj:=r.inj
 apart:=r.apart
 zrow:=λid h=>by rw[B id h];exact r.zrow id h
 deep:=r.deep.mono B
theorem R.put(r:R ν Z st F H){d:Nat}{sv:SV}{y:V}(h:dn ν st.m H Z sv y):R ν Z {st with g:=bN st.g d sv} (set F d y) H where
 slot:=λs x u=>by by_cases e:d=s;subst e;rw[cI]at u;cases u;rw[ug];exact h;rw[dW st.g sv e]at u;rw[iF _ _ e];exact r.slot s x u
 obj:=r.obj
 inj:=r.inj
 apart:=r.apart
 zrow:=r.zrow
 deep:=r.deep
theorem Ev.slots(g:Tb SV):Ev Rv ν Z st H ν Z {st with g:=g} H:=⟨le_refl _,λ_ _ _ _ _=>rfl,λ_ h=>⟨h,rfl⟩,λ_ h=>.inl h,λ_ h=>.inl h,λ_ _ u h=>⟨u,h,rfl,.refl _⟩,rfl⟩
def jf(ν:Nu)(d:Nat)(p:Nat×Nat):Nu:=λk=>if k=d then p else ν k
theorem iw(ν:Nu)(d:Nat)(p:Nat×Nat):jf ν d p d=p:=if_pos rfl
theorem qd(ν:Nu){d k:Nat}(p:Nat×Nat)(h:k≠d):jf ν d p k=ν k:=if_neg h
theorem nu{d:Nat}(h:st.new d=true):d∉st.pin/\bh st.m d=none/\wJ d st.g=false/\tM d st.m=false:=by unfold St.new at h;simp only[ζh,not_eq_true',Option.isNone_iff_eq_none,List.contains_eq_mem,decide_eq_false_iff_not]at h;exact⟨h.1.1.1,h.1.1.2,h.1.2,h.2⟩
theorem uC{d:Nat}{ob:bJ}{p:Nat×Nat}{e:Nat}(h:e≠d):∀ob',bh (bN m d ob) e=some ob'->∃ob,bh m e=some ob/\jf ν d p e=ν e/\sameShape ob ob':=λob' u=>by rw[dW m ob (Ne.symm h)]at u;exact⟨ob',u,qd ν p h,.refl _⟩
theorem R.add(r:R ν Z st F H){d:Nat}(U:st.new d=true){ob:bJ}{p:Nat×Nat}(G:cD ob=true->¬fS ν st.m p.1/\¬Z p.1)(W:en (jf ν d p) (bN st.m d ob) H Z d ob):
 R (jf ν d p) Z {st with m:=bN st.m d ob} F H:=by
 obtain⟨T,X,O,Q⟩:=nu U;have key:∀w u,bh (bN st.m d ob) w=some u->w≠d->bh st.m w=some u:=λw u h e=>by rw[dW st.m ob (Ne.symm e)]at h;exact h
 refine⟨λs S J=>?_,λw u hd=>?_,?_,?_,r.zrow,r.deep⟩
 .refine(r.slot s S J).mono (λid h=>⟨h,rfl⟩) λe L=>uC ?_
  rintro rfl;rw[Ao O J]at L;cases L
 .by_cases e:w=d
  .subst e;simp only at hd;rw[cI]at hd;cases hd;exact W
  have C:=key w u hd e;refine en.mono (λid h=>⟨h,rfl⟩) (qd ν p e) (λ_=>rfl) (λk c=>uC ?_) (r.obj w u C)
  rintro rfl;rw[zV Q C]at c;cases c
 .intro b d2 o1 o2 a D z I B
  by_cases e1:b=d<;>by_cases e2:d2=d
  .rw[e1,e2]
  .subst e1;rw[iw,qd ν p e2]at B;simp only at a;rw[cI]at a;cases a;exact absurd ⟨d2,o2,key d2 o2 D e2,I,B.symm⟩ (G z).1
  .subst e2;rw[iw,qd ν p e1]at B;simp only at D;rw[cI]at D;cases D;exact absurd ⟨b,o1,key b o1 a e1,z,B⟩ (G I).1
  rw[qd ν p e1,qd ν p e2]at B;exact r.inj b d2 o1 o2 (key b o1 a e1) (key d2 o2 D e2) z I B
 intro b o1 a z
 by_cases e1:b=d
 .subst e1;simp only at a;rw[cI]at a;cases a;rw[iw];exact(G z).2
 rw[qd ν p e1];exact r.apart b o1 (key b o1 a e1) z
theorem FV{d:Nat}{ob:bJ}{p:Nat×Nat}{id:Nat}(h:fS (jf ν d p) (bN m d ob) id):fS ν m id\/(cD ob=true/\id=p.1):=by obtain⟨k,o,a,w,u⟩:=h;by_cases e:k=d;subst e;rw[cI]at a;cases a;rw[iw]at u;exact .inr ⟨w,u.symm⟩;rw[qd ν p e]at u;rw[dW m ob (Ne.symm e)]at a;exact .inl ⟨k,o,a,w,u⟩
theorem Ev.add{d:Nat}(B:st.new d=true){ob:bJ}{p:Nat×Nat}(D:H.length<=H'.length)(G:∀id,id<H.length->¬Rv id->H'[id]?=H[id]?)(J:∀id,Z id->bq H' id=bq H id)
 (hp:cD ob=true->Rv p.1\/H.length<=p.1):Ev Rv ν Z st H (jf ν d p) Z {st with m:=bN st.m d ob} H' where
 len:=D
 same:=λid h _ _ hr=>G id h hr
 rows:=λid h=>⟨h,J id h⟩
 own:=λid h=>by rcases FV h with h|⟨a,rfl⟩;exact .inl h;exact .inr (hp a)
 frz:=λid h=>.inl h
 pin:=λe w u h=>by
  have:e≠d:=by rintro rfl;exact(nu B).1 w
  exact uC this u h
 pins:=rfl
theorem R.gZ(r:R ν Z st F H){d:Nat}{ob ob':bJ}(b:bh st.m d=some ob)(D:sameShape ob ob')(W:cD ob'=cD ob)(U:∀id,id≠(ν d).1->H'[id]?=H[id]?)(B:cD ob=true)
 (Y:en ν (bN st.m d ob') H' Z d ob'):R ν Z {st with m:=bN st.m d ob'} F H':=by
 have z:∀id,Z id->Z id/\bq H' id=bq H id:=λid h=>⟨h,by
  unfold bq;rw[U id (by rintro rfl;exact r.apart d ob b B h)]⟩
 have f:∀e u,bh (bN st.m d ob') e=some u->∃w,bh st.m e=some w/\ν e=ν e/\sameShape w u:=λe u h=>by by_cases k:e=d;subst k;rw[cI]at h;cases h;exact⟨ob,b,rfl,D⟩;rw[dW st.m ob' (Ne.symm k)]at h;exact⟨u,h,rfl,.refl _⟩
 have C:∀e u,bh (bN st.m d ob') e=some u->∃w,bh st.m e=some w/\cD w=cD u:=λe u h=>by by_cases k:e=d;subst k;rw[cI]at h;cases h;exact⟨ob,b,W.symm⟩;rw[dW st.m ob' (Ne.symm k)]at h;exact⟨u,h,rfl⟩
 refine⟨λs O D=>(r.slot s O D).mono z λe _=>f e,λG u hd=>?_,?_,?_,λid h=>by rw[(z id h).2];exact r.zrow id h,r.deep.mono λid h=>(z id h).2⟩
 .by_cases e:G=d
  .subst e;simp only at hd;rw[cI]at hd;cases hd;exact Y
  simp only at hd;rw[dW st.m ob' (Ne.symm e)]at hd;refine en.mono z rfl (λI=>U _ λh=>e (r.inj G d u ob hd b I B h)) (λk _=>f k) (r.obj G u hd)
 .intro a d2 o1 o2 c Q J S T;obtain⟨p1,k1,L⟩:=C a o1 c;obtain⟨p2,k2,X⟩:=C d2 o2 Q;exact r.inj a d2 p1 p2 k1 k2 (by rw[L];exact J) (by rw[X];exact S) T
 intro a o1 c J;obtain⟨p1,k1,L⟩:=C a o1 c;exact r.apart a p1 k1 (by rw[L];exact J)
theorem Ev.gZ(r:R ν Z st F H){d:Nat}{ob ob':bJ}(a:bh st.m d=some ob)(G:sameShape ob ob')(U:cD ob'=cD ob)(D:∀id,id≠(ν d).1->H'[id]?=H[id]?)(B:cD ob=true)(J:H.length<=H'.length):
 Ev Rv ν Z st H ν Z {st with m:=bN st.m d ob'} H' where
 len:=J
 same:=λid _ z _ _=>D id λe=>z ⟨d,ob,a,B,e.symm⟩
 rows:=λid h=>⟨h,by unfold bq;rw[D id (by rintro rfl;exact r.apart d ob a B h)]⟩
 own:=λid⟨k,o,h1,C,w⟩=>by by_cases e:k=d;subst e;simp only at h1;rw[cI]at h1;cases h1;exact .inl ⟨k,ob,a,B,w⟩;simp only at h1;rw[dW st.m ob' (Ne.symm e)]at h1;exact .inl ⟨k,o,h1,C,w⟩
 frz:=λid h=>.inl h
 pin:=λe _ u h=>by by_cases k:e=d;subst k;simp only at h;rw[cI]at h;cases h;exact⟨ob,a,rfl,G⟩;simp only at h;rw[dW st.m ob' (Ne.symm k)]at h;exact⟨u,h,rfl,.refl _⟩
 pins:=rfl
theorem R.less(r:R ν Z st F H){g:Tb SV}{m':Tb bJ}(a:∀s sv,bh g s=some sv->bh st.g s=some sv)(B:∀d ob,bh m' d=some ob->bh st.m d=some ob):R ν Z {st with g:=g,m:=m'} F H where
 slot:=λs sv z=>(r.slot s sv (a s sv z)).mono (λid h=>⟨h,rfl⟩) λe _ u h=>⟨u,B e u h,rfl,.refl _⟩
 obj:=λd ob hd=>en.mono (λid h=>⟨h,rfl⟩) rfl (λ_=>rfl) (λe _ u h=>⟨u,B e u h,rfl,.refl _⟩) (r.obj d ob (B d ob hd))
 inj:=λd w ob u b C=>r.inj d w ob u (B d ob b) (B w u C)
 apart:=λd ob h=>r.apart d ob (B d ob h)
 zrow:=r.zrow
 deep:=r.deep
theorem Ev.less{g:Tb SV}{m':Tb bJ}(B:∀d ob,bh m' d=some ob->bh st.m d=some ob):Ev Rv ν Z st H ν Z {st with g:=g,m:=m'} H:=⟨le_refl _,λ_ _ _ _ _=>rfl,λ_ h=>⟨h,rfl⟩,λ_⟨d,ob,a,w,z⟩=>.inl ⟨d,ob,B d ob a,w,z⟩,λ_ h=>.inl h,λe _ u h=>⟨u,B e u h,rfl,.refl _⟩,rfl⟩
theorem Ev.heap(B:H.length<=H'.length)(D:∀id,id<H.length->¬fS ν st.m id->¬Z id->¬Rv id->H'[id]?=H[id]?)(G:∀id,Z id->bq H' id=bq H id):Ev Rv ν Z st H ν Z st H':=⟨B,D,λid h=>⟨h,G id h⟩,λ_ h=>.inl h,λ_ h=>.inl h,λ_ _ u h=>⟨u,h,rfl,.refl _⟩,rfl⟩
end
section
variable{Rv:Nat->Prop}{ν ν':Nu}{Z Z':Nat->Prop}{st st':St}{m m':Tb bJ}{F F':Frame}{H H':bn}
theorem gH.Ir{xs ys:L' (L' V)}(h:gH H Z xs ys):wR H Z ys:=λc b u d=>by
 obtain⟨i,hi⟩:=mem_iff_getElem?.1 b;have z:i<xs.length:=by rw[h.1];grind
 have a:=h.2 i _ c (ζd z) hi;obtain⟨j,B⟩:=mem_iff_getElem?.1 d;have w:j<(xs[i]).length:=by rw[a.1];grind
 exact⟨_,a.2 j _ u (ζd w) B⟩
theorem gH.same{xs:L' (L' V)}(h:V.nW xs=true):gH H Z xs xs:=⟨rfl,λj u v a b=>by rw[a]at b;cases b;exact dB.same (lE.1 h j u a)⟩
theorem pF{z:L' V}(h:V.cE z=true):∀n,V.nW (replicate n z)=true
 |0=>rfl|n+1=>by simp[List.replicate_succ,V.nW,h,pF h n]
theorem CC{es:Nat}:∀{ps qs:L' (Nat×V)}{xs B r:L' (L' V)},gH H Z xs B->ps.map (·.1)=qs.map (·.1)->dB H Z (ps.map (·.2)) (qs.map (·.2))->fG es xs ps=some r->∃G,fG es B qs=some G/\gH H Z r G
 |[],qs,xs,B,r,D,a,J,h=>by
  have:qs=[]:=by simp_all
  subst this;simp[fG]at h⊢;grind
 |(i,v)::ps,qs,xs,B,r,D,a,J,h=>by cases qs with|nil=>simp_all|cons q qs=>obtain⟨j,w⟩:=q;simp at a;obtain⟨e,a⟩:=a;subst e;obtain⟨w',C,e,u,z⟩:=J.inv;obtain⟨rfl,rfl⟩:=e;have b:=u.cells;simp only[fG]at h⊢;split at h;rw[if_pos ⟨by rw[<-b.1];grind,by rw[<-D.1];grind,by rw[b.one];grind⟩];exact CC (D.set i b) a z h;grind
theorem zip_fst:∀{idx:L' Nat}{xs:L' V},idx.length=xs.length->(idx.zip xs).map (·.1)=idx
 |[],xs,_=>Zab|i::idx,[],h=>by simp_all|i::idx,x::xs,h=>by simp[zip_fst (idx:=idx) (xs:=xs) Zac]
theorem Fq:∀{idx:L' Nat}{xs:L' V},idx.length=xs.length->(idx.zip xs).map (·.2)=xs
 |[],[],_=>Zab|[],x::xs,h=>by simp_all|i::idx,[],h=>by simp_all|i::idx,x::xs,h=>by simp[Fq (idx:=idx) (xs:=xs) Zac]
theorem Py{a:Qk}{svs:L' SV}{ys:L' V}{d:Nat}{ob:bJ}{sv:SV}(b:B3 (.a a)=true)(r:cg ν m H Z svs ys)(h:oP m a svs d=some (ob,sv)):
 ∃o mk,iM a ys=some (o,mk)/\cD ob=true/\o≠.free/\∀(id:Nat)(ν':Nu)(m':Tb bJ)(H':bn),ν' d=(id,0)->bh m' d=some ob->H'[id]?=some o->(∀k,Z k->bq H' k=bq H k)->
  (∀e,SV.dK e svs=true->∀ob',bh m' e=some ob'->∃ob,bh m e=some ob/\ν' e=ν e/\sameShape ob ob')->en ν' m' H' Z d ob/\dn ν' m' H' Z sv (mk.val id):=by
 unfold oP at h;split at h
 .
  rename_i size zero;obtain⟨rfl,rfl⟩:=h;rw[r.c9];simp only[B3,ζh]at b;refine⟨_,_,rfl,rfl,Zab,λid ν' m' H' e1 e2 e3 e4 e5=>⟨⟨_,zero,by rw[e1];omega,cg.sB (dB.same b.1),b.2⟩,?_⟩⟩
  exact .ptr _ _ _ λob' u=>by rw[e2]at u;cases u;exact⟨_,rfl,by rw[e1];rfl⟩
 .
  split at h
  .rename_i C;obtain⟨rfl,rfl⟩:=h;obtain⟨y,_,rfl,g,B⟩:=r.inv;rw[B.c9];have i:=g.fr.cells;refine⟨.row y.cells.length [y.cells],.ptr,by simp[iM,i.one,C],rfl,Zab,λid ν' m' H' e1 e2 e3 e4 e5=>⟨⟨_,y.cells,by rw[e1];omega,cg.sB (i.mono λk b=>⟨b,e4 k b⟩),by rw[i.one];simp_all⟩,?_⟩⟩
   exact .ptr _ _ _ λob' u=>by rw[e2]at u;cases u;exact⟨_,rfl,by rw[e1];rfl⟩
  grind
 .
  split at h
  .rename_i z;obtain⟨rfl,rfl⟩:=h;obtain⟨y,_,rfl,g,B⟩:=r.inv;rw[B.c9];obtain⟨O,rfl,U⟩:=g.jc;have J:=G4 z U;refine⟨.row O.length [O],.ptr,by simp[iM,V.cells,J],rfl,Zab,λid ν' m' H' e1 e2 e3 e4 e5=>⟨⟨_,O,by rw[e1];omega,U.mono (λk b=>⟨b,e4 k b⟩) λe Q=>e5 e (by simp[SV.dK,SV.c6,Q]),J⟩,?_⟩⟩
   exact .ptr _ _ _ λob' u=>by rw[e2]at u;cases u;exact⟨_,rfl,by rw[e1];rfl⟩
  grind
 .
  split at h
  .rename_i z;obtain⟨rfl,rfl⟩:=h;obtain⟨y,_,rfl,g,B⟩:=r.inv;rw[B.c9];obtain⟨W,J⟩:=mK z g;refine⟨.row [y].length [[y]],.ptr,by simp[iM,W,J],rfl,Zab,λid ν' m' H' e1 e2 e3 e4 e5=>⟨⟨_,[y],by rw[e1];omega,.cons (g.mono (λk b=>⟨b,e4 k b⟩) λe Q=>e5 e (by simp[SV.dK,Q])) .nil,by simp_all⟩,?_⟩⟩
   exact .ptr _ _ _ λob' u=>by rw[e2]at u;cases u;exact⟨_,rfl,by rw[e1];rfl⟩
  grind
 .
  rename_i size zero k n q c;obtain⟨_,_,rfl,g,B⟩:=r.inv;obtain⟨_,_,rfl,X,Y⟩:=B.inv;rw[g.fr.int,X.fr.int,Y.c9];split at h
  .rename_i i;obtain⟨rfl,rfl⟩:=h;have S:cO (if n=c then Fl.row else Fl.part)=true:=by split<;>rfl
   refine⟨_,_,by simp only[iM];rw[if_pos i],S,Zab,λid ν' m' H' e1 e2 e3 e4 e5=>⟨?_,?_⟩⟩
   .simp[en,S,e1];have j:=pF b c.toNat;have T:n.toNat<=c.toNat:=by omega
    refine⟨_,e3,by simp_all,?_,(gH.same j).Ir,λe=>?_⟩
    .simp[Nat.min_eq_left T];exact gH.same (pF b _)
    grind
   refine .own _ _ λob' u=>?_
   rw[e2]at u;cases u;exact⟨_,_,_,rfl,by rw[ta S,e1];simp[Mk.val]⟩
  grind
 .
  rename_i vs size len zero idx;split at h
  .rename_i xs hx;split at h
   .rename_i z;obtain⟨rows,l,e⟩:=ζf.1 h;obtain⟨rfl,rfl⟩:=e;have L:=r.dy hx;obtain⟨f,D,w⟩:=CC (qs:=idx.zip ys) (gH.same (pF b len)) (by rw[zip_fst z,zip_fst (by rw[<-L.1];exact z)]) (by rw[Fq z,Fq (by rw[<-L.1];exact z)];exact L) l
    have G:f.length=len:=by have:∀{ps:L' (Nat×V)}{a r:L' (L' V)},fG size a ps=some r->r.length=a.length:=(by intro ps;induction ps with|nil=>intro a r h;simp[fG]at h;subst h;rfl|cons p ps ih=>intro a r h;simp only[fG]at h;split at h;rw[ih h];simp;simp at h);rw[this D];simp
    refine⟨.row size f,.sl size len,by simp only[iM];rw[if_pos (by rw[<-L.1];exact z),D];rfl,rfl,Zab,λid ν' m' H' e1 e2 e3 e4 e5=>⟨?_,?_⟩⟩
    .have I:=w.mono λk b=>⟨b,e4 k b⟩
     simp only[en,e1];refine⟨_,e3,by simp[w.1],?_,I.Ir,λ_=>⟨trivial,w.1.symm⟩⟩
     simp[w.1];exact I
    refine .own _ _ λob' u=>?_
    rw[e2]at u;cases u;exact⟨_,_,_,rfl,by rw[w.1,G];simp[tn,e1,Mk.val]⟩
   grind
  grind
 .
  obtain⟨rfl,rfl⟩:=h;rw[r.c9];refine⟨_,_,rfl,rfl,Zab,λid ν' m' H' e1 e2 e3 e4 e5=>⟨⟨_,by rw[e1];exact e3,rfl,Zab⟩,?_⟩⟩
  exact .mp _ _ λob' u=>by rw[e2]at u;cases u;exact⟨_,rfl,by rw[e1];rfl⟩
 grind
theorem cg.XM{cs:L' SV}{B:L' V}(h:cg ν m H Z cs B){size o:Nat}{x:SV}{y:V}{r:L' SV}(G:dn ν m H Z x y)(hp:putCells m size o x cs=some r)(D:B.all V.one=true):
 y.cells.length=size/\o+size<=B.length/\y.cells.all V.one=true/\cg ν m H Z r (B.take o++y.cells++B.drop (o+y.cells.length))/\(B.take o++y.cells++B.drop (o+y.cells.length)).all V.one=true:=by
 have u:∀k:Nat,(B.take k).all V.one=true/\(B.drop k).all V.one=true:=λk=>⟨all_eq_true.2 λz C=>all_eq_true.1 D z (List.mem_of_mem_take C),all_eq_true.2 λz C=>all_eq_true.1 D z (mem_of_mem_drop C)⟩
 unfold putCells at hp;split at hp
 .split at hp
  .rename_i hc;simp only[ζa]at hp;subst hp;have w:=G.fr.cells;refine⟨by rw[<-w.1];simp_all,by rw[<-h.1];grind,by rw[w.one];grind,?_,?_⟩
   .have e:y.cells.length=size:=by rw[<-w.1];simp_all
    rw[e];exact((h.take o).append (cg.sB w)).append (h.drop _)
   simp only[List.all_append,(u _).1,(u _).2,w.one,hc.2.2,Bool.and_self]
  grind
 .split at hp
  .rename_i hc;simp only[ζa]at hp;subst hp;obtain⟨I,rfl,J⟩:=G.jc;have L:=G4 hc.2.2 J;have e:I.length=size:=by rw[<-J.1];simp_all
   refine⟨e,by rw[<-h.1];grind,L,?_,?_⟩
   .show cg ν m H Z _ (B.take o++I++B.drop (o+I.length));rw[e];exact((h.take o).append J).append (h.drop _)
   simp[(u _).1,(u _).2,V.cells,L]
  grind
 split at hp
 .rename_i hc;simp only[ζa]at hp;subst hp;obtain⟨O,Q⟩:=mK hc.1 G;rw[O];refine⟨by simp[hc.2.1],by rw[<-h.1];grind,by simp_all,?_,?_⟩
  .exact((h.take o).append (.cons G .nil)).append (h.drop _)
  grind
 grind
theorem vt{size:Nat}{x:SV}{y:V}{xs:L' (L' V)}(r:dn ν m H Z x y)(D:∀d ob,bh m d=some ob->en ν m H Z d ob)(h:jA m size x=some xs):∃ys,dM H size y=some ys/\gH H Z xs ys:=by
 unfold jA at h;split at h;split at h;rename_i k es z u;obtain⟨_,_,_,e,rfl⟩:=r.kK u;cases e;have o:=D _ _ u;simp[en]at o;split at h;rename_i a;rw[if_pos a]at o;split at h;next w=>simp at h;subst h;obtain⟨ys,b,B,C,_⟩:=o;rw[ta a];exact⟨_,by simp[dM,if_pos w,b,Ob.rows,if_pos B],C⟩
 grind;rename_i a;simp at h;subst h;refine⟨[],?_,rfl,Zab⟩;cases k<;>simp[cO]at a<;>rfl;grind;simp at h;subst h;rw[r.fr.bM];exact⟨[],rfl,rfl,Zab⟩;simp at h;subst h;rw[r.fr.dL];exact⟨[],rfl,rfl,Zab⟩;split at h;rename_i es z w;simp at h;subst h;have c:=r.fr.good;rcases r.fr.mV with rfl|⟨id,off,ys,rfl,G,b,B,C⟩;exact⟨_,by simp[dM,if_pos w],gH.same (by simpa[V.good]using c)⟩;unfold bq at b;exact⟨_,by simp[dM,if_pos w,b,if_pos B],C⟩;grind;grind
theorem Ev.re{m1:Tb bJ}(B:∀d ob,bh m1 d=some ob->bh st.m d=some ob){d:Nat}(U:d∉st.pin){ob:bJ}{p:Nat×Nat}(D:H.length<=H'.length)(G:∀id,id<H.length->¬fS ν st.m id->¬Rv id->H'[id]?=H[id]?)
 (J:∀id,Z id->bq H' id=bq H id)(hp:cD ob=true->fS ν st.m p.1\/Rv p.1\/H.length<=p.1):Ev Rv ν Z st H (jf ν d p) Z {st with m:=bN m1 d ob} H' where
 len:=D
 same:=λid h C _ hr=>G id h C hr
 rows:=λid h=>⟨h,J id h⟩
 own:=λid h=>by rcases FV h with h|⟨a,rfl⟩;obtain⟨k,o,a,w,z⟩:=h;exact .inl ⟨k,o,B k o a,w,z⟩;grind
 frz:=λid h=>.inl h
 pin:=λe I u h=>by have:e≠d:=Zac;obtain⟨o,a,w,z⟩:=uC (ν:=ν) (p:=p) this u h;grind
 pins:=rfl
def Kept(dst:Lk Nat)(ν:Nu)(m:Tb bJ)(ν':Nu)(m':Tb bJ):Prop:=∀e u,dst≠some e->bh m' e=some u->∃ob,bh m e=some ob/\ν' e=ν e/\sameShape ob u
theorem Kept.refl{dst:Lk Nat}:Kept dst ν m ν m:=λe u _ h=>⟨u,h,rfl,.refl _⟩
theorem Kept.gZ{dst:Lk Nat}{d:Nat}{ob ob':bJ}(a:bh m d=some ob)(B:sameShape ob ob'):Kept dst ν m ν (bN m d ob'):=λe u _ h=>by by_cases k:e=d;subst k;rw[cI]at h;grind;rw[dW m ob' (Ne.symm k)]at h;exact⟨u,h,rfl,.refl _⟩
theorem Kept.add{d:Nat}{ob:bJ}{p:Nat×Nat}{m1:Tb bJ}(B:∀d ob,bh m1 d=some ob->bh m d=some ob):Kept (some d) ν m (jf ν d p) (bN m1 d ob):=λe u w h=>by have:e≠d:=λh=>w (by rw[h]);obtain⟨o,a,z,C⟩:=uC (ν:=ν) (p:=p) this u h;grind
theorem lg{d:Nat}:∀e ob,bh (eo d m) e=some ob->bh m e=some ob:=λ_ _ h=>(pe h).2
theorem D4.put{k x y:V}{a b r:L' (V×V)}(G:k.scalar=true)(h:D4 H Z a b)(J:FR H Z x y)(hp:qU k x a=some r):∃D,qU k y b=some D/\D4 H Z r D:=by unfold qU at hp;obtain⟨f,d⟩:=C_ h;split at hp;rename_i j v C;simp at hp;subst hp;obtain⟨I,B,_⟩:=d j v C;refine⟨b.set j (k,y),by unfold qU;rw[B],by simp[h.1],λi u w c z=>?_⟩;rw[getElem?_set]at c z;split at c;grind;rename_i e;rw[if_neg e]at z;exact h.2 i u w c z;simp at hp;subst hp;refine⟨b++[(k,y)],by unfold qU;simp_all,by simp[h.1],λi u w c z=>?_⟩;by_cases hi:i<a.length;rw[getElem?_append_left hi]at c;rw[getElem?_append_left (by rw[<-h.1];omega)]at z;exact h.2 i u w c z;rw[getElem?_append_right (by rw[<-h.1];omega),<-h.1]at z;grind;grind
theorem Mz(r:R ν Z st F H){d:Nat}{cs:L' SV}(B:bh st.m d=some (.box cs)):∀{l:L' SV}{D:L' V},cg ν st.m H Z l D->l.all (Nj st.m d)=true->D.all (rX (ν d).1)=true:=by
 intro l;induction l with|nil=>intro D C _;rw[C.c9];rfl|cons a l O=>
  intro D C G;obtain⟨w,D,rfl,g1,g2⟩:=C.inv;simp only[all_cons,ζh]at G⊢;refine⟨?_,O g2 G.2⟩;have u:=G.1;unfold Nj at u;split at u;rename_i Q T;simp at u;obtain⟨I,J⟩:=u;split at J;next S z=>obtain⟨_,_,rfl⟩:=g1.qe z;simp[rX];exactλe=>I (r.inj Q d _ _ z B rfl rfl e)
  grind;rcases FR.nh g1.fr with rfl|⟨id,el,off,_,_,_,rfl,L,_⟩;rfl;simp[rX];rintro rfl;exact r.apart d _ B rfl L;grind
theorem DN(r:R ν Z st F H){dst:Lk Nat}{l:LY}{svs:L' SV}{ys:L' V}{sv:SV}(U:cg ν st.m H Z svs ys)(h:nY st dst l svs=some (sv,st')):
 ∃y H' ν',fE H l ys=some (y,H')/\R ν' Z st' F H'/\dn ν' st'.m H' Z sv y/\Ev (λ_=>False) ν Z st H ν' Z st' H'/\Kept dst ν st.m ν' st'.m:=by
 unfold nY at h;split at h
 .
  rename_i size d o x;obtain⟨_,_,rfl,a,p⟩:=U.inv;obtain⟨y,_,rfl,n,q⟩:=p.inv;rw[q.c9];split at h
  .rename_i cs B;obtain⟨au,hp,e⟩:=ζf.1 h;obtain⟨rfl,rfl⟩:=e;obtain⟨_,_,rfl⟩:=a.qe B;obtain⟨es,G,f,g,T⟩:=r.obj d _ B;obtain⟨p1,p2,p3,p4,p5⟩:=cg.XM g n hp T;have J:∀id,id≠(ν d).1->(H.set (ν d).1 (.row es [G.take o++y.cells++G.drop (o+y.cells.length)]))[id]?=H[id]?:=λid I=>by grind
   have D:∀id,Z id->Z id/\bq (H.set (ν d).1 (.row es [G.take o++y.cells++G.drop (o+y.cells.length)])) id=bq H id:=λid D=>⟨D,by
    unfold bq;rw[J id (by rintro rfl;exact r.apart d _ B rfl D)]⟩
   refine⟨.undef,H.set (ν d).1 (.row es [G.take o++y.cells++G.drop (o+y.cells.length)]),ν,?_,?_,.v _ _ (.same _ rfl),Ev.gZ r B trivial rfl J rfl Zab,Kept.gZ B trivial⟩
   .simp only[fE,f,getElem?_cons_zero,if_pos (And.intro p1 (And.intro p2 p3)),List.set_cons_zero]
   refine r.gZ B trivial rfl J rfl ⟨es,_,?_,p4.mono D (λe _ Q A=>?_),p5⟩
   .grind
   by_cases k:e=d
   .subst k;rw[cI]at A;cases A;exact⟨_,B,rfl,trivial⟩
   rw[dW st.m _ (Ne.symm k)]at A;exact⟨Q,A,rfl,.refl _⟩
  grind
 .
  rename_i size d i o x;obtain⟨_,_,rfl,a,p⟩:=U.inv;obtain⟨y,_,rfl,n,q⟩:=p.inv;rw[q.c9];split at h
  .rename_i k es xs B;split at h
   .rename_i cs ah;split at h
    .rename_i g;obtain⟨rfl,rfl⟩:=h;obtain⟨_,_,_,e,b,rfl⟩:=a.zz B;cases e;have ob:=r.obj d _ B;simp[en,b]at ob;obtain⟨rs,f,P,hf,ai,aj⟩:=ob;obtain⟨c,ak,ad⟩:=hf.get ah;have hi:=(ζe.1 ah).1;rw[getElem?_take,if_pos hi,getElem?_drop]at ak;have hy:=n.fr.cells;have E:y.cells.length=size:=by rw[<-hy.1];exact g.1
     have W:o+size<=c.length:=by rw[<-ad.1];exact g.2.1
     have q3:y.cells.all V.one=true:=by rw[hy.one];exact g.2.2
     have C:dB H Z (cs.take o++x.cells++cs.drop (o+x.cells.length)) (c.take o++y.cells++c.drop (o+y.cells.length)):=by rw[g.1,E];exact((ad.take o).append hy).append (ad.drop _)
     generalize hN:(c.take o++y.cells++c.drop (o+y.cells.length))=nc at C;have J:∀id,id≠(ν d).1->(H.set (ν d).1 (.row es (rs.set ((ν d).2+i) nc)))[id]?=H[id]?:=λid I=>by rw[getElem?_set];rw[if_neg (Ne.symm I)]
     have L:=b;have D:∀id,Z id->Z id/\bq (H.set (ν d).1 (.row es (rs.set ((ν d).2+i) nc))) id=bq H id:=λid D=>⟨D,by
      unfold bq;rw[J id (by rintro rfl;exact r.apart d _ B L D)]⟩
     have ae:sameShape (.sl k es xs) (.sl k es (xs.set i (cs.take o++x.cells++cs.drop (o+x.cells.length)))):=⟨rfl,rfl,Zab⟩
     refine⟨.undef,H.set (ν d).1 (.row es (rs.set ((ν d).2+i) nc)),ν,?_,?_,.v _ _ (.same _ rfl),Ev.gZ r B ae rfl J L Zab,Kept.gZ B ae⟩
     .simp only[fE,f,ak,if_pos (And.intro E (And.intro W q3)),hN]
     refine r.gZ B ae rfl J L ?_;simp only[en,b];have av:=(ζe.1 f).1;refine⟨_,getElem?_set_self av,by simpa using P,?_,?_,λe=>?_⟩
     .have e1:take (xs.set i (cs.take o++x.cells++cs.drop (o+x.cells.length))).length (List.drop (ν d).2 (rs.set ((ν d).2+i) nc))=((rs.drop (ν d).2).take xs.length).set i nc:=by
       rw[List.length_set,List.drop_set,if_neg Zaa,List.take_set]
       congr 1;omega
      rw[e1];exact(hf.set i C).mono D
     .intro cc al u hu;rcases List.mem_or_eq_of_mem_set al with hm|rfl
      .obtain⟨z,aw⟩:=ai cc hm u hu;exact⟨z,aw.mono D⟩
      obtain⟨j,hj⟩:=mem_iff_getElem?.1 hu;have am:=(ζe.1 hj).1;rw[<-C.1]at am;exact⟨_,(C.2 j _ u (ζd am) hj).mono D⟩
     obtain⟨a1,a2⟩:=aj e;exact⟨a1,by simpa using a2⟩
    simp at h
   grind
  grind
 .
  rename_i kk d k x;obtain⟨_,_,rfl,a,p⟩:=U.inv;obtain⟨k',_,rfl,n,q⟩:=p.inv;obtain⟨y,_,rfl,h5,h6⟩:=q.inv;rw[h6.c9];split at h
  .rename_i ax B;split at h
   .rename_i b;obtain⟨aI,hp,e⟩:=ζf.1 h;simp at e;obtain⟨rfl,rfl⟩:=e;obtain⟨_,_,rfl⟩:=a.Ff B;have ay:=n.fr.scalar.1 (wO b);subst ay;obtain⟨aJ,f,aA⟩:=r.obj d _ B;obtain⟨r',aB,aC⟩:=aA.put (wO b) h5.fr hp;have J:∀id,id≠(ν d).1->(H.set (ν d).1 (.map r'))[id]?=H[id]?:=λid I=>by rw[getElem?_set];rw[if_neg (Ne.symm I)]
    have D:∀id,Z id->Z id/\bq (H.set (ν d).1 (.map r')) id=bq H id:=λid D=>⟨D,by
     unfold bq;rw[J id (by rintro rfl;exact r.apart d _ B rfl D)]⟩
    refine⟨.undef,H.set (ν d).1 (.map r'),ν,?_,?_,.v _ _ (.same _ rfl),Ev.gZ r B trivial rfl J rfl Zab,Kept.gZ B trivial⟩
    .simp[fE,f,b,aB]
    refine r.gZ B trivial rfl J rfl ⟨r',?_,aC.mono D⟩;rw[getElem?_set_self (ζe.1 f).1]
   simp at h
  simp at h
 .
  rename_i size s x;obtain⟨y1,_,rfl,a,p⟩:=U.inv;obtain⟨y2,_,rfl,n,q⟩:=p.inv;rw[q.c9];split at h
  .rename_i xs e1 e2;obtain⟨a1,p1,_⟩:=vt a r.obj e1;obtain⟨a2,p2,W⟩:=vt n r.obj e2;have:=length_eq_zero_iff.1 (by have:=W.1;simpa using this.symm)
   subst this
   cases dst with
   |none=>simp at h|some t=>
    have lit:∀(k:Fl)(K:V),cO k=false->tn (ν t) k size 0=K->st.new t=true->(∀y,FR H Z K y->y=K)->FR H Z K y1->
     ∃y H' ν',fE H (.append size) [y1,y2]=some (y,H')/\R ν' Z {st with m:=bN st.m t (.sl k size [])} F H'/\dn ν' (bN st.m t (.sl k size [])) H' Z (.own t) y/\Ev (λ_=>False) ν Z st H ν' Z {st with m:=bN st.m t (.sl k size [])} H'/\Kept (some t) ν st.m ν' (bN st.m t (.sl k size [])):=λk K b aD N hx hf=>by
     have an:cD (.sl k size [])=true->False:=by simp[cD,b]
     refine⟨y1,H,jf ν t (ν t),by simp[fE,p1,p2],r.add N (λh=>(an h).elim) (by simp[en,b]),.own _ _ λQ M=>?_,Ev.add N (le_refl _) (λ_ _ _=>rfl) (λ_ _=>rfl) (λh=>(an h).elim),Kept.add λ_ _ h=>h⟩
     rw[cI]at M;cases M;exact⟨_,_,_,rfl,by rw[iw,hx _ hf];exact aD.symm⟩
    cases s with
    |own d=>
     dsimp only at h;split at h
     .rename_i ob B;split at h
      .rename_i C;simp at h;obtain⟨rfl,rfl⟩:=h;simp[jA,B]at e1
       cases ob with
       |sl k es X=>
        obtain⟨_,_,_,e,rfl⟩:=a.kK B;cases e;have r1:R ν Z {st with m:=eo d st.m} F H:=r.less (λ_ _ h=>h) lg
        obtain⟨n1,_,_,_⟩:=nu C;have ao:en (jf ν t (ν d)) (bN (eo d st.m) t (.sl k es X)) H Z t (.sl k es X):=by have o:=r.obj d _ B;simp[en,iw]at o⊢;exact o
        refine⟨tn (ν d) k es X.length,H,jf ν t (ν d),by simp[fE,p1,p2],r1.add C (λhb=>⟨λS=>?_,r.apart d _ B hb⟩) ao,.own _ _ λQ M=>?_,?_,Kept.add lg⟩
        .obtain⟨k2,o2,g1,g2,g3⟩:=S;obtain⟨g4,g5⟩:=pe g1;exact g4 (r.inj d k2 _ o2 B g5 hb g2 g3.symm)
        .rw[cI]at M;cases M;exact⟨_,_,_,rfl,by rw[iw]⟩
        by_cases hb:cD (.sl k es X)=true
        .exact Ev.re (m1:=eo d st.m) lg n1 (le_refl _) (λ_ _ _ _=>rfl) (λ_ _=>rfl) (λ_=>.inl ⟨d,_,B,hb,rfl⟩)
        exact(Ev.less lg).trans (Ev.add C (le_refl _) (λ_ _ _=>rfl) (λ_ _=>rfl) λh=>absurd h hb)
       |box cs=>cases e1|mp ax=>cases e1
      simp at h
     simp at h
    |v K=>
     cases K with
     |bM=>
      dsimp only at h;split at h
      next N=>simp at h;obtain⟨rfl,rfl⟩:=h;exact lit .nil _ rfl rfl N (λy h=>h.bM) a.fr
      simp at h
     |dL=>
      dsimp only at h;split at h
      next N=>simp at h;obtain⟨rfl,rfl⟩:=h;exact lit .emp _ rfl rfl N (λy h=>h.dL) a.fr
      simp at h
     |_=>simp at h
    |_=>simp at h
  .rename_i xs zs I e1 e2;split at h
   .rename_i g;obtain⟨a1,p1,E⟩:=vt a r.obj e1;obtain⟨a2,p2,W⟩:=vt n r.obj e2
    cases dst with
    |none=>simp at h|some t=>
     dsimp only at h;generalize ap:giveUp st.m s=m1 at h;split at h
     .rename_i C;simp at h;obtain⟨rfl,rfl⟩:=h;obtain⟨n1,_,_,_⟩:=nu C;have grow:∃H1,iy H y1=some H1/\H1.length=H.length/\(∀id,¬fS ν st.m id->H1[id]?=H[id]?)/\
       (∀id,fS ν m1 id->H1[id]?=H[id]?)/\(∀id,Z id->bq H1 id=bq H id):=by
       subst ap
       cases s with
       |own d=>
        simp[jA]at e1;split at e1
        .rename_i k es X B;obtain⟨_,_,_,e,rfl⟩:=a.kK B;cases e
         by_cases b:cO k=true
         .have o:=r.obj d _ B;simp[en,b]at o;obtain⟨ys,f,_⟩:=o;have L:=b;have J:∀id,id≠(ν d).1->(H.set (ν d).1 .dead)[id]?=H[id]?:=λid I=>by rw[getElem?_set];rw[if_neg (Ne.symm I)]
          refine⟨H.set (ν d).1 .dead,by rw[ta b];simp[iy,f],Zab,λid S=>J id λe=>S ⟨d,_,B,L,e.symm⟩,λid S=>J id λe=>?_,λid D=>?_⟩
          .obtain⟨k2,o2,g1,g2,g3⟩:=S;obtain⟨g4,g5⟩:=pe g1;exact g4 (r.inj d k2 _ o2 B g5 L g2 (by rw[g3,e]))
          unfold bq;rw[J id (by rintro rfl;exact r.apart d _ B L D)]
         refine⟨H,?_,rfl,λ_ _=>rfl,λ_ _=>rfl,λ_ _=>rfl⟩
         cases k<;>simp[cO]at b<;>rfl
        simp at e1
       |v K=>
        refine⟨H,?_,rfl,λ_ _=>rfl,λ_ _=>rfl,λ_ _=>rfl⟩
        cases K<;>simp[J7]at g
        .rw[a.fr.dL];rfl
        rw[a.fr.bM];rfl
       |_=>simp[J7]at g
      obtain⟨H1,g1,g2,g3,g4,g5⟩:=grow;have O:∀e ob,bh m1 e=some ob->bh st.m e=some ob:=by subst ap;cases s<;>first|exactλ_ _ h=>h|exact lg
      have ab:∀id,fS ν m1 id->id<H.length:=λid⟨k,o,w1,w2,w3⟩=>r.lt ⟨k,o,O k o w1,w2,w3⟩
      have Y:∀id,id<H.length->(H1++[Ob.row size (a1++a2)])[id]?=H1[id]?:=λid P=>getElem?_append_left (by rw[g2];exact P)
      have af:∀id,Z id->bq (H1++[Ob.row size (a1++a2)]) id=bq H id:=λid D=>by have:=g5 id D;unfold bq at this⊢;rw[Y id (r.xq D)];exact this
      have r1:=r.less (λ_ _ h=>h) O
      have r2:=r1.heap (λid S=>by rw[Y id (ab id S)];exact g4 id S) af
      have ff:=(E.append W).mono λid D=>⟨D,af id D⟩
      have aa:(H1++[Ob.row size (a1++a2)])[H.length]?=some (.row size (a1++a2)):=by rw[<-g2];simp
      refine⟨.hsl H.length size 0 (xs.length+zs.length),H1++[Ob.row size (a1++a2)],jf ν t (H.length,0),?_,?_,?_,?_,Kept.add O⟩
      .have aq:a2≠[]:=by
        rintro rfl;have aE:=length_eq_zero_iff.1 (by have:=W.1;simpa using this)
        exact I aE
       have aF:a1.length+a2.length<=2147483648:=by rw[<-E.1,<-W.1];exact g.1
       have aG:=E.1;have aH:=W.1
       cases a2 with
       |nil=>exact absurd rfl aq|cons w ws=>simp only[fE,p1,p2,if_pos aF,g1,map_some,aG,aH]
      .refine r2.add C (λ_=>⟨λS=>?_,λD=>?_⟩) ?_
       .exact absurd (ab _ S) Zab
       .exact absurd (r.xq D) Zab
       simp only[en,iw];refine⟨_,aa,by simp[E.1,W.1],?_,ff.Ir,λ_=>⟨trivial,by simp[E.1,W.1]⟩⟩
       have:(xs++zs).length=(a1++a2).length:=by simp[E.1,W.1]
       rw[this,drop_zero,take_length];exact ff
      .refine .own _ _ λQ M=>?_
       simp only at M;rw[cI]at M;cases M;exact⟨_,_,_,rfl,by simp[tn,iw]⟩
      refine Ev.re O n1 (by simp[g2]) (λid P S _=>?_) af (λ_=>.inr (.inr (le_refl _)))
      rw[Y id P];exact g3 id S
     simp at h
   simp at h
  simp at h
 .
  rename_i size d o x l;obtain⟨_,_,rfl,a,p⟩:=U.inv;obtain⟨y,aK,rfl,n,q⟩:=p.inv;split at h
  .rename_i ar;split at h
   .rename_i cs B;obtain⟨au,hp,e⟩:=ζf.1 h;simp at e;obtain⟨rfl,rfl⟩:=e;obtain⟨_,_,rfl⟩:=a.qe B;obtain⟨es,G,f,g,T⟩:=r.obj d _ B;obtain⟨p1,p2,p3,p4,p5⟩:=cg.XM g n hp T;have J:∀id,id≠(ν d).1->(H.set (ν d).1 (.row es [G.take o++y.cells++G.drop (o+y.cells.length)]))[id]?=H[id]?:=λid I=>by rw[getElem?_set];rw[if_neg (Ne.symm I)]
    have D:∀id,Z id->Z id/\bq (H.set (ν d).1 (.row es [G.take o++y.cells++G.drop (o+y.cells.length)])) id=bq H id:=λid D=>⟨D,by
     unfold bq;rw[J id (by rintro rfl;exact r.apart d _ B rfl D)]⟩
    refine⟨.undef,H.set (ν d).1 (.row es [G.take o++y.cells++G.drop (o+y.cells.length)]),ν,?_,?_,.v _ _ (.same _ rfl),Ev.gZ r B trivial rfl J rfl Zab,Kept.gZ B trivial⟩
    .simp only[fE,Mz r B q ar,if_true,f,getElem?_cons_zero,if_pos (And.intro p1 (And.intro p2 p3)),List.set_cons_zero]
    refine r.gZ B trivial rfl J rfl ⟨es,_,?_,p4.mono D (λe _ Q A=>?_),p5⟩
    .have:=(ζe.1 f).1;rw[getElem?_set_self this]
    by_cases k:e=d
    .subst k;rw[cI]at A;cases A;exact⟨_,B,rfl,trivial⟩
    rw[dW st.m _ (Ne.symm k)]at A;exact⟨Q,A,rfl,.refl _⟩
   simp at h
  simp at h
 grind
end
def Bn(d:Nat)(st:St):Lk St:=
 match bh st.m d with
 |some (.sl k es u)=>some {st with g:=Db (SV.sub d (o6 k es u)) st.g,m:=mapM (SV.v8 d (o6 k es u)) (eo d st.m)}|_=>none
def YU(st:St):Loc->Lk SV
 |.s n=>bh st.g n|.c b i=>match bh st.m b with
  |some (.box cs)=>cs[i]?|_=>none
def ghost(x:Gh)(st:St):Lk St:=
 match x with
 |.closeS l=>match YU st l with
  |some (.own d)=>Bn d st|some _=>some st|none=>none
 |.close d=>Bn d st|.closeB d=>match bh st.m d with
  |some (.box cs)=>match dy cs with
   |some u=>some {st with g:=Db (SV.DO d u) st.g,m:=mapM (SV.sG d u) (eo d st.m)}|none=>none
  |_=>none
 |.canon (.s n) d es=>match bh st.g n with
  |some (.v .bM)=>if st.new d then some {st with g:=bN st.g n (.own d),m:=bN st.m d (.sl .nil es [])}else none|some (.v .dL)=>if st.new d then some {st with g:=bN st.g n (.own d),m:=bN st.m d (.sl .emp es [])}else none|some (.own e)=>if e=d then some st else if st.new d then some {st with g:=A1 e d st.g,m:=vY e d st.m}else none|some (.ptr e _)=>if e=d then some st else if st.new d then some {st with g:=A1 e d st.g,m:=vY e d st.m}else none|_=>none
 |.canon (.c b i) d es=>match bh st.m b with
  |some (.box cs)=>match cs[i]?with
   |some (.v .bM)=>if st.new d then some {st with m:=bN (bN st.m d (.sl .nil es [])) b (.box (cs.set i (.own d)))}else none|some (.v .dL)=>if st.new d then some {st with m:=bN (bN st.m d (.sl .emp es [])) b (.box (cs.set i (.own d)))}else none|some (.own e)=>if e=d then some st else if st.new d then some {st with g:=A1 e d st.g,m:=vY e d st.m}else none|_=>none
  |_=>none
 |.keep gs w=>match kr st.g gs,kr st.m w with
  |some g,some m=>some {st with g:=g,m:=m}|_,_=>none
 |.drop ds=>some {st with g:=oH ds st.g}
section
variable{Rv:Nat->Prop}{ν ν':Nu}{Z Z':Nat->Prop}{st st':St}{m m':Tb bJ}{F F':Frame}{H H':bn}{N:Nat->FuncId}
theorem Qq(r:R ν Z st F H){dst:Lk Nat}{size d:Nat}{lo hi:Bool}{U:L' SV}{ys:L' V}{sv:SV}(D:cg ν st.m H Z (.own d::U) ys)(h:AY st dst size lo hi d U=some (sv,st')):
 ∃y ν',bl N (.slice size lo hi) ys=some y/\R ν' Z st' F H/\dn ν' st'.m H Z sv y/\Ev Rv ν Z st H ν' Z st' H:=by
 unfold AY at h;obtain⟨f,g,rfl,c,S⟩:=D.inv;split at h
 .rename_i k es G ws t u T;split at h
  .rename_i hk;obtain⟨⟨l,i⟩,W,h⟩:=ζg.1 h;obtain⟨⟨a,b⟩,B,h⟩:=ζg.1 h;dsimp only at h;split at h
   .rename_i w;obtain⟨rfl,rfl⟩:=h;obtain⟨_,_,_,e,rfl⟩:=c.kK u;cases e;have I:b<=G.length/\a<=b:=by
     unfold dX at B
     grind
    have o:=r.obj d _ u;simp[en,hk.1]at o;obtain⟨rs,j,n,X,O,_⟩:=o;have z:=hk.1;have r1:R ν Z {st with m:=eo d st.m} F H:=r.less (λ_ _ h=>h) lg
    have J:¬fS ν (eo d st.m) (ν d).1:=by rintro⟨k2,o2,g1,g2,g3⟩;obtain⟨g4,g5⟩:=pe g1;exact g4 (r.inj d k2 _ o2 u g5 z g2 g3.symm)
    have C:((G.take b).drop a).length=b-a:=by simp_all
    refine⟨.hsl (ν d).1 es ((ν d).2+a) (b-a),jf ν t ((ν d).1,(ν d).2+a),?_,?_,?_,?_⟩
    .have L:=cg.dy S T;rw[ta hk.1];simp[bl,L.mz W,iG,if_pos hk.2,B]
    .refine r1.add w (λ_=>⟨J,r.apart d _ u z⟩) ?_
     simp[en,cO,iw];have:=(X.take b).drop a;have e:List.drop a (take b (take G.length (List.drop (ν d).2 rs)))=take (b-a) (List.drop ((ν d).2+a) rs):=by rw[List.take_take,Nat.min_eq_left I.1,List.drop_take,drop_drop]
     grind
    .refine .own _ _ λY Q=>?_
     rw[cI]at Q;cases Q;exact⟨_,_,_,rfl,by rw[C];simp[tn,iw]⟩
    exact Ev.re (st:=st) lg (nu w).1 (le_refl _) (λ_ _ _ _=>rfl) (λ_ _=>rfl) (λ_=>.inl ⟨d,_,u,z,rfl⟩)
   grind
  grind
 grind
theorem Hg{f:SV->SV}:∀{g:Tb SV}{s:Nat},bh (Db f g) s=(bh g s).map f
 |[],s=>rfl|(k,x)::r,s=>by simp[Db,bh];split;rfl;exact Hg
def zJ(f:L' SV->L' SV):bJ->bJ
 |.box cs=>.box (f cs)|o=>o
theorem Gs{f:L' SV->L' SV}:∀{m:Tb bJ}{d:Nat},bh (mapM f m) d=(bh m d).map (zJ f)
 |[],d=>rfl|(k,x)::r,d=>by cases x<;>simp[mapM,bh]<;>split<;>first|rfl|exact Gs
theorem uM{d:Nat}{w:V}:∀{l:L' SV}{j:Nat},(SV.v8 d w l)[j]?=(l[j]?).map (SV.sub d w)
 |[],j=>by simp[SV.v8]|x::r,0=>by simp[SV.v8]|x::r,j+1=>by simp[SV.v8,uM]
theorem tG{d:Nat}{w:L' V}:∀{l:L' SV}{j:Nat},(SV.sG d w l)[j]?=(l[j]?).map (SV.DO d w)
 |[],j=>by simp[SV.sG]|x::r,0=>by simp[SV.sG]|x::r,j+1=>by simp[SV.sG,tG]
theorem qb{d:Nat}{w:V}:∀{l:L' SV},(SV.v8 d w l).length=l.length
 |[]=>rfl|x::r=>by simp[SV.v8,qb]
theorem oO{d:Nat}{w:L' V}:∀{l:L' SV},(SV.sG d w l).length=l.length
 |[]=>rfl|x::r=>by simp[SV.sG,oO]
theorem dn.sub{sv:SV}{y:V}{d:Nat}{k:Fl}{es:Nat}{xs:L' (L' V)}(l:bh m d=some (.sl k es xs))(G:FR H Z' (o6 k es xs) (tn (ν d) k es xs.length))(J:∀id,Z id->Z' id)
 (U:∀e ob',bh m' e=some ob'->e≠d/\∃ob,bh m e=some ob/\sameShape ob ob')(r:dn ν m H Z sv y):dn ν m' H Z' (sv.sub d (o6 k es xs)) y:=by
 have w:∀id,Z id->Z' id/\bq H id=bq H id:=λid h=>⟨J id h,rfl⟩
 have C:∀e ob',bh m' e=some ob'->∃ob,bh m e=some ob/\ν e=ν e/\sameShape ob ob':=λe ob' h=>Zac
 induction r with
 |v x y h=>exact .v x y (h.mono w)|own e y h=>
  simp[SV.sub];split
  next I=>subst I;obtain⟨_,_,_,e1,rfl⟩:=h _ l;cases e1;exact .v _ _ G
  exact(dn.own e y h).mono w λe _=>C e
 |ptr e o y h=>exact(dn.ptr e o y h).mono w λe _=>C e|el e i o y h=>exact(dn.el e i o y h).mono w λe _=>C e|mp e y h=>exact(dn.mp e y h).mono w λe _=>C e|clo f a b z L D S hva O B Q=>
  refine .clo f _ _ z L (by rw[qb];omega) (by rw[qb];omega) (λj u v c g=>?_) (λj u v c g=>?_)
  .rw[uM,ζf]at c;grind
  rw[uM,ζf]at c;grind
 |tup a z D hva B=>
  refine .tup _ z (by rw[qb];omega) (λj u v c g=>?_)
  rw[uM,ζf]at c;grind
 |agg a z D hva B=>
  refine .agg _ z (by rw[qb];omega) (λj u v c g=>?_)
  rw[uM,ζf]at c;grind
 |yl id=>exact .yl id
theorem UT{f:FuncId}{a b:L' SV}{y:V}(r:dn ν m H Z (.clo f a b) y):dn ν m H Z (SY f a b) y:=by
 unfold SY;split
 .rename_i x z D G;cases r with|clo _ _ _ w B I J hva u=>
  have c:=cg.dy (ν:=ν) (m:=m) (H:=H) (Z:=Z) (ys:=w) ⟨I,hva⟩ D;have C:=cg.dy (ν:=ν) (m:=m) (H:=H) (Z:=Z) (ys:=B) ⟨J,u⟩ G;exact .v _ _ (.clo f x z w B c.1 C.1 c.2 C.2)
 exact r
theorem dn.DO{sv:SV}{y:V}{d:Nat}{cs:L' SV}{xs:L' V}(k:bh m d=some (.box cs))(U:∀o,o<=xs.length->FR H Z' (.fptr (xs.drop o)) (.hptr (ν d).1 0 o))(W:∀id,Z id->Z' id)
 (Y:∀e ob',bh m' e=some ob'->e≠d/\∃ob,bh m e=some ob/\sameShape ob ob')(r:dn ν m H Z sv y):dn ν m' H Z' (sv.DO d xs) y:=by
 have z:∀id,Z id->Z' id/\bq H id=bq H id:=λid h=>⟨W id h,rfl⟩
 have D:∀e ob',bh m' e=some ob'->∃ob,bh m e=some ob/\ν e=ν e/\sameShape ob ob':=λe ob' h=>by obtain⟨_,ob,l,L⟩:=Y e ob' h;exact⟨ob,l,rfl,L⟩
 induction r with
 |v x y h=>exact .v x y (h.mono z)|own e y h=>exact(dn.own e y h).mono z λe _=>D e|ptr e o y h=>
  simp only[SV.DO];split
  .rename_i O;subst O;obtain⟨_,e1,rfl⟩:=h _ k;split
   next Q=>exact .v _ _ (U o Q)
   exact(dn.ptr e o _ h).mono z λe _=>D e
  exact(dn.ptr e o y h).mono z λe _=>D e
 |el e i o y h=>exact(dn.el e i o y h).mono z λe _=>D e|mp e y h=>exact(dn.mp e y h).mono z λe _=>D e|clo f a b G S I T hva X B J=>
  refine UT (.clo f _ _ G S (by rw[oO];exact I) (by rw[oO];exact T) (λj u v c g=>?_) (λj u v c g=>?_))
  .rw[tG,ζf]at c;obtain⟨C,w,rfl⟩:=c;exact B j C v w g
  rw[tG,ζf]at c;obtain⟨C,w,rfl⟩:=c;exact J j C v w g
 |tup a G I hva B=>
  refine .tup _ G (by rw[oO];exact I) (λj u v c g=>?_)
  rw[tG,ζf]at c;obtain⟨C,w,rfl⟩:=c;exact B j C v w g
 |agg a G I hva B=>
  refine .agg _ G (by rw[oO];exact I) (λj u v c g=>?_)
  rw[tG,ζf]at c;obtain⟨C,w,rfl⟩:=c;exact B j C v w g
 |yl id=>exact .yl id
theorem en.zJ{d:Nat}{ob:bJ}{f:L' SV->L' SV}(D:∀id,Z id->Z' id)(U:∀l,(f l).length=l.length)
 (G:∀cs B,cg ν m H Z cs B->cg ν m' H Z' (f cs) B)(o:en ν m H Z d ob):en ν m' H Z' d (zJ f ob):=by
 have u:∀id,Z id->Z' id/\bq H id=bq H id:=λid h=>⟨D id h,rfl⟩
 cases ob with
 |sl k es Q=>
  simp[Go.VE.zJ,en]at o⊢;split
  next b=>rw[if_pos b]at o;obtain⟨I,a,w,C,J,L⟩:=o;exact⟨I,a,w,C.mono u,J.mono u,L⟩
  grind
 |box cs=>obtain⟨es,B,a,w,C⟩:=o;exact⟨es,B,a,G cs B w,C⟩|mp O=>obtain⟨z,a,w⟩:=o;exact⟨z,a,w.mono u⟩
theorem yM{f:L' SV->L' SV}{ob:bJ}:cD (zJ f ob)=cD ob:=by cases ob<;>rfl
theorem Nl{f:L' SV->L' SV}{ob:bJ}:sameShape ob (zJ f ob):=by cases ob<;>simp[zJ,sameShape]
theorem R.shut(r:R ν Z st F H){d:Nat}{ob:bJ}(t:bh st.m d=some ob){fs:SV->SV}{D:L' SV->L' SV}(A:∀l,(D l).length=l.length)(V:∀l(j:Nat),(D l)[j]?=(l[j]?).map fs)
 (B:∀id,Z' id↔Z id\/(cD ob=true/\id=(ν d).1))(G:cD ob=true->∃es ys,H[(ν d).1]?=some (.row es ys)/\wR H Z ys)
 (hf:∀m',(∀e ob',bh m' e=some ob'->e≠d/\∃ob,bh st.m e=some ob/\sameShape ob ob')->∀sv y,dn ν st.m H Z sv y->dn ν m' H Z' (fs sv) y):
 R ν Z' {st with g:=Db fs st.g,m:=mapM D (eo d st.m)} F H/\Ev Rv ν Z st H ν Z' {st with g:=Db fs st.g,m:=mapM D (eo d st.m)} H:=by
 have key:∀e ob',bh (mapM D (eo d st.m)) e=some ob'->e≠d/\∃ob,bh st.m e=some ob/\ob'=zJ D ob:=λe ob' h=>by rw[Gs,ζf]at h;obtain⟨o,a,rfl⟩:=h;obtain⟨w,E⟩:=pe a;grind
 have L:∀e ob',bh (mapM D (eo d st.m)) e=some ob'->e≠d/\∃ob,bh st.m e=some ob/\sameShape ob ob':=λe ob' h=>by obtain⟨a,o,w,rfl⟩:=key e ob' h;exact⟨a,o,w,Nl⟩
 have K:=hf _ L;have T:∀cs C,cg ν st.m H Z cs C->cg ν (mapM D (eo d st.m)) H Z' (D cs) C:=λcs C h=>by refine⟨by rw[A];exact h.1,λj u v i hv=>?_⟩;rw[V,ζf]at i;obtain⟨M,U,rfl⟩:=i;exact K M v (h.2 j M v U hv)
 have z:=λid h=>(B id).2 (.inl h)
 refine⟨⟨λs sv S=>?_,λe ob' W=>?_,λb N o1 o2 a w J P hp=>?_,λb o1 a J=>?_,λid h=>?_,⟨λid es ys O f c hc u i=>?_⟩⟩,⟨le_refl _,λ_ _ _ _ _=>rfl,λid h=>⟨z id h,rfl⟩,?_,?_,?_,rfl⟩⟩
 .rw[Hg,ζf]at S;obtain⟨Q,X,rfl⟩:=S;exact K Q _ (r.slot s Q X)
 .obtain⟨a,o,w,rfl⟩:=key e ob' W;exact en.zJ z A T (r.obj e o w)
 .obtain⟨_,p1,k1,rfl⟩:=key b o1 a;obtain⟨_,p2,k2,rfl⟩:=key N o2 w;rw[yM]at J P;exact r.inj b N p1 p2 k1 k2 J P hp
 .obtain⟨Y,p1,k1,rfl⟩:=key b o1 a;rw[yM]at J;intro O;rcases(B _).1 O with O|⟨I,W⟩
  .exact r.apart b p1 k1 J O
  exact Y (r.inj b d p1 ob k1 t J I W)
 .rcases (B id).1 h with h|⟨I,rfl⟩
  .exact r.zrow id h
  obtain⟨es,ys,f,_⟩:=G I;unfold bq;rw[f];rfl
 .rcases (B id).1 O with h|⟨I,rfl⟩
  .obtain⟨x,q⟩:=r.deep.row id es ys h f c hc u i;exact⟨x,q.mono λk n=>⟨z k n,rfl⟩⟩
  obtain⟨ab,ad,aa,S⟩:=G I;unfold bq at f;rw[aa]at f;obtain⟨_,rfl⟩:=f;obtain⟨x,q⟩:=S c hc u i;exact⟨x,q.mono λk n=>⟨z k n,rfl⟩⟩
 .rintro id ⟨e,o,a,w,E⟩;obtain⟨_,p,k1,rfl⟩:=key e o a;rw[yM]at w;exact .inl ⟨e,p,k1,w,E⟩
 .intro id h;rcases(B id).1 h with h|⟨I,rfl⟩
  .grind
  exact .inr (.inl ⟨d,ob,t,I,rfl⟩)
 grind
theorem Jc(r:R ν Z st F H){d:Nat}(h:Bn d st=some st'):∃Z',R ν Z' st' F H/\Ev Rv ν Z st H ν Z' st' H:=by
 simp[Bn]at h;split at h;rename_i k es w u;simp at h;subst h;have o:=r.obj d _ u;refine⟨λid=>Z id\/(cD (.sl k es w)=true/\id=(ν d).1),R.shut r u (λ_=>qb) (λ_ _=>uM) (λ_=>Iff.rfl) (λB=>?_) (λm' z G y b=>?_)⟩;have a:cO k=true:=B;simp[en,a]at o;grind;refine dn.sub u ?_ (λid h=>.inl h) z b;by_cases a:cO k=true;simp[en,a]at o;obtain⟨I,b,C,D,J,_⟩:=o;rw[ta a];have e:o6 k es w=.fsl es w:=by cases k<;>simp[cO]at a<;>rfl
 rw[e];refine FR.Nn (.inr ⟨a,rfl⟩) (by unfold bq;rw[b];rfl) C (D.mono λid h=>⟨.inl h,rfl⟩);cases k<;>simp[cO]at a;exact .same _ rfl;exact .same _ rfl;grind
theorem P_(r:R ν Z st F H){d:Nat}(h:ghost (.closeB d) st=some st'):∃Z',R ν Z' st' F H/\Ev Rv ν Z st H ν Z' st' H:=by
 simp[ghost]at h;split at h;rename_i cs w;split at h;rename_i I J;simp at h;subst h;obtain⟨es,z,a,b,_⟩:=r.obj d _ w;have C:=b.dy J;have L:wR H Z [z]:=by
  intro c B u e;simp[List.mem_singleton]at B;subst B;obtain⟨j,O⟩:=mem_iff_getElem?.1 e;have Q:j<I.length:=by rw[C.1];grind
  exact⟨_,C.2 j _ u (ζd Q) O⟩
 refine⟨λid=>Z id\/(cD (.box cs)=true/\id=(ν d).1),R.shut r w (λ_=>oO) (λ_ _=>tG) (λ_=>Iff.rfl) (λS=>⟨es,_,a,L⟩) (λm' D T y G=>?_)⟩;refine dn.DO w (λo U=>?_) (λid h=>.inl h) D G;exact FR.E7 (.inr ⟨rfl,rfl⟩) (show bq H (ν d).1=some (es,[z])by unfold bq;rw[a];rfl) rfl (by rw[<-C.1];omega) ((C.drop o).mono λid h=>⟨.inl h,rfl⟩);grind;grind
theorem uV{d e:Nat}:∀{l:L' SV}{j:Nat},(SV.wj d e l)[j]?=(l[j]?).map (SV.vT d e)
 |[],j=>by simp[SV.wj]|x::r,0=>by simp[SV.wj]|x::r,j+1=>by simp[SV.wj,uV]
theorem pW{d e:Nat}:∀{l:L' SV},(SV.wj d e l).length=l.length
 |[]=>rfl|x::r=>by simp[SV.wj,pW]
theorem GF{d e:Nat}:∀{g:Tb SV}{s:Nat},bh (A1 d e g) s=(bh g s).map (SV.vT d e)
 |[],s=>rfl|(k,x)::r,s=>by simp[A1,bh];split;rfl;exact GF
theorem AV{d e:Nat}(B:d≠e):∀{m:Tb bJ}{k:Nat},bh m e=none->bh (vY d e m) k=(if k=d then none else(bh m (if k=e then d else k)).map (bJ.vT d e))
 |[],k,_=>by simp[vY,bh]|(n,x)::r,k,h=>by simp[bh]at h;split at h;simp_all;have D:=AV B (k:=k) h;simp[vY,bh];grind
def wN(ν:Nu)(d e:Nat):Nu:=λk=>if k=e then ν d else ν k
theorem dn.vT{sv:SV}{y:V}{d e:Nat}(U:bh m e=none)(D:sv.c6 e=false)(J:d≠e)(r:dn ν m H Z sv y):dn (wN ν d e) (vY d e m) H Z (sv.vT d e) y:=by
 have key:∀k,k≠e->∀w,bh (vY d e m) (if k=d then e else k)=some w->∃ob,bh m k=some ob/\wN ν d e (if k=d then e else k)=ν k/\w=ob.vT d e:=λk l w h=>by rw[AV J U]at h;by_cases c:k=d;subst c;rw[if_pos rfl,if_neg (Ne.symm J),if_pos rfl,ζf]at h;obtain⟨ob,B,rfl⟩:=h;exact⟨ob,B,by unfold wN;grind,rfl⟩;rw[if_neg c,if_neg c,if_neg l,ζf]at h;obtain⟨ob,B,rfl⟩:=h;exact⟨ob,B,by unfold wN;grind,rfl⟩
 induction r with
 |v x y h=>exact .v x y h|own k y h=>
  have l:k≠e:=by rintro rfl;simp[SV.c6]at D
  refine .own _ y λw G=>?_;obtain⟨ob,c,B,rfl⟩:=key k l w G;obtain⟨_,_,_,rfl,rfl⟩:=h ob c;exact⟨_,_,_,rfl,by rw[B]⟩
 |ptr k o y h=>
  have l:k≠e:=by rintro rfl;simp[SV.c6]at D
  refine .ptr _ o y λw G=>?_;obtain⟨ob,c,B,rfl⟩:=key k l w G;obtain⟨_,rfl,rfl⟩:=h ob c;exact⟨_,rfl,by rw[B]⟩
 |el k i o y h=>
  have l:k≠e:=by rintro rfl;simp[SV.c6]at D
  refine .el _ i o y λw G=>?_;obtain⟨ob,c,B,rfl⟩:=key k l w G;obtain⟨_,_,_,rfl,S,rfl⟩:=h ob c;exact⟨_,_,_,rfl,S,by rw[B]⟩
 |mp k y h=>
  have l:k≠e:=by rintro rfl;simp[SV.c6]at D
  refine .mp _ y λw G=>?_;obtain⟨ob,c,B,rfl⟩:=key k l w G;obtain⟨_,rfl,rfl⟩:=h ob c;exact⟨_,rfl,by rw[B]⟩
 |clo f a b L T Q X hva W C O=>simp[SV.c6]at D;refine .clo f _ _ L T (by rw[pW];omega) (by rw[pW];omega) (λj u v g n=>?_) (λj u v g n=>?_);rw[uV,ζf]at g;obtain⟨I,z,rfl⟩:=g;exact C j I v z n (uR D.1 z);rw[uV,ζf]at g;obtain⟨I,z,rfl⟩:=g;exact O j I v z n (uR D.2 z)|tup a L Q hva C=>refine .tup _ L (by rw[pW];omega) (λj u v g n=>?_);rw[uV,ζf]at g;obtain⟨I,z,rfl⟩:=g;exact C j I v z n (uR D z)|agg a L Q hva C=>refine .agg _ L (by rw[pW];omega) (λj u v g n=>?_);rw[uV,ζf]at g;obtain⟨I,z,rfl⟩:=g;exact C j I v z n (uR D z)|yl id=>exact .yl id
theorem Kq(r:R ν Z st F H){d e:Nat}(B:d≠e)(Y:st.new e=true):R (wN ν d e) Z {st with g:=A1 d e st.g,m:=vY d e st.m} F H/\Ev Rv ν Z st H (wN ν d e) Z {st with g:=A1 d e st.g,m:=vY d e st.m} H:=by
 obtain⟨t,J,X,i⟩:=nu Y;have key:∀k w,bh (vY d e st.m) k=some w->∃k0 ob,bh st.m k0=some ob/\w=ob.vT d e/\wN ν d e k=ν k0/\k≠d/\(k=e/\k0=d\/k≠e/\k0=k):=λk w h=>by rw[AV B J]at h;split at h;simp_all;rename_i a;rw[ζf]at h;obtain⟨ob,z,rfl⟩:=h;by_cases C:k=e;rw[if_pos C]at z;exact⟨d,ob,z,rfl,by unfold wN;grind,a,.inl ⟨C,rfl⟩⟩;rw[if_neg C]at z;exact⟨k,ob,z,rfl,by unfold wN;grind,a,.inr ⟨C,rfl⟩⟩
 have L:∀ob:bJ,cD (ob.vT d e)=cD ob:=λob=>by cases ob<;>rfl
 refine⟨⟨λs sv U=>?_,λk w c=>?_,λb l o1 o2 a z D W hp=>?_,λb o1 a D=>?_,r.zrow,r.deep⟩,⟨le_refl _,λ_ _ _ _ _=>rfl,λid h=>⟨h,rfl⟩,?_,λ_ h=>.inl h,?_,rfl⟩⟩;rw[GF,ζf]at U;obtain⟨O,G,rfl⟩:=U;exact dn.vT J (Ao X G) B (r.slot s O G);obtain⟨k0,ob,a,rfl,z,_,_⟩:=key k w c;have o:=r.obj k0 ob a
 cases ob with
 |sl fl es xs=>simp[bJ.vT,en,z]at o⊢;omega|box cs=>
  obtain⟨es,Q,g1,g2,g3⟩:=o;have S:=by have:=zV i a;simpa[bJ.c6]using this
  refine⟨es,Q,Zac,⟨by rw[pW];exact g2.1,λj u v f n=>?_⟩,g3⟩;rw[uV,ζf]at f;obtain⟨p,I,rfl⟩:=f;exact dn.vT J (uR S I) B (g2.2 j p v I n)
 |mp aa=>simp[bJ.vT,en,z]at o⊢;omega
 obtain⟨k1,p1,g1,rfl,e1,q,T⟩:=key b o1 a;obtain⟨k2,p2,g2,rfl,e2,x,y⟩:=key l o2 z;rw[L]at D W;have:=r.inj k1 k2 p1 p2 g1 g2 D W Zac;omega;obtain⟨k1,p1,g1,rfl,e1,_⟩:=key b o1 a;rw[L]at D;rw[e1];exact r.apart k1 p1 g1 D;rintro id ⟨k,o,a,z,C⟩;obtain⟨k1,p1,g1,rfl,e1,_⟩:=key k o a;rw[L]at z;exact .inl ⟨k1,p1,g1,z,Zac⟩;intro k c w h;obtain⟨k1,p1,g1,rfl,e1,q,T⟩:=key k w h;rcases T with⟨rfl,_⟩|⟨T,rfl⟩;grind;exact⟨p1,g1,e1,by cases p1<;>simp[bJ.vT,sameShape]⟩
theorem R.say(r:R ν Z st F H){n:Nat}{sv:SV}(h:dn ν st.m H Z sv (get F n)):R ν Z {st with g:=bN st.g n sv} F H where
 slot:=λs x u=>by by_cases e:n=s;subst e;rw[cI]at u;grind;rw[dW st.g sv e]at u;exact r.slot s x u
 obj:=r.obj
 inj:=r.inj
 apart:=r.apart
 zrow:=r.zrow
 deep:=r.deep
theorem PY(r:R ν Z st F H){n d es:Nat}{k:Fl}{x:V}(a:o6 k es []=x/\cO k=false)(D:bh st.g n=some (.v x))(B:st.new d=true)(G:∀y,FR H Z x y->y=x)(J:tn (ν d) k es 0=x):
 R (jf ν d (ν d)) Z {st with g:=bN st.g n (.own d),m:=bN st.m d (.sl k es [])} F H/\Ev Rv ν Z st H (jf ν d (ν d)) Z {st with g:=bN st.g n (.own d),m:=bN st.m d (.sl k es [])} H:=by
 have u:cD (.sl k es [])=true->False:=by simp[cD,a.2]
 have r1:=r.add B (p:=ν d) (λh=>(u h).elim) (by simp[en,a.2])
 refine⟨r1.say (.own _ _ λz w=>?_),?_⟩
 .rw[cI]at w;cases w;rw[iw,G _ (r.slot n _ D).fr]
  grind
 exact(Ev.add B (le_refl _) (λ_ _ _=>rfl) (λ_ _=>rfl) (λh=>(u h).elim)).trans (Ev.slots _)
theorem PO(r:R ν Z st F H){b i d es:Nat}{k:Fl}{x:V}{cs:L' SV}(c:cO k=false)(U:bh st.m b=some (.box cs))(hi:cs[i]?=some (.v x))(D:st.new d=true)(W:∀y,FR H Z x y->y=x)(Y:tn (ν d) k es 0=x):
 ∃ν',R ν' Z {st with m:=bN (bN st.m d (.sl k es [])) b (.box (cs.set i (.own d)))} F H/\Ev Rv ν Z st H ν' Z {st with m:=bN (bN st.m d (.sl k es [])) b (.box (cs.set i (.own d)))} H:=by
 have B:cD (.sl k es [])=true->False:=by simp[cD,c]
 have r1:=r.add D (p:=ν d) (λh=>(B h).elim) (by simp[en,c])
 have C:b≠d:=by rintro rfl;rw[(nu D).2.1]at U;cases U
 have z:bh (bN st.m d (.sl k es [])) b=some (.box cs):=by rw[dW _ _ (Ne.symm C)];omega
 obtain⟨G,I,g,J,Q⟩:=r1.obj b _ z;have l:∀e w,bh (bN (bN st.m d (.sl k es [])) b (.box (cs.set i (.own d)))) e=some w->∃ob,bh (bN st.m d (.sl k es [])) e=some ob/\jf ν d (ν d) e=jf ν d (ν d) e/\sameShape ob w:=λe w h=>by by_cases L:e=b;subst L;rw[cI]at h;cases h;exact⟨_,z,rfl,trivial⟩;rw[dW _ _ (Ne.symm L)]at h;exact⟨w,h,rfl,.refl _⟩
 refine⟨jf ν d (ν d),r1.gZ z trivial rfl (λ_ _=>rfl) rfl ⟨G,I,g,⟨by simp[J.1],λj u v a f=>?_⟩,Q⟩,?_⟩
 .rw[getElem?_set]at a;split at a
  .rename_i e;subst e;split at a
   .cases a;refine .own _ _ λw O=>?_
    rw[dW _ _ C,cI]at O;cases O;rw[iw,W v (J.2 i _ v hi f).fr]
    grind
   grind
  exact(J.2 j u v a f).mono (λid h=>⟨h,rfl⟩) λe _=>l e
 exact(Ev.add D (le_refl _) (λ_ _ _=>rfl) (λ_ _=>rfl) (λh=>(B h).elim)).trans (Ev.gZ r1 z trivial rfl (λ_ _=>rfl) rfl (le_refl _))
theorem RD(r:R ν Z st F H){x:Gh}(h:ghost x st=some st'):∃ν' Z',R ν' Z' st' F H/\Ev Rv ν Z st H ν' Z' st' H:=by
 cases x with
 |close d=>obtain⟨Z',a,b⟩:=Jc (Rv:=Rv) r h;grind|closeS l=>simp[ghost]at h;split at h;obtain⟨Z',a,b⟩:=Jc (Rv:=Rv) r h;grind;simp at h;subst h;exact⟨ν,Z,r,.refl⟩;grind|closeB d=>obtain⟨Z',a,b⟩:=P_ (Rv:=Rv) r h;grind|keep gs G=>
  simp[ghost]at h;split at h;next g m e B=>simp at h;subst h;exact⟨ν,Z,r.less (λs D w=>rO e w) (λd ob hd=>rO B hd),Ev.less (λd ob hd=>rO B hd)⟩
  grind
 |drop ds=>simp[ghost]at h;subst h;exact⟨ν,Z,r.less (λs D w=>pG w) (λd ob hd=>hd),Ev.less (λd ob hd=>hd)⟩|canon l d es=>cases l with|s n=>simp[ghost]at h;split at h;rename_i w;split at h;rename_i u;simp at h;obtain⟨a,b⟩:=PY (Rv:=Rv) (es:=es) (k:=.nil) r ⟨rfl,rfl⟩ w u (λy h=>h.bM) rfl;grind;grind;rename_i w;split at h;rename_i u;simp at h;obtain⟨a,b⟩:=PY (Rv:=Rv) (es:=es) (k:=.emp) r ⟨rfl,rfl⟩ w u (λy h=>h.dL) rfl;grind;grind;split at h;simp at h;subst h;exact⟨ν,Z,r,.refl⟩;rename_i z;split at h;rename_i u;simp at h;obtain⟨a,b⟩:=Kq (Rv:=Rv) r z u;grind;grind;split at h;simp at h;subst h;exact⟨ν,Z,r,.refl⟩;rename_i z;split at h;rename_i u;simp at h;obtain⟨a,b⟩:=Kq (Rv:=Rv) r z u;grind;grind;grind|c b i=>simp[ghost]at h;split at h;rename_i cs C;split at h;rename_i w;split at h;rename_i u;simp at h;obtain⟨ν',a,b⟩:=PO (Rv:=Rv) (es:=es) (k:=.nil) r rfl C w u (λy h=>h.bM) rfl;grind;grind;rename_i w;split at h;rename_i u;simp at h;obtain⟨ν',a,b⟩:=PO (Rv:=Rv) (es:=es) (k:=.emp) r rfl C w u (λy h=>h.dL) rfl;grind;grind;split at h;simp at h;subst h;exact⟨ν,Z,r,.refl⟩;rename_i z;split at h;rename_i u;simp at h;obtain⟨a,b⟩:=Kq (Rv:=Rv) r z u;grind;grind;grind;grind
end
structure ot(E:Env)(f:FuncId)(q:Hq):Prop where
 keep:E.keep f=true
 own:E.own f=false
 le:∀es xs vs ys,q.go es xs vs=some ys->ys.length<=xs.length/\(q.part=false->ys.length=xs.length)
 none:∀es vs ys,q.go es [] vs=some ys->∀(H:bn)(Z:Nat->Prop)(ws:List V)(w:V),dB H Z vs ws->(w=.bM\/w=.dL)->∃n X,∀k,n<=k->run E k (.fn f) (w::ws) H=some (if q.part then w else .undef,H++X)
 row:∀es xs vs ys,q.go es xs vs=some ys->∀(H:bn)(Z:Nat->Prop)(ws:List V)(id off:Nat)(rs:List (List V)),dB H Z vs ws->H[id]?=some (.row es rs)->off+xs.length<=rs.length->
  gH H Z xs ((rs.drop off).take xs.length)->wR H Z rs->¬Z id->∃n rs' X,(∀k,n<=k->run E k (.fn f) (.hsl id es off xs.length::ws) H=some (if q.part then .hsl id es off ys.length else .undef,(H++X).set id (.row es rs')))/\
   rs'.length=rs.length/\gH H Z ys ((rs'.drop off).take ys.length)/\wR H Z rs'
section
variable{Rv:Nat->Prop}{ν ν':Nu}{Z Z':Nat->Prop}{st st':St}{m m':Tb bJ}{F F':Frame}{H H':bn}
theorem U5{E:Env}{f:FuncId}{q:Hq}(i:ot E f q)(r:R ν Z st F H){args:L' SV}{ys:L' V}(K:cg ν st.m H Z args ys){dst:Lk Nat}{sv:SV}(h:Dn q dst args st=some (sv,st')):
 ∃n y H' ν',(∀k,n<=k->run E k (.fn f) ys H=some (y,H'))/\R ν' Z st' F H'/\dn ν' st'.m H' Z sv y/\Ev Rv ν Z st H ν' Z st' H'/\Kept dst ν st.m ν' st'.m:=by
 unfold Dn at h;split at h
 .rename_i d vs;obtain⟨w,p,rfl,M,N⟩:=K.inv;split at h
  .rename_i k es xs zs u G;have s:=cg.dy N G;split at h
   .rename_i ns T;obtain⟨al,P⟩:=i.le _ _ _ _ T;obtain⟨_,_,_,ee,rfl⟩:=M.kK u;cases ee;have grow:∀X:bn,R ν Z st F (H++X)/\Ev Rv ν Z st H ν Z st (H++X)/\∀id,Z id->bq (H++X) id=bq H id:=λX=>by
     have j:∀id,id<H.length->(H++X)[id]?=H[id]?:=λid h=>getElem?_append_left h
     have G:∀id,Z id->bq (H++X) id=bq H id:=λid h=>by unfold bq;rw[j id (r.xq h)]
     exact⟨r.heap (λid h=>j id (r.lt h)) G,Ev.heap Zab (λid h _ _ _=>j id h) G,G⟩
    have o:=r.obj d _ u
    cases a:cO k with
    |false=>
     simp only[en,a,false_eq_true,if_false]at o;subst o;have hw:tn (ν d) k es 0=.bM\/tn (ν d) k es 0=.dL:=by cases k<;>simp[tn,cO]at a⊢
     obtain⟨n,X,L⟩:=i.none _ _ _ T H Z p _ s hw;obtain⟨b,I,U⟩:=grow X;simp only[a,false_eq_true,if_false]at h;split at h
     .rename_i O;split at h
      .rename_i t;split at h
       .rename_i z;simp only[ζa,ζc]at h;obtain⟨rfl,rfl⟩:=h;have r1:R ν Z {st with m:=eo d st.m} F (H++X):=b.less (g:=st.g) (λ_ _ h=>h) lg
        rw[if_pos O]at L;refine⟨n,_,H++X,jf ν t (ν d),L,r1.add z (λl=>by simp[cD,a]at l) (by simp[en,a]),?_,?_,Kept.add lg⟩
        .refine .own _ _ λah W=>?_
         simp only at W;rw[cI]at W;cases W;exact⟨_,_,_,rfl,by rw[iw];rfl⟩
        exact I.trans (Ev.re (st:=st) lg (nu z).1 (le_refl _) (λ_ _ _ _=>rfl) (λ_ _=>rfl) (λl=>by simp[cD,a]at l))
       cases h
      cases h
     rename_i O;simp only[ζa,ζc]at h;obtain⟨rfl,rfl⟩:=h;rw[if_neg O]at L;have hu:bN st.m d (.sl k es [])=st.m:=qN u;rw[hu];exact⟨n,_,H++X,ν,L,b,.v _ _ (.same _ rfl),I,.refl⟩
    |true=>
     simp only[en,a,if_true]at o;obtain⟨rs,v,hl,hf,ab,Q⟩:=o;have B:cD (.sl k es xs)=true:=a;obtain⟨n,C,X,L,e1,e2,e3⟩:=i.row _ _ _ _ T H Z p _ _ rs s v hl hf ab (r.apart d _ u B);obtain⟨b,I,U⟩:=grow X;have ai:(ν d).1<(H++X).length:=by have:=(ζe.1 v).1;simp;omega
     have G:∀id,Z id->Z id/\bq ((H++X).set (ν d).1 (.row es C)) id=bq H id:=λid D=>⟨D,by
      rw[<-U id D];unfold bq;rw[List.getElem?_set_ne];rintro rfl;exact r.apart d _ u B D⟩
     have x:∀id,Z id->bq ((H++X).set (ν d).1 (.row es C)) id=bq (H++X) id:=λid D=>by rw[(G id D).2,U id D]
     have c:∀id,id≠(ν d).1->((H++X).set (ν d).1 (Ob.row es C))[id]?=(H++X)[id]?:=λid aj=>List.getElem?_set_ne (Ne.symm aj)
     have J:((H++X).set (ν d).1 (Ob.row es C))[(ν d).1]?=some (.row es C):=getElem?_set_self ai;rw[ta a];simp only[a,if_true]at h;split at h
     .rename_i O;split at h
      .rename_i t;split at h
       .rename_i z;simp only[ζa,ζc]at h;obtain⟨rfl,rfl⟩:=h;have r1:R ν Z {st with m:=eo d st.m} F (H++X):=b.less (g:=st.g) (λ_ _ h=>h) lg
        have A:¬fS ν (eo d st.m) (ν d).1:=by rintro⟨k2,o2,g1,g2,g3⟩;obtain⟨g4,g5⟩:=pe g1;exact g4 (r.inj d k2 _ o2 u g5 B g2 g3.symm)
        have r2:R ν Z {st with m:=eo d st.m} F ((H++X).set (ν d).1 (.row es C)):=r1.heap (λid ho=>c id (by rintro rfl;exact A ho)) x
        rw[if_pos O]at L;refine⟨n,_,_,jf ν t (ν d),L,r2.add z (λ_=>⟨A,r.apart d _ u B⟩) ?_,?_,?_,Kept.add lg⟩
        .simp only[en,cO,if_true,iw];exact⟨C,J,Zaa,e2.mono G,e3.mono G,λe=>by cases e⟩
        .refine .own _ _ λah W=>?_
         simp only at W;rw[cI]at W;cases W;exact⟨_,_,_,rfl,by rw[iw];rfl⟩
        exact I.trans (Ev.re (st:=st) lg (nu z).1 Zab (λid _ ho _=>c id (by rintro rfl;exact ho ⟨d,_,u,B,rfl⟩)) x (λ_=>.inl ⟨d,_,u,B,rfl⟩))
       cases h
      cases h
     rename_i O;simp only[ζa,ζc]at h;obtain⟨rfl,rfl⟩:=h;rw[if_neg O]at L;have ak:q.part=false:=by simpa using O
     have S:=P ak;have Y:sameShape (.sl k es xs) (.sl k es ns):=⟨rfl,rfl,S⟩;refine⟨n,_,_,ν,L,b.gZ u Y rfl c B ?_,.v _ _ (.same _ rfl),I.trans (Ev.gZ b u Y rfl c B Zab),Kept.gZ u Y⟩
     simp only[en,a,if_true];exact⟨C,J,Zaa,e2.mono G,e3.mono G,λe=>⟨(Q e).1,by rw[e1,(Q e).2,S]⟩⟩
   cases h
  cases h
 cases h
end
def vZ:Nat->L' SV->Tb SV
 |_,[]=>[]|i,v::vs=>(i,v)::vZ (i+1) vs
def start(svs:L' SV)(B:dD):St:=⟨vZ 0 svs,B,B.map (·.1),[],true,0⟩
def jw(S:Sys)(c:b9):Prop:=∀f u w rs z,c f u w=some (rs,z)->∀(ν:Nu)(Z:Nat->Prop)(args:L' V)(H:bn),(S.E.keep f=true\/H=[])->R ν Z (start u w) args H->cg ν w H Z u args->∃n y H' ν' Z' st' F' B,run S.E n (.fn f) args H=some (y,H')/\y=result B/\st'.m=z/\cg ν' z H' Z' rs B/\R ν' Z' st' F' H'/\Ev (λ_=>False) ν Z (start u w) H ν' Z' st' H'
section
variable{Rv:Nat->Prop}{ν ν':Nu}{Z Z':Nat->Prop}{st st':St}{m m':Tb bJ}{F F':Frame}{H H' H1:bn}{N:Nat->FuncId}
theorem Rf{k:Fl}{es:Nat}{xs:L' (L' V)}{d:Nat}(o:en ν m H Z d (.sl k es xs)):(o6 k es xs).good=true:=by
 by_cases a:cO k=true;simp only[en,a,if_true]at o;obtain⟨w,_,_,u,_⟩:=o;have e:o6 k es xs=.fsl es xs:=by cases k<;>simp[cO]at a<;>rfl
 rw[e];simp only[V.good];exact u.good;cases k<;>simp[cO]at a<;>rfl
mutual
theorem O5(D:∀d ob,bh m d=some ob->en ν m H Z d ob):∀(n:Nat)(sv:SV)(x y:V),shut m n sv=some x->dn ν m H Z sv y->x.good=true
 |n,.v x,z,y,h,r=>by simp only[shut,ζa]at h;subst h;exact r.fr.good|n,.own d,z,y,h,r=>by
  simp only[shut]at h;split at h;next k es xs B=>simp only[ζa]at h;subst h;exact Rf (D d _ B)
  simp at h
 |0,.ptr d o,z,y,h,r=>by simp[shut]at h|n+1,.ptr d o,z,y,h,r=>by simp only[shut]at h;split at h;rename_i cs B;split at h;rename_i xs U;split at h;simp only[ζa]at h;subst h;obtain⟨es,G,_,p,_⟩:=D d _ B;simp only[V.good];exact Aj _ (nM D n cs xs G U p);simp at h;simp at h;simp at h|n,.el d i o,z,y,h,r=>by cases n<;>simp[shut]at h|n,.yl id,z,y,h,r=>by cases n<;>simp[shut]at h|n,.mp d,z,y,h,r=>by
  simp only[shut]at h;split at h;rename_i L B;simp only[ζa]at h;subst h;obtain⟨w,_,e⟩:=D d _ B;simp only[V.good];refine HJ.2 λj u g=>?_;have O:j<w.length:=by rw[<-e.1];exact(ζe.1 g).1
  obtain⟨⟨_,c⟩,C⟩:=e.2 j u _ g (ζd O);exact⟨kj c,C.good⟩;simp at h
 |0,.clo f a b,z,y,h,r=>by simp[shut]at h|n+1,.clo f a b,z,y,h,r=>by
  simp only[shut]at h;split at h;next Q x2 c C=>simp only[ζa]at h;subst h;obtain⟨S,T,rfl,W,X⟩:=r.kN;simp only[V.good,ζh];exact⟨nM D n a Q S c W,nM D n b x2 T C X⟩
  simp at h
 |0,.tup l,z,y,h,r=>by simp[shut]at h|n+1,.tup l,z,y,h,r=>by simp only[shut]at h;obtain⟨xs,c,rfl⟩:=ζf.1 h;obtain⟨I,rfl,J⟩:=r.qZ;simp only[V.good];exact nM D n l xs I c J|0,.agg l,z,y,h,r=>by simp[shut]at h|n+1,.agg l,z,y,h,r=>by simp only[shut]at h;obtain⟨xs,c,rfl⟩:=ζf.1 h;obtain⟨I,rfl,J⟩:=r.jc;simp only[V.good];exact nM D n l xs I c J
theorem nM(D:∀d ob,bh m d=some ob->en ν m H Z d ob):∀(n:Nat)(svs:L' SV)(xs ys:L' V),c8 m n svs=some xs->cg ν m H Z svs ys->V.cE xs=true
 |n,[],xs,ys,h,r=>by simp only[c8,ζa]at h;subst h;rfl|n,sv::svs,xs,ys,h,r=>by
  simp only[c8]at h;split at h;next y s a G=>simp only[ζa]at h;subst h;obtain⟨J,B,rfl,r1,r2⟩:=r.inv;simp only[V.cE,ζh];exact⟨O5 D n sv y J a r1,nM D n svs s B G r2⟩
  simp at h
end
theorem I8{f:V->Lk V}:∀{xs ys:L' (V×V)},xs.length=ys.length->(∀(j:Nat)u v,xs[j]?=some u->ys[j]?=some v->f v.1=some u.1/\f v.2=some u.2)->mI f ys=some xs
 |[],[],_,_=>rfl|[],y::ys,h,_=>by simp at h|x::xs,[],h,_=>by simp at h|(a,b)::xs,(c,d)::ys,h,B=>by obtain⟨e,D⟩:=B 0 _ _ rfl rfl;simp only at e D;simp only[mI,e,D,I8 (xs:=xs) (ys:=ys) (by simpa using h) λj u v g i=>B (j+1) u v (by simpa using g) (by simpa using i)]
theorem JK:∀{l:L' (V×V)}{n:Nat},V.t_ n l=true↔∀(j:Nat)u,l[j]?=some u->u.1.lvl n=true/\u.2.lvl n=true
 |[],n=>by simp[V.t_]|(k,x)::l,n=>by
  simp only[V.t_,ζh,JK (l:=l)];constructor;rintro⟨b,B⟩ j u a;cases j with|zero=>simp at a;subst a;exact b|succ j=>exact B j u (by simpa using a)
  intro h;exact⟨h 0 (k,x) rfl,λj u a=>h (j+1) u (by simpa using a)⟩
theorem vw{n:Nat}{xs ys:L' V}(D:iU (borrow n H1) ys=some xs)(B:lY ys=true):ys=xs:=by
 have w:=lz (f:=borrow n H1) (xs:=ys) (ys:=ys) rfl λj u v a b=>by rw[a]at b;cases b;exact eA n H1 (p_.1 B j u a)
 rw[D]at w;cases w;rfl
mutual
theorem K1{fr:L' Nat}(G:∀d∈fr,∀e ob,bh m e=some ob->ob.c6 d=false)(J:∀d ob,bh m d=some ob->d∉fr->en ν m H1 Z d ob):
 ∀(n:Nat)(sv:SV)(x y:V),shut m n sv=some x->(∀d∈fr,sv.c6 d=false)->dn ν m H1 Z sv y->∀k,x.lvl k=true->borrow k H1 y=some x
 |n,.v x,z,y,h,B,r,k,hk=>by simp only[shut,ζa]at h;subst h;exact r.fr.borrow k hk|n,.own d,z,y,h,B,r,k,hk=>by
  simp only[shut]at h;split at h;rename_i Y es xs D;simp only[ζa]at h;subst h;obtain⟨_,_,_,e,rfl⟩:=r.kK D;cases e;have hd:d∉fr:=λhd=>by have:=B d hd;simp[SV.c6]at this
  have o:=J d _ D hd;by_cases I:cO Y=true;simp only[en,I,if_true]at o;obtain⟨ys,g,E,F,_⟩:=o;rw[ta I];have e:o6 Y es xs=.fsl es xs:=by cases Y<;>simp[cO]at I<;>rfl
  rw[e]at hk⊢;exact(FR.Nn (Z:=λ_=>True) trivial (show bq H1 (ν d).1=some (es,ys)by unfold bq;rw[g];rfl) E (F.mono λid h=>⟨trivial,rfl⟩)).borrow k hk;cases Y<;>simp[cO]at I;exact eA k H1 rfl;exact eA k H1 rfl;simp at h
 |0,.ptr d o,z,y,h,B,r,k,hk=>by simp[shut]at h|n+1,.ptr d o,z,y,h,B,r,k,hk=>by
  simp only[shut]at h;split at h;rename_i cs D;split at h;rename_i xs q;split at h;rename_i H;simp only[ζa]at h;subst h;obtain⟨_,e,rfl⟩:=r.qe D;cases e;have hd:d∉fr:=λhd=>by have:=B d hd;simp[SV.c6]at this
  obtain⟨es,L,g,s,_⟩:=J d _ D hd
  cases k with
  |zero=>simp[V.lvl]at hk|succ k=>
   simp only[V.lvl]at hk;have K:∀e∈fr,SV.dK e (cs.drop o)=false:=λe M=>by
    have:=G e M d _ D;simp only[bJ.c6]at this
    cases N:SV.dK e (cs.drop o)with
    |false=>rfl|true=>
     exfalso;have:∀{l:L' SV}{j:Nat},SV.dK e (l.drop j)=true->SV.dK e l=true:=by
      intro l
      induction l with
      |nil=>intro j h;simpa using h|cons a l O=>intro j h;cases j with
       |zero=>simpa using h|succ j=>simp only[SV.dK,or_eq_true];exact .inr (O (by simpa using h))
     rw[this N]at *;simp_all
   have Q:xs.length=cs.length:=by
    have:∀{l:L' SV}{r:L' V},c8 m n l=some r->r.length=l.length:=by
     intro l;induction l with|nil=>intro r h;simp only[c8,ζa]at h;subst h;rfl|cons a l O=>
      intro r h;simp only[c8]at h;split at h;next c S=>simp only[ζa]at h;subst h;simp[O S]
      simp at h
    exact this q
   have P:c8 m n (cs.drop o)=some (xs.drop o):=by
    have:∀{l:L' SV}{r:L' V}{j:Nat},c8 m n l=some r->c8 m n (l.drop j)=some (r.drop j):=by
     intro l;induction l with|nil=>intro r j h;simp only[c8,ζa]at h;subst h;simp[c8]|cons a l O=>
      intro r j h;have R:=h;simp only[c8]at h;split at h;rename_i c S;simp only[ζa]at h;subst h;cases j with|zero=>exact R|succ j=>exact O S
      simp at h
    exact this q
   have hb:=kA G J n (cs.drop o) (xs.drop o) (L.drop o) P K (s.drop o) k hk;unfold borrow;simp only[closed,false_eq_true,if_false,g,ζb,Ob.rows,getElem?_cons_zero,if_pos (show o<=L.length by rw[<-s.1,<-Q];exact H),hb,map_some]
  simp at h;simp at h;simp at h
 |n,.el d i o,z,y,h,B,r,k,hk=>by cases n<;>simp[shut]at h|n,.yl id,z,y,h,B,r,k,hk=>by cases n<;>simp[shut]at h|n,.mp d,z,y,h,B,r,k,hk=>by
  simp only[shut]at h;split at h;rename_i ae D;simp only[ζa]at h;subst h;obtain⟨_,e,rfl⟩:=r.Ff D;cases e;have hd:d∉fr:=λhd=>by have:=B d hd;simp[SV.c6]at this
  obtain⟨T,g,U⟩:=J d _ D hd;cases k with|zero=>simp[V.lvl]at hk|succ k=>simp only[V.lvl]at hk;unfold borrow;simp only[closed,false_eq_true,if_false,g];rw[I8 (xs:=ae) (ys:=T) U.1 λj u v t hv=>?_];rfl;obtain⟨⟨e1,e2⟩,e3⟩:=U.2 j u v t hv;exact⟨by rw[<-e1];exact eA k H1 (V.lH (kj e2)),e3.borrow k (JK.1 hk j u t).2⟩
  simp at h
 |0,.clo f a b,z,y,h,B,r,k,hk=>by simp[shut]at h|n+1,.clo f a b,z,y,h,B,r,k,hk=>by
  simp only[shut]at h;split at h;rename_i x1 x2 c S;simp only[ζa]at h;subst h;obtain⟨a',A,rfl,ra,rb⟩:=r.kN;cases k with|zero=>simp[V.lvl]at hk|succ k=>simp only[V.lvl,ζh]at hk;have C:=kA G J n a x1 a' c (λd hd=>by have:=B d hd;simp only[SV.c6,or_eq_false_iff]at this;exact this.1) ra k hk.1;have W:=kA G J n b x2 A S (λd hd=>by have:=B d hd;simp only[SV.c6,or_eq_false_iff]at this;exact this.2) rb k hk.2;by_cases w:(V.clo f a' A).closed=true;rw[eA _ _ w];simp only[closed,ζh]at w;rw[vw C w.1,vw W w.2];unfold borrow;rw[if_neg w];simp only[C,W]
  simp at h
 |0,.tup l,z,y,h,B,r,k,hk=>by simp[shut]at h|n+1,.tup l,z,y,h,B,r,k,hk=>by simp only[shut]at h;obtain⟨xs,c,rfl⟩:=ζf.1 h;obtain⟨X,rfl,p⟩:=r.qZ;cases k with|zero=>simp[V.lvl]at hk|succ k=>simp only[V.lvl]at hk;have C:=kA G J n l xs X c (λd hd=>by have:=B d hd;simpa[SV.c6]using this) p k hk;by_cases w:(V.tup X).closed=true;rw[eA _ _ w];simp only[closed]at w;rw[vw C w];unfold borrow;rw[if_neg w];simp only[C,map_some]
 |0,.agg l,z,y,h,B,r,k,hk=>by simp[shut]at h|n+1,.agg l,z,y,h,B,r,k,hk=>by simp only[shut]at h;obtain⟨xs,c,rfl⟩:=ζf.1 h;obtain⟨X,rfl,p⟩:=r.jc;cases k with|zero=>simp[V.lvl]at hk|succ k=>simp only[V.lvl]at hk;have C:=kA G J n l xs X c (λd hd=>by have:=B d hd;simpa[SV.c6]using this) p k hk;by_cases w:(V.agg X).closed=true;rw[eA _ _ w];simp only[closed]at w;rw[vw C w];unfold borrow;rw[if_neg w];simp only[C,map_some]
theorem kA{fr:L' Nat}(B:∀d∈fr,∀e ob,bh m e=some ob->ob.c6 d=false)(J:∀d ob,bh m d=some ob->d∉fr->en ν m H1 Z d ob):
 ∀(n:Nat)(svs:L' SV)(xs ys:L' V),c8 m n svs=some xs->(∀d∈fr,SV.dK d svs=false)->cg ν m H1 Z svs ys->∀k,V.mc k xs=true->iU (borrow k H1) ys=some xs
 |n,[],xs,ys,h,D,r,k,hk=>by simp only[c8,ζa]at h;subst h;rw[r.c9];rfl|n,sv::svs,xs,ys,h,D,r,k,hk=>by simp only[c8]at h;split at h;rename_i y s a U;simp only[ζa]at h;subst h;obtain⟨W,G,rfl,r1,r2⟩:=r.inv;simp only[V.mc,ζh]at hk;have u:=K1 B J n sv y W a (λd hd=>by have:=D d hd;simp only[SV.dK,or_eq_false_iff]at this;exact this.1) r1 k hk.1;have w:=kA B J n svs s G U (λd hd=>by have:=D d hd;simp only[SV.dK,or_eq_false_iff]at this;exact this.2) r2 k hk.2;simp only[iU,u,w];simp at h
end
end
theorem RB(n:Nat):V.mc n []=true:=by cases n<;>rfl
theorem Pa(n:Nat)(x:V)(r:L' V):V.mc n (x::r)=(V.lvl n x&&V.mc n r):=by cases n<;>rfl
mutual
theorem Eg:∀{n:Nat}{x:V},V.lvl n x=true->V.lvl (n+1) x=true
 |0,.fsl ..,h=>by simp[V.lvl]at h|0,.fptr ..,h=>by simp[V.lvl]at h|0,.fmap ..,h=>by simp[V.lvl]at h|0,.agg ..,h=>by simp[V.lvl]at h|0,.tup ..,h=>by simp[V.lvl]at h|0,.clo ..,h=>by simp[V.lvl]at h|n+1,.fsl es xs,h=>by simp only[V.lvl]at h⊢;exact Dx h|n+1,.fptr cs,h=>by simp only[V.lvl]at h⊢;exact tw h|n+1,.fmap B,h=>by simp only[V.lvl]at h⊢;exact FA h|n+1,.agg cs,h=>by simp only[V.lvl]at h⊢;exact tw h|n+1,.tup cs,h=>by simp only[V.lvl]at h⊢;exact tw h|n+1,.clo f a b,h=>by simp only[V.lvl,ζh]at h⊢;exact⟨tw h.1,tw h.2⟩|0,.bool _,_|0,.int ..,_|0,.str _,_|0,.iI,_|0,.gD,_|0,.tF,_|0,.dL,_|0,.bM,_|0,.hsl ..,_|0,.hptr ..,_|0,.yld _,_|0,.hmap _,_=>rfl|_+1,.bool _,_|_+1,.int ..,_|_+1,.str _,_|_+1,.iI,_|_+1,.gD,_|_+1,.tF,_|_+1,.dL,_|_+1,.bM,_|_+1,.hsl ..,_|_+1,.hptr ..,_|_+1,.yld _,_|_+1,.hmap _,_=>rfl
theorem tw:∀{n:Nat}{x:L' V},V.mc n x=true->V.mc (n+1) x=true
 |n,[],_=>RB _|n,a::l,h=>by rw[Pa,ζh]at h⊢;exact⟨Eg h.1,tw h.2⟩
theorem Dx:∀{n:Nat}{x:L' (L' V)},V.qt n x=true->V.qt (n+1) x=true
 |n,[],_=>by simp only[V.qt]|n,a::l,h=>by simp only[V.qt,ζh]at h⊢;exact⟨tw h.1,Dx h.2⟩
theorem FA:∀{n:Nat}{x:L' (V×V)},V.t_ n x=true->V.t_ (n+1) x=true
 |n,[],_=>by simp only[V.t_]|n,(k,v)::l,h=>by simp only[V.t_,ζh]at h⊢;exact⟨⟨Eg h.1.1,Eg h.1.2⟩,FA h.2⟩
end
theorem ze{n m:Nat}(h:n<=m){x:V}(B:V.lvl n x=true):V.lvl m x=true:=by induction h with|refl=>exact B|step _ u=>exact Eg u
theorem pZ{n m:Nat}(h:n<=m){x:L' V}(B:V.mc n x=true):V.mc m x=true:=by induction h with|refl=>exact B|step _ u=>exact tw u
theorem Tt{n m:Nat}(h:n<=m){x:L' (L' V)}(B:V.qt n x=true):V.qt m x=true:=by induction h with|refl=>exact B|step _ u=>exact Dx u
theorem Va{n m:Nat}(h:n<=m){x:L' (V×V)}(B:V.t_ n x=true):V.t_ m x=true:=by induction h with|refl=>exact B|step _ u=>exact FA u
mutual
theorem Bd:∀x:V,∃n,V.lvl n x=true
 |.fsl es xs=>let⟨n,h⟩:=Jm xs;⟨n+1,by simp only[V.lvl];exact h⟩|.fptr cs=>let⟨n,h⟩:=mU cs;⟨n+1,by simp only[V.lvl];exact h⟩|.fmap u=>let⟨n,h⟩:=Me u;⟨n+1,by simp only[V.lvl];exact h⟩|.agg cs=>let⟨n,h⟩:=mU cs;⟨n+1,by simp only[V.lvl];exact h⟩|.tup cs=>let⟨n,h⟩:=mU cs;⟨n+1,by simp only[V.lvl];exact h⟩|.clo f a b=>let⟨n,h⟩:=mU a;let⟨m,k⟩:=mU b;⟨max n m+1,by simp only[V.lvl,ζh];exact⟨pZ (le_max_left _ _) h,pZ (le_max_right _ _) k⟩⟩|.bool _|.int ..|.str _|.iI|.gD|.tF|.dL|.bM|.hsl ..|.hptr ..|.yld _|.hmap _=>⟨0,rfl⟩
theorem mU:∀x:L' V,∃n,V.mc n x=true
 |[]=>⟨0,by simp only[V.mc]⟩|a::l=>let⟨n,h⟩:=Bd a;let⟨m,k⟩:=mU l;⟨max n m,by simp only[V.mc,ζh];exact⟨ze (le_max_left _ _) h,pZ (le_max_right _ _) k⟩⟩
theorem Jm:∀x:L' (L' V),∃n,V.qt n x=true
 |[]=>⟨0,by simp only[V.qt]⟩|a::l=>let⟨n,h⟩:=mU a;let⟨m,k⟩:=Jm l;⟨max n m,by simp only[V.qt,ζh];exact⟨pZ (le_max_left _ _) h,Tt (le_max_right _ _) k⟩⟩
theorem Me:∀x:L' (V×V),∃n,V.t_ n x=true
 |[]=>⟨0,by simp only[V.t_]⟩|(a,b)::l=>let⟨n,h⟩:=Bd a;let⟨m,k⟩:=Bd b;let⟨q,p⟩:=Me l;⟨max n (max m q),by simp only[V.t_,ζh];exact⟨⟨ze Zaa h,ze Zaa k⟩,Va Zaa p⟩⟩
end
def jS(E:Env)(call:dG)(ops:L' Oper)(place:Lk (Nat×Nat))(f:FuncId)(args:L' V)(H:bn):Lk (V×bn):=
 if mo E ops place f then
  match place with
  |none=>fq E call f args H|some (_,i)=>if dJ ops i then fq E call f args H else none
 else match place with
  |none=>match cm call f args H with
   |some y=>some (y,if y.scalar then H else cM H (cW (cn call.lv H) args))|none=>none
  |some (b,i)=>match cm call f args (H.take b)with
   |some y=>if y.scalar then some (y,H)else if jh (H.take b) (cW (cn call.lv (H.take b)) args)then some (y,cM H (cW (cn call.lv (H.take b)) args))else none|none=>if dJ ops i then match cm call f args H with
    |some y=>some (y,if y.scalar then H else cM H (cW (cn call.lv H) args))|none=>none
    else none
section
variable{Rv:Nat->Prop}{ν ν':Nu}{Z Z':Nat->Prop}{st st':St}{m m':Tb bJ}{F F':Frame}{H H' H1:bn}{N:Nat->FuncId}{S:Sys}{c:b9}
theorem J8:∀(l:L' SV)(i s:Nat)(sv:SV),bh (vZ i l) s=some sv->∃j,s=i+j/\l[j]?=some sv
 |[],i,s,sv,h=>by simp[vZ,bh]at h|x::l,i,s,sv,h=>by
  simp only[vZ,bh]at h;split at h;next e=>simp only[ζa]at h;subst h;exact⟨0,Zaa,rfl⟩
  obtain⟨j,a,B⟩:=J8 l (i+1) s sv h;exact⟨j+1,Zaa,by simpa using B⟩
theorem yO{svs:L' SV}{args:L' V}(h:cg ν m H Z svs args):∀s sv,bh (vZ 0 svs) s=some sv->dn ν m H Z sv (get args s):=λs sv u=>by obtain⟨j,rfl,w⟩:=J8 svs 0 s sv u;obtain⟨y,z,r⟩:=h.get w;rw[Nat.zero_add,KM args j y z];exact r
theorem yu{az:L' V}(a:V.cE az=true):R (λ_=>(0,0)) (λ_=>False) (start (az.map .v) []) az []/\cg (λ_=>(0,0)) [] [] (λ_=>False) (az.map .v) az:=by have h:cg (λ_=>(0,0)) [] [] (λ_=>False) (az.map .v) az:=cg.sB (dB.same a);refine⟨⟨yO h,λd ob hd=>by simp[start,bh]at hd,λd w ob u hd=>by simp[start,bh]at hd,λd ob hd=>by simp[start,bh]at hd,λid h=>h.elim,⟨λid es z h=>h.elim⟩⟩,h⟩
theorem HP{xs ys:L' V}(h:dB H Z xs ys):((result xs).scalar=true->result ys=result xs)/\(result ys).scalar=(result xs).scalar:=by cases xs with|nil=>rw[h.c9];exact⟨λ_=>rfl,rfl⟩|cons x xs=>obtain⟨y,ys,rfl,a,u⟩:=h.inv;cases xs with|nil=>rw[u.c9];exact a.scalar|cons x2 xs=>obtain⟨w,ys,rfl,z,B⟩:=u.inv;exact FR.scalar (.tup _ _ h.1 h.2)
theorem C8(g:jw S c){f:FuncId}{az ys:L' V}{rs:L' SV}{m':dD}(i:V.cE az=true)(h:c f (az.map .v) []=some (rs,m'))(J:c8 m' 8 rs=some ys):
 ∃n r H2,(∀k,n<=k->run S.E k (.fn f) az []=some (r,H2))/\(∀k,n<=k->borrow k H2 r=some (result ys))/\(result ys).good=true:=by
 obtain⟨W,r1⟩:=yu i;obtain⟨n,y,H2,ν',Z',st',F',B,m,rfl,X,O,Q,_⟩:=g f _ _ _ _ h _ _ az [] (.inr rfl) W r1;subst X;have C:=nM Q.obj 8 rs ys B J O;obtain⟨L,T⟩:=mU ys;refine⟨max n (L+1),result B,H2,λk e=>(oN S.E (le_trans (le_max_left ..) e)).go _ _ _ _ m,λk e=>?_,?_⟩
 .have w:=kA (fr:=[]) (λd hd=>by simp at hd) (λd ob hd _=>Q.obj d ob hd) 8 rs _ _ J (λd hd=>by simp at hd) O
  obtain⟨k,rfl⟩:∃j,k=j+1:=⟨k-1,Zaa⟩
  have U:=w k (pZ Zaa T)
  have Y:=w (k+1) (pZ Zaa T)
  obtain⟨e1,e2⟩:=jo Y
  cases B with
  |nil=>obtain rfl:=List.eq_nil_of_length_eq_zero e1;exact eA _ H2 rfl|cons z B=>
   cases B with
   |nil=>
    obtain⟨y,rfl⟩:∃y,ys=[y]:=by cases ys with|nil=>simp at e1|cons y l=>cases l with|nil=>exact⟨y,rfl⟩|cons _ _=>simp at e1
    obtain⟨x,Z,G⟩:=e2 0 y rfl;cases Z;exact G
   |cons z2 B=>
    obtain⟨y,D,l,rfl⟩:∃y D l,ys=y::D::l:=by cases ys with|nil=>simp at e1|cons y l=>cases l with|nil=>simp at e1|cons D l=>exact⟨y,D,l,rfl⟩
    by_cases u:(V.tup (z::z2::B)).closed=true
    .simp only[result];rw[eA _ _ u];simp only[closed]at u;rw[vw U u]
    simp only[result];unfold borrow;rw[if_neg u];simp only[U,map_some]
 have:∀{l:L' V},V.cE l=true->(result l).good=true:=by
  intro l I
  cases l with
  |nil=>rfl|cons a l=>cases l with
   |nil=>simp only[V.cE,ζh]at I;exact I.1|cons b l=>simp only[result,V.good];exact I
 exact this C
theorem Gb{f:FuncId}{args az:L' V}{y r:V}{H2:bn}{n:Nat}(a:∀k,n<=k->run S.E k (.fn f) az []=some (r,H2))(D:∀k,n<=k->borrow k H2 r=some y)(b:y.good=true){B:Nat}(G:∀k,B<=k->borrows k H args=some az):
 ∀k,max n B<=k->cm (run S.E k) f args H=some y:=λk c=>by
 unfold cm;simp only[o9,G k Zaa,a k Zaa,D k Zaa,V.lH b,if_true]
theorem sF(B:∀id,Z id->(bq H id).isSome=true){T:L' Nat}{id:Nat}(h:Z id):bq (cM H T) id=bq H id:=by
 have:=B id h;unfold bq at this⊢;rw[jb];cases u:H[id]?with|none=>rw[u]at this;simp at this|some ob=>
  rw[u]at this;simp only[map_some,ζb];by_cases e:id∈T
  .rw[if_pos e];cases ob<;>first|rfl|simp[Ob.rows]at this
  rw[if_neg e]
theorem u9{T:L' Nat}{id:Nat}(h:id∉T):(cM H T)[id]?=H[id]?:=by rw[jb];cases H[id]?<;>simp[h]
end
section
variable{Rv:Nat->Prop}{ν ν':Nu}{Z Z':Nat->Prop}{st st':St}{m m':Tb bJ}{F F':Frame}{H H' H1:bn}{N:Nat->FuncId}{S:Sys}{c:b9}
theorem A_{az:L' V}{args:L' SV}{ys:L' V}(B:∀d ob,bh m d=some ob->en ν m H Z d ob)(h:c8 m 8 args=some az)(r:cg ν m H Z args ys):V.cE az=true:=nM B 8 args az ys h r
theorem yR{az:L' V}{args:L' SV}{ys:L' V}(r:R ν Z st F H)(B:cg ν st.m H Z args ys)(h:c8 st.m 8 args=some az):∃n,∀k,n<=k->borrows k H ys=some az:=
 let⟨n,u⟩:=mU az
 ⟨n,λk a=>kA (fr:=[]) (λd hd=>by simp_all) (λd ob hd _=>r.obj d ob hd) 8 args az ys h (λd hd=>by simp_all) B k (pZ a u)⟩
theorem oa{b id:Nat}(h:id<b):bq (H.take b) id=bq H id:=by unfold bq;grind
theorem MY{b:Nat}{fr:L' Nat}{az:L' V}{args:L' SV}{ys:L' V}(r:R ν Z st F H)(B:cg ν st.m H Z args ys)(h:c8 st.m 8 args=some az)
 (G:∀d ob,bh st.m d=some ob->cD ob=true->d∉fr->(ν d).1<b)(D:∀id,Z id->id<b)(a:fZ st.m fr args=true):∃n,∀k,n<=k->borrows k (H.take b) ys=some az:=by
 obtain⟨n,w⟩:=mU az;refine⟨n,λk f=>?_⟩
 unfold fZ at a;have c:∀d∈fr,SV.dK d args=false/\tM d st.m=false:=λd hd=>by grind
 have u:∀id,Z id->Z id/\bq (H.take b) id=bq H id:=λid h=>⟨h,oa (D id h)⟩
 refine kA (λd hd e ob z=>zV (c d hd).2 z) (λd ob hd C=>?_) 8 args az ys h (λd hd=>(c d hd).1) (B.mono u λe _=>jm ν st.m e) k (pZ f w)
 exact en.mono u rfl (λI=>Zac) (λe _=>jm ν st.m e) (r.obj d ob hd)
theorem LJ(hS:jw S c){ops:L' Oper}{place:Lk (Nat×Nat)}{dr nw:Bool}{fr:L' Nat}(ae:dr=place.isSome)(ab:∀b i,place=some (b,i)->nw=true->dJ ops i=true)
 (m:∀b i,place=some (b,i)->(∀d ob,bh st.m d=some ob->cD ob=true->d∉fr->(ν d).1<b)/\∀id,Z id->id<b)
 (r:R ν Z st F H){args:L' SV}{ys:L' V}(o:cg ν st.m H Z args ys){f:FuncId}(e:mo S.E ops place f=false){az:L' V}(K:c8 st.m 8 args=some az)(a:(!dr||nw)=true\/fZ st.m fr args=true)
 {rs:L' SV}{m':dD}{J:L' V}(M:c f (az.map .v) []=some (rs,m'))(l:c8 m' 8 rs=some J)(U:(result J).scalar=true\/(dy args).isSome=true):
 ∃n H',(∀k,n<=k->jS S.E (run S.E k) ops place f ys H=some (result J,H'))/\R ν Z st F H'/\dn ν st.m H' Z (.v (result J)) (result J)/\Ev Rv ν Z st H ν Z st H':=by
 have hg:=A_ r.obj K o;obtain⟨N,rr,H2,p,h2,P⟩:=C8 hS hg M l;obtain⟨n2,hb⟩:=yR r o K;have I:=Gb p h2 P hb;generalize hn:max N n2=n at I;have C:=I;have Q:∀k,n<=k->cW (cn k H) ys=cW (cn n H) ys:=λk e=>Am e (hb n Zaa)
 have G:∀{H'},dn ν st.m H' Z (.v (result J)) (result J):=.v _ _ (.same _ P);have D:∀T:L' Nat,(∀id∈T,Z id)->R ν Z st F (cM H T)/\Ev Rv ν Z st H ν Z st (cM H T):=λT X=>
  ⟨r.heap (λid ho=>u9 λz=>by obtain⟨d,ob,g1,g2,rfl⟩:=ho;exact r.apart d ob g1 g2 (X _ z)) (λid z=>sF r.zrow z),
   Ev.heap (by rw[kM];grind) (λid _ _ l _=>u9 λz=>l (X id z)) (λid z=>sF r.zrow z)⟩
 have L:(dy args).isSome=true->(∀id∈cW (cn n H) ys,Z id)/\True:=λY=>by
  obtain⟨xs,Y⟩:=isSome_iff_exists.1 Y;have q:=o.dy Y;exact⟨λid z=>by
   obtain⟨j,u,s,aa⟩:=qK z;have hj:j<xs.length:=by rw[q.1];grind
   exact FR.cn r.deep n (q.2 j _ u (ζd hj) s) id aa,trivial⟩
 cases place with
 |none=>
  by_cases w:(result J).scalar=true
  .exact⟨n,H,λk B=>by simp[jS,e,C k B,w],r,G,.refl⟩
  obtain⟨X,-⟩:=L (U.resolve_left w);obtain⟨t,v⟩:=D _ X;exact⟨n,cM H (cW (cn n H) ys),λk B=>by simp[jS,e,C k B,w,o9,Q k B],t,G,v⟩
 |some bi=>
  obtain⟨b,i⟩:=bi;obtain⟨o1,o2⟩:=m b i rfl;have ah:=ae;have g:∀k,cm (run S.E k) f ys (H.take b)=some (result J)->(result J).scalar=false->jh (H.take b) (cW (cn k (H.take b)) ys)=true/\cW (cn k H) ys=cW (cn k (H.take b)) ys:=λk _ ai=>by
   obtain⟨xs,Y⟩:=isSome_iff_exists.1 (U.resolve_left Zac);have q:=o.dy Y;have W:∀id,Z id->Z id/\bq (H.take b) id=bq H id:=λid h=>⟨h,oa (o2 id h)⟩;have hd:Deep (H.take b) Z:=⟨λid es ys l hr c M u s=>by rw[(W id l).2]at hr;obtain⟨x,Y⟩:=r.deep.row id es ys l hr c M u s;exact⟨x,Y.mono W⟩⟩;have hZ:∀id∈cW (cn k (H.take b)) ys,Z id:=λid z=>by
    obtain⟨j,u,s,aa⟩:=qK z;have hj:j<xs.length:=by rw[q.1];grind
    exact FR.cn hd k ((q.2 j _ u (ζd hj) s).mono W) id aa
   refine⟨?_,vl _ λid z=>o2 id (hZ id z)⟩;unfold jh;rw[all_eq_true];intro id z;have p:=r.zrow id (hZ id z);rw[<-(W id (hZ id z)).2]at p;exact p
  rcases a with a|a
  .have ad:=ab b i rfl Zac
   by_cases w:(result J).scalar=true
   .refine⟨n,H,λk B=>?_,r,G,.refl⟩
    simp[jS,e];split
    next y E=>have:=qP E;rw[C k B]at this;cases this;simp[w]
    simp[ad,C k B,w]
   obtain⟨X,-⟩:=L (U.resolve_left w);obtain⟨t,v⟩:=D _ X;refine⟨n,cM H (cW (cn n H) ys),λk B=>?_,t,G,v⟩
   simp only[jS,e,o9,false_eq_true,if_false];split
   .rename_i y E;have A:=qP E;rw[C k B]at A;cases A;obtain⟨f1,f2⟩:=g k E (by simpa using w)
    rw[if_neg w,if_pos f1,<-f2,Q k B]
   simp only[ad,if_true,C k B];rw[if_neg w,Q k B]
  obtain⟨n3,af⟩:=MY r o K o1 o2 a;have O:=Gb p h2 P af
  by_cases w:(result J).scalar=true
  .refine⟨max N n3,H,λk B=>?_,r,G,.refl⟩
   simp[jS,e];have:=O k B;simp[this,w]
  obtain⟨X,-⟩:=L (U.resolve_left w);obtain⟨t,v⟩:=D _ X;refine⟨max n (max N n3),cM H (cW (cn n H) ys),λk B=>?_,t,G,v⟩
  simp only[jS,e,o9,false_eq_true,if_false];have A:=O k Zaa
  obtain⟨f1,f2⟩:=g k A (by simpa using w)
  simp only[A];rw[if_neg w,if_pos f1,<-f2,Q k Zaa]
theorem Gg{α:Type}{k:Nat}{v:α}:∀{ds:L' Nat}{g:Tb α},bh (oH ds g) k=some v->k∉ds
 |[],_,_=>Zab|d::ds,g,h=>by have a:=Gg (ds:=ds) h;have u:=(pe (pG h)).1;grind
theorem zQ:∀{args:L' SV}{ds:L' Nat},rowsOf args=some ds->∀(j:Nat)u,args[j]?=some u->(∃x,u=.v x)\/∃d,u=.own d/\d∈ds
 |[],_,_,j,u,hu=>by simp_all|.v x::r,ds,h,j,u,hu=>by cases j with|zero=>grind|succ j=>exact zQ (by simpa[rowsOf]using h) j u Zac
 |.own d::r,ds,h,j,u,hu=>by obtain⟨es,a,rfl⟩:=ζf.1 h;cases j with|zero=>grind|succ j=>rcases zQ a j u Zac with k|⟨w,k1,k2⟩;grind;grind
 |.ptr ..::_,_,h,_,_,_|.el ..::_,_,h,_,_,_|.mp _::_,_,h,_,_,_|.clo ..::_,_,h,_,_,_|.tup _::_,_,h,_,_,_|.agg _::_,_,h,_,_,_|.yl _::_,_,h,_,_,_=>by simp[rowsOf]at h
theorem xN:∀{args:L' SV}{ds:L' Nat}{n:Nat}{az:L' V},rowsOf args=some ds->c8 m n args=some az->∀d∈ds,∃ob,bh m d=some ob
 |[],ds,_,_,h,_,d,hd=>by simp[rowsOf]at h;grind|x::r,ds,n,az,h,B,d,hd=>by
  simp[c8]at B;split at B;rotate_left;cases B;rename_i y s a D
  cases x with
  |v x=>exact xN (by simpa[rowsOf]using h) D d hd|own e=>obtain⟨es,g1,rfl⟩:=ζf.1 h;rcases mem_cons.1 hd with rfl|hd;cases n<;>(simp[shut]at a;grind);exact xN g1 D d hd
  |_=>simp[rowsOf]at h
theorem CS{H0:bn}(hd:Deep H0 Z)(W:∀d ob,bh m d=some ob->cD ob=true->(H0[(ν d).1]?).isSome=true->en ν m H0 Z d ob){args:L' SV}{ys:L' V}(U:cg ν m H0 Z args ys){ds:L' Nat}(f:rowsOf args=some ds)
 (J:∀d∈ds,∃ob,bh m d=some ob){q id:Nat}(h:id∈cW (cn q H0) ys):Z id\/∃d ob,d∈ds/\bh m d=some ob/\cD ob=true/\(ν d).1=id/\∃j es off len:Nat,ys[j]?=some (V.hsl id es off len):=by
 obtain⟨j,y,T,a⟩:=qK h;have X:j<args.length:=by rw[U.1];grind
 have b:=ζd X;have D:=U.2 j _ y b T;rcases zQ f j _ b with⟨x,e⟩|⟨d,e,I⟩
 .rw[e]at D;cases D with|v _ _ Y=>exact .inl (FR.cn hd q Y id a)
 rw[e]at D;obtain⟨ob,C⟩:=J d I;obtain⟨k,es,G,rfl,rfl⟩:=D.kK C
 by_cases w:cO k=true
 .cases q with
  |zero=>simp[cn]at a|succ q=>
  have L:tn (ν d) k es G.length=.hsl (ν d).1 es (ν d).2 G.length:=by cases k<;>first|rfl|cases w
  rw[L]at a;have g:cD (.sl k es G)=true:=w
  by_cases z:(H0[(ν d).1]?).isSome=true
  .have o:=W d _ C g z;simp[en,w]at o;obtain⟨s,l,_,_,n,_⟩:=o;simp only[cn,closed,false_eq_true,if_false,l,mem_cons]at a;rcases a with rfl|a
   .grind
   obtain⟨i,u,b,O⟩:=qK a;obtain⟨c,p,Q⟩:=List.mem_flatten.1 (mem_of_getElem? b);obtain⟨x,r⟩:=n c (mem_of_mem_drop (List.mem_of_mem_take p)) u Q;exact .inl (FR.cn hd q r id O)
  have B:H0[(ν d).1]?=none:=Zac
  simp[cn,closed,B]at a
  grind
 have S:(tn (ν d) k es G.length).closed=true:=by cases k<;>first|rfl|(exact absurd rfl w)
 rw[Iy q H0 S]at a;cases a
theorem VP(hS:jw S c){ops:L' Oper}{place:Lk (Nat×Nat)}{E:Bool}(W:∀b i,place=some (b,i)->E=true->dJ ops i=true)
 (a:∀b i,place=some (b,i)->∀id,Z id->id<b)
 (r:R ν Z st F H){args:L' SV}{ys:L' V}(p:cg ν st.m H Z args ys){f:FuncId}(q:S.E.keep f=false){az:L' V}(K:c8 st.m 8 args=some az)(ad:(!place.isSome||E)=true)
 {rs:L' SV}{m':dD}{J:L' V}(t:c f (az.map .v) []=some (rs,m'))(Y:c8 m' 8 rs=some J)(U:(result J).scalar=false){ds:L' Nat}(g:rowsOf args=some ds)(M:∀d∈ds,∃ob,bh st.m d=some ob):
 ∃n H',(∀k,n<=k->jS S.E (run S.E k) ops place f ys H=some (result J,H'))/\R ν Z {st with m:=oH ds st.m} F H'/\dn ν (oH ds st.m) H' Z (.v (result J)) (result J)/\Ev Rv ν Z st H ν Z {st with m:=oH ds st.m} H':=by
 have hg:=A_ r.obj K p;obtain⟨n1,rr,H2,h1,h2,N⟩:=C8 hS hg t Y;obtain⟨n2,v⟩:=yR r p K;have C:=Gb h1 h2 N v;generalize hn:max n1 n2=n at C;have D:=C;have L:∀k,n<=k->cW (cn k H) ys=cW (cn n H) ys:=λk q=>Am q (v n Zaa)
 have T:∀{H'},dn ν (oH ds st.m) H' Z (.v (result J)) (result J):=.v _ _ (.same _ N);have B:∀d ob,bh (oH ds st.m) d=some ob->bh st.m d=some ob:=λd ob h=>pG h
 have P:∀id∈cW (cn n H) ys,Z id\/∃d ob,d∈ds/\bh st.m d=some ob/\cD ob=true/\(ν d).1=id/\∃j es off len:Nat,ys[j]?=some (V.hsl id es off len):=λid w=>CS r.deep (λd ob h _ _=>r.obj d ob h) p g M w
 have r2:=r.less (λ_ _ h=>h) B
 have q1:=r2.heap (λid X=>u9 λw=>by
  obtain⟨d,ob,g1,g2,rfl⟩:=X;rcases P _ w with h|⟨A,O,k1,k2,k3,k4,_⟩
  .exact r.apart d ob (B d ob g1) g2 h
  have:=r.inj A d O ob k2 (B d ob g1) k3 g2 k4;subst this;exact Gg g1 k1) (λid w=>sF r.zrow w)
 have q2:Ev Rv ν Z st H ν Z {st with m:=oH ds st.m} (cM H (cW (cn n H) ys)):=(Ev.heap (by rw[kM];grind) (λid _ X Y _=>u9 λw=>by
  rcases P _ w with h|⟨A,O,k1,k2,k3,k4,_⟩
  .simp_all
  exact X ⟨A,O,k2,k3,k4⟩) (λid w=>sF r.zrow w)).trans (Ev.less B)
 cases place with
 |none=>exact⟨n,cM H (cW (cn n H) ys),λk z=>by simp[jS,mo,q,D k z,U,o9,L k z],q1,T,q2⟩
 |some bi=>
  obtain⟨b,i⟩:=bi;have o2:=a b i rfl;have l:∀k,cm (run S.E k) f ys (H.take b)=some (result J)->jh (H.take b) (cW (cn k (H.take b)) ys)=true/\cW (cn k H) ys=cW (cn k (H.take b)) ys:=λk hi=>by
   have G:∀id,Z id->Z id/\bq (H.take b) id=bq H id:=λid h=>⟨h,oa (o2 id h)⟩
   have hd:Deep (H.take b) Z:=⟨λid es ys Y g c t u hu=>by
    rw[(G id Y).2]at g;obtain⟨x,s⟩:=r.deep.row id es ys Y g c t u hu;exact⟨x,s.mono G⟩⟩
   have ae:=p.mono G λe _=>jm ν st.m e
   have af:∀d ob,bh st.m d=some ob->cD ob=true->((H.take b)[(ν d).1]?).isSome=true->en ν st.m (H.take b) Z d ob:=λd ob h v ah=>
    en.mono G rfl (λ_=>by
     grind) (λe _=>jm ν st.m e) (r.obj d ob h)
   have ab:∀(j:Nat)(y:V),ys[j]?=some y->(borrow k (H.take b) y).isSome=true:=λj y Q=>by
    unfold cm at hi;rw[o9]at hi;split at hi
    .rename_i ai aj;obtain⟨_,hm⟩:=jo aj;have hj:=(ζe.1 Q).1;obtain⟨x,al,am⟩:=hm j _ (ζd (show j<ai.length by omega))
     grind
    cases hi
   have hZ:∀id∈cW (cn k (H.take b)) ys,id<b/\(bq (H.take b) id).isSome=true:=λid w=>by
    rcases CS hd af ae g M w with h|⟨d,ob,k1,k2,k3,k4,j,es,off,len,Q⟩
    .have:=r.zrow id h
     grind
    have I:=ab j _ Q
    cases k with
    |zero=>simp[borrow,closed]at I
    |succ k=>
    simp only[borrow,closed,false_eq_true,if_false]at I;split at I
    next an xs s=>obtain⟨o,X,_⟩:=ζg.1 s;have:=(ζe.1 X).1;rw[List.length_take]at this;exact⟨by omega,by unfold bq;rw[s];rfl⟩
    cases I
   refine⟨?_,vl _ λid w=>(hZ id w).1⟩
   unfold jh;rw[all_eq_true];exactλid w=>(hZ id w).2
  refine⟨n,cM H (cW (cn n H) ys),λk z=>?_,q1,T,q2⟩
  simp only[jS,mo,q,o9,Bool.false_and,false_eq_true,if_false];split
  next y Q=>have h9:=qP Q;rw[D k z]at h9;cases h9;obtain⟨f1,f2⟩:=l k Q;rw[if_neg (by rw[U];simp),if_pos f1,<-f2,L k z]
  have ak:=W b i rfl (by simpa using ad)
  simp only[ak,if_true,D k z];rw[if_neg (by rw[U];simp),L k z]
theorem K7{xs ys:L' (L' V)}(h:gH H Z xs ys)(B:mw xs=true):ys=xs:=by
 refine(List.ext_getElem h.1 λj a z=>?_).symm;have:=h.2 j _ _ (ζd a) (ζd z);have w:=by unfold mw at B;rw[all_eq_true]at B;have:=B _ (List.getElem_mem a);rw[all_eq_true]at this;exact sx.2 λk u b=>this u (mem_of_getElem? b)
 exact(this.scalar.1 w).symm
theorem EP:∀{B:L' Nat}{os:Tb bJ}{g:Tb bJ},kr g B=some os->∀k ob,bh os k=some ob->bh g k=some ob
 |[],os,g,h,k,ob,hk=>by simp[kr]at h;subst h;simp[bh]at hk|n::r,os,g,h,k,ob,hk=>by
  simp only[kr]at h;split at h;rename_i v t a D;cases h;simp only[bh]at hk;split at hk;next e=>subst e;cases hk;exact a
  exact EP D k ob hk;cases h
theorem KW{args:L' SV}{os:dD}(h:handed m args=some os):∀k ob,bh os k=some ob->bh m k=some ob:=EP h
mutual
theorem TB{d:Nat}:∀{x:SV},x.c6 d=true->d∈x.CG
 |.v _,h=>by simp[SV.c6]at h|.own e,h|.ptr e _,h|.el e _ _,h|.mp e,h=>by simp[SV.c6]at h;simp[SV.CG,h]|.clo _ a b,h=>by simp only[SV.c6,or_eq_true]at h;simp only[SV.CG,mem_append];rcases h with h|h;exact .inl (vC h);exact .inr (vC h)
 |.tup l,h|.agg l,h=>by simp only[SV.c6]at h;simp only[SV.CG];exact vC h|.yl _,h=>by simp[SV.c6]at h
theorem vC{d:Nat}:∀{l:L' SV},SV.dK d l=true->d∈SV.sO l
 |[],h=>by simp[SV.dK]at h|x::r,h=>by simp only[SV.dK,or_eq_true]at h;simp only[SV.sO,mem_append];rcases h with h|h;exact .inl (TB h);exact .inr (vC h)
end
theorem C1{D:L' Nat}{ob:bJ}(h:within D ob=true){e:Nat}(B:ob.c6 e=true):e∈D:=by cases ob with|box cs=>unfold within at h;rw[all_eq_true]at h;simpa using h e (vC B)|sl k es w=>simp[bJ.c6]at B|mp u=>simp[bJ.c6]at B
theorem ET{D:L' Nat}:∀{l:L' Nat}{a b:Tb bJ},Aw D m' l a=some b->(∀k∈l,bh b k=bh m' k/\∃ob,bh m' k=some ob/\within D ob=true)/\∀k,k∉l->bh b k=bh a k
 |[],a,b,h=>by simp[Aw]at h;grind|d::r,a,b,h=>by simp[Aw]at h;split at h;rename_i ob B;split at h;rename_i hp;obtain⟨g,G⟩:=ET h;refine⟨λk c=>?_,λk c=>?_⟩;by_cases f:k∈r;grind;have e:k=d:=Zac;subst e;exact⟨by rw[G k f,cI,B],ob,B,hp⟩;simp at c;rw[G k c.2,dW _ _ (Ne.symm c.1)];grind;grind
theorem HS{l:L' Nat}{a b:Tb bJ}(h:lp m' l a=some b):(∀k∈l,bh b k=bh m' k/\∃ob,bh m' k=some ob/\within l ob=true)/\∀k,k∉l->bh b k=bh a k:=ET h
theorem mem_keys:∀{os:dD}{k:Nat},k∈os.map (·.1)↔∃ob,bh os k=some ob
 |[],k=>by simp[bh]|(d,o)::os,k=>by simp[bh];by_cases e:d=k;simp_all;rw[if_neg e,<-mem_keys];grind
theorem uZ:∀{l:L' SV}{j:Nat}{u:SV},SV.xV l=true->l[j]?=some u->u.bare=true
 |[],j,u,h,B=>by simp at B|x::r,j,u,h,B=>by simp only[SV.xV,ζh]at h;cases j with|zero=>simp at B;subst B;exact h.1|succ j=>exact uZ h.2 (by simpa using B)
theorem dn.bare{Z2:Nat->Prop}{sv:SV}{y:V}(r:dn ν m H Z sv y):sv.bare=true->dn ν m H Z2 sv y:=by induction r with|v x y h=>intro z;have z:x.scalar=true:=z;rw[(h.scalar.1 z)];exact .v _ _ (.same _ (kj z))|own d y h=>intro _;exact .own d y h|ptr d o y h=>intro _;exact .ptr d o y h|el d i o y h=>intro _;exact .el d i o y h|mp d y h=>intro _;exact .mp d y h|clo f a b B G C z hva I w D=>intro h;simp only[SV.bare,ζh]at h;exact .clo f a b B G C z (λj u v c e=>w j u v c e (uZ h.1 c)) λj u v c e=>D j u v c e (uZ h.2 c)|tup a B C hva w=>intro h;exact .tup a B C λj u v c e=>w j u v c e (uZ h c)|agg a B C hva w=>intro h;exact .agg a B C λj u v c e=>w j u v c e (uZ h c)|yl id=>intro _;exact .yl id
theorem en.bare{Z2:Nat->Prop}{d:Nat}{ob:bJ}(h:ob.bare=true)(o:en ν m H Z d ob):en ν m H Z2 d ob:=by cases ob with|box cs=>obtain⟨es,w,b,z,B⟩:=o;exact⟨es,w,b,⟨z.1,λj u v a c=>(z.2 j u v a c).bare (uZ h a)⟩,B⟩|sl k es D=>cases h|mp C=>cases h
theorem BN(hS:jw S c){f:FuncId}(ae:S.E.keep f=true)(r:R ν Z st F H){args:L' SV}{ys:L' V}(ha:cg ν st.m H Z args ys){os:dD}(hh:handed st.m args=some os)
 {rs:L' SV}{m':dD}{J:Tb bJ}(hc:c f args os=some (rs,m'))(x:lp m' (os.map (·.1)) st.m=some J):
 ∃n H' U Z' G F1 K,(∀k,n<=k->run S.E k (.fn f) ys H=some (result K,H'))/\G.m=m'/\cg U m' H' Z' rs K/\R U Z' G F1 H'/\(∀e ob,bh m' e=some ob->e∉os.map (·.1)->cD ob=true->H.length<=(U e).1)/\
  R ν Z' {st with m:=J} F H'/\Ev Rv ν Z st H ν Z' {st with m:=J} H'/\(∀e ob',bh J e=some ob'->∃ob,bh st.m e=some ob/\ν e=ν e/\sameShape ob ob')/\
  ((∀k∈os.map (·.1),AX J k=true)->R ν Z {st with m:=J} F H'/\Ev Rv ν Z st H ν Z {st with m:=J} H'):=by
 have u:=KW hh;have ab:=ha.mono (λid h=>⟨h,rfl⟩) λe _ ob' h=>⟨ob',u e ob' h,rfl,.refl _⟩
 have r0:R ν Z (start args os) ys H:=by refine⟨yO ab,λd ob hd=>?_,λd d' ob ob' a B=>r.inj d d' ob ob' (u d ob a) (u d' ob' B),λd ob h=>r.apart d ob (u d ob h),r.zrow,r.deep⟩;exact en.mono (λid h=>⟨h,rfl⟩) rfl (λ_=>rfl) (λe _ ob' h=>⟨ob',u e ob' h,rfl,.refl _⟩) (r.obj d ob (u d ob hd))
 obtain⟨n,y,H',U,Z',G,F1,K,e1,rfl,rfl,e2,e3,ev⟩:=hS f args os rs m' hc ν Z ys H (.inl ae) r0 ab;obtain⟨M,b2⟩:=HS x;have I:∀k ob',k∈os.map (·.1)->bh G.m k=some ob'->∃ob,bh os k=some ob/\U k=ν k/\sameShape ob ob':=λk ob' g h=>ev.pin k g ob' h
 have L:∀id,fS ν os id->fS ν st.m id:=λid⟨k,o,a,B,C⟩=>⟨k,o,u k o a,B,C⟩
 have A:∀ob ob':bJ,sameShape ob ob'->cD ob'=cD ob:=λob ob' h=>by cases ob<;>cases ob'<;>simp[sameShape]at h;simp[cD,h.1];rfl;rfl
 have D:∀k ob',bh J k=some ob'->∃ob,bh st.m k=some ob/\sameShape ob ob'/\(k∈os.map (·.1)/\bh G.m k=some ob'/\U k=ν k/\bh os k=some ob/\within (os.map (·.1)) ob'=true\/k∉os.map (·.1)/\ob'=ob):=λk ob' h=>by by_cases g:k∈os.map (·.1);grind;rw[b2 k g]at h;exact⟨ob',h,.refl _,.inr ⟨g,rfl⟩⟩
 have z:∀k ob,k∉os.map (·.1)->bh st.m k=some ob->cD ob=true->H'[(ν k).1]?=H[(ν k).1]?/\¬Z' (ν k).1:=λk ob g h w=>by
  have ad:¬fS ν os (ν k).1:=by rintro⟨k2,o2,g1,g2,g3⟩;have:=r.inj k2 k o2 ob (u k2 o2 g1) h g2 w g3;subst this;exact g (mem_keys.2 ⟨o2,g1⟩)
  have af:=r.lt ⟨k,ob,h,w,rfl⟩;have ah:=r.apart k ob h w;refine⟨ev.same _ af ad ah (λh=>h),λai=>?_⟩;rcases ev.frz _ ai with h|h|h|h;simp_all;exact ad h;omega;omega
 have i:∀e ob',bh J e=some ob'->∃ob,bh st.m e=some ob/\ν e=ν e/\sameShape ob ob':=λe ob' h=>by obtain⟨ob,a,B,_⟩:=D e ob' h;exact⟨ob,a,rfl,B⟩
 have j:∀e ob,bh G.m e=some ob->e∉os.map (·.1)->cD ob=true->H.length<=(U e).1:=λe ob q aj w=>by rcases ev.own _ ⟨e,ob,q,w,rfl⟩with⟨k,o,a,B,C⟩|h|h;have g:k∈os.map (·.1):=mem_keys.2 ⟨o,a⟩;obtain⟨_,ob',h4,_⟩:=M k g;obtain⟨o2,T,Y,l⟩:=I k ob' g h4;have T:bh os k=some o2:=T;have a:bh os k=some o:=a;rw[a]at T;cases T;have:=e3.inj e k ob ob' q h4 w (by rw[A _ _ l];exact B) (by rw[Y];exact C.symm);exact absurd (this▸g) aj;exact h.elim;exact h
 have W:∀b t o1 o2,bh J b=some o1->bh J t=some o2->cD o1=true->cD o2=true->(ν b).1=(ν t).1->b=t:=λb t o1 o2 a B k1 k2 hp=>by obtain⟨p1,g1,v,_⟩:=D b o1 a;obtain⟨p2,g2,s2,_⟩:=D t o2 B;exact r.inj b t p1 p2 g1 g2 (by rw[<-A _ _ v];omega) (by rw[<-A _ _ s2];omega) hp
 have O:∀id,id<H.length->¬fS ν st.m id->¬Z id->¬Rv id->H'[id]?=H[id]?:=λid hl ho hz _=>ev.same id hl (λh=>ho (L id h)) hz (λh=>h)
 have X:∀id,fS ν J id->fS ν st.m id\/Rv id\/H.length<=id:=by rintro id ⟨k,o,a,B,C⟩;obtain⟨ob,g1,v,_⟩:=D k o a;exact .inl ⟨k,ob,g1,by rw[<-A _ _ v];omega,C⟩
 have N:∀id,Z id->Z id/\bq H' id=bq H id:=λid h=>⟨h,(ev.rows id h).2⟩
 refine⟨n,H',U,Z',G,F1,K,λk g=>(oN S.E g).go _ _ _ _ e1,rfl,e2,e3,j,⟨λs sv P=>(r.slot s sv P).mono ev.rows λe _=>i e,λk ob' h=>?_,W,λb o1 a k1=>?_,e3.zrow,e3.deep⟩,⟨ev.len,O,ev.rows,X,?_,λe _=>i e,rfl⟩,i,
  λak=>⟨⟨λs sv P=>(r.slot s sv P).mono N λe _=>i e,λk ob' h=>?_,W,λb o1 a k1=>?_,λid h=>by rw[(ev.rows id h).2];exact r.zrow id h,r.deep.mono λid h=>(ev.rows id h).2⟩,⟨ev.len,O,N,X,λid h=>.inl h,λe _=>i e,rfl⟩⟩⟩
 .obtain⟨ob,a,B,C|⟨C,rfl⟩⟩:=D k ob' h
  .obtain⟨T,Y,l,q4,q5⟩:=C;refine en.mono (λid h=>⟨h,rfl⟩) l.symm (λ_=>rfl) (λe q Q B=>?_) (e3.obj k ob' Y)
   have E:=C1 q5 q;obtain⟨u1,al,p,_⟩:=M e E;rw[u1,p]at B;cases B;obtain⟨_,_,u4,_⟩:=I e Q E p;exact⟨Q,p,u4.symm,.refl _⟩
  exact en.mono ev.rows rfl (λw=>(z k ob' C a w).1) (λe _=>i e) (r.obj k ob' a)
 .obtain⟨ob,g1,v,C|⟨C,rfl⟩⟩:=D b o1 a
  .obtain⟨T,Y,l,q4,q5⟩:=C;rw[<-l];exact e3.apart b o1 Y k1
  exact(z b o1 C g1 k1).2
 .intro id h;rcases ev.frz id h with h|h|h|h
  .exact .inl h
  .exact .inr (.inl (L id h))
  .exact h.elim
  omega
 .obtain⟨ob,a,B,C|⟨C,rfl⟩⟩:=D k ob' h
  .obtain⟨T,Y,l,q4,q5⟩:=C;have x:=ak k T;unfold AX at x;rw[h]at x;refine en.bare (Z:=Z') x (en.mono (λid h=>⟨h,rfl⟩) l.symm (λ_=>rfl) (λe q Q B=>?_) (e3.obj k ob' Y))
   have E:=C1 q5 q;obtain⟨u1,al,p,_⟩:=M e E;rw[u1,p]at B;cases B;obtain⟨_,_,u4,_⟩:=I e Q E p;exact⟨Q,p,u4.symm,.refl _⟩
  exact en.mono N rfl (λw=>(z k ob' C a w).1) (λe _=>i e) (r.obj k ob' a)
 obtain⟨ob,g1,v,_⟩:=D b o1 a;exact r.apart b ob g1 (by rw[<-A _ _ v];exact k1)
theorem V3(a:jw S c){f:FuncId}(G:S.E.keep f=true)(r:R ν Z st F H){args:L' SV}{ys:L' V}(J:cg ν st.m H Z args ys){os:dD}(U:handed st.m args=some os)
 {rs:L' SV}{m':dD}{D:L' V}{B:Tb bJ}(b:c f args os=some (rs,m'))(W:dy rs=some D)(Y:lp m' (os.map (·.1)) st.m=some B):
 ∃n y H' Z',(∀k,n<=k->run S.E k (.fn f) ys H=some (y,H'))/\R ν Z' {st with m:=B} F H'/\dn ν B H' Z' (.v (result D)) y/\Ev Rv ν Z st H ν Z' {st with m:=B} H'/\∀e ob',bh B e=some ob'->∃ob,bh st.m e=some ob/\ν e=ν e/\sameShape ob ob':=by
 obtain⟨n,H',O,Z',C,F1,w,e1,_,e2,_,_,g1,g2,g3,_⟩:=BN (Rv:=Rv) a G r J U b Y;refine⟨n,result w,H',Z',e1,g1,?_,g2,g3⟩;have u:=e2.dy W;have:FR H' Z' (result D) (result w):=by cases D with|nil=>rw[u.c9];exact .same _ rfl|cons x z=>obtain⟨y,I,rfl,g1,g2⟩:=u.inv;cases z with|nil=>rw[g2.c9];exact g1|cons x2 z=>obtain⟨Q,L,rfl,g3,g4⟩:=g2.inv;exact .tup _ _ u.1 u.2
 exact .v _ _ this
theorem zl{ys:L' V}(h:cV ys=true):(result ys).scalar=true:=by cases ys with|nil=>rfl|cons a l=>cases l with|nil=>simp only[cV,ζh]at h;exact h.1|cons b l=>simp[result,scalar];omega
theorem Vs(a:jw S c){f:FuncId}(G:S.E.keep f=true)(r:R ν Z st F H){args:L' SV}{ys:L' V}(W:cg ν st.m H Z args ys){os:dD}(Y:handed st.m args=some os)
 {rs:L' SV}{m':dD}{D:L' V}{B:Tb bJ}(b:c f args os=some (rs,m'))(d:dy rs=some D)(g:lp m' (os.map (·.1)) st.m=some B)(U:cV D=true)(J:∀k∈os.map (·.1),AX B k=true):
 ∃n H',(∀k,n<=k->run S.E k (.fn f) ys H=some (result D,H'))/\R ν Z {st with m:=B} F H'/\dn ν B H' Z (.v (result D)) (result D)/\Ev Rv ν Z st H ν Z {st with m:=B} H'/\∀e ob',bh B e=some ob'->∃ob,bh st.m e=some ob/\ν e=ν e/\sameShape ob ob':=by
 obtain⟨n,H',z,Z',u,F1,C,e1,_,e2,_,_,_,_,g3,g4⟩:=BN (Rv:=Rv) a G r W Y b g;obtain⟨g1,g2⟩:=g4 J;have w:=(e2.dy d).scalar.1 U;subst w;exact⟨n,H',e1,g1,.v _ _ (.same _ (kj (zl U))),g2,g3⟩
theorem Wh(i:jw S c){f:FuncId}(W:S.E.keep f=true)(r:R ν Z st F H){args:L' SV}{ys:L' V}(j:cg ν st.m H Z args ys){os:dD}(l:handed st.m args=some os)
 {rest:L' SV}{m':dD}{U:L' V}{B:Tb bJ}{e t es:Nat}{k:Fl}{xs:L' (L' V)}(q:c f args os=some (.own e::rest,m'))(s:dy rest=some U)(v:lp m' (os.map (·.1)) st.m=some B)
 (G:bh m' e=some (.sl k es xs))(J:e∉os.map (·.1))(D:St.new {st with m:=B} t=true):
 ∃n y H' ν' Z',(∀k,n<=k->run S.E k (.fn f) ys H=some (y,H'))/\R ν' Z' {st with m:=bN B t (.sl k es xs)} F H'/\dn ν' (bN B t (.sl k es xs)) H' Z' (BZ (.own t::U.map .v)) y/\Ev Rv ν Z st H ν' Z' {st with m:=bN B t (.sl k es xs)} H'/\Kept (some t) ν st.m ν' (bN B t (.sl k es xs)):=by
 obtain⟨n,H',I,Z',aa,F1,ws,e1,rfl,e2,e3,a,g1,g2,g3,_⟩:=BN (Rv:=Rv) i W r j l q v;obtain⟨w,O,rfl,A,E⟩:=e2.inv;have o:=e3.obj e _ G;have Q:cD (.sl k es xs)=true->¬fS ν B (I e).1:=λC=>by
  rintro⟨k2,o2,g,K,h3⟩;obtain⟨o3,M,_,X⟩:=g3 k2 o2 g;have T:cD o3=true:=by cases o3<;>cases o2<;>simp[sameShape]at X;rw[<-K];simp[cD,X.1];rfl;rfl
  have ab:=r.lt ⟨k2,o3,M,T,rfl⟩;have:=a e _ G J C;omega
 have N:=g1.add D (ob:=.sl k es xs) (p:=I e) (λC=>⟨Q C,e3.apart e _ G C⟩) (by
  simp only[en,iw];exact o)
 have b:dn (jf ν t (I e)) (bN B t (.sl k es xs)) H' Z' (.own t) w:=by refine .own _ _ λu Y=>?_;rw[cI]at Y;cases Y;obtain⟨_,_,_,P,rfl⟩:=A.kK G;cases P;exact⟨_,_,_,rfl,by rw[iw]⟩
 obtain⟨n1,n2,n3,n4⟩:=nu D;refine⟨n,result (w::O),H',jf ν t (I e),Z',e1,N,?_,⟨g2.len,g2.same,g2.rows,?_,g2.frz,?_,g2.pins⟩,?_⟩
 .have L:=E.dy s
  cases U with
  |nil=>rw[L.c9];exact b|cons x U=>obtain⟨y,ad,rfl,_,_⟩:=L.inv;exact .tup _ _ (by have:=L.1;simp at this⊢;omega) (cg.cons b (cg.sB L)).2
 .intro id h;rcases FV h with h|⟨g,rfl⟩
  .exact g2.own id h
  exact .inr (.inr (a e _ G J g))
 .intro d hd u h;have z:d≠t:=λe=>n1 (e▸hd)
  have h:bh (bN B t (.sl k es xs)) d=some u:=h;rw[dW _ _ (Ne.symm z)]at h;obtain⟨ob,k1,k2,k3⟩:=g2.pin d hd u h;exact⟨ob,k1,by rw[qd _ _ z],k3⟩
 intro d u hd h;have z:d≠t:=λe=>hd (by rw[e])
 rw[dW _ _ (Ne.symm z)]at h;obtain⟨ob,k1,_,k3⟩:=g3 d u h;exact⟨ob,k1,qd _ _ z,k3⟩
theorem Tr(a:jw S c){f:FuncId}{az:L' V}{rs:L' SV}{m':dD}(b:V.cE az=true)(h:c f (az.map .v) []=some (rs,m')):
 ∃n H2 ν' Z' st' F' ys,(∀k,n<=k->run S.E k (.fn f) az []=some (result ys,H2))/\st'.m=m'/\cg ν' m' H2 Z' rs ys/\R ν' Z' st' F' H2:=by
 obtain⟨u,r1⟩:=yu b;obtain⟨n,y,H2,ν',Z',st',F',w,d,rfl,z,B,C,_⟩:=a f _ _ _ _ h _ _ az [] (.inr rfl) u r1;exact⟨n,H2,ν',Z',st',F',w,λk e=>(oN S.E e).go _ _ _ _ d,z,B,C⟩
theorem Eo{ys:L' V}(h:cV ys=true):cV (.bM::ys)=true/\cV (.dL::ys)=true:=by simp[cV,scalar];grind
theorem cg.Yg{ys:L' V}(h:V.cE ys=true):cg ν m H Z (ys.map .v) ys:=cg.sB (dB.same h)
theorem SM(M:jw S c)(hP:∀f q,S.prm f=some q->ot S.E f q){ops:L' Oper}{place:Lk (Nat×Nat)}{dr nw:Bool}{fr:L' Nat}(Y:dr=place.isSome)(U:∀b i,place=some (b,i)->nw=true->dJ ops i=true)(aj:∀b i,place=some (b,i)->nw=false->dJ ops i=false)
 (l:∀b i,place=some (b,i)->(∀d ob,bh st.m d=some ob->cD ob=true->d∉fr->(ν d).1<b)/\∀id,Z id->id<b)
 (r:R ν Z st F H){args:L' SV}{ys:L' V}(K:cg ν st.m H Z args ys){f:FuncId}{dst:Lk Nat}{sv:SV}(h:fu S c dst dr (!dr||nw) (fZ st.m fr) f args st=some (sv,st')):
 ∃n y H' ν' Z',(∀k,n<=k->jS S.E (run S.E k) ops place f ys H=some (y,H'))/\R ν' Z' st' F H'/\dn ν' st'.m H' Z' sv y/\Ev Rv ν Z st H ν' Z' st' H'/\(dr=true->Z'=Z)/\Kept dst ν st.m ν' st'.m:=by
 unfold fu at h;split at h
 .rename_i g;split at h
  .have C:∀{q:dG}{y:V}{H':bn},fq S.E q f ys H=some (y,H')->jS S.E q ops place f ys H=some (y,H'):=λ{q y H'}hd=>by
    unfold jS
    cases place with
    |none=>rw[if_pos (by simp[mo,g])];omega|some bi=>
     obtain⟨b,i⟩:=bi;have aK:=Y;have aB:=U b i rfl Zac
     rw[if_pos (by simp[mo,g,aB])]
     grind
   split at h
   .
    rename_i L;split at h
    .rename_i az hs;have hg:=A_ r.obj hs K;obtain⟨nb,A⟩:=yR r K hs;split at h
     .rename_i rs m' hc;obtain⟨na,H2,ν2,Z2,st2,F2,E,aC,rfl,e3,e4⟩:=Tr M hg hc;obtain⟨n,aD,aE⟩:∃n,na<=n/\nb<=n:=⟨max na nb,le_max_left ..,le_max_right ..⟩;have e1:=λk(g:n<=k)=>aC k (le_trans aD g)
      have O:∀k,n<=k->∀{o:Lk (V×bn)},(if(result E).scalar then some (result E,H)else
       match result E with
       |.hsl id es off len=>(sq H.length H2 id es off len).map λ(v,ob)=>(v,H++[ob])|.tup (.hsl id es off len::rest)=>if cV rest then(sq H.length H2 id es off len).map λ(v,ob)=>(.tup (v::rest),H++[ob])else none|_=>none)=o->fq S.E (run S.E k) f ys H=o:=λk D o P=>by
       unfold fq lu;rw[if_pos L];simp[o9,A k (le_trans aE D),e1 k D];exact P
      have ak:∀G:L' V,(result G).scalar=true->result E=result G->sv=.v (result G)->st'=st->∃n y H' ν' Z',(∀k,n<=k->jS S.E (run S.E k) ops place f ys H=some (y,H'))/\R ν' Z' st' F H'/\dn ν' st'.m H' Z' sv y/\Ev Rv ν Z st H ν' Z' st' H'/\(dr=true->Z'=Z)/\Kept dst ν st.m ν' st'.m:=by rintro G h1 h2 rfl rfl;exact⟨n,result G,H,ν,Z,λk D=>C (O k D (by rw[h2,if_pos h1])),r,.v _ _ (.same _ (kj h1)),.refl,λ_=>rfl,.refl⟩
      have emp:∀(k:Fl)(es:Nat)(G:L' V)(rest:L' SV),cV G=true->∀t,st.new t=true->∀w:V,(k=.nil/\w=.bM\/k=.emp/\w=.dL)->result (w::G)=result E->dst=some t->sv=BZ (.own t::G.map .v)->st'={st with m:=bN st.m t (.sl k es [])}->
       ∃n y H' ν' Z',(∀k,n<=k->jS S.E (run S.E k) ops place f ys H=some (y,H'))/\R ν' Z' st' F H'/\dn ν' st'.m H' Z' sv y/\Ev Rv ν Z st H ν' Z' st' H'/\(dr=true->Z'=Z)/\Kept dst ν st.m ν' st'.m:=by
       rintro k es G rest W t Q w hw al rfl rfl rfl;have ad:cO k=false:=by rcases hw with⟨rfl,_⟩|⟨rfl,_⟩<;>rfl
       have s:dn (jf ν t (0,0)) (bN st.m t (.sl k es [])) H Z (.own t) w:=by refine .own _ _ λT h'=>?_;rw[cI]at h';cases h';exact⟨_,_,_,rfl,by rcases hw with⟨rfl,rfl⟩|⟨rfl,rfl⟩<;>rfl⟩
       have am:(result (w::G)).scalar=true:=zl (by rcases hw with⟨_,rfl⟩|⟨_,rfl⟩;exact(Eo W).1;exact(Eo W).2)
       refine⟨n,result (w::G),H,jf ν t (0,0),Z,λk D=>C (O k D (by rw[<-al,if_pos am])),r.add Q (λA=>by simp[cD,ad]at A) (by simp[en,ad]),?_,
        Ev.add Q (le_refl _) (λ_ _ _=>rfl) (λ_ _=>rfl) (λA=>by simp[cD,ad]at A),λ_=>rfl,Kept.add λ_ _ h=>h⟩
       cases G with
       |nil=>exact s|cons z G=>exact .tup _ _ Zab (cg.cons s (cg.Yg (qC W))).2
      split at h
      .rename_i G J;split at h
       next W=>simp at h;exact ak G W ((HP (e3.dy J)).1 W) h.1.symm h.2.symm
       simp at h
      split at h
      .rename_i e rest t _;obtain⟨w,E,rfl,g1,g2⟩:=e3.inv;split at h
       .
        rename_i es xs G X J;split at h
        .rename_i B;simp at B;obtain⟨⟨c1,N⟩,Q⟩:=B;simp at h;obtain⟨rfl,rfl⟩:=h;have o:=e4.obj e _ X;simp only[en,if_true]at o;obtain⟨rows,hr,aL,hf,aJ,an⟩:=o;obtain⟨q1,q2⟩:=an trivial;have ae:=by
          have:=K7 hf N;rw[q1,drop_zero,<-q2,take_length]at this;exact this
         subst ae;obtain⟨_,_,_,ee,rfl⟩:=g1.kK X;cases ee;have I:=(g2.dy J).scalar.1 c1;subst I;have ao:sq H.length H2 (ν2 e).1 es 0 rows.length=some (.hsl H.length es 0 rows.length,.row es rows):=by unfold sq;rw[hr];simp only[true_and];rw[if_pos];rw[all_eq_true];intro x hx;unfold mw at N;rw[all_eq_true]at N;exact N x hx
         have hH:∀id,id<H.length->(H++[Ob.row es rows])[id]?=H[id]?:=λid hl=>getElem?_append_left hl
         have ap:∀id,Z id->bq (H++[Ob.row es rows]) id=bq H id:=λid J=>by unfold bq;rw[hH id (r.xq J)]
         have r2:=r.heap (λid P=>hH id (r.lt P)) ap
         have aq:V.nW rows=true:=by refine lE.2 λj u hu=>?_;unfold mw at N;rw[all_eq_true]at N;have:=N u (mem_of_getElem? hu);rw[all_eq_true]at this;exact iz.2 λi v hv=>kj (this v (mem_of_getElem? hv))
         have hR:=r2.add (ob:=.sl .row es rows) (p:=(H.length,0)) Q (λ_=>⟨λP=>absurd (r.lt P) Zab,λJ=>absurd (r.xq J) Zab⟩) (by
          simp only[en,iw];refine⟨rows,Zab,Zab,?_,(gH.same aq).Ir,λ_=>⟨trivial,rfl⟩⟩
          rw[drop_zero,take_length];exact gH.same aq)
         have s:dn (jf ν t (H.length,0)) (bN st.m t (.sl .row es rows)) (H++[Ob.row es rows]) Z (.own t) (.hsl H.length es 0 rows.length):=by refine .own _ _ λT h'=>?_;rw[cI]at h';cases h';exact⟨_,_,_,rfl,by simp[tn,iw]⟩
         have ar:Ev Rv ν Z st H (jf ν t (H.length,0)) Z {st with m:=bN st.m t (.sl .row es rows)} (H++[Ob.row es rows]):=Ev.add Q Zab (λid hl _=>hH id hl) ap (λ_=>.inr (le_refl _))
         have au:tn (ν2 e) Fl.row es rows.length=.hsl (ν2 e).1 es 0 rows.length:=by simp[tn,q1]
         rw[au]at O
         cases rest with
         |nil=>
          have:=by simp only[dy,ζa]at J;exact J.symm
          subst this;refine⟨n,_,_,_,Z,λk D=>C (O k D ?_),hR,s,ar,λ_=>rfl,Kept.add λ_ _ h=>h⟩
          simp[result,scalar,ao]
         |cons x2 rest=>
          have aF:∃w2 af,E=w2::af:=by have:=g2.1;cases E with|nil=>simp at this|cons a b=>exact⟨a,b,rfl⟩
          obtain⟨w2,af,rfl⟩:=aF;refine⟨n,_,_,_,Z,λk D=>C (O k D (o:=some (.tup (.hsl H.length es 0 rows.length::w2::af),H++[Ob.row es rows])) ?_),hR,?_,ar,λ_=>rfl,Kept.add λ_ _ h=>h⟩
          .simp only[result,scalar,cV,Bool.false_and,false_eq_true,if_false];have aG:=by simpa[cV]using c1
           simp[aG,ao]
          exact .tup _ _ Zab (cg.cons s (cg.Yg (qC c1))).2
        simp at h
       .rename_i es xs G X J;split at h
        next B=>simp at B;simp at h;obtain⟨rfl,rfl⟩:=h;obtain⟨_,_,_,ee,rfl⟩:=g1.kK X;cases ee;have I:=(g2.dy J).scalar.1 B.1;subst I;exact emp .nil es E rest B.1 _ B.2 .bM Zab rfl rfl rfl rfl
        simp at h
       .rename_i es xs G X J;split at h
        next B=>simp at B;simp at h;obtain⟨rfl,rfl⟩:=h;obtain⟨_,_,_,ee,rfl⟩:=g1.kK X;cases ee;have I:=(g2.dy J).scalar.1 B.1;subst I;exact emp .emp es E rest B.1 _ B.2 .dL Zab rfl rfl rfl rfl
        simp at h
       simp at h
      simp at h
     grind
    grind
   rename_i L;split at h
   .rename_i q hq;split at h
    .simp at h
    rename_i hd;obtain⟨n,y,H',ν',e1,e2,e3,e4,e5⟩:=U5 (hP f q hq) r K h;exact⟨n,y,H',ν',Z,λk D=>C (by unfold fq;rw[if_neg L];exact e1 k D),e2,e3,e4,λh=>absurd h hd,e5⟩
   split at h
   .rename_i os hh;split at h
    .rename_i rs m' hc;split at h
     .rename_i G m2 J A;split at h
      .simp at h
      rename_i aa;simp at h;obtain⟨rfl,rfl⟩:=h
      cases av:dr with
      |false=>obtain⟨n,y,H',Z',e1,e2,e3,e4,e5⟩:=V3 M g r K hh hc J A;exact⟨n,y,H',ν,Z',λk D=>C (by unfold fq;rw[if_neg L];exact e1 k D),e2,e3,e4,(λh=>nomatch h),λe T _=>e5 e T⟩|true=>
       rw[av]at aa;have jC:cV G=true/\∀k∈os.map (·.1),AX m2 k=true:=by simp only[Bool.true_and,not_eq_true',Bool.not_eq_false,ζh,all_eq_true]at aa;refine⟨aa.1,λk g=>?_⟩;obtain⟨x,hx,rfl⟩:=List.mem_map.1 g;exact aa.2 x hx
       obtain⟨n,H',e1,e2,e3,e4,e5⟩:=Vs (Rv:=Rv) M g r K hh hc J A jC.1 jC.2;exact⟨n,_,H',ν,Z,λk D=>C (by unfold fq;rw[if_neg L];exact e1 k D),e2,e3,e4,λ_=>rfl,λe T _=>e5 e T⟩
     .rename_i m2 J A;split at h
      .simp at h
      rename_i hd;split at h
      .rename_i e rest t;split at h
       .rename_i k es xs G he aH;split at h
        next B=>simp only[ζh,not_eq_true',List.contains_eq_mem,decide_eq_false_iff_not]at B;simp only[ζa,ζc]at h;obtain⟨rfl,rfl⟩:=h;obtain⟨n,y,H',ν',Z',e1,e2,e3,e4,e5⟩:=Wh M g r K hh hc aH A he B.1 B.2;exact⟨n,y,H',ν',Z',λk D=>C (by unfold fq;rw[if_neg L];exact e1 k D),e2,e3,e4,λh=>absurd h hd,e5⟩
        simp at h
       simp at h
      simp at h
     simp at h
    simp at h
   simp at h
  rename_i ab;split at h
  .rename_i ah;simp only[ζh]at ah;have ai:mo S.E ops place f=false:=by
    simp only[Bool.not_eq_true,or_eq_false_iff,Bool.not_eq_false']at ab
    cases place with
    |none=>rw[Y]at ab;simp at ab|some bi=>simp[mo,g,ah.1,aj _ _ rfl ab.2]
   split at h
   .rename_i az hs;split at h
    .rename_i rs m' hc;split at h
     .rename_i G J;split at h
      next B=>simp only[or_eq_true]at B;simp at h;obtain⟨rfl,rfl⟩:=h;obtain⟨n,H',e1,e2,e3,e4⟩:=LJ M Y U l r K ai hs (.inr ah.2) hc J B;exact⟨n,_,H',ν,Z,e1,e2,e3,e4,λ_=>rfl,.refl⟩
      simp at h
     simp at h
    simp at h
   simp at h
  simp at h
 rename_i g;have aw:S.E.keep f=false:=by simpa using g
 have ai:mo S.E ops place f=false:=by unfold mo;rw[aw];rfl
 split at h
 .rename_i az hs;split at h
  .rename_i hl;split at h
   .rename_i rs m' hc;split at h
    .rename_i G J;split at h
     .rename_i B;simp only[or_eq_true]at B;simp at h;obtain⟨rfl,rfl⟩:=h;obtain⟨n,H',e1,e2,e3,e4⟩:=LJ M Y U l r K ai hs (by simpa using hl) hc J B
      exact⟨n,_,H',ν,Z,e1,e2,e3,e4,λ_=>rfl,.refl⟩
     rename_i ax;split at h
     .rename_i aI;obtain⟨ds,ay,e⟩:=ζf.1 h;simp at e;obtain⟨rfl,rfl⟩:=e;have aA:(result G).scalar=false:=by
       cases hq:(result G).scalar with
       |false=>rfl|true=>exact absurd (by simp[hq]) ax
      obtain⟨n,H',e1,e2,e3,e4⟩:=VP M U (λb i hp=>(l b i hp).2) r K aw hs (by rw[<-Y];exact aI) hc J aA ay (xN ay hs)
      exact⟨n,_,H',ν,Z,e1,e2,e3,e4,λ_=>rfl,λe T _ h=>⟨T,pG h,rfl,.refl _⟩⟩
     simp at h
    simp at h
   simp at h
  simp at h
 simp at h
end
structure CX where
 E:Env
 nm:FuncId->Option Nat
 nt:Nat
def Dr(ops:L' Oper)(o:Oper):Lk (Lk (Nat×Bool)):=
 match o.guard with
 |none=>some none|some (j,b)=>((ops[j]?).bind (·.dst)).map λd=>some (d,b)
def zL(a:Nat):Lk Nat->Bool
 |none=>true|some d=>decide (d<a)
def yX(B:Bool)(ops:L' Oper)(i:Nat)(k:K)(os:L' Operand):K×L' Operand×Bool:=
 if B&& !dJ ops i then match k,os,Bc ops i with
  |.l (.store n),.tmp u::w,some (a,l)=>if u=a then(.l (.storeF n),(.tmp u::w)++l.map .tmp,true)else(k,os,false)|.l (.append n),os,_=>if yB ops i then(.e n,os,true)else(k,os,false)|.r (.load n ag),[.tmp u],_=>if(qx ops i u).isEmpty then(k,os,false)else(.r (.loadF n ag),.tmp u::(qx ops i u).map .tmp,false)|_,_,_=>(k,os,false)
 else(k,os,B&&dJ ops i)
theorem Ed(B:Bool)(ops:L' Oper)(i:Nat)(k:K)(os:L' Operand):(yX B ops i k os=(k,os,B&&dJ ops i)/\∀n ag a',B=true->dJ ops i=false->k=.r (.load n ag)->os=[.tmp a']->qx ops i a'=[])\/
 (B=true/\dJ ops i=false/\∃n a l D,k=.l (.store n)/\os=.tmp a::D/\Bc ops i=some (a,l)/\yX B ops i k os=(.l (.storeF n),os++l.map .tmp,true))\/
 (B=true/\dJ ops i=false/\∃n ag a,k=.r (.load n ag)/\os=[.tmp a]/\yX B ops i k os=(.r (.loadF n ag),.tmp a::(qx ops i a).map .tmp,false))\/
 (B=true/\dJ ops i=false/\yB ops i=true/\∃n,k=.l (.append n)/\yX B ops i k os=(.e n,os,true)):=by
 unfold yX;split
 .rename_i h;simp only[ζh,not_eq_true']at h;split
  .rename_i n a' D a l hk;split
   next e=>subst e;refine .inr (.inl ⟨h.1,h.2,n,a',l,D,rfl,rfl,hk,?_⟩);simp only[yX,h.1,h.2,hk,Bool.not_false,Bool.and_self,if_true]
   exact .inl ⟨by rw[h.2,Bool.and_false],λn ag a' _ _ e=>by cases e⟩
  .rename_i n;split
   next C=>refine .inr (.inr (.inr ⟨h.1,h.2,C,n,rfl,rfl⟩))
   exact .inl ⟨by rw[h.2,Bool.and_false],λn ag a' _ _ e=>by cases e⟩
  .rename_i n ag a';split
   .rename_i G;refine .inl ⟨by rw[h.2,Bool.and_false],λn ag a2 _ _ _ e=>?_⟩
    simp only[List.cons.injEq,Operand.tmp.injEq,and_true]at e;subst e;simpa using G
   exact .inr (.inr (.inl ⟨h.1,h.2,n,ag,a',rfl,rfl,rfl⟩))
  rename_i u w z;refine .inl ⟨by rw[h.2,Bool.and_false],λn ag a2 _ _ e1 e2=>?_⟩
  first|exact(z _ _ _ e1 e2).elim|exact(z _ _ _ _ e1 e2 rfl).elim|exact(u _ _ _ e1 e2).elim|exact(w _ _ _ e1 e2).elim|exact(u _ _ _ _ e1 e2 rfl).elim|exact(w _ _ _ _ e1 e2 rfl).elim
 rename_i h;refine .inl ⟨rfl,λn ag a2 hd I _ _=>?_⟩
 rw[hd,I]at h;exact absurd rfl h
def oG(X:CX)(B:Bool)(ops:L' Oper)(i:Nat)(o:Oper):Lk RO:=
 if zL X.nt o.dst then
  match Dr ops o,resolve X.E X.nm o.op with
  |some gd,some (k,os)=>if B3 k then if B&&D2 X.E ops i then match k,o.op with
   |.a (.makeSl size zero),.makeSlice ..=>(os.mapM (qg X.nm)).map λaz=>⟨o.dst,gd,false,.p (.makeC size zero),az,[],[]⟩|.a (.buildSl size len zero idx),.buildSlice ..=>if size≠0/\len=0/\idx=[]then(os.mapM (qg X.nm)).map λaz=>⟨o.dst,gd,false,.p .emptyC,az,[],[]⟩else(os.mapM (qg X.nm)).map λaz=>⟨o.dst,gd,false,.p (.buildC size len zero idx),az,[],[]⟩|_,_=>none
   else((yX B ops i k os).2.1.mapM (qg X.nm)).map λaz=>⟨o.dst,gd,(yX B ops i k os).2.2,(yX B ops i k os).1,az,[],[]⟩else none
  |_,_=>none
 else none
theorem Ee{E:Env}{N:Nat->FuncId}{F:Frame}{op:Op}{ys:L' V}{size:Nat}{zero:L' V}{y:V}(D:∃t l c,op=.buildSlice t l c)(h:Co E N F op ys (.a (.buildSl size 0 zero [])))(G:size≠0)(B:bl N .emptyC ys=some y):qp E F op=some y:=by
 obtain⟨t,l,c,rfl⟩:=D;obtain⟨g1,g2⟩:=h;unfold bl at B;split at B<;>first|(rename_i e;cases e;done)|skip
 simp only[ζa]at B;subst B;have u:=g2 _ (show iM (.buildSl size 0 zero []) []=some (.row size [],.sl size 0)by simp[iM,fG]);unfold qp;rw[u];simp[G];cases B
theorem Bz{es:Nat}:∀{vs:L' (Nat×V)}{xs ys:L' (L' V)},fG es xs vs=some ys->ys.length=xs.length
 |[],xs,ys,h=>by simp only[fG,ζa]at h;rw[h]|(i,v)::r,xs,ys,h=>by simp only[fG]at h;split at h;have:=Bz h;simpa using this;cases h
theorem D3{E:Env}{N:Nat->FuncId}{F:Frame}{op:Op}{ys:L' V}{size len:Nat}{zero:L' V}{idx:L' Nat}{y:V}(D:∃t l c,op=.buildSlice t l c)(h:Co E N F op ys (.a (.buildSl size len zero idx)))(B:bl N (.buildC size len zero idx) ys=some y):qp E F op=some y:=by
 obtain⟨t,l,c,rfl⟩:=D;obtain⟨g1,g2⟩:=h;simp only[bl]at B;split at B;rename_i a;split at B;rename_i z u;split at B;rename_i C;have G:len=z.length:=by have:=Bz u;rw[this];simp
 have w:=g2 _ (show iM (.buildSl size len zero idx) ys=some (.row size z,.sl size len)by simp only[iM,if_pos a.2,u,map_some]);unfold qp;rw[w];simp only;rw[if_pos ⟨trivial,G,C.2⟩,C.1];exact B;cases B;cases B;cases B
theorem ED{E:Env}{N:Nat->FuncId}{F:Frame}{op:Op}{ys:L' V}{size:Nat}{zero:L' V}{y:V}(D:∃t l c,op=.makeSlice t l c)(h:Co E N F op ys (.a (.makeSl size zero)))(B:bl N (.makeC size zero) ys=some y):qp E F op=some y:=by
 obtain⟨t,l,c,rfl⟩:=D;obtain⟨g1,g2⟩:=h;unfold bl at B;split at B<;>first|(rename_i e;cases e;done)|skip
 rename_i k n I m e;cases e;split at B;rename_i c;obtain⟨rfl,rfl,w,rfl,z,C⟩:=c;have u:=g2 _ (show iM (.makeSl size zero) [.int .i64 n,.int .i64 n]=some (.row size (replicate n.toNat zero),.sl size n.toNat)by simp only[iM,w,z,Int.le_refl,and_self,if_true]);unfold qp;rw[u];simp only;rw[if_pos (by refine⟨by trivial,Zab,all_eq_true.2 λx G=>by rw[List.eq_of_mem_replicate G];exact C⟩),<-B];cases B;cases B
theorem Fa{X:CX}{dr:Bool}{ops:L' Oper}{i:Nat}{o:Oper}{ro:RO}(a:oG X dr ops i o=some ro):zL X.nt o.dst=true/\∃g now k az,Dr ops o=some g/\ro=⟨o.dst,g,now,k,az,[],[]⟩:=by
 unfold oG at a;split at a
 .rename_i hd;split at a
  .rename_i g k os hg hr;split at a;·(repeat' split at a)<;>first|(cases a;done)|(obtain⟨az,u,rfl⟩:=ζf.1 a;exact⟨hd,_,_,_,_,hg,rfl⟩)
   cases a
  cases a
 cases a
structure Good(X:CX)(S:Sys):Prop where
 E:X.E=S.E
 N:∀f s,X.nm f=some s->S.N s=f
 prm:∀f q,S.prm f=some q->ot S.E f q
section
variable{Rv:Nat->Prop}{ν ν':Nu}{Z Z':Nat->Prop}{st st':St}{m m':Tb bJ}{F F':Frame}{H H' H1:bn}{S:Sys}{c:b9}{X:CX}
def Old(b:Nat)(fr:L' Nat)(ν:Nu)(Z:Nat->Prop)(m:Tb bJ):Prop:=(∀d ob,bh m d=some ob->cD ob=true->d∉fr->(ν d).1<b)/\∀id,Z id->id<b
theorem o4{fr:L' Nat}:∀{svs:L' SV},fm fr svs=true->∀d∈fr,SV.dK d svs=false
 |[],_,d,_=>rfl|.v _::r,h,d,hd=>(o4 (svs:=r) (by simpa[fm]using h) d hd)|.ptr e _::r,h,d,hd=>by simp[fm,not_eq_true']at h;simp[SV.dK,SV.c6];exact⟨λe=>h.1 (e▸hd),o4 h.2 d hd⟩|.el e _ _::r,h,d,hd=>by simp[fm,not_eq_true']at h;simp[SV.dK,SV.c6];exact⟨λe=>h.1 (e▸hd),o4 h.2 d hd⟩|.mp e::r,h,d,hd=>by simp[fm,not_eq_true']at h;simp[SV.dK,SV.c6];exact⟨λe=>h.1 (e▸hd),o4 h.2 d hd⟩|.own _::r,h,_,_=>by simp[fm]at h|.clo ..::r,h,_,_=>by simp[fm]at h|.tup _::r,h,_,_=>by simp[fm]at h|.agg _::r,h,_,_=>by simp[fm]at h|.yl _::r,h,_,_=>by simp[fm]at h
def Er(S:Sys)(ops:L' Oper)(place:Lk (Nat×Nat))(dr:Bool)(F:Frame)(op:Op)(dst:Lk Nat)(ν:Nu)(Z:Nat->Prop)(st:St)(H:bn)(sv:SV)(st':St):Prop:=∃n y H' ν' Z',(∀k,n<=k->dF S.E (run S.E k) ops place F H op=some (y,H'))/\R ν' Z' st' F H'/\dn ν' st'.m H' Z' sv y/\Ev (λid=>∃b j,place=some (b,j)/\id=b+j) ν Z st H ν' Z' st' H'/\(dr=true->Z'=Z/\Kept dst ν st.m ν' st'.m)
theorem zS{E:Env}{F:Frame}{H:bn}{place:Lk (Nat×Nat)}{op:Op}{v:V}(h:bQ E F op=some v):tX E F H place op=some v:=by unfold tX;rw[h]
theorem AO:∀{xs ys:L' (L' V)}{l:L' Int},gH H Z xs ys->mh xs=some l->mh ys=some l
 |[],ys,l,h,B=>by have:=h.1;have:ys=[]:=List.eq_nil_of_length_eq_zero (by simpa using this.symm);subst this;exact B|x::xs,[],l,h,B=>by have:=h.1;simp at this|x::xs,y::ys,l,h,B=>by
  unfold mh at B;split at B;next e=>cases e
  rename_i n r e;cases e;obtain⟨k,c,rfl⟩:=ζf.1 B;have d:=h.2 0 _ y rfl rfl;obtain⟨u,z,rfl,p1,p2⟩:=d.inv;rw[p2.c9,p1.int];have:=AO (xs:=xs) (ys:=ys) ⟨by have:=h.1;simpa using this,λj a b w B=>h.2 (j+1) a b w B⟩ c;simp only[mh,this,map_some];cases B
theorem PN(gd:Good X S){ops:L' Oper}{place:Lk (Nat×Nat)}{dr:Bool}{op:Op}{dst:Lk Nat}{p:vL}{svs:L' SV}{ys:L' V}(a:B3 (.p p)=true)(r:R ν Z st F H)(rs:cg ν st.m H Z svs ys)
 (B:Co X.E S.N F op ys (.p p)){sv:SV}(h:(jJ S.N st.m p svs).map (λx=>(x,st))=some (sv,st')):Er S ops place dr F op dst ν Z st H sv st':=by
 obtain⟨x,w,e⟩:=ζf.1 h;obtain⟨rfl,rfl⟩:=e;obtain⟨y,z,u⟩:=JF (λzero pl e=>by subst e;simpa[B3]using a) r.obj rs w
 obtain⟨b,C⟩:=B;exact⟨0,y,H,ν,Z,λq _=>by unfold dF;rw[b];simp only[<-gd.E,zS (C y z),map_some],r,u,.refl,λ_=>⟨rfl,.refl⟩⟩
theorem BT(gd:Good X S){ops:L' Oper}{place:Lk (Nat×Nat)}{dr:Bool}{op:Op}{p:vL}{svs:L' SV}{ys:L' V}(hp:∀zero pl,p≠.build zero pl)(B:dw op=.alloc)(D:sL X.E ops place=true)(G:∀y,bl S.N p ys=some y->qp X.E F op=some y)
 (r:R ν Z st F H)(rs:cg ν st.m H Z svs ys){sv:SV}(h:(jJ S.N st.m p svs).map (λx=>(x,st))=some (sv,st')):Er S ops place dr F op none ν Z st H sv st':=by
 obtain⟨x,w,e⟩:=ζf.1 h;simp only[ζc]at e;obtain⟨rfl,rfl⟩:=e;obtain⟨y,z,u⟩:=JF (N:=S.N) (λzero pl e=>absurd e (hp zero pl)) r.obj rs w
 refine⟨0,y,H,ν,Z,λq _=>?_,r,u,.refl,λ_=>⟨rfl,.refl⟩⟩
 unfold dF;rw[B];simp only[D,if_true,<-gd.E,G y z,map_some]
theorem Mh:∀{J B:L' Operand}{vs:L' V},fI F (J++B)=some vs->∃D G,fI F J=some D/\fI F B=some G/\vs=D++G
 |[],B,vs,h=>⟨[],vs,rfl,h,rfl⟩|x::J,B,vs,h=>by obtain⟨a,az,b,U,rfl⟩:=jl h;obtain⟨D,G,g1,g2,rfl⟩:=Mh U;exact⟨a::D,G,by simp[fI,b,g1],g2,rfl⟩
theorem DD:∀{l:L' Nat}{vs:L' V},fI F (l.map Operand.tmp)=some vs->vs=l.map (get F)
 |[],vs,h=>qX h|x::l,vs,h=>by obtain⟨a,az,b,B,rfl⟩:=jl h;simp[ev]at b;subst b;rw[DD B];rfl
theorem X_(gd:Good X S){call:dG}{ops:L' Oper}{b j n a:Nat}{l:L' Nat}{o:Oper}{B:L' Operand}{ys:L' V}{y:V}(c:resolve X.E X.nm o.op=some (.l (.store n),.tmp a::B))(D:fI F ((.tmp a::B)++l.map Operand.tmp)=some ys)
 (J:Bc ops j=some (a,l))(U:dJ ops j=false)(e1:fE H (.storeF n) ys=some (y,H')):dF S.E call ops (some (b,j)) F H o.op=some (y,H'):=by
 obtain⟨W,Y,d,I,rfl⟩:=Mh D;obtain⟨g1,g2⟩:=jN gd.N c d;obtain⟨w,L,z,O,rfl⟩:=jl d;simp[ev]at z;have u:∃v,L=[v]:=by
  have C:∃x,B=[x]:=by
   unfold resolve at c;(repeat' split at c)<;>first|grind|skip
   all_goals (try (obtain⟨_,_,e⟩:=ζf.1 c;simp[K.l.injEq,LY.store.injEq,reduceCtorEq]at e))
   grind
  obtain⟨x,rfl⟩:=C;obtain⟨v,Z,_,Q,rfl⟩:=jl O;rw[qX Q];grind
 obtain⟨v,rfl⟩:=u;rw[DD I,<-z]at e1;simp at e1
 cases G:get F a with
 |hptr id el off=>
  rw[G]at e1;simp only[fE]at e1;split at e1
  .have T:sP ops j F=true:=by
    unfold sP
    grind
   unfold dF;rw[g1];simp[T,<-gd.E];refine g2 _ _ ?_;rw[<-z,G];exact e1
  grind
 |_=>rw[G]at e1;simp[fE]at e1
theorem HY{E:Env}{nm:FuncId->Lk Nat}{op:Op}{s:Nat}{a:Bool}{os:L' Operand}(h:resolve E nm op=some (.r (.loadF s a),os)):False:=by
 unfold resolve at h;(repeat' split at h)<;>first|grind|skip
 all_goals simp_all
theorem Kb{E:Env}{nm:FuncId->Lk Nat}{op:Op}{s a':Nat}{a:Bool}{t:TypeId}{os:L' Operand}(h:resolve E nm op=some (.r (.load s a),os)):∃t x,op=.load t x/\os=[x]:=by
 unfold resolve at h;(repeat' split at h)<;>first|grind|skip
 all_goals simp_all
 grind
theorem OX{E:Env}{nm:FuncId->Lk Nat}{ops:L' Oper}{j:Nat}{op:Op}{q:LC}{os:L' Operand}(a:resolve E nm op=some (.r q,os))(h:∀n ag a',K.r q=.r (.load n ag)->os=[.tmp a']->∀t,op=.load t (.tmp a')->qx ops j a'=[]):o_ ops j F op=true:=by
 unfold o_;split;rename_i t a';have:∃n ag,q=.load n ag/\os=[.tmp a']:=by obtain⟨d,_,e⟩:=ζf.1 a;grind
 grind;rfl
theorem Wo(gd:Good X S){ops:L' Oper}{b j n a:Nat}{ag:Bool}{fr:L' Nat}{o:Oper}{svs:L' SV}{ys:L' V}{dst:Lk Nat}{x:SV}(c:resolve X.E X.nm o.op=some (.r (.load n ag),[.tmp a]))(W:fI F (.tmp a::(qx ops j a).map Operand.tmp)=some ys)(rs:cg ν st.m H Z svs ys)
 (Y:fm fr svs=true)(A:b<=H.length)(E:∀d ob,bh st.m d=some ob->cD ob=true->d∉fr->(ν d).1<b)(D:∀id,Z id->id<b)(r:R ν Z st F H)(U:oF st.m (.loadF n ag) svs=some x):Er S ops (some (b,j)) true F o.op dst ν Z st H x st:=by
 obtain⟨w,k,f,m,rfl⟩:=jl W;simp[ev]at f;have K:=DD m;unfold oF at U;split at U<;>first|(rename_i u;cases u;done)|skip
 .rename_i size agg d off l u;cases u;split at U
  .rename_i C;split at U
   .rename_i cs B;obtain⟨w',M,e,g1,g2⟩:=rs.inv;cases e;have G:=Mz r B g2 C;obtain⟨_,_,rfl⟩:=g1.qe B;have I:∀id,Z id->Z id/\bq (H.take b) id=bq H id:=λid h=>⟨h,oa (D id h)⟩
    have J:∀id,Z id->Z id/\bq H id=bq (H.take b) id:=λid h=>⟨h,(oa (D id h)).symm⟩
    have N:d∉fr:=λg=>by have:=o4 Y d g;simp[SV.dK,SV.c6]at this
    obtain⟨y,p,O⟩:=xM (r:=.load n ag) (λs a e=>by cases e) (λkk z ok e=>by cases e) (cg.cons (g1.mono I λe _=>jm ν st.m e) .nil) (λi Q ob L=>by
     have P:i∉fr:=λg=>by have:=(by simpa[SV.dK,SV.c6]using Q);grind
     exact en.mono I rfl (λhb=>Zac) (λe _=>jm ν st.m e) (r.obj i ob L)) (by simp[oF,B];omega)
    obtain⟨k1,k2⟩:=jN gd.N c (show fI F [.tmp a]=some [.hptr (ν d).1 0 off]from by simp[fI,ev,f])
    have T:o_ ops j F o.op=true:=by obtain⟨t,x',e1,e2⟩:=Kb (a':=0) (t:=0) c;rw[e1];simp at e2;subst e2;simp[o_];intro s hs;have v:get F s∈k:=Zac;have:=all_eq_true.1 G _ v;split;rename_i ai _ _ hg;simp[rX]at this⊢;grind;rfl
    refine⟨0,y,H,ν,Z,λq _=>?_,r,O.mono J (λe _=>jm ν st.m e),.refl,λ_=>⟨rfl,.refl⟩⟩
    unfold dF;rw[k1];simp[<-gd.E,k2 (H.take b) y p,T]
   grind
  grind
 grind
theorem Ft{E:Env}{nm:FuncId->Lk Nat}{op:Op}{n:Nat}{os:L' Operand}(h:resolve E nm op=some (.l (.append n),os)){y:V}{ys:L' V}(b:fI F os=some (y::ys))(B:y=.bM\/y=.dL):isApp op=true/\qQ F op=true:=by
 have key:∃args u p s x,op=.call {callee:=.builtin .append,args:=args,argTypes:=u}/\args.toList=[s,x]/\os=[s,x]/\p=():=by
  unfold resolve at h;(repeat' split at h)<;>first|(simp at h;done)|skip
  all_goals (try (obtain⟨_,_,e⟩:=ζf.1 h;simp only[ζc,K.l.injEq,reduceCtorEq,false_and]at e))
  all_goals (simp only[ζa,ζc]at h;obtain⟨_,rfl⟩:=h;exact⟨_,_,(),_,_,rfl,by assumption,rfl,rfl⟩)
 obtain⟨args,u,_,s,x,rfl,c,rfl,_⟩:=key;obtain⟨a,az,w,z,e⟩:=jl b;cases e;refine⟨rfl,?_⟩;simp only[qQ,c,w];rcases B with rfl|rfl<;>rfl
theorem Xm(gd:Good X S)(hS:jw S c){ops:L' Oper}{place:Lk (Nat×Nat)}{dr:Bool}{fr:L' Nat}{i:Nat}(J:dr=place.isSome)(hi:∀b j,place=some (b,j)->j=i)
 (K:∀b j,place=some (b,j)->b<=H.length/\Old b fr ν Z st.m)
 {o:Oper}{ro:RO}(E:oG X dr ops i o=some ro)(aE:∀b j,place=some (b,j)->ops[j]?=some o)(al:∀b j,place=some (b,j)->dw o.op=.alloc->H[b+j]?=some .free)
 (r:R ν Z st F H){sv:SV}(h:mR S c dr fr ro st=some (sv,st')):
 Er S ops place dr F o.op (Au ro) ν Z st H sv st':=by
 unfold oG at E;split at E
 .split at E
  .rename_i g k os hg hr;split at E
   .rename_i A;split at E
    .rename_i ah;simp only[ζh]at ah;have am:sL X.E ops place=true:=by
      cases place with
      |none=>rw[J]at ah;exact absurd ah.1 Zab|some Q=>obtain⟨b,j⟩:=Q;rw[hi b j rfl];exact ah.2
     split at E
     .rename_i size zero t l c U;obtain⟨az,M,rfl⟩:=ζf.1 E;unfold mR at h;split at h
      next L B=>obtain⟨ys,C,rs⟩:=pN gd.N r.slot M B;have I:=jN gd.N hr C;exact BT gd (λ_ _ e=>by cases e) I.1 am (λy P=>ED ⟨_,_,_,U⟩ I P) r rs h
      simp at h
     .rename_i size len zero idx t l c U;split at E
      .rename_i aF;obtain⟨aG,rfl,rfl⟩:=aF;obtain⟨az,M,rfl⟩:=ζf.1 E;unfold mR at h;split at h
       next L B=>obtain⟨ys,C,rs⟩:=pN gd.N r.slot M B;have I:=jN gd.N hr C;exact BT gd (λ_ _ e=>by cases e) I.1 am (λy P=>Ee ⟨_,_,_,U⟩ I aG P) r rs h
       simp at h
      obtain⟨az,M,rfl⟩:=ζf.1 E;unfold mR at h;split at h
      next L B=>obtain⟨ys,C,rs⟩:=pN gd.N r.slot M B;have I:=jN gd.N hr C;exact BT gd (λ_ _ e=>by cases e) I.1 am (λy P=>D3 ⟨_,_,_,U⟩ I P) r rs h
      simp at h
     cases E
    rename_i ai;have ak:sL X.E ops place=false:=by cases place with|none=>rfl|some Q=>obtain⟨b,j⟩:=Q;have G:=hi b j rfl;cases aw:D2 X.E ops j with|false=>exact aw|true=>exact absurd (by rw[J,<-G,aw];rfl) ai
    rcases Ed dr ops i k os with⟨hq,aH⟩|⟨u,an,n,a,l,aR,rfl,rfl,aI,hq⟩|⟨u,an,n,ag,a,rfl,rfl,hq⟩|⟨u,an,aJ,n,rfl,hq⟩
    rotate_left
    .rw[hq]at E;obtain⟨az,M,rfl⟩:=ζf.1 E;unfold mR at h;split at h
     .rename_i L B;obtain⟨ys,C,rs⟩:=pN gd.N r.slot M B;simp only[u,Bool.not_true,Bool.false_or,if_true]at h;obtain⟨y,H',ν',e1,e2,e3,e4,e5⟩:=DN r rs h;refine⟨0,y,H',ν',Z,λq _=>?_,e2,e3,e4.weak (λ_ h=>h.elim),λ_=>⟨rfl,e5⟩⟩
      cases place with
      |none=>rw[J]at u;cases u|some Q=>obtain⟨b,j⟩:=Q;have G:=hi b j rfl;subst G;exact X_ gd hr C aI an e1
     simp at h
    .rw[hq]at E;obtain⟨az,M,rfl⟩:=ζf.1 E;unfold mR at h;split at h
     .rename_i L B;obtain⟨ys,C,rs⟩:=pN gd.N r.slot M B;simp only[u,Bool.not_true,Bool.or_self,Bool.false_or]at h;split at h
      .rename_i ao;obtain⟨x,hx,e⟩:=ζf.1 h;simp only[ζc]at e;obtain⟨rfl,rfl⟩:=e
       cases place with
       |none=>rw[J]at u;cases u|some Q=>obtain⟨b,j⟩:=Q;have G:=hi b j rfl;subst G;obtain⟨ax,ap,aj⟩:=K b j rfl;rw[u];exact Wo gd hr C rs ao ax ap aj r hx
      simp at h
     simp at h
    .rw[hq]at E;obtain⟨az,M,rfl⟩:=ζf.1 E;unfold mR at h;split at h
     rotate_left
     .simp at h
     rename_i L B;obtain⟨ys,C,rs⟩:=pN gd.N r.slot M B;simp only at h;have key:∃e x,(e=V.bM\/e=V.dL)/\L=[.v e,x]/\nY st o.dst (.append n) L=some (sv,st'):=by split at h;exact⟨_,_,.inl rfl,rfl,h⟩;exact⟨_,_,.inr rfl,rfl,h⟩;cases h
     obtain⟨e,x,he,rfl,hl⟩:=key;obtain⟨y,H',ν',e1,e2,e3,e4,e5⟩:=DN r rs hl;obtain⟨g1,g2⟩:=jN gd.N hr C;refine⟨0,y,H',ν',Z,λq _=>?_,e2,e3,e4.weak (λ_ h=>h.elim),λ_=>⟨rfl,e5⟩⟩
     obtain⟨y1,zs,rfl,f1,f2⟩:=rs.inv;have aK:y1=.bM\/y1=.dL:=by cases f1 with|v _ _ hf=>rcases he with rfl|rfl<;>first|exact .inl hf.bM|exact .inr hf.dL
     cases place with
     |none=>rw[J]at u;cases u|some Q=>obtain⟨b,j⟩:=Q;have G:=hi b j rfl;subst G;obtain⟨r1,r2⟩:=Ft hr C aK;exact O2 r1 (by rw[<-gd.E];exact g2 _ _ e1) (.inr ⟨aJ,r2,(K b j rfl).1⟩)
    rw[hq]at E;obtain⟨az,M,rfl⟩:=ζf.1 E;unfold mR at h;split at h
    .rename_i L B;obtain⟨ys,C,rs⟩:=pN gd.N r.slot M B;have D:=jN gd.N hr C;simp only at h
     cases k with
     |p p=>
      cases p with
      |slice size lo hi=>
       simp only at h;split at h
       .rename_i d bs;split at h
        .simp at h
        rename_i aq;obtain⟨y,ν',h1,h2,h3,h4⟩:=Qq (N:=S.N) (Rv:=λid=>∃b j,place=some (b,j)/\id=b+j) r rs h
        obtain⟨g1,g2⟩:=D;exact⟨0,y,H,ν',Z,λq _=>by unfold dF;rw[g1];simp only[<-gd.E,zS (g2 y h1),map_some],h2,h3,h4,λhd=>absurd hd aq⟩
       exact PN gd A r rs D h
      |_=>exact PN gd A r rs D h
     |r q=>
      simp only at h;split at h
      .rename_i W;obtain⟨x,hx,e⟩:=ζf.1 h;simp only[ζc]at e;obtain⟨rfl,rfl⟩:=e;obtain⟨g1,g2⟩:=D;have ar:∀kk z ok,q=.lookup kk z ok->z.good=true:=λkk z ok e=>by subst e;simpa[B3]using A
       have ab:∀s a,q≠.loadF s a:=λs a e=>by subst e;exact HY hr
       cases place with
       |none=>
        obtain⟨y,P,ad⟩:=xM ab ar rs (λd _ ob hd=>r.obj d ob hd) hx
        exact⟨0,y,H,ν,Z,λq _=>by unfold dF;rw[g1];simp only[<-gd.E,g2 H y P,map_some],r,ad,.refl,λ_=>⟨rfl,.refl⟩⟩
       |some Q=>
        obtain⟨b,j⟩:=Q;obtain⟨ax,ap,aj⟩:=K b j rfl;have u:dr=true:=J;subst u;have G:=hi b j rfl;subst G;simp only[Bool.not_true,Bool.false_or,Bool.true_and]at W;have ay:o_ ops j F o.op=true:=OX hr λn ag a' e1 e2 t e3=>by by_cases T:dJ ops j=true;exact Ej (aE b j rfl) e3 T;exact aH n ag a' rfl (by simpa using T) e1 e2
        by_cases T:dJ ops j=true
        .obtain⟨y,P,ad⟩:=xM ab ar rs (λd _ ob hd=>r.obj d ob hd) hx
         have hH:=g2 H y P;refine⟨0,y,H,ν,Z,λq _=>?_,r,ad,.refl,λ_=>⟨rfl,.refl⟩⟩
         unfold dF;rw[g1];simp only[<-gd.E,ay,if_true];split
         next v hv=>have:=AF hv;rw[hH]at this;cases this;rfl
         rw[if_pos T,hH];rfl
        have ao:fm fr L=true:=by simpa[T]using W
        have aa:∀id,Z id->Z id/\bq (H.take b) id=bq H id:=λid h=>⟨h,oa (aj id h)⟩
        have aA:∀id,Z id->Z id/\bq H id=bq (H.take b) id:=λid h=>⟨h,(oa (aj id h)).symm⟩
        obtain⟨y,P,ad⟩:=xM (H:=H.take b) ab ar (rs.mono aa λe _=>jm ν st.m e) (λd hd ob aB=>by
         have ab:d∉fr:=λhf=>by rw[o4 ao d hf]at hd;cases hd
         exact en.mono aa rfl (λhb=>by rw[getElem?_take,if_pos (ap d ob aB hb ab)]) (λe _=>jm ν st.m e) (r.obj d ob aB)) hx
        refine⟨0,y,H,ν,Z,λq _=>?_,r,ad.mono aA (λe _=>jm ν st.m e),.refl,λ_=>⟨rfl,.refl⟩⟩
        unfold dF;rw[g1];simp only[<-gd.E,g2 (H.take b) y P,ay,if_true]
      simp at h
     |a q=>
      simp only at h;split at h
      .rename_i d hd;split at h
       .rename_i Y;obtain⟨⟨ob,x⟩,hx,e⟩:=ζf.1 h;simp only[ζc]at e;obtain⟨rfl,rfl⟩:=e;obtain⟨ae,mk,e1,e2,e3,e4⟩:=Py A rs hx;obtain⟨g1,g2⟩:=D;obtain⟨n1,n2,n3,n4⟩:=nu Y;have au:∀p:Nat×Nat,∀e,SV.dK e L=true->∀af,bh (bN st.m d ob) e=some af->∃ob,bh st.m e=some ob/\jf ν d p e=ν e/\sameShape ob af:=λp e he=>by
         refine uC ?_;rintro rfl;have:∀{xs:L' Arg}{vs:L' SV},bW S.N st.g xs=some vs->SV.dK e vs=false:=by
          intro xs;induction xs with|nil=>intro vs h;simp only[bW,ζa]at h;subst h;rfl|cons a xs ih=>
           intro vs h;simp only[bW]at h;split at h;rename_i v aS h1 h2;simp only[ζa]at h;subst h;simp only[SV.dK,or_eq_false_iff];refine⟨?_,ih h2⟩;cases a with|s n=>exact Ao n3 h1|k c=>simp only[rT,ζa]at h1;subst h1;rfl|f s=>simp only[rT,ζa]at h1;subst h1;rfl
           simp at h
         rw[this B]at he;cases he
        have fin:∀(id:Nat)(Hn:bn),H.length<=Hn.length->Hn[id]?=some ae->(∀k,k<H.length->k≠id->Hn[k]?=H[k]?)->(∀k,fS ν st.m k->k≠id)->(∀k,Z k->k≠id)->
         R (jf ν d (id,0)) Z {st with m:=bN st.m d ob} F Hn/\dn (jf ν d (id,0)) (bN st.m d ob) Hn Z x (mk.val id)/\(∀k,Z k->bq Hn k=bq H k):=λid Hn hl aL I ho hz=>by
         have aa:∀k,Z k->bq Hn k=bq H k:=λk A=>by unfold bq;rw[I k (r.xq A) (hz k A)]
         obtain⟨a1,a2⟩:=e4 id (jf ν d (id,0)) (bN st.m d ob) Hn (iw _ _ _) (cI _ _ _) aL aa (au _);have r2:R ν Z st F Hn:=r.heap (λk A=>I k (r.lt A) (ho k A)) aa
         exact⟨r2.add Y (λ_=>⟨λh=>ho _ h rfl,λh=>hz _ h rfl⟩) a1,a2,aa⟩
        have aC:o.dst=some d:=hd
        cases place with
        |none=>
         obtain⟨f1,f2,f3⟩:=fin H.length (H++[ae]) Zab Zab (λk A _=>getElem?_append_left A) (λk A=>Nat.ne_of_lt (r.lt A)) (λk A=>Nat.ne_of_lt (r.xq A))
         refine⟨0,mk.val H.length,H++[ae],jf ν d (H.length,0),Z,λq _=>?_,f1,f2,Ev.add Y Zab (λk A _=>getElem?_append_left A) f3 (λ_=>.inr (le_refl _)),λhh=>?_⟩
         .unfold dF;rw[g1];simp only[ak,false_eq_true,if_false,<-gd.E,g2 _ e1]
         rw[J]at hh;cases hh
        |some Q=>
         obtain⟨b,j⟩:=Q;have hf:=al b j rfl g1;have aM:=(ζe.1 hf).1;have nf:∀k,fS ν st.m k->k≠b+j:=λk A e=>by subst e;obtain⟨d',af,w1,w2,w3⟩:=A;have:=r.obj d' af w1;cases af with|sl fl es xs=>simp only[cD]at w2;simp only[en,w2,if_true]at this;obtain⟨_,O,_⟩:=this;rw[w3,hf]at O;cases O|box cs=>obtain⟨_,_,O,_⟩:=this;rw[w3,hf]at O;cases O|mp aT=>obtain⟨_,O,_⟩:=this;rw[w3,hf]at O;cases O
         have nz:∀k,Z k->k≠b+j:=λk A e=>by subst e;have:=r.zrow _ A;unfold bq at this;rw[hf]at this;simp[Ob.rows]at this
         obtain⟨f1,f2,f3⟩:=fin (b+j) (H.set (b+j) ae) Zab (by rw[getElem?_set_self aM]) (λk _ A=>by rw[getElem?_set,if_neg (Ne.symm A)]) nf nz
         refine⟨0,mk.val (b+j),H.set (b+j) ae,jf ν d (b+j,0),Z,λq _=>?_,f1,f2,Ev.add Y Zab (λk _ A=>?_) f3 (λ_=>.inl ⟨b,j,rfl,rfl⟩),λ_=>⟨rfl,?_⟩⟩
         .unfold dF;rw[g1];simp only[ak,false_eq_true,if_false,<-gd.E,g2 _ e1,hf]
         .rw[getElem?_set,if_neg λe=>A ⟨b,j,rfl,e.symm⟩]
         have:Au ⟨o.dst,g,dr&&dJ ops j,.a q,az,[],[]⟩=some d:=aC;have G:=hi b j rfl;subst G;rw[this];exact Kept.add λ_ _ h=>h
       simp at h
      simp at h
     |l q=>
      simp only at h;split at h
      .rename_i W;obtain⟨y,H',ν',e1,e2,e3,e4,e5⟩:=DN r rs h;obtain⟨g1,g2⟩:=D;refine⟨0,y,H',ν',Z,λq _=>?_,e2,e3,e4.weak (λ_ h=>h.elim),λ_=>⟨rfl,e5⟩⟩
       unfold dF;rw[g1];simp only[<-gd.E]
       cases place with
       |none=>exact g2 _ _ e1|some Q=>
        obtain⟨b,j⟩:=Q;have u:dr=true:=J;subst u;have G:=hi b j rfl;subst G;have T:dJ ops j=true:=by simpa using W
        simp only[T,if_true];exact g2 _ _ e1
      simp at h
     |e n=>exact D.elim|b=>
      simp only at h;split at h
      .cases h
      rename_i aq;have aN:dr=false:=by simpa using aq
      have aO:place=none:=by cases place with|none=>rfl|some Q=>rw[aN]at J;simp at J
      subst aO;split at h
      next x=>obtain⟨xs,h1,h2⟩:=ζg.1 h;obtain⟨l,h3,e⟩:=ζf.1 h2;simp only[ζc]at e;obtain⟨rfl,rfl⟩:=e;obtain⟨g1,y,e1,g2⟩:=D;obtain⟨y',_,e2,r1,r2⟩:=rs.inv;rw[e1]at e2;cases e2;obtain⟨zs,k1,k2⟩:=vt r1 r.obj h1;have hz:mh zs=some l:=AO k2 h3;obtain⟨q1,q2⟩:=g2 H zs l k1 hz;exact⟨0,_,H,ν,Z,λq _=>by unfold dF;rw[g1];simp only[tX,<-gd.E,q1,q2,map_some],r,.v _ _ (.same _ rfl),.refl,λ_=>⟨rfl,.refl⟩⟩
      cases h
     |c=>
      simp only at h;obtain⟨g1,f',aU,e1,e2⟩:=D;have go:∀(f:FuncId)(args:L' SV)(av:L' V),cg ν st.m H Z args av->kC F o.op=some (.fn f,av)->fu S c o.dst dr (!dr||(dr&&dJ ops i)) (fZ st.m fr) f args st=some (sv,st')->
       Er S ops place dr F o.op (Au ⟨o.dst,g,dr&&dJ ops i,.c,az,[],[]⟩) ν Z st H sv st':=λf args av aP aD aQ=>by
       obtain⟨n,y,H',ν',Z',p1,p2,p3,p4,p5,p6⟩:=SM (ops:=ops) (Rv:=λid=>∃b j,place=some (b,j)/\id=b+j) hS gd.prm J (λb j hp hn=>by
        have:=hi b j hp;subst this;simp only[ζh]at hn;exact hn.2) (λb j hp hn=>by have:=hi b j hp;subst this;rw[J,hp]at hn;simpa using hn) (λb j hp=>(K b j hp).2) r aP aQ
       refine⟨n,y,H',ν',Z',λq hq=>?_,p2,p3,p4,λhd=>⟨p5 hd,p6⟩⟩
       unfold dF;rw[g1];simp only[aD];exact p1 q hq
      split at h
      next f a b vs=>obtain⟨w,ws,ew,r1,r2⟩:=rs.inv;rw[ew]at e1;simp only[List.cons.injEq]at e1;obtain⟨rfl,rfl⟩:=e1;obtain⟨a',b',rfl,ra,rb⟩:=r1.kN;exact go f _ _ ((ra.append r2).append rb) e2 h
      next f a b vs=>obtain⟨w,ws,ew,r1,r2⟩:=rs.inv;rw[ew]at e1;simp only[List.cons.injEq]at e1;obtain⟨rfl,rfl⟩:=e1;obtain⟨a',b',rfl,ra,rb⟩:=r1.fr.kN;exact go f _ _ (((cg.sB ra).append r2).append (cg.sB rb)) e2 h
      simp at h
    simp at h
   simp at E
  simp at E
 simp at E
end
def gp(N:Nat->FuncId)(g:Tb SV)(o:RO):Lk (Nat×L' SV):=
 match o.k,bW N g o.az with
 |.c,some (.yl id::u)=>some (id,u)|_,_=>none
open Classical in
noncomputable def fM(S:Sys)(c:b9)(dr:Bool)(fr:L' Nat)(o:RO)(st:St):Lk St:=
 match wanted st.g o.gd with
 |some true=>match gp S.N st.g o with
  |some (id,z)=>if dr then none else match dy z,st.want with
   |some B,w::u=>if B=w/\id=st.yid then some (cT {st with want:=u} o.dst (.v (.bool (st.more|| !u.isEmpty))))else none|_,_=>none
  |none=>(mR S c dr fr o st).map λ(x,st')=>cT st' o.dst x
 |some false=>some (cT st o.dst (.v .undef))|none=>none
def RO.strip(o:RO):RO:={o with dead:=[],pre:=[]}
def pR:L' Gh->St->Lk St
 |[],st=>some st|x::r,st=>(ghost x st).bind (pR r)
def AN:Gh->Bool
 |.keep ..=>true|.drop _=>true|_=>false
def Di(dr:Bool)(l:L' Gh)(st:St):Lk St:=if dr then(if l.all AN then pR l st else none)else pR l st
def qy(ds:L' Nat)(st:St):St:={st with g:=oH ds st.g}
noncomputable def oh(S:Sys)(c:b9)(dr:Bool):L' Nat->L' RO->St->Lk St
 |_,[],st=>some st|fr,o::r,st=>match(Di dr o.pre st).bind (fM S c dr fr o.strip)with
  |some st'=>oh S c dr (if dr then sj fr o.strip else fr) r (qy o.dead st')|none=>none
abbrev JT:=L' (L' V)->(Nat->Prop)->(Nat->Prop)->bn->Prop
structure Yc(S:Sys)(J:JT)(more:Bool)(yid:Nat):Prop where
 xu:∀w O Z H O' Z' H',J w O Z H->H.length<=H'.length->(∀i,i<H.length->¬O i->¬Z i->H'[i]?=H[i]?)->(∀i,Z i->Z' i/\bq H' i=bq H i)->
  (∀i,O' i->O i\/H.length<=i)->(∀i,Z' i->Z i\/O i\/H.length<=i)->J w O' Z' H'
 yield:∀x ws O Z H args,J (x::ws) O Z H->dB H Z x args->(∀i,Z i->(bq H i).isSome=true)->Deep H Z->(∀i,O i->¬Z i/\i<H.length)->
  ∃n H',run S.E n (.yld yid) args H=some (.bool (more|| !ws.isEmpty),H')/\J ws O Z H'/\H.length<=H'.length/\(∀i,O i->H'[i]?=H[i]?)/\(∀i,Z i->bq H' i=bq H i)
structure Fix(ν:Nu)(st:St)(ν':Nu)(st':St):Prop where
 pin:∀d∈st.pin,∀ob',bh st'.m d=some ob'->∃ob,bh st.m d=some ob/\ν' d=ν d/\sameShape ob ob'
 pins:st'.pin=st.pin
 more:st'.more=st.more
 yid:st'.yid=st.yid
section
variable{Rv:Nat->Prop}{ν ν' ν2:Nu}{Z Z':Nat->Prop}{st st' st2:St}{m m':Tb bJ}{F F':Frame}{H H' H1:bn}{S:Sys}{c:b9}{X:CX}{J:JT}
theorem Fix.refl:Fix ν st ν st:=⟨λ_ _ u h=>⟨u,h,rfl,.refl _⟩,rfl,rfl,rfl⟩
theorem Fix.trans(a:Fix ν st ν' st')(b:Fix ν' st' ν2 st2):Fix ν st ν2 st2:=
 ⟨λd hd u h=>by
  obtain⟨w,c,B,z⟩:=b.pin d (by rw[a.pins];omega) u h
  obtain⟨ob,k1,k2,k3⟩:=a.pin d hd w c;exact⟨ob,k1,by simp_all,k3.trans z⟩,by rw[b.pins,a.pins],by rw[b.more,a.more],by rw[b.yid,a.yid]⟩
theorem Ev.beside(y:Yc S J st.more st.yid)(a:Ev (λ_=>False) ν Z st H ν' Z' st' H')(B:st'.want=st.want)(j:J st.want (fS ν st.m) Z H):J st'.want (fS ν' st'.m) Z' H':=by
 rw[B];exact y.xu _ _ _ _ _ _ _ j a.len (λi b u w=>a.same i b u w (λh=>h)) a.rows (λi h=>(a.own i h).imp (λh=>h) (λh=>h.elim (λh=>h.elim) (λh=>h)))
  (λi h=>(a.frz i h).imp (λh=>h) (λh=>h.imp (λh=>h) (λh=>h.elim (λh=>h.elim) (λh=>h))))
theorem wG(D:∀s sv,bh st.g s=some sv->dn ν m H Z sv (get F s)){ops:L' Oper}{o:Oper}{gd:Lk (Nat×Bool)}(a:Dr ops o=some gd){t:Bool}(B:wanted st.g gd=some t):gx ops F o=t:=by
 unfold Dr at a;unfold gx;cases u:o.guard with|none=>rw[u]at a;simp at a;simp[wanted]at B;grind|some C=>
  rw[u]at a;obtain⟨d,hd,rfl⟩:=ζf.1 a;simp[hd];simp[wanted]at B;split at B;next c b=>simp at B;subst B;rw[(D d _ b).fr.bool]
  rename_i x G b;simp at B;subst B;have w:=(D d _ b).fr;split;rename_i c z;rw[z]at w;cases w;grind;rfl;grind
theorem Qy{q:Hq}{dst:Lk Nat}{args:L' SV}{sv:SV}(h:Dn q dst args st=some (sv,st')):st'.want=st.want/\st'.pin=st.pin/\st'.more=st.more/\st'.yid=st.yid:=by unfold Dn at h;grind
theorem Sg{dr:Bool}{fr:L' Nat}{ro:RO}{sv:SV}(h:mR S c dr fr ro st=some (sv,st')):st'.want=st.want/\st'.pin=st.pin/\st'.more=st.more/\st'.yid=st.yid:=by
 unfold mR at h;split at h
 .split at h;split at h;split at h;simp at h;unfold AY at h;split at h;split at h;obtain⟨_,_,h⟩:=ζg.1 h;obtain⟨_,_,h⟩:=ζg.1 h;dsimp only at h;split at h;simp only[ζa,ζc]at h;obtain⟨_,rfl⟩:=h;exact⟨rfl,rfl,rfl,rfl⟩;simp at h;simp at h;simp at h;obtain⟨_,_,e⟩:=ζf.1 h;simp only[ζc]at e;obtain⟨_,rfl⟩:=e;exact⟨rfl,rfl,rfl,rfl⟩;obtain⟨_,_,e⟩:=ζf.1 h;simp only[ζc]at e;obtain⟨_,rfl⟩:=e;exact⟨rfl,rfl,rfl,rfl⟩;split at h;obtain⟨_,_,e⟩:=ζf.1 h;simp only[ζc]at e;obtain⟨_,rfl⟩:=e;exact⟨rfl,rfl,rfl,rfl⟩;simp at h;split at h;split at h;obtain⟨_,_,e⟩:=ζf.1 h;simp only[ζc]at e;obtain⟨_,rfl⟩:=e;exact⟨rfl,rfl,rfl,rfl⟩;simp at h;simp at h
  .split at h
   .unfold nY at h;(repeat' split at h)<;>first|(simp at h;done)|(simp only[ζa,ζc]at h;obtain⟨_,rfl⟩:=h;exact⟨rfl,rfl,rfl,rfl⟩)|(obtain⟨_,_,e⟩:=ζf.1 h;simp only[ζc]at e;obtain⟨_,rfl⟩:=e;exact⟨rfl,rfl,rfl,rfl⟩)|skip
    dsimp only at h;(repeat' split at h)<;>first|(simp at h;done)|(simp only[ζa,ζc]at h;obtain⟨_,rfl⟩:=h;exact⟨rfl,rfl,rfl,rfl⟩)
   simp at h
  .have hc:∀{dst dr now u f args},fu S c dst dr now u f args st=some (sv,st')->st'.want=st.want/\st'.pin=st.pin/\st'.more=st.more/\st'.yid=st.yid:=by intro dst dr now u f args h;unfold fu at h;(repeat' split at h)<;>first|exact Qy h|(obtain⟨_,_,e⟩:=ζf.1 h;simp only[ζc]at e;obtain⟨_,rfl⟩:=e;exact⟨rfl,rfl,rfl,rfl⟩)|(simp at h;done)|(simp only[ζa,ζc]at h;obtain⟨_,rfl⟩:=h;exact⟨rfl,rfl,rfl,rfl⟩)
   split at h;exact hc h;exact hc h;simp at h
  split at h;simp at h;split at h;obtain⟨_,_,h⟩:=ζg.1 h;obtain⟨_,_,e⟩:=ζf.1 h;simp only[ζc]at e;obtain⟨_,rfl⟩:=e;exact⟨rfl,rfl,rfl,rfl⟩;simp at h;have z:∀{dst l w},nY st dst l w=some (sv,st')->st'.want=st.want/\st'.pin=st.pin/\st'.more=st.more/\st'.yid=st.yid:=by
   intro dst l w h;unfold nY at h;(repeat' split at h)<;>first|(simp at h;done)|(simp only[ζa,ζc]at h;obtain⟨_,rfl⟩:=h;exact⟨rfl,rfl,rfl,rfl⟩)|(obtain⟨_,_,e⟩:=ζf.1 h;simp only[ζc]at e;obtain⟨_,rfl⟩:=e;exact⟨rfl,rfl,rfl,rfl⟩)|skip
   all_goals (dsimp only at h;(repeat' split at h)<;>first|(simp at h;done)|(simp only[ζa,ζc]at h;obtain⟨_,rfl⟩:=h;exact⟨rfl,rfl,rfl,rfl⟩))
  split at h;exact z h;exact z h;simp at h
 simp at h
theorem Cj(r:R ν Z st F H){a:Nat}{dst:Lk Nat}(hd:zL a dst=true){sv:SV}{y:V}(h:dn ν st.m H Z sv y):∃F',ko a F dst y=some F'/\R ν Z (cT st dst sv) F' H:=by
 cases dst with|none=>exact⟨F,rfl,r⟩|some d=>
  have:=by simpa[zL]using hd
  exact⟨set F d y,by simp[ko,if_pos this],r.put h⟩
theorem E5(st:St)(dst:Lk Nat)(sv:SV):(cT st dst sv).m=st.m/\(cT st dst sv).want=st.want/\(cT st dst sv).pin=st.pin/\(cT st dst sv).more=st.more/\(cT st dst sv).yid=st.yid:=by cases dst<;>exact⟨rfl,rfl,rfl,rfl,rfl⟩
theorem LW(gd:Good X S)(p:jw S c){ops:L' Oper}{place:Lk (Nat×Nat)}{dr:Bool}{fr:L' Nat}{i:Nat}(G:dr=place.isSome)(hi:∀b j,place=some (b,j)->j=i)
 (a:∀b j,place=some (b,j)->b<=H.length/\Old b fr ν Z st.m)
 {o:Oper}{ro:RO}(l:oG X dr ops i o=some ro)(J:∀b j,place=some (b,j)->ops[j]?=some o)(D:∀b j,place=some (b,j)->dw o.op=.alloc->H[b+j]?=some .free)
 (r:R ν Z st F H)(B:gp S.N st.g ro=none\/dr=true)(h:fM S c dr fr ro st=some st'):
 ∃n F' H' ν' Z',(∀k,n<=k->gO S.E (run S.E k) X.nt ops place o F H=some (F',H'))/\R ν' Z' st' F' H'/\Ev (λid=>∃b j,place=some (b,j)/\id=b+j) ν Z st H ν' Z' st' H'/\
  (dr=true->Z'=Z/\Kept (Au ro) ν st.m ν' st'.m)/\st'.want=st.want/\Fix ν st ν' st':=by
 have I:=l;obtain⟨u,g,now,k,az,m,rfl⟩:=Fa l;unfold fM at h;split at h
 .rename_i L;have w:=wG r.slot m L;have T:(mR S c dr fr ⟨o.dst,g,now,k,az,[],[]⟩ st).map (λ(x,st')=>cT st' o.dst x)=some st':=by
   split at h
   .rename_i id vs C;rcases B with B|B
    .rw[B]at C;cases C
    subst B;simp at h
   exact h
  obtain⟨⟨x,O⟩,hd,rfl⟩:=ζf.1 T;obtain⟨n,y,H',ν',Z',e1,e2,e3,e4,e5⟩:=Xm gd p G hi a I J D r hd;obtain⟨U,Q,W,Y⟩:=Sg hd;obtain⟨F',e,f⟩:=Cj e2 u e3;obtain⟨p1,p2,p3,p4,p5⟩:=E5 O o.dst x;refine⟨n,F',H',ν',Z',λk q=>?_,f,?_,λhd=>⟨(e5 hd).1,by rw[p1];exact(e5 hd).2⟩,by rw[p2,U],⟨λd hd=>by rw[p1];exact e4.pin d hd,by rw[p3,Q],by rw[p4,W],by rw[p5,Y]⟩⟩
  .unfold gO;simp only[w,if_true,e1 k q,e,map_some]
  exact⟨e4.len,e4.same,e4.rows,λid h=>e4.own id (by rw[p1]at h;exact h),e4.frz,λd hd=>by rw[p1];exact e4.pin d hd,by rw[p3,Q]⟩
 .rename_i L;have w:=wG r.slot m L;simp only[ζa]at h;subst h;obtain⟨F',e,f⟩:=Cj r u (.v V.undef V.undef (.same _ rfl));obtain⟨p1,p2,p3,p4,p5⟩:=E5 st o.dst (.v .undef);refine⟨0,F',H,ν,Z,λk _=>?_,f,?_,λ_=>⟨rfl,by rw[p1];exact .refl⟩,p2,⟨λd hd=>by rw[p1];exactλz h=>⟨z,h,rfl,.refl _⟩,p3,p4,p5⟩⟩
  .unfold gO;simp only[w,false_eq_true,if_false,e,map_some]
  exact⟨le_refl _,λ_ _ _ _ _=>rfl,λ_ h=>⟨h,rfl⟩,λ_ h=>.inl (by rw[p1]at h;exact h),λ_ h=>.inl h,λd hd=>by rw[p1];exactλz h=>⟨z,h,rfl,.refl _⟩,p3⟩
 simp at h
theorem Tc(gd:Good X S)(y:Yc S J st.more st.yid){ops:L' Oper}{fr:L' Nat}{i:Nat}{o:Oper}{ro:RO}(a:oG X false ops i o=some ro)
 (r:R ν Z st F H)(j:J st.want (fS ν st.m) Z H){id:Nat}{vs:L' SV}(B:gp S.N st.g ro=some (id,vs))(D:wanted st.g ro.gd=some true)(h:fM S c false fr ro st=some st'):
 ∃n F' H',(∀k,n<=k->gO S.E (run S.E k) X.nt ops none o F H=some (F',H'))/\R ν Z st' F' H'/\J st'.want (fS ν st'.m) Z H'/\Fix ν st ν st':=by
 unfold oG at a;simp only[Bool.false_and,false_eq_true,if_false]at a;split at a
 .rename_i C;split at a
  .rename_i g k os hg hr;split at a
   .obtain⟨az,U,rfl⟩:=ζf.1 a;unfold fM at h;simp only at D;have L:=wG r.slot hg D;rw[D]at h;simp only[B,false_eq_true,if_false]at h;unfold gp at B;split at B
    .rename_i W Y b G;simp only[ζa,ζc]at B;obtain⟨rfl,rfl⟩:=B;simp only at b G;subst b;obtain⟨ys,O,rs⟩:=pN gd.N r.slot U G;obtain⟨g1,A,E,e1,e2⟩:=jN gd.N hr O;obtain⟨w,K,e,r1,r2⟩:=rs.inv;rw[e]at e1;simp only[List.cons.injEq]at e1;obtain⟨rfl,rfl⟩:=e1;cases r1;simp only at e2;split at h
     .rename_i xs x I hx u;split at h
      .rename_i z;obtain⟨rfl,rfl⟩:=z;simp only[ζa]at h;subst h;rw[u]at j;obtain⟨n,H',p1,p2,p3,p4,p5⟩:=y.yield _ _ _ _ _ _ j (r2.dy hx) r.zrow r.deep (λi hi=>⟨by obtain⟨d,ob,f,l,rfl⟩:=hi;exact r.apart d ob f l,r.lt hi⟩)
       have r3:R ν Z st F H':=r.heap p4 p5;have r4:R ν Z {st with want:=I} F H':=⟨r3.slot,r3.obj,r3.inj,r3.apart,r3.zrow,r3.deep⟩;obtain⟨F',m,p⟩:=Cj (st:={st with want:=I}) r4 C (sv:=.v (.bool (st.more|| !I.isEmpty))) (.v _ _ (.same _ rfl));obtain⟨T,q,s,t,v⟩:=E5 {st with want:=I} o.dst (.v (.bool (st.more|| !I.isEmpty)));refine⟨n,F',H',λk b=>?_,p,by rw[T,q];exact p2,⟨λd hd=>by rw[T];exactλQ h=>⟨Q,h,rfl,.refl _⟩,s,t,v⟩⟩
       unfold gO dF;rw[g1,e2];simp only[L,if_true,(oN S.E b).go _ _ _ _ p1,m,map_some]
      simp at h
     simp at h
    simp at B
   simp at a
  simp at a
 simp at a
def l8(X:CX)(B:Bool)(ops:L' Oper):Nat->L' Oper->Lk (L' RO)
 |_,[]=>some []|i,o::r=>match oG X B ops i o,l8 X B ops (i+1) r with
  |some ro,some rs=>some (ro::rs)|_,_=>none
theorem R.Al(r:R ν Z st F H)(ds:L' Nat):R ν Z (qy ds st) F H:=r.less (λs w u=>pG u) (λd ob hd=>hd)
theorem Fix.Al{ds:L' Nat}(f:Fix ν (qy ds st) ν' st'):Fix ν st ν' st':=⟨f.pin,f.pins,f.more,f.yid⟩
theorem Fix.ghost(r:R ν Z st F H)(y:Yc S J st.more st.yid)(j:J st.want (fS ν st.m) Z H){x:Gh}(h:ghost x st=some st'):∃ν' Z',R ν' Z' st' F H/\J st'.want (fS ν' st'.m) Z' H/\Fix ν st ν' st':=by
 obtain⟨ν',Z',a,u⟩:=RD (Rv:=λ_=>False) r h;have w:st'.want=st.want/\st'.more=st.more/\st'.yid=st.yid:=by unfold Go.VE.ghost Bn at h;(repeat' split at h)<;>first|grind|grind
 exact⟨ν',Z',a,u.beside y w.1 j,⟨u.pin,u.pins,w.2.1,w.2.2⟩⟩
theorem Fix.quiet(r:R ν Z st F H):∀{l:L' Gh}{st':St},l.all AN=true->Go.VE.pR l st=some st'->R ν Z st' F H/\Ev Rv ν Z st H ν Z st' H/\st'.want=st.want/\Fix ν st ν st'/\∀d ob,bh st'.m d=some ob->bh st.m d=some ob:=by
 intro l
 induction l generalizing st with
 |nil=>intro st' _ h;simp[Go.VE.pR]at h;subst h;exact⟨r,.refl,rfl,.refl,λ_ _ h=>h⟩|cons x l C=>
  intro st' z h;simp only[all_cons,ζh]at z;obtain⟨D,a,G⟩:=ζg.1 h;have key:∃g m,D={st with g:=g,m:=m}/\(∀s u,bh g s=some u->bh st.g s=some u)/\∀d ob,bh m d=some ob->bh st.m d=some ob:=by
   cases x with
   |keep gs L=>
    simp[Go.VE.ghost]at a;split at a;next g m b I=>simp at a;subst a;exact⟨g,m,rfl,λs u B=>rO b B,λd ob hd=>rO I hd⟩
    grind
   |drop ds=>simp[Go.VE.ghost]at a;subst a;exact⟨_,st.m,rfl,λs u B=>pG B,λ_ _ h=>h⟩|_=>simp[AN]at z
  obtain⟨g,m,rfl,J,w⟩:=key;obtain⟨a1,a2,a3,a4,a5⟩:=C (r.less J w) z.2 G;exact⟨a1,(Ev.less w).trans a2,a3,Fix.trans (st':={st with g:=g,m:=m}) ⟨λd _ ob h=>⟨ob,w d ob h,rfl,.refl _⟩,rfl,rfl,rfl⟩ a4,λd ob h=>w d ob (a5 d ob h)⟩
theorem Fix.pR:∀{l:L' Gh}{ν:Nu}{Z:Nat->Prop}{st st':St},R ν Z st F H->Yc S J st.more st.yid->J st.want (fS ν st.m) Z H->pR l st=some st'->∃ν' Z',R ν' Z' st' F H/\J st'.want (fS ν' st'.m) Z' H/\Fix ν st ν' st'
 |[],ν,Z,st,st',r,y,j,h=>by simp[Go.VE.pR]at h;subst h;exact⟨ν,Z,r,j,.refl⟩|x::l,ν,Z,st,st',r,y,j,h=>by obtain⟨B,b,D⟩:=ζg.1 h;obtain⟨z,C,r1,u,a⟩:=Fix.ghost r y j b;obtain⟨ν2,Z2,r2,w,c⟩:=Fix.pR r1 (by rw[a.more,a.yid];omega) u D;exact⟨ν2,Z2,r2,w,a.trans c⟩
theorem Sh(gd:Good X S)(e:jw S c){ops:L' Oper}{fr:L' Nat}{i:Nat}{o:Oper}{ro:RO}{B:St}(a:oG X false ops i o=some ro)(y:Yc S J st.more st.yid)(r:R ν Z st F H)(j:J st.want (fS ν st.m) Z H)(G:fM S c false fr ro st=some B):
 ∃n F' H' ν' Z',(∀k,n<=k->gO S.E (run S.E k) X.nt ops none o F H=some (F',H'))/\R ν' Z' B F' H'/\J B.want (fS ν' B.m) Z' H'/\Fix ν st ν' B:=by
 by_cases L:wanted st.g ro.gd=some true
 .cases C:gp S.N st.g ro with
  |none=>
   obtain⟨n,F',H',ν',Z',e1,e2,e3,e4,e5,e6⟩:=LW gd e (place:=none) rfl (λb j h=>by cases h) (λb j h=>by cases h) a (λb j h=>by cases h) (λb j h=>by cases h) r (.inl C) G
   exact⟨n,F',H',ν',Z',e1,e2,(e3.weak (λid⟨b,j,h,_⟩=>by cases h)).beside y e5 j,e6⟩
  |some p=>obtain⟨id,Q⟩:=p;obtain⟨n,F',H',e1,e2,e3,e4⟩:=Tc gd y a r j C L G;exact⟨n,F',H',ν,Z,e1,e2,e3,e4⟩
 have u:fM S c false fr ro st=some B:=G;have O:gp S.N st.g {ro with az:=[]}=none:=by unfold gp;simp[bW]
 obtain⟨n,F',H',ν',Z',e1,e2,e3,e4,e5,e6⟩:∃n F' H' ν' Z',(∀k,n<=k->gO S.E (run S.E k) X.nt ops none o F H=some (F',H'))/\R ν' Z' B F' H'/\Ev (λ_=>False) ν Z st H ν' Z' B H'/\True/\B.want=st.want/\Fix ν st ν' B:=by
  unfold fM at u;split at u;next w=>exact absurd w L
  rename_i w;simp only[ζa]at u;subst u;unfold oG at a;simp only[Bool.false_and,false_eq_true,if_false]at a;split at a;rename_i D;split at a;rename_i g k os f q;split at a;obtain⟨az,T,rfl⟩:=ζf.1 a;have I:=wG r.slot f w;obtain⟨F',l,m⟩:=Cj r D (.v V.undef V.undef (.same _ rfl));obtain⟨p1,p2,p3,p4,p5⟩:=E5 st o.dst (.v .undef);refine⟨0,F',H,ν,Z,λk _=>?_,m,?_,trivial,p2,⟨λd hd=>by rw[p1];exactλz h=>⟨z,h,rfl,.refl _⟩,p3,p4,p5⟩⟩;unfold gO;simp only[I,false_eq_true,if_false,l,map_some];exact⟨le_refl _,λ_ _ _ _ _=>rfl,λ_ h=>⟨h,rfl⟩,λ_ h=>.inl (by rw[p1]at h;exact h),λ_ h=>.inl h,λd hd=>by rw[p1];exactλz h=>⟨z,h,rfl,.refl _⟩,p3⟩;simp at a;simp at a;simp at a;simp at u
 exact⟨n,F',H',ν',Z',e1,e2,e3.beside y e5 j,e6⟩
theorem Qv(gd:Good X S)(d:jw S c){ops:L' Oper}{fr:L' Nat}:∀(rest:L' Oper){i:Nat}{B:L' RO}{ν:Nu}{Z:Nat->Prop}{st st':St}{F:Frame}{H:bn},l8 X false ops i rest=some (B.map RO.strip)->oh S c false fr B st=some st'->
 Yc S J st.more st.yid->R ν Z st F H->J st.want (fS ν st.m) Z H->
 ∃n F' H' ν' Z',(∀k,n<=k->mZ S.E (run S.E k) X.nt ops rest F H=some (F',H'))/\R ν' Z' st' F' H'/\J st'.want (fS ν' st'.m) Z' H'/\Fix ν st ν' st'
 |[],i,B,ν,Z,st,st',F,H,hc,h,y,r,j=>by simp only[l8,ζa]at hc;have:=List.map_eq_nil_iff.1 hc.symm;subst this;simp[oh]at h;subst h;exact⟨0,F,H,ν,Z,λ_ _=>rfl,r,j,.refl⟩|o::rest,i,B,ν,Z,st,st',F,H,hc,h,y,r,j=>by
  simp[l8]at hc;split at hc;rename_i Q rs f T;obtain⟨u,w,rfl,C,D⟩:∃u w,B=u::w/\Q=u.strip/\rs=w.map RO.strip:=by cases B with|nil=>simp_all|cons a b=>grind
  subst D;simp[oh,<-C]at h;split at h;rename_i z G;obtain⟨U,I,G⟩:=ζg.1 G;obtain⟨v,x,g,W,L⟩:=Fix.pR r y j I;obtain⟨Y,F1,H1,A,E,a1,a2,a3,O⟩:=Sh gd d f (by rw[L.more,L.yid];omega) g W G;have a4:=L.trans O;obtain⟨l,m,H2,ν2,Z2,p,q,s,t⟩:=Qv gd d rest T h (by show Yc S J z.more z.yid;rw[a4.more,a4.yid];omega) (R.Al a2 u.dead) a3;refine⟨max Y l,m,H2,ν2,Z2,λk e=>?_,q,s,a4.trans (Fix.Al t)⟩;simp[mZ,a1 k (le_trans (le_max_left _ _) e),p k (le_trans (le_max_right _ _) e)];grind;grind
theorem Old.next{b:Nat}{fr:L' Nat}{o:RO}(h:Old b fr ν Z m)(a:Kept (Au o) ν m ν' m'):Old b (sj fr o) ν' Z m':=by
 refine⟨λd ob hd D w=>?_,h.2⟩;have z:d∉fr:=λJ=>w (by unfold sj;grind);have B:Au o≠some d:=λe=>w (by unfold sj;grind);obtain⟨u,c,G,I⟩:=a d ob B hd;have C:cD u=true:=by cases u<;>cases ob<;>simp[sameShape]at I<;>first|rfl|(simp[cD]at D⊢;grind)
 rw[G];exact h.1 d u c C z
theorem Fj(r:R ν Z st F H){id:Nat}(h:fS ν st.m id):H[id]?≠some .free:=by obtain⟨d,ob,a,u,rfl⟩:=h;have:=r.obj d ob a;cases ob with|sl k es C=>simp[cD]at u;simp[en,u]at this;grind|box cs=>obtain⟨es,z,b,_⟩:=this;grind|mp B=>obtain⟨w,b,_⟩:=this;grind
theorem Nw(r:R ν Z st F H){id:Nat}(h:Z id):H[id]?≠some .free:=λe=>by have:=r.zrow id h;unfold bq at this;rw[e]at this;simp[Ob.rows]at this
theorem Ev.Al{ds:L' Nat}(e:Ev Rv ν Z (qy ds st) H ν' Z' st' H'):Ev Rv ν Z st H ν' Z' st' H':=⟨e.len,e.same,e.rows,e.own,e.frz,e.pin,e.pins⟩
theorem Qh(gd:Good X S)(g:jw S c){ops:L' Oper}{b k:Nat}(G:sV ops=true->k=ops.length):∀(len:Nat){i:Nat}{B:L' RO}{fr:L' Nat}{ν:Nu}{Z:Nat->Prop}{st st':St}{F:Frame}{H:bn},
 i+len=ops.length->l8 X true ops i (ops.drop i)=some (B.map RO.strip)->oh S c true fr B st=some st'->R ν Z st F H->b<=H.length->Old b fr ν Z st.m->(∀j,i<=j->j<k->H[b+j]?=some .free)->
 ∃n F' H' ν',(∀q,n<=q->kB S.E (run S.E q) X.nt ops b (List.range' i len) F H=some (F',H'))/\R ν' Z st' F' H'/\Ev (λid=>b<=id) ν Z st H ν' Z st' H'/\st'.want=st.want/\Fix ν st ν' st'
 |0,i,B,fr,ν,Z,st,st',F,H,hl,hc,h,r,hb,J,hf=>by rw[List.drop_of_length_le Zaa]at hc;simp only[l8,ζa]at hc;have:B=[]:=List.map_eq_nil_iff.1 hc.symm;subst this;simp[oh]at h;subst h;exact⟨0,F,H,ν,λ_ _=>rfl,r,.refl,rfl,.refl⟩|len+1,i,B,fr,ν,Z,st,st',F,H,hl,hc,h,r,hb,J,hf=>by
  have hi:i<ops.length:=Zaa;have l:=ζd hi;rw[List.drop_eq_getElem_cons hi]at hc;simp[l8]at hc;split at hc
  .rename_i ro rs h1 h2;obtain⟨u,w,rfl,Q,T⟩:∃u w,B=u::w/\ro=u.strip/\rs=w.map RO.strip:=by cases B with|nil=>simp_all|cons a b=>grind
   subst T;simp only[oh,<-Q]at h;split at h
   .rename_i ab U;obtain⟨W,z,U⟩:=ζg.1 U;simp only[Di,if_true]at z;split at z;rotate_left;simp_all;rename_i L;obtain⟨f,m,o,p,s⟩:=Fix.quiet r L z;have J:Old b fr ν Z W.m:=⟨λd ob hd=>J.1 d ob (s d ob hd),J.2⟩;obtain⟨t,F1,H1,P,V,a1,a2,a3,a4,a5,a6⟩:=LW gd g (place:=some (b,i)) rfl (λO j e=>Zac) (λO j e=>Zac) h1 (λO j e=>Zac) (λO j e ad=>by
     have:sV ops=true:=by
      unfold sV
      grind
     grind) f (.inr rfl) U
    obtain⟨rfl,C⟩:=a4 rfl;have I:=a3.weak λid⟨O,j,e,h⟩=>by cases e;omega
    obtain⟨v,x,H2,ν2,y,A,E,K,M⟩:=Qh gd g G len Zaa h2 h (R.Al a2 u.dead) (le_trans hb a3.len) (J.next C) (λj ae Y=>by have D:=hf j Zaa Y;have N:=(ζe.1 D).1;rw[I.same (b+j) N (λh=>Fj f h D) (λh=>Nw f h D) Zaa];omega);refine⟨max t v,x,H2,ν2,λq L=>?_,A,m.trans ((I.weak λid e=>Zaa).trans (Ev.Al E)),by rw[K,<-o];exact a5,p.trans (a6.trans (Fix.Al M))⟩;simp[List.range'_succ,kB,l,a1 q (le_trans (le_max_left _ _) L),y q (le_trans (le_max_right _ _) L)]
   grind
  grind
end
def bS(X:CX):Bool->Code->Lk RC
 |_,.skip=>some .skip|_,.label _=>some .skip|_,.region _ ops B=>
  if B then(if xy ops.toList&&Bm ops.toList then(l8 X true ops.toList 0 ops.toList).map .qn else none)
  else(l8 X false ops.toList 0 ops.toList).map .ops
 |ro,.seq a b=>match bS X ro a,bS X ro b with
  |some a,some b=>some (.seq a b)|_,_=>none
 |ro,.cond c a b=>match qg X.nm c,bS X ro a,bS X ro b with
  |some x,some a,some b=>some (.cond x a b)|_,_,_=>none
 |ro,.block id c=>(bS X ro c).map (.block id)|ro,.loop c=>(bS X ro c).map .loop|ro,.rangeFunc g ps D G=>
  if ro|| !(ps.toList.all (·<X.nt))then none else
  match qg X.nm g,bS X true D,bS X true G with
  |some x,some a,some b=>some (.each x ps.toList a b)|_,_,_=>none
 |_,.exit id=>some (.exit id)|_,.ret=>some .ret|_,_=>none
def erase:RC->RC
 |.seq a b=>.seq (erase a) (erase b)|.cond x a b=>.cond x (erase a) (erase b)|.block id c=>.block id (erase c)|.loop c=>.loop (erase c)|.each g ps a b=>.each g ps (erase a) (erase b)|.gh _ c=>erase c|.hg c _=>erase c|.ops l=>.ops (l.map RO.strip)|.qn l=>.qn (l.map RO.strip)|c=>c
def jL(step:St->Lk (Out×St)):Nat->St->Lk (Out×St)
 |0,_=>none|k+1,st=>match step st with
  |some (.norm,st')=>jL step k st'|r=>r
open Classical in
noncomputable def pJ(step:St->Lk (Out×St))(st:St):Lk (Out×St):=if h:∃k r,jL step k st=some r then some (Classical.choose (choose_spec h))else none
theorem Aq{step:St->Lk (Out×St)}:∀{k B:Nat}{st:St}{r:Out×St},k<=B->jL step k st=some r->jL step B st=some r
 |0,_,_,_,_,h=>by simp[jL]at h|k+1,0,_,_,hk,_=>Zaa|k+1,B+1,st,r,hk,h=>by
  simp only[jL]at h⊢;split at h;next st' D=>rw[Aq (Nat.le_of_succ_le_succ hk) h]
  exact h
theorem n9{step:St->Lk (Out×St)}{st:St}{r:Out×St}:pJ step st=some r↔∃k,jL step k st=some r:=by
 unfold pJ;constructor;intro h;split at h;next u=>simp only[ζa]at h;exact⟨_,by rw[<-h];exact choose_spec (choose_spec u)⟩
 simp at h;rintro⟨k,a⟩;have u:∃k r,jL step k st=some r:=⟨k,r,a⟩;rw[dif_pos u];have z:=choose_spec (choose_spec u);have B:=Aq (le_max_left (Classical.choose u) k) z;have w:=Aq (le_max_right (Classical.choose u) k) a;rw[B]at w;exact w
def jk(ps:L' Nat)(A B:St->Lk (Out×St))(st:St)(x:L' V)(m:Tb bJ):Lk (Out×Tb bJ):=
 if x.length=ps.length then
  match A {g:=yq st.g ps (x.map .v),m:=m,pin:=st.pin++qJ st.g,want:=[],more:=true,yid:=0}with
  |some (.norm,u)=>(B u).map λ(o,st2)=>(o,st2.m)|_=>none
 else none
def ri(step:L' V->Tb bJ->Lk (Out×Tb bJ)):L' (L' V)->Tb bJ->Lk (Out×Tb bJ)
 |[],m=>some (.norm,m)|x::xs,m=>match step x m with
  |some (.norm,m')=>ri step xs m'|r=>r
noncomputable def cK(S:Sys)(c:b9):RC->St->Lk (Out×St)
 |.skip,st=>some (.norm,st)|.ops l,st=>(oh S c false [] l st).map λst=>(.norm,st)|.qn l,st=>(oh S c true [] l st).map λst=>(.norm,st)|.seq a b,st=>match cK S c a st with
  |some (.norm,st')=>cK S c b st'|r=>r
 |.cond x a b,st=>match rT S.N st.g x with
  |some (.v (.bool t))=>if t then cK S c a st else cK S c b st|_=>none
 |.block id a,st=>match cK S c a st with
  |some (.exit B,st')=>if B=id then some (.norm,st')else some (.exit B,st')|r=>r
 |.loop a,st=>pJ (cK S c a) st|.each g ps a b,st=>match rT S.N st.g g with
  |some (.v (.clo f x y))=>match S.items f x y with
   |some xs=>(ri (jk ps (cK S c a) (cK S c b) st) xs st.m).map λ(o,m)=>(o,{st with m:=m})|none=>none
  |_=>none
 |.exit id,st=>some (.exit id,st)|.ret,st=>some (.ret,st)|.gh x a,st=>(ghost x st).bind (cK S c a)|.hg a x,st=>match cK S c a st with
  |some (.norm,st')=>(ghost x st').map λst=>(.norm,st)|r=>r
def eD(S:Sys)(f:FuncId)(a b:L' V)(xs:L' (L' V)):Prop:=∀u more,(more=true/\u=xs\/more=false/\u≠[]/\∃r,xs=u++r)->∀yid J,Yc S J more yid->∀Z w z H,dB H Z a w->dB H Z b z->(∀i,Z i->(bq H i).isSome=true)->Deep H Z->J u (λ_=>False) Z H->∃n y H' B Z',(∀k,n<=k->run S.E k (.fn f) (w++.yld yid::z) H=some (y,H'))/\J [] B Z' H'
section
variable{ν ν' ν2:Nu}{Z Z':Nat->Prop}{st st' st2:St}{m m':Tb bJ}{F F':Frame}{H H' H1:bn}{S:Sys}{c:b9}{X:CX}{J:JT}
end
inductive yf(step:List V->Tb bJ->Option (Out×Tb bJ))(o:Out)(mf:Tb bJ):List (List V)->Bool->Tb bJ->Prop
 |nil(h:o=.norm):yf step o mf [] true mf|next(x:List V)(ws:List (List V))(more:Bool)(m m1:Tb bJ)(h:step x m=some (.norm,m1))(r:yf step o mf ws more m1):yf step o mf (x::ws) more m|last(x:List V)(m:Tb bJ)(h:step x m=some (o,mf))(ho:o≠.norm):yf step o mf [x] false m
theorem EJ{step:L' V->Tb bJ->Lk (Out×Tb bJ)}{o:Out}{D:Tb bJ}:∀{xs:L' (L' V)}{m:Tb bJ},ri step xs m=some (o,D)->
 ∃B more,(more=true/\B=xs\/more=false/\B≠[]/\∃r,xs=B++r)/\yf step o D B more m
 |[],m,h=>by obtain⟨rfl,rfl⟩:=h;exact⟨[],true,.inl ⟨rfl,rfl⟩,.nil rfl⟩|x::xs,m,h=>by simp[ri]at h;split at h;rename_i m' u;obtain⟨B,more,b,a⟩:=EJ h;refine⟨x::B,more,?_,.next x B more m m' u a⟩;grind;refine⟨[x],false,.inr ⟨rfl,Zab,xs,rfl⟩,.last x m h λe=>?_⟩;simp_all
def vz(O0 Z0:Nat->Prop)(H0:bn):JT:=λw O Z H=>w=[]/\H0.length<=H.length/\(∀i,i<H0.length->¬O0 i->¬Z0 i->H[i]?=H0[i]?)/\(∀i,Z0 i->Z i/\bq H i=bq H0 i)/\(∀i,O i->O0 i\/H0.length<=i)/\(∀i,Z i->Z0 i\/O0 i\/H0.length<=i)
section
variable{ν ν' ν2:Nu}{Z Z':Nat->Prop}{st st' st2:St}{m m':Tb bJ}{F F':Frame}{H H' H1:bn}{S:Sys}{c:b9}{X:CX}{J:JT}{O0 Z0:Nat->Prop}{H0:bn}
theorem vz.xu{w:L' (L' V)}{O Z B Z':Nat->Prop}{H H':bn}(j:vz O0 Z0 H0 w O Z H)(D:H.length<=H'.length)(G:∀i,i<H.length->¬O i->¬Z i->H'[i]?=H[i]?)(a:∀i,Z i->Z' i/\bq H' i=bq H i)
 (J:∀i,B i->O i\/H.length<=i)(U:∀i,Z' i->Z i\/O i\/H.length<=i):vz O0 Z0 H0 w B Z' H':=by
 obtain⟨u,z,I,C,L,Q⟩:=j;refine⟨u,le_trans z D,λi b S T=>?_,λi h=>⟨(a i (C i h).1).1,Zac⟩,λi h=>?_,λi h=>?_⟩
 .grind
 .grind
 grind
theorem vz.yc{more:Bool}{yid:Nat}:Yc S (vz O0 Z0 H0) more yid where
 xu:=λ_ _ _ _ _ _ _ j a u w z B=>j.xu a u w z B
 yield:=λx C O Z H args j=>by obtain⟨h,_⟩:=j;cases h
theorem vz.refl(r:R ν Z st F H):vz (fS ν st.m) Z H [] (fS ν st.m) Z H:=⟨rfl,le_refl _,λ_ _ _ _=>rfl,λi h=>⟨h,rfl⟩,λi h=>.inl h,λi h=>.inl h⟩
mutual
theorem EE{d:Nat}:∀{sv:SV},sv.c6 d=true->d∈sv.names
 |.v _,h=>by simp[SV.c6]at h|.own e,h=>by simp[SV.c6]at h;simp[SV.names,h]|.ptr e _,h=>by simp[SV.c6]at h;simp[SV.names,h]|.el e _ _,h=>by simp[SV.c6]at h;simp[SV.names,h]|.mp e,h=>by simp[SV.c6]at h;simp[SV.names,h]|.clo f a b,h=>by simp only[SV.c6,or_eq_true]at h;simp only[SV.names,mem_append];exact h.imp sw sw|.tup l,h=>by simp only[SV.c6]at h;simp only[SV.names];exact sw h|.agg l,h=>by simp only[SV.c6]at h;simp only[SV.names];exact sw h|.yl _,h=>by simp[SV.c6]at h
theorem sw{d:Nat}:∀{l:L' SV},SV.dK d l=true->d∈SV.xK l
 |[],h=>by simp[SV.dK]at h|x::r,h=>by simp only[SV.dK,or_eq_true]at h;simp only[SV.xK,mem_append];exact h.imp EE sw
end
theorem CD{d:Nat}:∀{g:Tb SV}{s:Nat}{sv:SV},bh g s=some sv->sv.c6 d=true->d∈qJ g
 |[],s,sv,h,_=>by simp[bh]at h|(k,x)::r,s,sv,h,B=>by simp[bh]at h;simp[qJ];split at h;simp at h;subst h;exact .inl (EE B);exact .inr (CD h B)
theorem R.Zq(r:R ν Z st F H){Z2:Nat->Prop}(b:∀i,Z2 i->¬fS ν st.m i)(G:∀i,Z2 i->(bq H i).isSome=true)(J:Deep H Z2):R ν (λi=>Z i\/Z2 i) st F H:=by have w:∀i,Z i->(Z i\/Z2 i)/\bq H i=bq H i:=λi h=>⟨.inl h,rfl⟩;have z:∀i,Z2 i->(Z i\/Z2 i)/\bq H i=bq H i:=λi h=>⟨.inr h,rfl⟩;refine⟨λs I L=>(r.slot s I L).mono w λe _=>jm ν st.m e,λd ob hd=>en.mono w rfl (λ_=>rfl) (λe _=>jm ν st.m e) (r.obj d ob hd),r.inj,λd ob hd C a=>?_,λi hi=>?_,⟨λid es D hi hr c hc u hu=>?_⟩⟩;rcases a with a|a;exact r.apart d ob hd C a;exact b _ a ⟨d,ob,hd,C,rfl⟩;exact hi.elim (r.zrow i) (G i);rcases hi with hi|hi;obtain⟨x,B⟩:=r.deep.row id es D hi hr c hc u hu;exact⟨x,B.mono w⟩;obtain⟨x,B⟩:=J.row id es D hi hr c hc u hu;exact⟨x,B.mono z⟩
theorem R.XI:∀{ps:L' Nat}{xs:L' V}{vs:L' V}{g:Tb SV}{F:Frame},R ν Z {st with g:=g} F H->dB H Z xs vs->xs.length=ps.length->R ν Z {st with g:=yq g ps (xs.map .v)} (zg ps vs F) H
 |[],xs,vs,g,F,r,h,B=>by have:=length_eq_zero_iff.1 B;subst this;exact r|p::ps,[],vs,g,F,r,h,B=>by simp_all|p::ps,x::xs,vs,g,F,r,h,B=>by obtain⟨w,z,rfl,a,u⟩:=h.inv;exact R.XI (ps:=ps) (r.put (.v _ _ a)) u Zac
def tN(X:CX)(S:Sys)(ro:Bool)(code:Code)(B:St->Lk (Out×St)):Prop:=∀st o st',B st=some (o,st')->∀(J:JT)ν Z F H,Yc S J st.more st.yid->R ν Z st F H->J st.want (fS ν st.m) Z H->∃n F' H' ν' Z',(∀k,n<=k->exec S.E (run S.E k) k ro X.nt code F H=some (o,F',H'))/\R ν' Z' st' F' H'/\J st'.want (fS ν' st'.m) Z' H'/\Fix ν st ν' st'
def TT(st:St)(m:Tb bJ):St:={g:=st.g,m:=m,pin:=st.pin++qJ st.g,want:=[],more:=true,yid:=0}
def JI(X:CX)(st:St)(F:Frame)(ν:Nu)(O0 Z0:Nat->Prop)(H0:bn)(B:Nat)(ps:L' Nat)(J U:Code)(step:L' V->Tb bJ->Lk (Out×Tb bJ))(o:Out)(G:Tb bJ)(more:Bool):JT:=λw O Z H=>∃m z D u,R z D (TT st m) F H/\vz O0 Z0 H0 [] (fS z m) D H/\(∀i,O i->¬fS z m i/\¬D i/\i≠B/\H0.length<=i)/\(∀i,Z i->¬fS z m i/\i≠B/\(Z0 i\/H0.length<=i))/\¬fS z m B/\¬D B/\H0.length<=B/\H[B]?=some (.loop u)/\(u.frame=F/\u.nt=X.nt/\u.params=ps/\u.assign=J/\u.body=U)/\(∀d∈st.pin++qJ st.g,∀C,bh m d=some C->∃ob,bh st.m d=some ob/\z d=ν d/\sameShape ob C)/\((yf step o G w more m/\u.st=.ready/\u.pend=none)\/(w=[]/\m=G/\u.st=.done/\u.pend=some o))
theorem JI.xu{w:L' (L' V)}{O Z G Z':Nat->Prop}{H H':bn}{B:Nat}{ps:L' Nat}{J U:Code}{step:L' V->Tb bJ->Lk (Out×Tb bJ)}{o:Out}{W:Tb bJ}{more:Bool}
 (j:JI X st F ν O0 Z0 H0 B ps J U step o W more w O Z H)(Y:H.length<=H'.length)(D:∀i,i<H.length->¬O i->¬Z i->H'[i]?=H[i]?)(v:∀i,Z i->Z' i/\bq H' i=bq H i)
 (d:∀i,G i->O i\/H.length<=i)(e:∀i,Z' i->Z i\/O i\/H.length<=i):JI X st F ν O0 Z0 H0 B ps J U step o W more w G Z' H':=by
 obtain⟨m,S,I,T,r,f,a,b,g,k,l,n,p,q,s⟩:=j;have u:=λi hi=>D i (r.lt hi) (λh=>(a i h).1 hi) (λh=>(b i h).1 hi)
 have z:∀i,I i->bq H' i=bq H i:=λi hi=>by by_cases C:Z i;grind;unfold bq;rw[D i (r.xq hi) (λh=>(a i h).2.1 hi) C]
 have x:=(ζe.1 n).1;refine⟨m,S,I,T,r.heap u z,?_,λi h=>?_,λi h=>?_,g,k,l,?_,p,q,s⟩
 .obtain⟨j1,L,j3,j4,j5,j6⟩:=f;refine⟨j1,le_trans L Y,λi c t Q=>?_,λi h=>⟨(j4 i h).1,Zac⟩,j5,j6⟩
  rw[D i (Nat.lt_of_lt_of_le c L) (λh=>by have:=(a i h).2.2.2;omega) (λh=>by rcases(b i h).2.2 with h|h;exact Q h;omega),j3 i c t Q]
 .rcases d i h with h|h
  .exact a i h
  exact⟨λhi=>absurd (r.lt hi) Zaa,λhi=>absurd (r.xq hi) Zaa,Zaa,Zaa⟩
 .rcases e i h with h|h|h
  .exact b i h
  .exact⟨(a i h).1,(a i h).2.2.1,.inr (a i h).2.2.2⟩
  exact⟨λhi=>absurd (r.lt hi) Zaa,Zaa,.inr Zaa⟩
 grind
theorem JI.yield(S:Sys){A B:St->Lk (Out×St)}{M N:Code}(hA:tN X S true M A)(hB:tN X S true N B){D:Nat}{ps:L' Nat}(ax:ps.all (·<X.nt)=true){o:Out}{p:Tb bJ}{more:Bool}
 {x:L' V}{f:L' (L' V)}{O Z:Nat->Prop}{H:bn}{args:L' V}(j:JI X st F ν O0 Z0 H0 D ps M N (jk ps A B st) o p more (x::f) O Z H)
 (hx:dB H Z x args)(an:∀i,Z i->(bq H i).isSome=true)(ay:Deep H Z)(aA:∀i,O i->¬Z i/\i<H.length):
 ∃n H',run S.E n (.yld D) args H=some (.bool (more|| !f.isEmpty),H')/\JI X st F ν O0 Z0 H0 D ps M N (jk ps A B st) o p more f O Z H'/\H.length<=H'.length/\(∀i,O i->H'[i]?=H[i]?)/\(∀i,Z i->bq H' i=bq H i):=by
 obtain⟨m,q,g,c,r,ej,d1,t,P,l2,l3,l4,⟨q1,q2,q3,q4,q5⟩,l6,l7⟩:=j;have aB:yf (jk ps A B st) o p (x::f) more m/\c.st=.ready/\c.pend=none:=by grind
 obtain⟨hE,T,aC⟩:=aB;have U:∃v m1,jk ps A B st x m=some (v,m1)/\(v=.norm/\yf (jk ps A B st) o p f more m1/\(more|| !f.isEmpty)=true\/v≠.norm/\v=o/\m1=p/\f=[]/\more=false):=by cases hE with|next _ _ _ _ m1 h hr=>refine⟨.norm,m1,h,.inl ⟨rfl,hr,?_⟩⟩;cases hr<;>simp|last _ _ h ho=>grind
 obtain⟨v,m1,w,ab⟩:=U;unfold jk at w;split at w
 .rename_i ad;split at w
  .rename_i ah aD;obtain⟨⟨z,st2⟩,aE,e⟩:=ζf.1 w;simp at e;obtain⟨rfl,rfl⟩:=e;have aF:=(ζe.1 l4).1;have r1:=r.Zq (λi hi=>(t i hi).1) an ay
   have aG:dB H (λi=>g i\/Z i) x args:=hx.mono λi hi=>⟨.inr hi,rfl⟩
   have r2:=R.XI (st:=TT st m) r1 aG ad;obtain⟨nA,F2,H2,ν2,Z2,a1,a2,a3,a4⟩:=hA _ _ _ aD (vz (fS q m) (λi=>g i\/Z i) H) q _ _ H vz.yc r2 (vz.refl r1)
   obtain⟨b1,b2,b3,b4,y,b6⟩:=a3;have ai:¬(g D\/Z D):=λh=>h.elim l2 λh=>(t D h).2.1 rfl
   have ao:H2[D]?=some (.loop c):=by rw[b3 D aF P ai];omega
   have ae:D<H2.length:=Zaa
   have W:¬fS ν2 ah.m D:=λh=>(y D h).elim P λh=>Zaa
   have aj:¬Z2 D:=λh=>by rcases b6 D h with h|h|h;exact ai h;exact P h;omega
   have u:∀(ob:Ob)(Hh:bn)(i:Nat),i≠D->(Hh.set D ob)[i]?=Hh[i]?:=λob Hh i Y=>by rw[getElem?_set,if_neg (Ne.symm Y)]
   have r3:R ν2 Z2 ah F2 (H2.set D (.loop {c with st:=.busy})):=a2.heap (λi hi=>u _ _ i λe=>W (e▸hi)) (λi hi=>by unfold bq;rw[u _ _ i λe=>aj (e▸hi)])
   obtain⟨nB,F4,b,E,k,c1,c2,c3,c4⟩:=hB _ _ _ aE (vz (fS ν2 ah.m) Z2 (H2.set D (.loop {c with st:=.busy}))) ν2 Z2 F2 _ vz.yc r3 (by
    rw[b1];exact vz.refl r3)
   obtain⟨_,g2,g3,g4,g5,g6⟩:=c3;simp at g2 g3 g5 g6;have ap:b[D]?=some (.loop {c with st:=.busy}):=by rw[g3 D ae W aj,getElem?_set_self ae]
   have aq:D<b.length:=Zaa
   have ar:=λh=>(g5 D h).elim W λh=>Zaa
   have au:¬k D:=λh=>by rcases g6 D h with h|h|h;exact aj h;exact W h;omega
   generalize K:({c with st:=(if z==.norm then CM.ready else CM.done),pend:=(if z==.norm then none else some z)}:wZ)=G;have r5:R E k st2 F4 (b.set D (.loop G)):=c2.heap (λi hi=>u _ _ i λe=>ar (e▸hi)) (λi hi=>by unfold bq;rw[u _ _ i λe=>au (e▸hi)])
   have L:H.length<=(b.set D (.loop G)).length:=by simp;omega
   have ak:∀i,i<H.length->i≠D->¬fS q m i->¬(g i\/Z i)->(b.set D (.loop G))[i]?=H[i]?:=λi a J I l=>by rw[u _ _ i J,g3 i Zaa (λh=>(y i h).elim I λh=>Zaa) (λh=>by rcases b6 i h with h|h|h;exact l h;exact I h;omega),u _ _ i J,b3 i a I l]
   have C:∀i,(g i\/Z i)->k i/\bq (b.set D (.loop G)) i=bq H i:=λi hi=>by have Y:i≠D:=λe=>ai (e▸hi);obtain⟨t1,t2⟩:=b4 i hi;obtain⟨t3,t4⟩:=g4 i t1;refine⟨t3,?_⟩;rw[<-t2];have:bq (H2.set D (.loop {c with st:=.busy})) i=bq H2 i:=(by unfold bq;rw[u _ _ i Y]);rw[<-this,<-t4];unfold bq;rw[u _ _ i Y]
   have Q:∀i,fS E st2.m i->fS q m i\/H.length<=i:=λi hi=>by rcases g5 i hi with h|h;exact y i h;exact .inr Zaa
   have af:∀i,k i->(g i\/Z i)\/fS q m i\/H.length<=i:=λi hi=>by rcases g6 i hi with h|h|h;exact b6 i h;rcases y i h with h|h;exact .inr (.inl h);exact .inr (.inr h);exact .inr (.inr Zaa)
   have fx:=a4.trans c4;have r6:R E k (TT st st2.m) F (b.set D (.loop G)):=⟨λs sv hs=>(r.slot s sv hs).mono (λi hi=>C i (.inl hi)) λd hd al am=>fx.pin d (List.mem_append_right _ (CD hs hd)) al am,r5.obj,r5.inj,r5.apart,r5.zrow,r5.deep⟩
   have av:run S.E (max nA nB+1) (.yld D) args H=some (.bool (z==.norm),b.set D (.loop G)):=by simp only[run,kI,l4];rw[if_pos (by rw[q3];exact⟨by rw[<-hx.1];exact ad,by rw[q2];exact ax⟩)];rw[q1,q2,q3,q4,q5];rw[a1 _ (le_max_left _ _)];simp only[ao,T];rw[c1 _ (le_max_right _ _)];simp only[ap];rw[<-K]
   refine⟨max nA nB+1,b.set D (.loop G),?_,⟨st2.m,E,k,G,r6,?_,λi hi=>?_,λi hi=>?_,ar,au,l3,?_,?_,λd hd al am=>?_,?_⟩,L,λi hi=>?_,λi hi=>(C i (.inr hi)).2⟩
   .rw[av];rcases ab with⟨a,_,I⟩|⟨a,_,_,l,h5⟩
    .rw[a,I];rfl
    rw[l,h5]
    cases aH:z with
    |norm=>exact absurd aH a|_=>rfl
   .obtain⟨j1,j2,j3,j4,j5,j6⟩:=ej;refine⟨rfl,le_trans j2 L,λi a J I=>?_,λi h=>⟨(C i (.inl (j4 i h).1)).1,by rw[(C i (.inl (j4 i h).1)).2,(j4 i h).2]⟩,λi h=>?_,λi h=>?_⟩
    .rw[ak i Zaa Zaa (λh=>by rcases j5 i h with h|h;exact J h;omega) (λh=>by
      rcases h with h|h
      .rcases j6 i h with h|h|h;exact I h;exact J h;omega
      rcases(t i h).2.2 with h|h;exact I h;omega),j3 i a J I]
    .rcases Q i h with h|h
     .exact j5 i h
     exact .inr Zaa
    rcases af i h with(h|h)|h|h
    .exact j6 i h
    .rcases (t i h).2.2 with h|h;exact .inl h;exact .inr (.inr h)
    .rcases j5 i h with h|h;exact .inr (.inl h);exact .inr (.inr h)
    exact .inr (.inr Zaa)
   .obtain⟨t1,t2⟩:=aA i hi;obtain⟨t3,t4,t5,t6⟩:=d1 i hi;refine⟨λh=>(Q i h).elim t3 λh=>Zaa,λh=>?_,t5,t6⟩
    rcases af i h with(h|h)|h|h
    .exact t4 h
    .exact t1 h
    .exact t3 h
    omega
   .obtain⟨t1,t2,t3⟩:=t i hi;have aJ:i<H.length:=by
     have:=an i hi;unfold bq at this
     cases hh:H[i]?with
     |none=>rw[hh]at this;simp at this|some _=>exact(ζe.1 hh).1
    exact⟨λh=>(Q i h).elim t1 λh=>Zaa,t2,t3⟩
   .rw[getElem?_set_self aq]
   .subst K;exact⟨q1,q2,q3,q4,q5⟩
   .obtain⟨aI,a,J,I⟩:=fx.pin d hd al am;obtain⟨ob,k1,k2,k3⟩:=l6 d hd aI a;exact⟨ob,k1,by rw[J,k2],k3.trans I⟩
   .rcases ab with⟨a,J,I⟩|⟨a,J,I,l,h5⟩
    .left;subst a;subst K;exact⟨J,rfl,rfl⟩
    right;subst K;have hb:¬(z==Out.norm)=true:=by simpa using a
    refine⟨l,I,?_,?_⟩
    .show (if(z==Out.norm)=true then CM.ready else CM.done)=CM.done;rw[if_neg hb]
    show(if(z==Out.norm)=true then none else some z)=some o;rw[if_neg hb,J]
   grind
  grind
 grind
end
end Go.VE
