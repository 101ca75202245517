/-
 The second layer: named objects in the place of rows; texts, calls, iterators.
-/
import Derived.Test.YtbhedaipfioknaaGreatV2
set_option linter.all false
noncomputable section
open List(all_cons all_eq_true drop_drop drop_zero getElem?_append_left getElem?_append_right getElem?_cons_zero getElem?_drop getElem?_set getElem?_set_self getElem?_take length_eq_zero_iff mem_append mem_cons mem_iff_getElem? mem_of_getElem? mem_of_mem_drop replicate take take_length)
open Bool(false_eq_true not_eq_true' or_eq_false_iff or_eq_true)
open Option(isSome_iff_exists map_some)
open Nat(le_max_left le_max_right le_refl le_trans)
open Ne(symm)
open Classical(choose_spec)
namespace Go.VE
variable[bV]
inductive Fl where|nil|emp|row|part
 deriving DecidableEq,Inhabited
inductive SV where
 |v(x:V)|own(d:Nat)|ptr(d off:Nat)|el(d i off:Nat)|mp(d:Nat)|clo(f:FuncId)(a b:List SV)|tup(l:List SV)|agg(l:List SV)|yl(id:Nat)
 deriving Inhabited
abbrev Zw:=aZ SV
inductive bK where
 |sl(k:Fl)(es:Nat)(xs:List (List V))|box(cs:List SV)|mp(kvs:List (V×V))
abbrev Tb(α:Type):=aZ (Nat×α)
def bl{α:Type}:Tb α->Nat->a_ α
 |[],_=>none|(k,v)::r,n=>if k=n then some v else bl r n
def bR{α:Type}:Tb α->Nat->α->Tb α
 |[],n,v=>[(n,v)]|(k,x)::r,n,v=>if k=n then(k,v)::r else(k,x)::bR r n v
def dZ{α:Type}(n:Nat):Tb α->Tb α
 |[]=>[]|(k,x)::r=>if k=n then dZ n r else(k,x)::dZ n r
def ov{α:Type}:Zv->Tb α->Tb α
 |[],g=>g|d::ds,g=>ov ds (dZ d g)
def vT{α:Type}:Tb α->Zv->aZ α->Tb α
 |g,p::ps,v::vs=>vT (bR g p v) ps vs|g,_,_=>g
def kQ{α:Type}(g:Tb α):Zv->a_ (Tb α)
 |[]=>some []|n::r=>match bl g n,kQ g r with
  |some v,some t=>some ((n,v)::t)|_,_=>none
structure St where
 g:Tb SV
 m:Tb bK
 pin:List Nat
 want:List (List V)
 more:Bool
 yid:Nat
structure BM where
 part:Bool
 go:Nat->List (List V)->List V->Option (List (List V))
structure Sys where
 E:Env
 N:Nat->FuncId
 items:FuncId->List V->List V->Option (List (List V))
 yf:FuncId->List V->Option V
 prm:FuncId->Option BM
inductive Arg where
 |s(n:Nat)|k(c:V)|f(name:Nat)
abbrev Z4:=aZ Arg
inductive Loc where
 |s(n:Nat)|c(b i:Nat)
inductive Gh where
 |close(d:Nat)|closeB(d:Nat)|canon(l:Loc)(d:Nat)(es:Nat)|keep(gs ms:List Nat)|drop(ds:List Nat)|closeS(l:Loc)
abbrev Z5:=aZ Gh
structure RO where
 dst:Option Nat
 gd:Option (Nat×Bool)
 now:Bool
 k:K
 az:List Arg
 dead:List Nat:=[]
 pre:List Gh:=[]
abbrev Zx:=aZ RO
inductive RC where
 |skip|ops(l:List RO)|ox(l:List RO)|seq(a b:RC)|cond(x:Arg)(a b:RC)|block(id:Nat)(c:RC)|loop(c:RC)|each(g:Arg)(ps:List Nat)(a b:RC)|exit(id:Nat)|ret|gh(x:Gh)(c:RC)|hg(c:RC)(x:Gh)
inductive RV where
 |s(n:Nat)|ld(n size:Nat)(agg:Bool)
structure RF where
 na:Nat
 rs:List RV
 body:RC
mutual
def SV.cQ(d:Nat):SV->Zl
 |.v _=>false|.own e=>e==d|.ptr e _=>e==d|.el e _ _=>e==d|.mp e=>e==d|.clo _ a b=>SV.dB d a||SV.dB d b|.tup l=>SV.dB d l|.agg l=>SV.dB d l|.yl _=>false
def SV.dB(d:Nat):Zw->Zl
 |[]=>false|x::r=>SV.cQ d x||SV.dB d r
end
def bK.cQ(d:Nat):bK->Zl
 |.box cs=>SV.dB d cs|_=>false
def uD(d:Nat):Tb SV->Zl
 |[]=>false|(_,x)::r=>SV.cQ d x||uD d r
def rR(d:Nat):Tb bK->Zl
 |[]=>false|(_,x)::r=>bK.cQ d x||rR d r
def St.new(st:St)(d:Nat):Zl:= !(st.pin.contains d)&&(bl st.m d).isNone&& !(uD d st.g)&& !(rR d st.m)
mutual
def SV.tA(d e:Nat):SV->SV
 |.v x=>.v x|.own k=>.own (if k=d then e else k)|.ptr k o=>.ptr (if k=d then e else k) o|.el k i o=>.el (if k=d then e else k) i o|.mp k=>.mp (if k=d then e else k)|.clo f a b=>.clo f (SV.tP d e a) (SV.tP d e b)|.tup l=>.tup (SV.tP d e l)|.agg l=>.agg (SV.tP d e l)|.yl id=>.yl id
def SV.tP(d e:Nat):Zw->Zw
 |[]=>[]|x::r=>SV.tA d e x::SV.tP d e r
end
def bK.tA(d e:Nat):bK->bK
 |.box cs=>.box (SV.tP d e cs)|o=>o
def yB(d e:Nat):Tb SV->Tb SV
 |[]=>[]|(n,x)::r=>(n,x.tA d e)::yB d e r
def ua(d e:Nat):Tb bK->Tb bK
 |[]=>[]|(n,x)::r=>((if n=d then e else n),x.tA d e)::ua d e r
mutual
def SV.sub(d:Nat)(w:V):SV->SV
 |.own k=>if k=d then .v w else .own k|.clo f a b=>.clo f (SV.tT d w a) (SV.tT d w b)|.tup l=>.tup (SV.tT d w l)|.agg l=>.agg (SV.tT d w l)|x=>x
def SV.tT(d:Nat)(w:V):Zw->Zw
 |[]=>[]|x::r=>SV.sub d w x::SV.tT d w r
end
def dy:Zw->a_ Zu
 |[]=>some []|.v x::r=>(dy r).map (x::·)|_::_=>none
def NB(f:Zk)(a b:Zw):SV:=
 match dy a,dy b with
 |some x,some y=>.v (.clo f x y)|_,_=>.clo f a b
mutual
def SV.Bh(d:Nat)(cs:Zu):SV->SV
 |.ptr k o=>if k=d then(if o<=cs.length then .v (.fptr (cs.drop o))else .ptr k o)else .ptr k o|.clo f a b=>NB f (SV.qt d cs a) (SV.qt d cs b)|.tup l=>.tup (SV.qt d cs l)|.agg l=>.agg (SV.qt d cs l)|x=>x
def SV.qt(d:Nat)(cs:Zu):Zw->Zw
 |[]=>[]|x::r=>SV.Bh d cs x::SV.qt d cs r
end
def A5(f:SV->SV):Tb SV->Tb SV
 |[]=>[]|(n,x)::r=>(n,f x)::A5 f r
def mapM(f:Zw->Zw):Tb bK->Tb bK
 |[]=>[]|(n,.box cs)::r=>(n,.box (f cs))::mapM f r|(n,o)::r=>(n,o)::mapM f r
mutual
def SV.names:SV->Zv
 |.own d|.ptr d _|.el d _ _|.mp d=>[d]|.clo _ a b=>SV.uU a++SV.uU b|.tup l=>SV.uU l|.agg l=>SV.uU l|_=>[]
def SV.uU:Zw->Zv
 |[]=>[]|x::r=>SV.names x++SV.uU r
end
def o4:Tb SV->Zv
 |[]=>[]|(_,x)::r=>SV.names x++o4 r
def nP(k:Fl)(es:Nat)(xs:Zt):V:=
 match k with
 |.nil=>.bJ|.emp=>.dG|_=>.fsl es xs
mutual
def V.lvl:Nat->V->Zl
 |n,.fsl _ xs=>match n with|0=>false|n+1=>V.om n xs
 |n,.fptr cs=>match n with|0=>false|n+1=>V.kC n cs
 |n,.fmap B=>match n with|0=>false|n+1=>V.rT n B
 |n,.agg cs=>match n with|0=>false|n+1=>V.kC n cs
 |n,.tup cs=>match n with|0=>false|n+1=>V.kC n cs
 |n,.clo _ a b=>match n with|0=>false|n+1=>V.kC n a&&V.kC n b
 |_,_=>true
def V.kC:Nat->Zu->Zl
 |_,[]=>true|n,x::r=>V.lvl n x&&V.kC n r
def V.om:Nat->Zt->Zl
 |_,[]=>true|n,x::r=>V.kC n x&&V.om n r
def V.rT:Nat->aZ (V×V)->Zl
 |_,[]=>true|n,(k,x)::r=>V.lvl n k&&V.lvl n x&&V.rT n r
end
mutual
def shut(m:Tb bK):Nat->SV->a_ V
 |_,.v x=>some x|_,.own d=>match bl m d with
  |some (.sl k es xs)=>some (nP k es xs)|_=>none
 |n+1,.ptr d o=>match bl m d with
  |some (.box cs)=>match c6 m n cs with
   |some xs=>if o<=xs.length then some (.fptr (xs.drop o))else none|none=>none
  |_=>none
 |_,.mp d=>match bl m d with
  |some (.mp B)=>some (.fmap B)|_=>none
 |n+1,.clo f a b=>match c6 m n a,c6 m n b with
  |some x,some y=>some (.clo f x y)|_,_=>none
 |n+1,.tup l=>(c6 m n l).map .tup|n+1,.agg l=>(c6 m n l).map .agg|_,_=>none
def c6(m:Tb bK):Nat->Zw->a_ Zu
 |_,[]=>some []|n,x::r=>match shut m n x,c6 m n r with
  |some y,some s=>some (y::s)|_,_=>none
end
end Go.VE
namespace Go.VE
variable[bV]
mutual
def V.good:V->Zl
 |.hsl ..|.hptr ..|.yld ..|.hmap ..=>false|.fsl _ xs=>V.nM xs|.fptr cs=>V.cE cs|.fmap B=>V.rC B|.clo _ a b=>V.cE a&&V.cE b|.agg cs=>V.cE cs|.tup cs=>V.cE cs|_=>true
def V.cE:Zu->Zl
 |[]=>true|x::r=>V.good x&&V.cE r
def V.nM:Zt->Zl
 |[]=>true|x::r=>V.cE x&&V.nM r
def V.rC:aZ (V×V)->Zl
 |[]=>true|(k,x)::r=>V.good k&&V.good x&&V.rC r
end
abbrev dV:=Tb bK
abbrev b9:=FuncId->aZ SV->dV->a_ (aZ SV×dV)
def pW(N:Nat->Zk)(g:Tb SV):Arg->a_ SV
 |.s n=>bl g n|.k c=>some (.v c)|.f s=>some (.v (.clo (N s) [] []))
def bZ(N:Nat->Zk)(g:Tb SV):Z4->a_ Zw
 |[]=>some []|x::r=>match pW N g x,bZ N g r with
  |some v,some vs=>some (v::vs)|_,_=>none
def cG:Fl->Zl
 |.row|.part=>true|_=>false
def lS(m:Tb bK):SV->Zl
 |.own d|.ptr d _|.el d _ _|.mp d=>(bl m d).isSome|.clo ..=>true|_=>false
def xI(m:Tb bK):SV->Zl
 |.v x=>x.one|x=>lS m x
def Gq(m:Tb bK):SV->a_ Zw
 |.v x=>some (x.cells.map .v)|.agg l=>some l|x=>if lS m x then some [x]else none
def x_(m:Tb bK)(cells:Zw):aZ (Nat×Nat)->Zw->a_ Zw
 |[],[]=>some cells|(off,size)::pl,v::vs=>match Gq m v with
  |some c=>if c.length=size/\off+c.length<=cells.length then x_ m (cells.take off++c++cells.drop (off+c.length)) pl vs else none|none=>none
 |_,_=>none
def ue(size:Nat)(agg:Zl)(cs:Zw):a_ SV:=
 if cs.length=size then
  if agg then match dy cs with
   |some t=>some (.v (.agg t))|none=>some (.agg cs)
  else match cs with
   |[x]=>some x|_=>none
 else none
def Ao(N:Nat->Zk)(m:Tb bK):ud->Zw->a_ SV
 |.id,[x]=>some x|.nilc,[.ptr d o]=>if(bl m d).isSome then some (.ptr d o)else none|.nilc,[.el d i o]=>if(bl m d).isSome then some (.el d i o)else none|.pick,[.v (.bool t),a,b]=>some (if t then a else b)|.bin (some .slice) _ .eql,[.own d,.v .bJ]=>match bl m d with
  |some (.sl k _ _)=>if k=.emp then none else some (.v (.bool (k==.nil)))|_=>none
 |.bin (some .slice) _ .neq,[.own d,.v .bJ]=>match bl m d with
  |some (.sl k _ _)=>if k=.emp then none else some (.v (.bool (!(k==.nil))))|_=>none
 |.fieldAddr off,[.ptr d o]=>if(bl m d).isSome then some (.ptr d (o+off))else none|.fieldAddr off,[.el d i o]=>if(bl m d).isSome then some (.el d i (o+off))else none|.idxS size,[.own d,.v (.int _ i)]=>match bl m d with
  |some (.sl k es xs)=>if cG k/\es=size/\0<=i/\i.toNat<xs.length then some (.el d i.toNat 0)else none|_=>none
 |.idxA len size,[.ptr d o,.v (.int _ i)]=>if 0<=i/\i<len/\(bl m d).isSome then some (.ptr d (o+i.toNat*size))else none|.idxA len size,[.el d j o,.v (.int _ i)]=>if 0<=i/\i<len/\(bl m d).isSome then some (.el d j (o+i.toNat*size))else none|.lenSl,[.own d]=>match bl m d with
  |some (.sl _ _ xs)=>some (.v (.int .i64 xs.length))|_=>none
 |.clo name k,vs=>some (.clo (N name) (vs.take k) (vs.drop k))|.ext i,[.tup l]=>l[i]?|.build zero pl,vs=>(x_ m (zero.map .v) pl vs).map .agg|.field off size agg,[.agg l]=>ue size agg ((l.drop off).take size)|_,_=>none
def jP(N:Nat->Zk)(m:Tb bK)(p:ud)(svs:Zw):a_ SV:=
 match dy svs with
 |some t=>(bn N p t).map .v|none=>Ao N m p svs
def I5(m:Tb bK)(d:Nat):SV->Zl
 |.ptr B _=>B != d&&(match bl m B with|some (.box _)=>true|_=>false)|.v (.fptr _)=>true|_=>false
def ow(m:Tb bK):Iz->Zw->a_ SV
 |.load size agg,[.ptr d o]=>match bl m d with
  |some (.box cs)=>ue size agg ((cs.drop o).take size)|_=>none
 |.load size agg,[.el d i o]=>match bl m d with
  |some (.sl _ _ xs)=>match xs[i]?with
   |some cs=>((cut cs o size).bind (mk agg)).map .v|none=>none
  |_=>none
 |.load size agg,[.v p]=>((eo [] p size).bind (mk agg)).map .v|.lookup kk z ok,[.mp d,.v k]=>match bl m d with
  |some (.mp B)=>if oT kk k then match iy k B 0 with
   |some (some (_,v))=>some (.v (if ok then .tup [v,.bool true]else v))|some none=>some (.v (if ok then .tup [z,.bool false]else z))|none=>none
   else none
  |_=>none
 |.lookup kk z ok,[.v p,.v k]=>(eP [] (.lookup kk z ok) [p,k]).map .v|.loadF size agg,.ptr d o::l=>if l.all (I5 m d)=true then match bl m d with
  |some (.box cs)=>ue size agg ((cs.drop o).take size)|_=>none
  else none
 |_,_=>none
def eZ(fr:Zv):Zw->Zl
 |[]=>true|.v _::r=>eZ fr r|.ptr d _::r=> !(fr.contains d)&&eZ fr r|.el d _ _::r=> !(fr.contains d)&&eZ fr r|.mp d::r=> !(fr.contains d)&&eZ fr r|_=>false
def oW(m:Tb bK)(a:Mw)(svs:Zw)(d:Nat):a_ (bK×SV):=
 match a,svs with
 |.alloc _ zero,[]=>some (.box (zero.map .v),.ptr d 0)|.box,[.v x]=>if x.cells.all V.one then some (.box (x.cells.map .v),.ptr d 0)else none|.box,[.agg l]=>if l.all (xI m)then some (.box l,.ptr d 0)else none|.box,[x]=>if lS m x then some (.box [x],.ptr d 0)else none|.makeSl size zero,[.v (.int k n),.v (.int u c)]=>if k=.i64/\u=.i64/\0<=n/\n<=c/\c<=2147483648 then some (.sl (if n=c then .row else .part) size (replicate n.toNat zero),.own d)else none|.buildSl size len zero idx,w=>match dy w with
  |some t=>if idx.length=t.length then(eY size (replicate len zero) (idx.zip t)).map λz=>(.sl .row size z,.own d)else none|none=>none
 |.makeMap,[]=>some (.mp [],.mp d)|_,_=>none
def jQ(m:Tb bK)(size:Nat):SV->a_ Zt
 |.own d=>match bl m d with
  |some (.sl k es xs)=>if cG k then(if es=size then some xs else none)else some []|_=>none
 |.v .bJ=>some []|.v .dG=>some []|.v (.fsl es xs)=>if es=size then some xs else none|_=>none
def Hg:SV->Zl
 |.own _|.v .bJ|.v .dG=>true|_=>false
def putCells(m:Tb bK)(size o:Nat)(sv:SV)(cs:Zw):a_ Zw:=
 match sv with
 |.v x=>if x.cells.length=size/\o+size<=cs.length/\x.cells.all V.one=true then some (cs.take o++x.cells.map .v++cs.drop (o+size))else none|.agg l=>if l.length=size/\o+size<=cs.length/\l.all (xI m)=true then some (cs.take o++l++cs.drop (o+size))else none|x=>if lS m x=true/\size=1/\o+1<=cs.length then some (cs.take o++[x]++cs.drop (o+1))else none
def giveUp(m:Tb bK):SV->Tb bK
 |.own d=>dZ d m|_=>m
def mh(st:St)(dst:a_ Nat):IP->Zw->a_ (SV×St)
 |.store size,[.ptr d o,x]=>match bl st.m d with
  |some (.box cs)=>(putCells st.m size o x cs).map λcs=>(.v .undef,{st with m:=bR st.m d (.box cs)})|_=>none
 |.store size,[.el d i o,.v x]=>match bl st.m d with
  |some (.sl k es xs)=>match xs[i]?with
   |some cs=>if x.cells.length=size/\o+size<=cs.length/\x.cells.all V.one=true then
    some (.v .undef,{st with m:=bR st.m d (.sl k es (xs.set i (cs.take o++x.cells++cs.drop (o+x.cells.length))))})else none
   |none=>none
  |_=>none
 |.mapUp kk,[.mp d,.v k,.v x]=>match bl st.m d with
  |some (.mp B)=>if oT kk k then(oG k x B).map λB=>(.v .undef,{st with m:=bR st.m d (.mp B)})else none|_=>none
 |.append size,[s,x]=>match jQ st.m size s,jQ st.m size x with
  |some _,some []=>match dst with
   |some t=>match s with
    |.own d=>match bl st.m d with
     |some ob=>if St.new {st with m:=dZ d st.m} t then some (.own t,{st with m:=bR (dZ d st.m) t ob})else none|none=>none
    |.v .bJ=>if st.new t then some (.own t,{st with m:=bR st.m t (.sl .nil size [])})else none|.v .dG=>if st.new t then some (.own t,{st with m:=bR st.m t (.sl .emp size [])})else none|_=>none
   |none=>none
  |some xs,some ys=>
   if xs.length+ys.length<=2147483648/\Hg s=true then
    let m1:=giveUp st.m s
    match dst with
    |some t=>if St.new {st with m:=m1} t then some (.own t,{st with m:=bR m1 t (.sl .row size (xs++ys))})else none|none=>none
   else none
  |_,_=>none
 |.storeF size,.ptr d o::x::l=>if l.all (I5 st.m d)=true then match bl st.m d with
  |some (.box cs)=>(putCells st.m size o x cs).map λcs=>(.v .undef,{st with m:=bR st.m d (.box cs)})|_=>none
  else none
 |_,_=>none
def yq(st:St)(dst:a_ Nat)(size:Nat)(B D:Zl)(d:Nat)(G:Zw):a_ (SV×St):=
 match bl st.m d,dy G,dst with
 |some (.sl k es u),some z,some t=>
  if cG k=true/\es=size then
   (kV B D z).bind λ(l,h)=>(dO u.length l h).bind λ(l,h)=>
    let w:=dZ d st.m
    if St.new {st with m:=w} t then some (.own t,{st with m:=bR w t (.sl .part es ((u.take h).drop l))})else none
  else none
 |_,_,_=>none
def vw:Zw->SV
 |[x]=>x|l=>.tup l
mutual
def SV.Eg:SV->Zv
 |.v _=>[]|.own e=>[e]|.ptr e _=>[e]|.el e _ _=>[e]|.mp e=>[e]|.clo _ a b=>SV.xS a++SV.xS b|.tup l=>SV.xS l|.agg l=>SV.xS l|.yl _=>[]
def SV.xS:Zw->Zv
 |[]=>[]|x::r=>SV.Eg x++SV.xS r
end
def bK.Eg:bK->Zv
 |.box cs=>SV.xS cs|_=>[]
def reach(m:Tb bK):Nat->Zv->Zv->Zv
 |0,_,seen=>seen|_+1,[],seen=>seen|n+1,d::r,seen=>if seen.contains d then reach m n r seen else reach m n ((match bl m d with|some ob=>bK.Eg ob|none=>[])++r) (seen++[d])
def wZ(m:Tb bK)(l:Zw):a_ dV:=kQ m (reach m 32 (SV.xS l) [])
mutual
def SV.bare:SV->Zl
 |.v x=>x.scalar|.clo _ a b=>SV.vG a&&SV.vG b|.tup l=>SV.vG l|.agg l=>SV.vG l|_=>true
def SV.vG:Zw->Zl
 |[]=>true|x::r=>SV.bare x&&SV.vG r
end
def bK.bare:bK->Zl
 |.box cs=>SV.vG cs|_=>false
def yY(m:Tb bK)(k:Nat):Zl:=match bl m k with
 |some ob=>ob.bare|none=>true
def within(B:Zv)(ob:bK):Zl:=ob.Eg.all B.contains
def xq(B:Zv)(m':dV):Zv->Tb bK->a_ (Tb bK)
 |[],m=>some m|d::r,m=>match bl m' d with
  |some ob=>if within B ob then xq B m' r (bR m d ob)else none|none=>none
def mz(m':dV)(l:Zv)(m:Tb bK):a_ (Tb bK):=xq l m' l m
def kS(xs:Zt):Zl:=xs.all λx=>x.all V.scalar
def zI(q:BM)(dst:a_ Nat)(args:Zw)(st:St):a_ (SV×St):=
 match args with
 |.own d::z=>match bl st.m d,dy z with
  |some (.sl k es u),some B=>match q.go es u B with
   |some w=>if q.part then match dst with
    |some t=>if St.new {st with m:=dZ d st.m} t then some (.own t,{st with m:=bR (dZ d st.m) t (if cG k then .sl .part es w else .sl k es u)})else none|none=>none
    else some (.v .undef,{st with m:=bR st.m d (if cG k then .sl k es w else .sl k es u)})
   |none=>none
  |_,_=>none
 |_=>none
def rowsOf:Zw->a_ Zv
 |[]=>some []|.v _::r=>rowsOf r|.own d::r=>(rowsOf r).map (d::·)|_=>none
def fF(S:Sys)(c:b9)(dst:a_ Nat)(dr now:Zl)(old:Zw->Zl)(f:Zk)(args:Zw)(st:St):a_ (SV×St):=
 if S.E.keep f then
  if now then
   if S.E.own f then
    match c6 st.m 8 args with
    |some az=>
     match c f (az.map .v) []with
     |some (rs,m')=>match dy rs with
      |some u=>if(result u).scalar then some (.v (result u),st)else none|none=>match rs,dst with
       |.own e::rest,some t=>match bl m' e,dy rest with
        |some (.sl .row es z),some u=>
         if V.cO u&&kS z&&st.new t then
          some (vw (.own t::u.map .v),{st with m:=bR st.m t (.sl .row es z)})
         else none
        |some (.sl .nil es _),some u=>if V.cO u&&st.new t then some (vw (.own t::u.map .v),{st with m:=bR st.m t (.sl .nil es [])})else none|some (.sl .emp es _),some u=>if V.cO u&&st.new t then some (vw (.own t::u.map .v),{st with m:=bR st.m t (.sl .emp es [])})else none|_,_=>none
       |_,_=>none
     |none=>none
    |none=>none
   else match S.prm f with
    |some q=>if dr then none else zI q dst args st|none=>match wZ st.m args with
    |some os=>match c f args os with
     |some (rs,m')=>match dy rs,mz m' (os.map (·.1)) st.m with
      |some u,some w=>if dr&& !(V.cO u&&os.all λx=>yY w x.1)then none else some (.v (result u),{st with m:=w})|none,some w=>if dr then none else match rs,dst with
       |.own e::rest,some t=>match bl m' e,dy rest with
        |some (.sl k es z),some u=>if !(os.map (·.1)).contains e&&St.new {st with m:=w} t then some (vw (.own t::u.map .v),{st with m:=bR w t (.sl k es z)})else none|_,_=>none
       |_,_=>none
      |_,_=>none
     |none=>none
    |none=>none
  else if S.E.own f&&old args then match c6 st.m 8 args with
   |some az=>match c f (az.map .v) []with
    |some (rs,m')=>match c6 m' 8 rs with
     |some u=>if(result u).scalar||(dy args).isSome then some (.v (result u),st)else none|none=>none
    |none=>none
   |none=>none
  else none
 else match c6 st.m 8 args with
  |some az=>if now||old args then
   match c f (az.map .v) []with
   |some (rs,m')=>match c6 m' 8 rs with
    |some u=>if(result u).scalar||(dy args).isSome then some (.v (result u),st)
     else if now then(rowsOf args).map λds=>(.v (result u),{st with m:=ov ds st.m})
     else none
    |none=>none
   |none=>none
   else none
  |none=>none
def fS(m:Tb bK)(fr:Zv)(args:Zw):Zl:=fr.all λd=> !(SV.dB d args)&& !(rR d m)
def Am:K->Zl
 |.p (.build zero _)=>V.cE zero|.r (.lookup _ z _)=>z.good|.a (.alloc _ zero)=>V.cE zero&&zero.all V.one|.a (.makeSl _ zero)=>V.cE zero|.a (.buildSl _ _ zero _)=>V.cE zero|_=>true
def lN(S:Sys)(c:b9)(dr:Zl)(fr:Zv)(o:RO)(st:St):a_ (SV×St):=
 match bZ S.N st.g o.az with
 |some t=>match o.k with
  |.p (.slice size w z)=>match t with
   |.own d::B=>if dr then none else yq st o.dst size w z d B|t=>(jP S.N st.m (.slice size w z) t).map λx=>(x,st)
  |.p p=>(jP S.N st.m p t).map λx=>(x,st)|.r r=>if !dr||o.now||eZ fr t then(ow st.m r t).map λx=>(x,st)else none|.a a=>match o.dst with
   |some d=>if st.new d then(oW st.m a t d).map λ(ob,x)=>(x,{st with m:=bR st.m d ob})else none|none=>none
  |.l l=>if !dr||o.now then mh st o.dst l t else none|.c=>match t with
   |.clo f a b::u=>fF S c o.dst dr (!dr||o.now) (fS st.m fr) f (a++u++b) st|.v (.clo f a b)::u=>fF S c o.dst dr (!dr||o.now) (fS st.m fr) f (a.map .v++u++b.map .v) st|_=>none
  |.b=>if dr then none else match t with
   |[x]=>(jQ st.m 1 x).bind λC=>(o9 C).map λl=>(.v (.str (Jb l)),st)|_=>none
  |.e n=>match t with
   |[.v .bJ,x]=>mh st o.dst (.append n) [.v .bJ,x]|[.v .dG,x]=>mh st o.dst (.append n) [.v .dG,x]|_=>none
 |none=>none
def dh(st:St)(dst:a_ Nat)(x:SV):St:=
 match dst with
 |none=>st|some d=>{st with g:=bR st.g d x}
def wanted(g:Tb SV):a_ (Nat×Zl)->a_ Zl
 |none=>some true|some (s,b)=>match bl g s with
  |some (.v (.bool c))=>some (c==b)|some (.v _)=>some false|_=>none
def xY(o:RO):a_ Nat:=
 match o.k with
 |.p _|.r _=>none|_=>o.dst
def p_(fr:Zv)(o:RO):Zv:=
 match xY o with
 |some d=>d::fr|none=>fr
def br(H:bp)(id:Nat):a_ (Nat×Zt):=(H[id]?).bind Ob.rows
mutual
def V.j8:∀{x:V},x.good=true->x.closed=true
 |.hsl ..,h|.hptr ..,h|.yld _,h|.hmap _,h=>by simp[V.good]at h|.fsl ..,_|.fptr ..,_|.fmap ..,_=>rfl|.bool _,_|.int ..,_|.str _,_|.dG,_|.bJ,_|.gP,_|.gb,_|.ri,_=>rfl|.clo _ a b,h=>by simp only[V.good,ζh]at h;simp only[V.closed,ζh];exact⟨V.mS h.1,V.mS h.2⟩|.agg cs,h=>by simp only[V.good]at h;simp only[V.closed];exact V.mS h|.tup cs,h=>by simp only[V.good]at h;simp only[V.closed];exact V.mS h
def V.mS:∀{l:Zu},V.cE l=true->V.kr l=true
 |[],_=>rfl|x::r,h=>by simp only[V.cE,ζh]at h;simp only[V.kr,ζh];exact⟨V.j8 h.1,V.mS h.2⟩
end
def gF:∀{l:Zu},V.cE l=true↔∀(j:Nat)u,l[j]?=some u->u.good=true
 |[]=>by simp[V.cE]|x::l=>by simp[V.cE,gF];constructor;grind;intro h;exact⟨h 0 x rfl,λj u a=>h (j+1) u Zd⟩
def jY:∀{l:Zt},V.nM l=true↔∀(j:Nat)u,l[j]?=some u->V.cE u=true
 |[]=>by simp[V.nM]|x::l=>by simp[V.nM,jY];constructor;grind;intro h;exact⟨h 0 x rfl,λj u a=>h (j+1) u Zd⟩
def DY:∀{l:aZ (V×V)},V.rC l=true↔∀(j:Nat)u,l[j]?=some u->u.1.good=true/\u.2.good=true
 |[]=>by simp[V.rC]|(k,x)::l=>by simp only[V.rC,ζh,DY];constructor;grind;intro h;exact⟨h 0 (k,x) rfl,λj u a=>h (j+1) u Zd⟩
def xV{l:Zu}(n:Nat)(h:V.cE l=true):V.cE (l.drop n)=true:=gF.2 λj u a=>gF.1 h (n+j) u Zd
inductive FR(H:bp)(Z:Nat->Prop):V->V->Prop
 |same(x:V)(h:x.good=true):FR H Z x x|fsl(es:Nat)(xs:List (List V))(id off:Nat)(ys:List (List V))(hz:Z id)(hr:br H id=some (es,ys))(hl:off+xs.length<=ys.length)
  (hc:∀(i:Nat)a b,xs[i]?=some a->ys[off+i]?=some b->a.length=b.length)
  (hv:∀(i j:Nat)a b u v,xs[i]?=some a->ys[off+i]?=some b->a[j]?=some u->b[j]?=some v->FR H Z u v):FR H Z (.fsl es xs) (.hsl id es off xs.length)
 |fptr(xs:List V)(id el off es:Nat)(ys:List (List V))(cs:List V)(hz:Z id)(hr:br H id=some (es,ys))(he:ys[el]?=some cs)(ho:off<=cs.length)(hx:xs.length=cs.length-off)
  (hv:∀(j:Nat)u v,xs[j]?=some u->cs[off+j]?=some v->FR H Z u v):FR H Z (.fptr xs) (.hptr id el off)
 |clo(f:FuncId)(a b a' b':List V)(ha:a.length=a'.length)(hb:b.length=b'.length)(hva:∀(j:Nat)u v,a[j]?=some u->a'[j]?=some v->FR H Z u v)(hvb:∀(j:Nat)u v,b[j]?=some u->b'[j]?=some v->FR H Z u v):FR H Z (.clo f a b) (.clo f a' b')|agg(a a':List V)(ha:a.length=a'.length)(hva:∀(j:Nat)u v,a[j]?=some u->a'[j]?=some v->FR H Z u v):FR H Z (.agg a) (.agg a')|tup(a a':List V)(ha:a.length=a'.length)(hva:∀(j:Nat)u v,a[j]?=some u->a'[j]?=some v->FR H Z u v):FR H Z (.tup a) (.tup a')
def di(H:bp)(Z:Nat->Prop)(xs ys:Zu):Prop:=xs.length=ys.length/\∀(j:Nat)u v,xs[j]?=some u->ys[j]?=some v->FR H Z u v
def fR(H:bp)(Z:Nat->Prop)(xs ys:Zt):Prop:=xs.length=ys.length/\∀(j:Nat)u v,xs[j]?=some u->ys[j]?=some v->di H Z u v
section
variable{H H':bp}{Z Z':Nat->Prop}
def FR.mono(h:∀id,Z id->Z' id/\br H' id=br H id){x y:V}(r:FR H Z x y):FR H' Z' x y:=by induction r with|same x h=>exact .same x h|fsl es z id off B C hr I hc hv D=>exact .fsl es z id off B (h id C).1 Zd I hc D|fptr z id el off es B J C hr L O Q hv D=>exact .fptr z id el off es B J (h id C).1 Zd L O Q D|clo f a b u S w T hva U t G=>exact .clo f a b u S w T t G|agg a u w hva t=>exact .agg a u w t|tup a u w hva t=>exact .tup a u w t
def di.mono(h:∀id,Z id->Z' id/\br H' id=br H id){x y:Zu}(r:di H Z x y):di H' Z' x y:=⟨r.1,λj u v a b=>(r.2 j u v a b).mono h⟩
def fR.mono(h:∀id,Z id->Z' id/\br H' id=br H id){x y:Zt}(r:fR H Z x y):fR H' Z' x y:=⟨r.1,λj u v a b=>(r.2 j u v a b).mono h⟩
def di.nil:di H Z [] []:=⟨rfl,Zc⟩
def di.cons{x y:V}{xs ys:Zu}(h:FR H Z x y)(r:di H Z xs ys):di H Z (x::xs) (y::ys):=by refine⟨by simp[r.1],λj u v a b=>?_⟩;cases j with|zero=>grind|succ j=>exact r.2 j u v Zd Zd
def di.inv{x:V}{xs B:Zu}(r:di H Z (x::xs) B):∃y ys,B=y::ys/\FR H Z x y/\di H Z xs ys:=by cases B with|nil=>have:=r.1;grind|cons y ys=>refine⟨y,ys,rfl,r.2 0 x y rfl rfl,by have:=r.1;grind,λj u v a b=>r.2 (j+1) u v Zd Zd⟩
def di.cU{B:Zu}(r:di H Z [] B):B=[]:=by have:=r.1;grind
def di.get{xs ys:Zu}(r:di H Z xs ys){j:Nat}{u:V}(h:xs[j]?=some u):∃v,ys[j]?=some v/\FR H Z u v:=by
 have t:=(ζe.1 h).1;have:j<ys.length:=by rw[<-r.1];omega
 exact⟨ys[j],ζd this,r.2 j u _ h (ζd this)⟩
def fR.get{xs ys:Zt}(r:fR H Z xs ys){j:Nat}{u:Zu}(h:xs[j]?=some u):∃v,ys[j]?=some v/\di H Z u v:=by
 have t:=(ζe.1 h).1;have:j<ys.length:=by rw[<-r.1];omega
 exact⟨ys[j],ζd this,r.2 j u _ h (ζd this)⟩
def di.append{a b c d:Zu}(h:di H Z a b)(k:di H Z c d):di H Z (a++c) (b++d):=by refine⟨by simp[h.1,k.1],λj u v e f=>?_⟩;by_cases t:j<a.length;rw[getElem?_append_left t]at e;rw[getElem?_append_left (by rw[<-h.1];omega)]at f;exact h.2 j u v e f;rw[getElem?_append_right Za]at e;rw[getElem?_append_right (by rw[<-h.1];omega),<-h.1]at f;exact k.2 _ u v e f
def fR.append{a b c d:Zt}(h:fR H Z a b)(k:fR H Z c d):fR H Z (a++c) (b++d):=by refine⟨by simp[h.1,k.1],λj u v e f=>?_⟩;by_cases t:j<a.length;rw[getElem?_append_left t]at e;rw[getElem?_append_left (by rw[<-h.1];omega)]at f;exact h.2 j u v e f;rw[getElem?_append_right Za]at e;rw[getElem?_append_right (by rw[<-h.1];omega),<-h.1]at f;exact k.2 _ u v e f
def di.take{a b:Zu}(h:di H Z a b)(n:Nat):di H Z (a.take n) (b.take n):=by
 refine⟨by simp[h.1],λj u v c d=>?_⟩;rw[getElem?_take]at c d;split at c;next t=>rw[if_pos t]at d;exact h.2 j u v c d
 grind
def di.drop{a b:Zu}(h:di H Z a b)(n:Nat):di H Z (a.drop n) (b.drop n):=by refine⟨by simp[h.1],λj u v c d=>?_⟩;rw[getElem?_drop]at c d;exact h.2 _ u v c d
def fR.take{a b:Zt}(h:fR H Z a b)(n:Nat):fR H Z (a.take n) (b.take n):=by
 refine⟨by simp[h.1],λj u v c d=>?_⟩;rw[getElem?_take]at c d;split at c;next t=>rw[if_pos t]at d;exact h.2 j u v c d
 grind
def fR.drop{a b:Zt}(h:fR H Z a b)(n:Nat):fR H Z (a.drop n) (b.drop n):=by refine⟨by simp[h.1],λj u v c d=>?_⟩;rw[getElem?_drop]at c d;exact h.2 _ u v c d
def di.set{a b:Zu}(h:di H Z a b)(n:Nat){x y:V}(B:FR H Z x y):di H Z (a.set n x) (b.set n y):=by refine⟨by simp[h.1],λj u v c d=>?_⟩;rw[getElem?_set]at c d;split at c;grind;rename_i e;rw[if_neg e]at d;exact h.2 j u v c d
def fR.set{a b:Zt}(h:fR H Z a b)(n:Nat){x y:Zu}(B:di H Z x y):fR H Z (a.set n x) (b.set n y):=by refine⟨by simp[h.1],λj u v c d=>?_⟩;rw[getElem?_set]at c d;split at c;grind;rename_i e;rw[if_neg e]at d;exact h.2 j u v c d
def di.same{l:Zu}(h:V.cE l=true):di H Z l l:=⟨rfl,λj u v a b=>by rw[a]at b;cases b;exact .same u (gF.1 h j u a)⟩
def FR.good{x y:V}(r:FR H Z x y):x.good=true:=by induction r with|same x h=>omega|fsl es B id off C D hr L hc hv G=>refine jY.2 λi a w=>gF.2 λj u c=>?_;grind|fptr B id el off es C O D hr Q S T hv G=>refine gF.2 λj u c=>?_;grind|clo f a b z U w W hva I t J=>simp[V.good];refine⟨gF.2 λj u c=>?_,gF.2 λj u c=>?_⟩;grind;grind|agg a z w hva t=>refine gF.2 λj u c=>?_;grind|tup a z w hva t=>simp[V.good];refine gF.2 λj u c=>?_;grind
def FR.closed{x y:V}(r:FR H Z x y):x.closed=true:=V.j8 r.good
def di.good{xs ys:Zu}(r:di H Z xs ys):V.cE xs=true:=gF.2 λj u a=>by have⟨v,_,h⟩:=r.get a;exact h.good
def fR.good{xs ys:Zt}(r:fR H Z xs ys):V.nM xs=true:=jY.2 λj u a=>by have⟨v,_,h⟩:=r.get a;exact h.good
def FR.bool{b:Zl}{y:V}(r:FR H Z (.bool b) y):y=.bool b:=by cases r;rfl
def FR.int{k:Zs}{n:Int}{y:V}(r:FR H Z (.int k n) y):y=.int k n:=by cases r;rfl
def FR.str{s:Zq}{y:V}(r:FR H Z (.str s) y):y=.str s:=by cases r;rfl
def FR.dG{y:V}(r:FR H Z .dG y):y=.dG:=by cases r;rfl
def FR.bJ{y:V}(r:FR H Z .bJ y):y=.bJ:=by cases r;rfl
def FR.gP{y:V}(r:FR H Z .gP y):y=.gP:=by cases r;rfl
def FR.gb{y:V}(r:FR H Z .gb y):y=.gb:=by cases r;rfl
def FR.ri{y:V}(r:FR H Z .ri y):y=.ri:=by cases r;rfl
def FR.fmap{B:aZ (V×V)}{y:V}(r:FR H Z (.fmap B) y):y=.fmap B:=by cases r;rfl
def FR.iu{a:Zu}{y:V}(r:FR H Z (.agg a) y):∃a',y=.agg a'/\di H Z a a':=by cases r with|same _ h=>exact⟨a,rfl,.same (by simpa[V.good]using h)⟩|agg _ a' t hva=>exact⟨a',rfl,t,hva⟩
def FR.pR{a:Zu}{y:V}(r:FR H Z (.tup a) y):∃a',y=.tup a'/\di H Z a a':=by cases r with|same _ h=>exact⟨a,rfl,.same (by simpa[V.good]using h)⟩|tup _ a' t hva=>exact⟨a',rfl,t,hva⟩
def FR.jI{f:Zk}{a b:Zu}{y:V}(r:FR H Z (.clo f a b) y):∃a' B,y=.clo f a' B/\di H Z a a'/\di H Z b B:=by cases r with|same _ h=>simp[V.good]at h;exact⟨a,b,rfl,.same h.1,.same h.2⟩|clo _ _ _ a' B u w hva t=>exact⟨a',B,rfl,⟨u,hva⟩,⟨w,t⟩⟩
def FR.lu{es:Nat}{xs:Zt}{y:V}(r:FR H Z (.fsl es xs) y):y=.fsl es xs\/
 ∃id off ys,y=.hsl id es off xs.length/\Z id/\br H id=some (es,ys)/\off+xs.length<=ys.length/\fR H Z xs ((ys.drop off).take xs.length):=by
 cases r with
 |same _ h=>grind|fsl _ _ id off ys z hr B hc hv=>
  refine .inr ⟨id,off,ys,rfl,z,hr,B,by simp;omega,λj u v a w=>?_⟩
  have C:=(ζe.1 a).1;rw[getElem?_take,if_pos C,getElem?_drop]at w;exact⟨hc j u v a w,λi s t D G=>hv j i u v s t a w D G⟩
def FR.Kg{es:Nat}{xs:Zt}{id off:Nat}{ys:Zt}(B:Z id)(c:br H id=some (es,ys))(D:off+xs.length<=ys.length)(h:fR H Z xs ((ys.drop off).take xs.length)):
 FR H Z (.fsl es xs) (.hsl id es off xs.length):=by
 have key:∀(i:Nat)a b,xs[i]?=some a->ys[off+i]?=some b->di H Z a b:=λi a b t w=>by refine h.2 i a b t ?_;grind
 exact .fsl es xs id off ys B c D (λi a b t w=>(key i a b t w).1) (λi j a b u v t w d e=>(key i a b t w).2 j u v d e)
def FR.lH{xs:Zu}{y:V}(r:FR H Z (.fptr xs) y):y=.fptr xs\/
 ∃id el off es ys cs,y=.hptr id el off/\Z id/\br H id=some (es,ys)/\ys[el]?=some cs/\off<=cs.length/\di H Z xs (cs.drop off):=by
 cases r with
 |same _ h=>grind|fptr _ id el off es ys cs t hr w z C hv=>
  refine .inr ⟨id,el,off,es,ys,cs,rfl,t,hr,w,z,Ze,λj u v a B=>?_⟩
  grind
def FR.BT{xs:Zu}{id el off es:Nat}{ys:Zt}{cs:Zu}(B:Z id)(a:br H id=some (es,ys))(D:ys[el]?=some cs)(G:off<=cs.length)(h:di H Z xs (cs.drop off)):FR H Z (.fptr xs) (.hptr id el off):=.fptr xs id el off es ys cs B a D G (by have:=h.1;grind) (λj u v b c=>h.2 j u v b Zd)
def FR.cells{x y:V}(r:FR H Z x y):di H Z x.cells y.cells:=by
 have one:∀{a b:V},FR H Z a b->di H Z [a] [b]:=λh=>.cons h .nil
 cases r with
 |same _ h=>cases x<;>first|exact one (.same _ h)|(exact di.same h)
 |fsl es w id off z B hr D hc hv=>exact one (.fsl es w id off z B hr D hc hv)|fptr w id el off es z G B hr I J L hv=>exact one (.fptr w id el off es z G B hr I J L hv)|clo f a b u O t Q hva C=>exact one (.clo f a b u O t Q hva C)|agg a u t hva=>exact⟨t,hva⟩|tup a u t hva=>exact one (.tup a u t hva)
def FR.one{x y:V}(r:FR H Z x y):y.one=x.one:=by cases r<;>rfl
def di.one:∀{xs ys:Zu},di H Z xs ys->ys.all V.one=xs.all V.one
 |[],ys,r=>by rw[r.cU]|x::xs,D,r=>by obtain⟨y,ys,rfl,h,B⟩:=r.inv;simp[h.one,B.one]
def p9:∀{l:Zu},V.cO l=true↔∀(j:Nat)u,l[j]?=some u->u.scalar=true
 |[]=>by simp[V.cO]|x::l=>by simp[V.cO,p9];constructor;grind;intro h;exact⟨h 0 x rfl,λj u a=>h (j+1) u Zd⟩
def FR.scalar{x y:V}(r:FR H Z x y):(x.scalar=true->y=x)/\y.scalar=x.scalar:=by
 have key:∀(a t:Zu),a.length=t.length->(∀(j:Nat)u v,a[j]?=some u->t[j]?=some v->(u.scalar=true->v=u)/\v.scalar=u.scalar)->(V.cO a=true->t=a)/\V.cO t=V.cO a:=by intro a t z D;have b:V.cO a=true->t=a:=(by intro G;refine(List.ext_getElem z λj b B=>?_).symm;exact(((D j _ _ (ζd b) (ζd B)).1 (p9.1 G j _ (ζd b)))).symm);refine⟨b,?_⟩;cases G:V.cO a with|true=>grind|false=>cases C:V.cO t with|false=>rfl|true=>have:V.cO a=true:=p9.2 λj u c=>(by have I:j<t.length:=Zd;have:=(D j u _ c (ζd I)).2;rw[<-this];exact p9.1 C j _ (ζd I));grind
 induction r with|same x h=>grind|fsl=>exact⟨λh=>by simp[V.scalar]at h,rfl⟩|fptr=>exact⟨λh=>by simp[V.scalar]at h,rfl⟩|clo=>exact⟨λh=>by simp[V.scalar]at h,rfl⟩|agg a t z hva w=>have⟨b,B⟩:=key a t z w;exact⟨λh=>by rw[b (by simpa[V.scalar]using h)],by simpa[V.scalar]using B⟩|tup a t z hva w=>have⟨b,B⟩:=key a t z w;exact⟨λh=>by rw[b (by simpa[V.scalar]using h)],by simpa[V.scalar]using B⟩
def di.scalar{a a':Zu}(r:di H Z a a'):(V.cO a=true->a'=a)/\V.cO a'=V.cO a:=by have⟨b,t⟩:=FR.scalar (.tup a a' r.1 r.2);simp[V.scalar]at b t;grind
def qh:∀{l:Zu}{a:Zy},g_ l=some a->V.cO l=true
 |[],_,_=>rfl|x::l,a,h=>by unfold g_ at h;split at h;grind;(next n r e=>cases e;have⟨b,B,_⟩:=ζf.1 h;simp[V.cO,V.scalar];exact qh B);grind
end
mutual
def jq:∀{x:V},x.scalar=true->x.good=true
 |.bool _,_|.int ..,_|.str _,_|.gP,_|.gb,_|.ri,_|.dG,_|.bJ,_=>rfl|.agg cs,h=>by simp only[V.scalar]at h;simp only[V.good];exact oU h|.tup cs,h=>by simp only[V.scalar]at h;simp only[V.good];exact oU h|.fsl ..,h|.hsl ..,h|.fptr ..,h|.hptr ..,h|.clo ..,h|.yld _,h|.fmap _,h|.hmap _,h=>by simp[V.scalar]at h
def oU:∀{l:Zu},V.cO l=true->V.cE l=true
 |[],_=>rfl|x::r,h=>by simp only[V.cO,ζh]at h;simp only[V.cE,ζh];exact⟨jq h.1,oU h.2⟩
end
section
variable{H H':bp}{Z Z':Nat->Prop}
def jU{f:V->a_ V}:∀{xs ys:Zu},xs.length=ys.length->(∀(j:Nat)u v,xs[j]?=some u->ys[j]?=some v->f v=some u)->gX f ys=some xs
 |[],[],_,_=>rfl|[],y::ys,h,_=>Ze|x::xs,[],h,_=>Ze|x::xs,y::ys,h,B=>by simp[gX,B 0 x y rfl rfl,jU (xs:=xs) (ys:=ys) Zd λj u v a b=>B (j+1) u v Zd Zd]
def FX{f:V->a_ V}:∀{xs ys:Zt},xs.length=ys.length->(∀(j:Nat)u v,xs[j]?=some u->ys[j]?=some v->gX f v=some u)->kR f ys=some xs
 |[],[],_,_=>rfl|[],y::ys,h,_=>Ze|x::xs,[],h,_=>Ze|x::xs,y::ys,h,B=>by simp[kR,B 0 x y rfl rfl,FX (xs:=xs) (ys:=ys) Zd λj u v a b=>B (j+1) u v Zd Zd]
def nX:∀{l:Zu},V.kr l=true↔∀(j:Nat)u,l[j]?=some u->u.closed=true
 |[]=>by simp[V.kr]|x::l=>by simp[V.kr,nX];constructor;grind;intro h;exact⟨h 0 x rfl,λj u a=>h (j+1) u Zd⟩
def lI:∀{l:Zu}{n:Nat},V.kC n l=true↔∀(j:Nat)u,l[j]?=some u->u.lvl n=true
 |[],n=>by simp[V.kC]|x::l,n=>by simp[V.kC,lI];constructor;grind;intro h;exact⟨h 0 x rfl,λj u a=>h (j+1) u Zd⟩
def DR:∀{l:Zt}{n:Nat},V.om n l=true↔∀(j:Nat)u,l[j]?=some u->V.kC n u=true
 |[],n=>by simp[V.om]|x::l,n=>by simp[V.om,DR];constructor;grind;intro h;exact⟨h 0 x rfl,λj u a=>h (j+1) u Zd⟩
def d_(n:Nat)(H:bp){x:V}(h:x.closed=true):borrow n H x=some x:=jM n H h
def FR.borrow{x y:V}(r:FR H Z x y):∀n,x.lvl n=true->borrow n H y=some x:=by
 induction r with
 |same x h=>exactλn _=>d_ n H (V.j8 h)|fsl es J id off U W hr X hc d L=>intro n z;cases n with|zero=>simp[V.lvl]at z|succ n=>unfold Go.VE.borrow;unfold br at hr;simp only[V.closed,false_eq_true,if_false,hr,true_and,if_pos X,ζf];refine⟨J,FX (by simp;omega) λj u v c B=>?_,rfl⟩;have Y:=(ζe.1 c).1;rw[getElem?_take,if_pos Y,getElem?_drop]at B;refine jU (hc j u v c B) λi s t Q e=>L j i u v s t c B Q e n (lI.1 (DR.1 z j u c) i s Q)
 |fptr J id el off es U cs W hr he ho hx d L=>intro n z;cases n with|zero=>simp[V.lvl]at z|succ n=>unfold Go.VE.borrow;unfold br at hr;simp only[V.closed,false_eq_true,if_false,hr,he,if_pos ho,ζf];refine⟨J,jU Ze λj u v c B=>?_,rfl⟩;rw[getElem?_drop]at B;exact L j u v c B n (lI.1 z j u c)
 |clo f a b D S G T hva aa C I=>intro n z;cases n with|zero=>simp[V.lvl]at z|succ n=>simp[V.lvl]at z;by_cases w:(V.clo f D S).closed=true;rw[d_ _ _ w];simp[V.closed]at w;have e1:D=a:=(by have:=jU G λj u v c d=>C j u v c d n (lI.1 z.1 j u c);have O:=jU rfl λj u v c d=>(by rw[c]at d;cases d;exact d_ n H (nX.1 w.1 j u c));grind);have e2:S=b:=(by have:=jU T λj u v c d=>I j u v c d n (lI.1 z.2 j u c);have O:=jU rfl λj u v c d=>(by rw[c]at d;cases d;exact d_ n H (nX.1 w.2 j u c));grind);simp_all;unfold Go.VE.borrow;rw[if_neg w];simp[jU G λj u v c d=>C j u v c d n (lI.1 z.1 j u c),jU T λj u v c d=>I j u v c d n (lI.1 z.2 j u c)]
 |agg a D G hva C=>intro n z;cases n with|zero=>simp[V.lvl]at z|succ n=>have g:=jU G λj u v c d=>C j u v c d n (lI.1 z j u c);by_cases w:(V.agg D).closed=true;rw[d_ _ _ w];have O:=jU rfl λj u v c d=>(by rw[c]at d;cases d;exact d_ n H (nX.1 w j u c));grind;unfold Go.VE.borrow;grind
 |tup a D G hva C=>intro n z;cases n with|zero=>simp[V.lvl]at z|succ n=>have g:=jU G λj u v c d=>C j u v c d n (lI.1 z j u c);by_cases w:(V.tup D).closed=true;rw[d_ _ _ w];have O:=jU rfl λj u v c d=>(by rw[c]at d;cases d;exact d_ n H (nX.1 w j u c));grind;unfold Go.VE.borrow;grind
def oL{f:V->Zv}{k:Nat}:∀{l:Zu},k∈cM f l->∃(j:Nat)(u:V),l[j]?=some u/\k∈f u
 |[],h=>by simp[cM]at h|x::l,h=>by simp[cM]at h;rcases h with h|h;exact⟨0,x,rfl,h⟩;have⟨j,u,b,a⟩:=oL h;exact⟨j+1,u,Zd,a⟩
structure Deep(H:bp)(Z:Nat->Prop):Prop where
 row:∀id es ys,Z id->br H id=some (es,ys)->∀c∈ys,∀u∈c,∃x,FR H Z x u
def FR.cg(G:Deep H Z):∀(n:Nat){x y:V},FR H Z x y->∀k∈cg n H y,Z k
 |0,x,y,r,k,d=>by simp[Go.VE.cg]at d|n+1,x,y,r,k,d=>by
  unfold Go.VE.cg at d;split at d;simp_all;rename_i J;have D:∀(a a':Zu),di H Z a a'->k∈cM (Go.VE.cg n H) a'->Z k:=λa a' h d=>by have⟨j,u,e,w⟩:=oL d;have S:j<a.length:=(by rw[h.1];grind);exact FR.cg G n (h.2 j _ u (ζd S) e) k w
  have row:∀(id:Nat)es t(l:Zu),Z id->br H id=some (es,t)->(∀u∈l,∃c∈t,u∈c)->k∈cM (Go.VE.cg n H) l->Z k:=λid es t l z hr L d=>by have⟨j,u,e,w⟩:=oL d;have⟨c,g,B⟩:=L u (mem_of_getElem? e);have⟨x,O⟩:=G.row id es t z hr c g u B;exact FR.cg G n O k w
  cases r with
  |same _ h=>exact absurd (V.j8 h) J|fsl es T id off t z hr L g hv=>simp only[mem_cons]at d;rcases d with rfl|d;exact z;rw[show(H[id]?).bind Ob.rows=some (es,t)from hr]at d;exact row id es t _ z hr (λu e=>by have⟨c,g,B⟩:=List.mem_flatten.1 e;exact⟨c,mem_of_mem_drop (List.mem_of_mem_take g),B⟩) d
  |fptr T id el off es t U z hr Q Y O hv=>simp only[mem_cons]at d;rcases d with rfl|d;exact z;rw[show(H[id]?).bind Ob.rows=some (es,t)from hr]at d;simp only[Q,Option.getD_some]at d;exact row id es t _ z hr (λu e=>⟨U,mem_of_getElem? Q,mem_of_mem_drop e⟩) d
  |clo f a b a' W C X hva I=>simp at d;rcases d with d|d;exact D a a' ⟨C,hva⟩ d;exact D b W ⟨X,I⟩ d
  |agg a a' C hva=>exact D a a' ⟨C,hva⟩ d|tup a a' C hva=>exact D a a' ⟨C,hva⟩ d
def di.cut{cs ys r:Zu}{off n:Nat}(h:di H Z cs ys)(a:cut cs off n=some r):∃B,Go.VE.cut ys off n=some B/\di H Z r B:=by unfold Go.VE.cut at a⊢;have t:=(h.drop off).take n;dsimp only at a⊢;split at a;simp at a;subst a;exact⟨_,by rw[if_pos (by rw[<-t.1];omega)],t⟩;grind
def di.mk{agg:Zl}{cs ys:Zu}{x:V}(h:di H Z cs ys)(B:mk agg cs=some x):∃y,Go.VE.mk agg ys=some y/\FR H Z x y:=by unfold Go.VE.mk at B⊢;split at B;simp at B;subst B;exact⟨_,Zd,.agg _ _ h.1 h.2⟩;split at B;simp at B;obtain⟨y,ys,rfl,a,t⟩:=h.inv;rw[t.cU];grind;grind
def di.fill:∀{pl:aZ (Nat×Nat)}{vs B cells cells' r:Zu},di H Z cells cells'->di H Z vs B->jZ cells pl vs=some r->∃D,jZ cells' pl B=some D/\di H Z r D
 |[],vs,B,cells,cells',r,hc,hv,h=>by cases vs with|nil=>rw[hv.cU];simp[jZ]at h⊢;grind|cons v vs=>simp[jZ]at h
 |(off,size)::pl,vs,B,cells,cells',r,hc,hv,h=>by cases vs with|nil=>simp[jZ]at h|cons v vs=>obtain⟨w,B,rfl,a,G⟩:=hv.inv;have k:=a.cells;simp only[jZ]at h⊢;rw[<-k.1,<-hc.1];split at h;simp_all;rename_i e;rw[if_neg e];exact di.fill (((hc.take off).append k).append (hc.drop _)) G h
def FR.tE{k:KT}{x y G J:V}{b:Zl}(B:FR H Z x G)(D:FR H Z y J)(h:oa k x y=some b):oa k G J=some b:=by unfold oa at h;split at h;rw[B.bJ,D.bJ];exact h;rw[D.bJ];rcases B.lu with rfl|⟨_,_,_,rfl,_⟩<;>exact h;exact absurd B.closed (by simp[V.closed]);rw[B.gP,D.gP];exact h;rw[D.gP];rcases B.lH with rfl|⟨_,_,_,_,_,_,rfl,_⟩<;>exact h;exact absurd B.closed (by simp[V.closed]);rw[B.gb,D.gb];exact h;rw[D.gb,B.fmap];exact h;exact absurd B.closed (by simp[V.closed]);grind
def FR.kf{a b a' B:Zu}{r:Zl}(D:di H Z a a')(G:di H Z b B)(h:kf a b=some r):Go.VE.kf a' B=some r:=by unfold Go.VE.kf at h;split at h;rename_i u v c d;rw[D.scalar.1 (qh c),G.scalar.1 (qh d)];unfold Go.VE.kf;grind;grind
def yM{k:KT}{x y:V}{b:Zl}(h:oa k x y=some b):(y=.bJ/\(x=.bJ\/(∃es xs,x=.fsl es xs)\/∃id es off len,x=.hsl id es off len))\/
 (y=.gP/\(x=.gP\/(∃cs,x=.fptr cs)\/∃id el off,x=.hptr id el off))\/(y=.gb/\(x=.gb\/(∃B,x=.fmap B)\/∃id,x=.hmap id)):=by
 unfold oa at h
 grind
def Hq{k:a_ KT}{e:a_ Nat}{op:BinOp}{x y:V}(D:(y=.bJ/\(x=.bJ\/(∃es xs,x=.fsl es xs)\/∃id es off len,x=.hsl id es off len))\/
 (y=.gP/\(x=.gP\/(∃cs,x=.fptr cs)\/∃id el off,x=.hptr id el off))\/(y=.gb/\(x=.gb\/(∃B,x=.fmap B)\/∃id,x=.hmap id))):
 gq k e op x y=(match k,op with
 |some k,.eql=>(oa k x y).map .bool|some k,.neq=>(oa k x y).map λt=>.bool !t|_,_=>none):=by
 rcases D with⟨rfl,rfl|⟨_,_,rfl⟩|⟨_,_,_,_,rfl⟩⟩|⟨rfl,rfl|⟨_,rfl⟩|⟨_,_,_,rfl⟩⟩|⟨rfl,rfl|⟨_,rfl⟩|⟨_,rfl⟩⟩<;>cases k<;>cases op<;>rfl
def HU{k:a_ KT}{e:a_ Nat}{op:BinOp}{x y z:V}(h:gq k e op x y=some z):z.good=true:=by
 have w:∀{o:a_ Zl}{z:V},o.map V.bool=some z->z.good=true:=λh=>by obtain⟨_,_,rfl⟩:=ζf.1 h;rfl
 have u:∀{o:a_ Zl}{z:V},(o.map λt=>V.bool !t)=some z->z.good=true:=λh=>by obtain⟨_,_,rfl⟩:=ζf.1 h;rfl
 unfold gq at h;(repeat' split at h)<;>first|(simp at h;subst h;rfl)|exact w h|exact u h|simp at h
def FR.bin{k:a_ KT}{e:a_ Nat}{op:BinOp}{x y G J z:V}(B:FR H Z x G)(D:FR H Z y J)(h:gq k e op x y=some z):gq k e op G J=some z:=by
 have b:=h;unfold gq at h;split at h;rw[B.int,D.int];omega;rw[B.str,D.str];omega;rw[B.bool,D.bool];omega;obtain⟨I,rfl,u⟩:=B.iu;obtain⟨L,rfl,C⟩:=D.iu;split at h;split at h;next w=>obtain⟨r,a,rfl⟩:=ζf.1 h;simp[gq,<-u.1,w,FR.kf u C a]
 grind;split at h;next w=>obtain⟨r,a,rfl⟩:=ζf.1 h;simp[gq,<-u.1,w,FR.kf u C a]
 grind;grind;split at h;obtain⟨r,a,rfl⟩:=ζf.1 h;have t:=FR.tE B D a;rw[Hq (yM t)];grind;obtain⟨r,a,rfl⟩:=ζf.1 h;have t:=FR.tE B D a;rw[Hq (yM t)];grind;grind
def FR.slice{size:Nat}{x J z:V}{l h:Z6}(G:FR H Z x J)(D:gM size x l h=some z):∃O,gM size J l h=some O/\FR H Z z O:=by
 have I:∀{n t w:Nat},dO n l h=some (t,w)->w<=n/\t<=w:=by intro n t w e;unfold dO at e;grind
 unfold gM at D;split at D;rename_i es L;split at D;rename_i Q;obtain⟨⟨t,w⟩,B,rfl⟩:=ζf.1 D;have⟨T,X⟩:=I B;rcases G.lu with rfl|⟨id,off,S,rfl,U,hr,Y,W⟩;refine⟨_,by simp[gM,if_pos Q,B],.same _ ?_⟩;have b:=G.good;refine jY.2 λj u a=>?_;rw[getElem?_drop,getElem?_take]at a;split at a;exact jY.1 b _ u a;grind;refine⟨.hsl id es (off+t) (w-t),by simp[gM,if_pos Q,B],?_⟩;have C:((L.take w).drop t).length=w-t:=Ze;rw[<-C];refine FR.Kg U hr Zd ?_;have:=(W.take w).drop t;have e:List.drop t (take w (take L.length (List.drop off S)))=take (w-t) (List.drop (off+t) S):=by rw[List.take_take,Nat.min_eq_left T,List.drop_take,drop_drop]
 grind;grind;exact absurd G.closed (by simp[V.closed]);rw[G.dG];obtain⟨_,B,rfl⟩:=ζf.1 D;exact⟨.dG,by simp[gM,B],.same _ rfl⟩;rw[G.bJ];obtain⟨_,B,rfl⟩:=ζf.1 D;exact⟨.bJ,by simp[gM,B],.same _ rfl⟩;grind
def di.kV{G J:Zl}{O D:Zu}{r:Z6×Z6}(h:di H Z O D)(B:kV G J O=some r):Go.VE.kV G J D=some r:=by unfold Go.VE.kV at B;split at B;rw[h.cU];exact B;obtain⟨_,_,rfl,a,t⟩:=h.inv;rw[a.int,t.cU];exact B;obtain⟨_,_,rfl,a,t⟩:=h.inv;rw[a.int,t.cU];exact B;obtain⟨_,_,rfl,a,t⟩:=h.inv;obtain⟨_,_,rfl,u,w⟩:=t.inv;rw[a.int,u.int,w.cU];exact B;grind
def di.bn{N:Nat->Zk}{p:ud}{xs ys:Zu}{z:V}(Y:∀zero pl,p=.build zero pl->V.cE zero=true)(h:di H Z xs ys)(f:bn N p xs=some z):∃O,Go.VE.bn N p ys=some O/\FR H Z z O:=by
 unfold Go.VE.bn at f;split at f;obtain⟨y,_,rfl,g,w⟩:=h.inv;rw[w.cU];simp only[ζa]at f;subst f;exact⟨y,rfl,g⟩;rename_i t a b;obtain⟨w1,_,rfl,g,w⟩:=h.inv;obtain⟨w2,_,rfl,B,C⟩:=w.inv;obtain⟨w3,_,rfl,T,U⟩:=C.inv;rw[g.bool,U.cU];simp only[ζa]at f;subst f;refine⟨if t=true then w2 else w3,rfl,?_⟩;cases t;exact T;exact B;obtain⟨y,_,rfl,g,w⟩:=h.inv;rw[w.cU];unfold Jg at f;split at f;exact absurd g.closed (by simp[V.closed]);simp only[ζa]at f;subst f;rcases g.lH with rfl|⟨_,_,_,_,_,_,rfl,_⟩;exact⟨_,rfl,g⟩;exact⟨_,rfl,g⟩;simp only[ζa]at f;subst f;obtain⟨_,_,rfl,_⟩:=g.jI;exact⟨_,rfl,g⟩;simp at f;obtain⟨_,_,rfl,g,w⟩:=h.inv;obtain⟨_,_,rfl,B,C⟩:=w.inv;rw[C.cU];exact⟨z,FR.bin g B f,.same _ (HU f)⟩;obtain⟨_,_,rfl,g,w⟩:=h.inv;rw[g.bool,w.cU];simp only[ζa]at f;subst f;exact⟨_,rfl,.same _ rfl⟩;obtain⟨_,_,rfl,g,w⟩:=h.inv;rw[g.int,w.cU];simp only[ζa]at f;subst f;exact⟨_,rfl,.same _ rfl⟩;obtain⟨_,_,rfl,g,w⟩:=h.inv;rw[g.int,w.cU];simp only[ζa]at f;subst f;exact⟨_,rfl,.same _ rfl⟩;rename_i off p;obtain⟨y,_,rfl,g,w⟩:=h.inv;rw[w.cU];unfold gJ at f;split at f;split at f;rename_i X A;simp only[ζa]at f;subst f;rcases g.lH with rfl|⟨id,el,o,es,ys,ds,rfl,W,q,S,aa,Q⟩;have x:=g.good;simp only[V.good]at x;exact⟨_,by simp only[Go.VE.bn,gJ,if_pos A],.same _ (by simp only[V.good];exact xV _ x)⟩;refine⟨.hptr id el (o+off),rfl,FR.BT W q S (by have:=Q.1;simp at this;omega) ?_⟩;have:=Q.drop off;rw[drop_drop]at this;exact this;simp at f;exact absurd g.closed (by simp[V.closed]);simp at f;rename_i off size agg X;obtain⟨y,_,rfl,g,w⟩:=h.inv;rw[w.cU];obtain⟨ab,rfl,m⟩:=g.iu;have⟨r,q,E⟩:=ζg.1 f;have⟨F,J,I⟩:=m.cut q;have⟨O,D,G⟩:=I.mk E;exact⟨O,by simp only[Go.VE.bn,J,ζb,D],G⟩;rename_i size s k n;obtain⟨y,_,rfl,g,w⟩:=h.inv;obtain⟨_,_,rfl,B,C⟩:=w.inv;rw[B.int,C.cU];unfold kU at f;split at f;simp at f;rename_i L;split at f;rename_i es xs;split at f;rename_i S;obtain⟨c,m,rfl⟩:=ζf.1 f;rcases g.lu with rfl|⟨id,off,ys,rfl,W,q,hl,Q⟩;have x:=g.good;simp only[V.good]at x;exact⟨_,by simp only[Go.VE.bn,kU,if_neg L,if_pos S,m,map_some],.same _ (by simp only[V.good];exact jY.1 x _ _ m)⟩;have hj:n.toNat<xs.length:=(ζe.1 m).1;have⟨d,hd,ad⟩:=Q.get m;rw[getElem?_take,if_pos hj,getElem?_drop]at hd;exact⟨.hptr id (off+n.toNat) 0,by simp only[Go.VE.bn,kU,if_neg L,if_pos (And.intro S hj)],FR.BT W q hd Zc (by simpa using ad)⟩;simp at f;exact absurd g.closed (by simp[V.closed]);simp at f;rename_i len size s k n;obtain⟨y,_,rfl,g,w⟩:=h.inv;obtain⟨_,_,rfl,B,C⟩:=w.inv;rw[B.int,C.cU];unfold vF at f;split at f;rename_i L;split at f;split at f;rename_i X A;simp only[ζa]at f;subst f;rcases g.lH with rfl|⟨id,el,o,es,ys,ds,rfl,W,q,S,aa,Q⟩;have x:=g.good;simp only[V.good]at x;exact⟨_,by simp only[Go.VE.bn,vF,if_pos L,if_pos A],.same _ (by simp only[V.good];exact xV _ x)⟩;refine⟨.hptr id el (o+n.toNat*size),by simp only[Go.VE.bn,vF,if_pos L],FR.BT W q S (by have:=Q.1;simp at this;omega) ?_⟩;have:=Q.drop (n.toNat*size);rw[drop_drop]at this;exact this;simp at f;exact absurd g.closed (by simp[V.closed]);simp at f;simp at f;rename_i s k n;obtain⟨y,_,rfl,g,w⟩:=h.inv;obtain⟨_,_,rfl,B,C⟩:=w.inv;rw[g.str,B.int,C.cU];split at f;next L=>obtain⟨c,m,rfl⟩:=ζf.1 f;exact⟨_,by simp only[Go.VE.bn,if_pos L,m,map_some],.same _ rfl⟩
 simp at f;rename_i len size agg X k n;obtain⟨y,_,rfl,g,w⟩:=h.inv;obtain⟨_,_,rfl,B,C⟩:=w.inv;rw[B.int,C.cU];obtain⟨ab,rfl,m⟩:=g.iu;split at f;next L=>have⟨r,q,E⟩:=ζg.1 f;have⟨F,J,I⟩:=m.cut q;have⟨O,D,G⟩:=I.mk E;exact⟨O,by simp only[Go.VE.bn,if_pos L,J,ζb,D],G⟩
 simp at f;rename_i lo hi s bs;obtain⟨y,_,rfl,g,w⟩:=h.inv;rw[g.str];have⟨⟨l,h'⟩,K,f⟩:=ζg.1 f;obtain⟨⟨l2,ah⟩,ae,rfl⟩:=ζf.1 f;exact⟨_,by simp only[Go.VE.bn,w.kV K,ζb,ae,map_some],.same _ rfl⟩;rename_i size lo hi s bs;obtain⟨y,_,rfl,g,w⟩:=h.inv;have⟨⟨l,h'⟩,K,f⟩:=ζg.1 f;have⟨O,D,G⟩:=FR.slice g f;exact⟨O,by simp only[Go.VE.bn,w.kV K,ζb,D],G⟩;obtain⟨y,_,rfl,g,w⟩:=h.inv;obtain⟨_,_,rfl,B,C⟩:=w.inv;obtain⟨_,_,rfl,T,U⟩:=C.inv;rw[B.int,T.int,U.cU];split at f;rename_i m;simp only[ζa]at f;subst f;refine⟨.dG,?_,.same _ rfl⟩;simp only[ζh]at m;have:Kc y=true:=by have M:=m.1.1;unfold Kc at M;split at M;rcases g.lu with rfl|⟨_,_,_,rfl,_⟩<;>rfl;exact absurd g.closed (by simp[V.closed]);rw[g.dG];rfl;rw[g.bJ];rfl;simp at M
 simp only[Go.VE.bn,this,m.1.2,m.2,Bool.and_self,if_true];simp at f;rename_i vs zero pl;obtain⟨r,q,rfl⟩:=ζf.1 f;have⟨F,J,I⟩:=di.fill (di.same (Y zero pl rfl)) h q;exact⟨.agg F,by simp only[Go.VE.bn,J,map_some],.agg _ _ I.1 I.2⟩;rename_i vs name k;simp only[ζa]at f;subst f;exact⟨_,rfl,.clo _ _ _ _ _ (h.take k).1 (h.drop k).1 (h.take k).2 (h.drop k).2⟩;rename_i i vs;obtain⟨y,_,rfl,g,w⟩:=h.inv;rw[w.cU];obtain⟨ws,rfl,hw⟩:=g.pR;have⟨O,D,G⟩:=hw.get f;exact⟨O,D,G⟩;obtain⟨y,_,rfl,g,w⟩:=h.inv;rw[g.str,w.cU];simp only[ζa]at f;subst f;exact⟨_,rfl,.same _ rfl⟩;obtain⟨y,_,rfl,g,w⟩:=h.inv;rw[w.cU];unfold mN at f;split at f;simp only[ζa]at f;subst f;rcases g.lu with rfl|⟨_,_,_,rfl,_⟩<;>exact⟨_,rfl,.same _ rfl⟩;exact absurd g.closed (by simp[V.closed]);rw[g.dG];simp only[ζa]at f;subst f;exact⟨_,rfl,.same _ rfl⟩;rw[g.bJ];simp only[ζa]at f;subst f;exact⟨_,rfl,.same _ rfl⟩;simp at f;obtain⟨y,_,rfl,g,w⟩:=h.inv;rw[w.cU];unfold G9 at f;split at f;rw[g.bJ];simp only[ζa]at f;subst f;exact⟨_,rfl,.same _ rfl⟩;rw[g.dG];simp only[ζa]at f;subst f;exact⟨_,rfl,.same _ rfl⟩;simp at f;obtain⟨_,_,rfl,g,w⟩:=h.inv;obtain⟨_,_,rfl,B,C⟩:=w.inv;rw[g.int,B.int,C.cU];split at f;next e=>simp only[ζa]at f;subst f;exact⟨_,by simp only[Go.VE.bn,if_pos e],.same _ rfl⟩
 simp at f;obtain⟨_,_,rfl,g,w⟩:=h.inv;obtain⟨_,_,rfl,B,C⟩:=w.inv;obtain⟨_,_,rfl,T,U⟩:=C.inv;obtain⟨_,_,rfl,h7,h8⟩:=U.inv;rw[g.int,B.int,T.int,h7.int,h8.cU];split at f;next e=>simp only[ζa]at f;subst f;exact⟨_,by simp only[Go.VE.bn,if_pos e],.same _ rfl⟩
 simp at f;obtain⟨_,_,rfl,g,w⟩:=h.inv;obtain⟨_,_,rfl,B,C⟩:=w.inv;rw[g.int,B.int,C.cU];split at f;next e=>simp only[ζa]at f;subst f;exact⟨_,by simp only[Go.VE.bn,if_pos e],.same _ rfl⟩
 simp at f;obtain⟨_,_,rfl,g,w⟩:=h.inv;obtain⟨_,_,rfl,B,C⟩:=w.inv;rw[g.int,B.int,C.cU];split at f;rename_i e;simp only[ζa]at f;subst f;refine⟨_,by simp only[Go.VE.bn,if_pos e],.same _ ?_⟩;simp only[V.good];refine jY.2 λj u P=>?_;have:=List.eq_of_mem_replicate (mem_of_getElem? P);subst this;exact gF.2 λi v R=>jq (all_eq_true.1 e.2.2.2.2.2 v (mem_of_getElem? R));simp at f;split at f;rename_i m;obtain rfl:=h.scalar.1 m.1;split at f;rename_i xs af;split at f;rename_i hx;simp only[ζa]at f;subst f;refine⟨_,by simp only[Go.VE.bn,if_pos m,af,if_pos hx],.same _ ?_⟩;simp only[V.good];exact jY.2 λj u P=>gF.2 λi v R=>jq (all_eq_true.1 (all_eq_true.1 hx.2 u (mem_of_getElem? P)) v (mem_of_getElem? R));simp at f;simp at f;simp at f;simp only[ζa]at f;subst f;rw[h.cU];exact⟨_,rfl,.same _ rfl⟩;simp at f
end
def qP(p:Nat×Nat)(k:Fl)(es len:Nat):V:=
 match k with
 |.nil=>.bJ|.emp=>.dG|_=>.hsl p.1 es p.2 len
abbrev Nu:=Nat->Nat×Nat
inductive c9(ν:Nu)(m:Tb bK)(H:bp)(Z:Nat->Prop):SV->V->Prop
 |v(x y:V)(h:FR H Z x y):c9 ν m H Z (.v x) y|own(d:Nat)(y:V)(h:∀ob,bl m d=some ob->∃k es xs,ob=.sl k es xs/\y=qP (ν d) k es xs.length):c9 ν m H Z (.own d) y|ptr(d o:Nat)(y:V)(h:∀ob,bl m d=some ob->∃cs,ob=.box cs/\y=.hptr (ν d).1 0 o):c9 ν m H Z (.ptr d o) y|el(d i o:Nat)(y:V)(h:∀ob,bl m d=some ob->∃k es xs,ob=.sl k es xs/\cG k=true/\y=.hptr (ν d).1 ((ν d).2+i) o):c9 ν m H Z (.el d i o) y|mp(d:Nat)(y:V)(h:∀ob,bl m d=some ob->∃kvs,ob=.mp kvs/\y=.hmap (ν d).1):c9 ν m H Z (.mp d) y|clo(f:FuncId)(a b:List SV)(a' b':List V)(ha:a.length=a'.length)(hb:b.length=b'.length)
  (hva:∀(j:Nat)u v,a[j]?=some u->a'[j]?=some v->c9 ν m H Z u v) (hvb:∀(j:Nat)u v,b[j]?=some u->b'[j]?=some v->c9 ν m H Z u v):c9 ν m H Z (.clo f a b) (.clo f a' b')
 |tup(a:List SV)(a':List V)(ha:a.length=a'.length)(hva:∀(j:Nat)u v,a[j]?=some u->a'[j]?=some v->c9 ν m H Z u v):c9 ν m H Z (.tup a) (.tup a')|agg(a:List SV)(a':List V)(ha:a.length=a'.length)(hva:∀(j:Nat)u v,a[j]?=some u->a'[j]?=some v->c9 ν m H Z u v):c9 ν m H Z (.agg a) (.agg a')|yl(id:Nat):c9 ν m H Z (.yl id) (.yld id)
def bY(ν:Nu)(m:Tb bK)(H:bp)(Z:Nat->Prop)(xs:Zw)(ys:Zu):Prop:=xs.length=ys.length/\∀(j:Nat)u v,xs[j]?=some u->ys[j]?=some v->c9 ν m H Z u v
def cz:bK->Zl
 |.sl k _ _=>cG k|_=>true
def fc(ν:Nu)(m:Tb bK)(id:Nat):Prop:=∃d ob,bl m d=some ob/\cz ob=true/\(ν d).1=id
def uv(H:bp)(Z:Nat->Prop)(ys:Zt):Prop:=∀c∈ys,∀u∈c,∃x,FR H Z x u
def Cl(H:bp)(Z:Nat->Prop)(a b:aZ (V×V)):Prop:=a.length=b.length/\∀(j:Nat)u v,a[j]?=some u->b[j]?=some v->(u.1=v.1/\u.1.scalar=true)/\FR H Z u.2 v.2
def dY(ν:Nu)(m:Tb bK)(H:bp)(Z:Nat->Prop)(d:Nat):bK->Prop
 |.sl k es xs=>if cG k then∃ys,H[(ν d).1]?=some (.row es ys)/\(ν d).2+xs.length<=ys.length/\fR H Z xs ((ys.drop (ν d).2).take xs.length)/\uv H Z ys/\(k=.row->(ν d).2=0/\ys.length=xs.length)
  else xs=[]
 |.box cs=>∃es D,H[(ν d).1]?=some (.row es [D])/\bY ν m H Z cs D/\D.all V.one=true|.mp G=>∃B,H[(ν d).1]?=some (.map B)/\Cl H Z G B
structure R(ν:Nu)(Z:Nat->Prop)(st:St)(F:Frame)(H:bp):Prop where
 slot:∀s sv,bl st.g s=some sv->c9 ν st.m H Z sv (get F s)
 obj:∀d ob,bl st.m d=some ob->dY ν st.m H Z d ob
 inj:∀d d' ob ob',bl st.m d=some ob->bl st.m d'=some ob'->cz ob=true->cz ob'=true->(ν d).1=(ν d').1->d=d'
 apart:∀d ob,bl st.m d=some ob->cz ob=true->¬Z (ν d).1
 zrow:∀id,Z id->(br H id).isSome=true
 deep:Deep H Z
def sameShape:bK->bK->Prop
 |.sl k es xs,.sl G B D=>G=k/\B=es/\D.length=xs.length|.box _,.box _=>True|.mp _,.mp _=>True|_,_=>False
def sameShape.refl(o:bK):sameShape o o:=by cases o<;>simp[sameShape]
def sameShape.trans{a b c:bK}(h:sameShape a b)(k:sameShape b c):sameShape a c:=by cases a<;>cases b<;>cases c<;>simp[sameShape]at*<;>simp_all
structure Ev(Rv:Nat->Prop)(ν:Nu)(Z:Nat->Prop)(st:St)(H:bp)(ν':Nu)(Z':Nat->Prop)(st':St)(H':bp):Prop where
 len:H.length<=H'.length
 same:∀id,id<H.length->¬fc ν st.m id->¬Z id->¬Rv id->H'[id]?=H[id]?
 rows:∀id,Z id->Z' id/\br H' id=br H id
 own:∀id,fc ν' st'.m id->fc ν st.m id\/Rv id\/H.length<=id
 frz:∀id,Z' id->Z id\/fc ν st.m id\/Rv id\/H.length<=id
 pin:∀d∈st.pin,∀ob',bl st'.m d=some ob'->∃ob,bl st.m d=some ob/\ν' d=ν d/\sameShape ob ob'
 pins:st'.pin=st.pin
section
variable{Rv Rv':Nat->Prop}{ν ν' ν2:Nu}{Z Z' Z2:Nat->Prop}{st st' st2:St}{m m':Tb bK}{F F':Zo}{H H' H2:bp}
def Ev.refl:Ev Rv ν Z st H ν Z st H:=⟨le_refl _,λ_ _ _ _ _=>rfl,λ_ h=>⟨h,rfl⟩,λ_ h=>.inl h,λ_ h=>.inl h,λ_ _ t h=>⟨t,h,rfl,.refl _⟩,rfl⟩
def Ev.trans(a:Ev Rv ν Z st H ν' Z' st' H')(b:Ev Rv ν' Z' st' H' ν2 Z2 st2 H2):Ev Rv ν Z st H ν2 Z2 st2 H2 where
 len:=le_trans a.len b.len
 same:=λid z t B hr=>by rw[b.same id (Nat.lt_of_lt_of_le z a.len) (λh=>(a.own id h).elim t λh=>h.elim hr λh=>Za) (λh=>(a.frz id h).elim B λh=>h.elim t λh=>h.elim hr λh=>Za) hr,a.same id z t B hr]
 rows:=λid h=>⟨(b.rows id (a.rows id h).1).1,by rw[(b.rows id (a.rows id h).1).2,(a.rows id h).2]⟩
 own:=λid h=>by rcases b.own id h with h|h|h;exact a.own id h;grind;exact .inr (.inr (le_trans a.len h))
 frz:=λid h=>by rcases b.frz id h with h|h|h|h;exact a.frz id h;rcases a.own id h with h|h|h;grind;grind;grind;grind;exact .inr (.inr (.inr (le_trans a.len h)))
 pin:=λd C u h=>by have⟨w,c,J,D⟩:=b.pin d (by rw[a.pins];omega) u h;have⟨ob,G,L,I⟩:=a.pin d C w c;exact⟨ob,G,Ze,I.trans D⟩
 pins:=by rw[b.pins,a.pins]
def Ev.weak(h:∀id,Rv id->Rv' id)(a:Ev Rv ν Z st H ν' Z' st' H'):Ev Rv' ν Z st H ν' Z' st' H':=⟨a.len,λid t u w hr=>a.same id t u w (λk=>hr (h id k)),a.rows,λid k=>(a.own id k).imp (λx=>x) (.imp (h id) (λx=>x)),λid k=>(a.frz id k).imp (λx=>x) (.imp (λx=>x) (.imp (h id) (λx=>x))),a.pin,a.pins⟩
def cF{α:Type}:∀(g:Tb α)(n:Nat)(v:α),bl (bR g n v) n=some v
 |[],n,v=>by simp[bR,bl]|(k,x)::r,n,v=>by simp[bR];split;(next h=>simp[bl,h]);rename_i h;simp[bl,h,cF r n v]
def dN{α:Type}:∀(g:Tb α){n k:Nat}(v:α),n≠k->bl (bR g n v) k=bl g k
 |[],n,k,v,h=>by simp[bR,bl,h]|(j,x)::r,n,k,v,h=>by simp[bR];split;(next a=>subst a;simp[bl,h]);simp[bl];split;rfl;exact dN r v h
def qQ{α:Type}:∀{g:Tb α}{n:Nat}{v:α},bl g n=some v->bR g n v=g
 |[],n,v,h=>by cases h|(k,x)::r,n,v,h=>by simp[bl]at h;simp[bR];split;grind;rename_i e;rw[if_neg e]at h;rw[qQ h]
def u9{α:Type}:∀(g:Tb α)(n:Nat),bl (dZ n g) n=none
 |[],n=>rfl|(k,x)::r,n=>by simp[dZ];split;exact u9 r n;rename_i a;simp[bl];rw[if_neg a];exact u9 r n
def vo{α:Type}:∀(g:Tb α){n k:Nat},n≠k->bl (dZ n g) k=bl g k
 |[],n,k,h=>rfl|(j,x)::r,n,k,h=>by simp[dZ];split;(next a=>subst a;simp[bl];rw[if_neg h];exact vo r h);simp[bl];split;rfl;exact vo r h
def ni{α:Type}{g:Tb α}{n k:Nat}{v:α}(h:bl (dZ n g) k=some v):n≠k/\bl g k=some v:=by by_cases e:n=k;subst e;rw[u9]at h;simp_all;rw[vo g e]at h;grind
def nE{α:Type}{k:Nat}{v:α}:∀{ds:Zv}{g:Tb α},bl (ov ds g) k=some v->bl g k=some v
 |[],_,h=>h|d::ds,g,h=>(ni (nE h)).2
def pL{α:Type}{g:Tb α}{k:Nat}{v:α}:∀{l:Zv}{r:Tb α},kQ g l=some r->bl r k=some v->bl g k=some v
 |[],r,h,B=>by simp[kQ]at h;subst h;simp[bl]at B|n::l,r,h,B=>by simp[kQ]at h;split at h;rename_i w t G D;simp at h;subst h;simp[bl]at B;split at B;grind;exact pL D B;grind
def xw{d:Nat}:∀{g:Tb SV}{s:Nat}{sv:SV},uD d g=false->bl g s=some sv->sv.cQ d=false
 |[],_,_,_,h=>by simp[bl]at h|(k,x)::r,s,sv,h,B=>by simp[uD]at h;simp[bl]at B;split at B;grind;exact xw h.2 B
def w_{d:Nat}:∀{g:Tb bK}{s:Nat}{ob:bK},rR d g=false->bl g s=some ob->ob.cQ d=false
 |[],_,_,_,h=>by simp[bl]at h|(k,x)::r,s,sv,h,B=>by simp[rR]at h;simp[bl]at B;split at B;grind;exact w_ h.2 B
def sR{d:Nat}:∀{l:Zw}{j:Nat}{u:SV},SV.dB d l=false->l[j]?=some u->u.cQ d=false
 |[],_,_,_,h=>Ze|x::r,j,u,h,B=>by simp[SV.dB]at h;cases j with|zero=>grind|succ j=>exact sR h.2 (by simpa using B)
def qO{d:Nat}:∀{l:Zw}{j:Nat}{u:SV},l[j]?=some u->u.cQ d=true->SV.dB d l=true
 |[],_,_,h,_=>Ze|x::r,j,u,h,B=>by simp[SV.dB];cases j with|zero=>grind|succ j=>exact .inr (qO (j:=j) Zd B)
def c9.mono{sv:SV}{y:V}(O:∀id,Z id->Z' id/\br H' id=br H id)
 (r:c9 ν m H Z sv y)(B:∀d,sv.cQ d=true->∀ob',bl m' d=some ob'->∃ob,bl m d=some ob/\ν' d=ν d/\sameShape ob ob'):c9 ν' m' H' Z' sv y:=by
 induction r with
 |v x y h=>exact .v x y (h.mono O)|own d y h=>
  refine .own d y λob' w=>?_
  have⟨ob,e,I,z⟩:=B d (by simp[SV.cQ]) ob' w
  obtain⟨k,es,L,rfl,rfl⟩:=h ob e;cases ob'<;>simp[sameShape]at z
  grind
 |ptr d o y h=>
  refine .ptr d o y λob' w=>?_
  have⟨ob,e,I,z⟩:=B d (by simp[SV.cQ]) ob' w
  obtain⟨Q,rfl,rfl⟩:=h ob e;cases ob'<;>simp[sameShape]at z
  grind
 |el d i o y h=>
  refine .el d i o y λob' w=>?_
  have⟨ob,e,I,z⟩:=B d (by simp[SV.cQ]) ob' w
  obtain⟨k,es,L,rfl,W,rfl⟩:=h ob e;cases ob'<;>simp[sameShape]at z
  grind
 |mp d y h=>
  refine .mp d y λob' w=>?_
  have⟨ob,e,I,z⟩:=B d (by simp[SV.cQ]) ob' w
  obtain⟨Q,rfl,rfl⟩:=h ob e;cases ob'<;>simp[sameShape]at z
  grind
 |clo f a b D S G T hva U t J=>exact .clo f a b D S G T (λj u v c g=>t j u v c g λd C=>B d (by simp[SV.cQ,qO c C])) (λj u v c g=>J j u v c g λd C=>B d (by simp[SV.cQ,qO c C]))|tup a D G hva t=>exact .tup a D G (λj u v c g=>t j u v c g λd C=>B d (by simp[SV.cQ,qO c C]))|agg a D G hva t=>exact .agg a D G (λj u v c g=>t j u v c g λd C=>B d (by simp[SV.cQ,qO c C]))|yl id=>exact .yl id
def bY.mono{sv:Zw}{y:Zu}(B:∀id,Z id->Z' id/\br H' id=br H id)(r:bY ν m H Z sv y)(D:∀d,SV.dB d sv=true->∀ob',bl m' d=some ob'->∃ob,bl m d=some ob/\ν' d=ν d/\sameShape ob ob'):bY ν' m' H' Z' sv y:=⟨r.1,λj u v a b=>(r.2 j u v a b).mono B λd t=>D d (qO a t)⟩
def bY.nil:bY ν m H Z [] []:=⟨rfl,Zc⟩
def bY.cons{x:SV}{y:V}{xs:Zw}{ys:Zu}(h:c9 ν m H Z x y)(r:bY ν m H Z xs ys):bY ν m H Z (x::xs) (y::ys):=by refine⟨by simp[r.1],λj u v a b=>?_⟩;cases j with|zero=>grind|succ j=>exact r.2 j u v Zd Zd
def bY.inv{x:SV}{xs:Zw}{B:Zu}(r:bY ν m H Z (x::xs) B):∃y ys,B=y::ys/\c9 ν m H Z x y/\bY ν m H Z xs ys:=by cases B with|nil=>have:=r.1;grind|cons y ys=>refine⟨y,ys,rfl,r.2 0 x y rfl rfl,by have:=r.1;grind,λj u v a b=>r.2 (j+1) u v Zd Zd⟩
def bY.cU{B:Zu}(r:bY ν m H Z [] B):B=[]:=by have:=r.1;grind
def bY.get{xs:Zw}{ys:Zu}(r:bY ν m H Z xs ys){j:Nat}{u:SV}(h:xs[j]?=some u):∃v,ys[j]?=some v/\c9 ν m H Z u v:=by
 have t:=(ζe.1 h).1;have:j<ys.length:=by rw[<-r.1];omega
 exact⟨ys[j],ζd this,r.2 j u _ h (ζd this)⟩
def bY.append{a c:Zw}{b d:Zu}(h:bY ν m H Z a b)(k:bY ν m H Z c d):bY ν m H Z (a++c) (b++d):=by refine⟨by simp[h.1,k.1],λj u v e f=>?_⟩;by_cases t:j<a.length;rw[getElem?_append_left t]at e;rw[getElem?_append_left (by rw[<-h.1];omega)]at f;exact h.2 j u v e f;rw[getElem?_append_right Za]at e;rw[getElem?_append_right (by rw[<-h.1];omega),<-h.1]at f;exact k.2 _ u v e f
def bY.take{a:Zw}{b:Zu}(h:bY ν m H Z a b)(n:Nat):bY ν m H Z (a.take n) (b.take n):=by
 refine⟨by simp[h.1],λj u v c d=>?_⟩;rw[getElem?_take]at c d;split at c;next t=>rw[if_pos t]at d;exact h.2 j u v c d
 grind
def bY.drop{a:Zw}{b:Zu}(h:bY ν m H Z a b)(n:Nat):bY ν m H Z (a.drop n) (b.drop n):=by refine⟨by simp[h.1],λj u v c d=>?_⟩;rw[getElem?_drop]at c d;exact h.2 _ u v c d
def c9.fr{x y:V}(r:c9 ν m H Z (.v x) y):FR H Z x y:=by cases r;assumption
def bY.qu{xs ys:Zu}(r:di H Z xs ys):bY ν m H Z (xs.map .v) ys:=by refine⟨by simp[r.1],λj u v a b=>?_⟩;rw[List.getElem?_map,ζf]at a;obtain⟨x,t,rfl⟩:=a;exact .v x v (r.2 j x v t b)
def tD:∀{svs:Zw}{xs:Zu},dy svs=some xs->svs=xs.map .v
 |[],xs,h=>by simp[dy]at h;grind|x::r,xs,h=>by(cases x<;>simp only[dy]at h<;>first|grind|skip);obtain⟨t,B,rfl⟩:=ζf.1 h;rw[tD B];rfl
def bY.R2{xs ys:Zu}(r:bY ν m H Z (xs.map .v) ys):di H Z xs ys:=by refine⟨by have:=r.1;grind,λj u v b a=>?_⟩;have:(xs.map SV.v)[j]?=some (.v u):=Zd;exact(r.2 j _ v this a).fr
end
section
variable{ν:Nu}{Z:Nat->Prop}{st:St}{m:Tb bK}{F:Zo}{H H1:bp}{N:Nat->Zk}
def oe(nm:Zk->a_ Nat):Zr->a_ Arg
 |.tmp t=>some (.s t)|.const v=>match ofValue 4 v with
  |some c=>if c.good then some (.k c)else none|none=>none
 |.func f=>(nm f).map .f|.global g=>match bV.gl g with
  |some cs=>if(V.fptr cs).good then some (.k (.fptr cs))else none|none=>none
def Du{nm:Zk->a_ Nat}(D:∀f s,nm f=some s->N s=f){g:Tb SV}(G:∀s sv,bl g s=some sv->c9 ν m H Z sv (get F s)){o:Zr}{x:Arg}{sv:SV}(B:oe nm o=some x)(a:pW N g x=some sv):
 ∃y,ev F o=some y/\c9 ν m H Z sv y:=by
 cases o with
 |tmp t=>simp[oe]at B;subst B;exact⟨get F t,rfl,G t sv a⟩|const w=>
  simp[oe]at B;split at B
  .rename_i c hc;split at B
   next u=>simp at B;subst B;simp[pW]at a;subst a;exact⟨c,hc,.v _ _ (.same _ u)⟩
   grind
  grind
 |func f=>simp[oe]at B;obtain⟨z,C,rfl⟩:=B;simp[pW]at a;subst a;exact⟨_,rfl,.v _ _ (by rw[D f z C];exact .same _ rfl)⟩|global i=>
  simp[oe]at B;split at B
  .rename_i c hc;split at B
   next u=>simp at B;subst B;simp[pW]at a;subst a;exact⟨.fptr c,by simp[ev,hc],.v _ _ (.same _ u)⟩
   grind
  grind
def nu{nm:Zk->a_ Nat}(D:∀f s,nm f=some s->N s=f){g:Tb SV}(G:∀s sv,bl g s=some sv->c9 ν m H Z sv (get F s)):∀{os:aZ Zr}{xs:Z4}{svs:Zw},
 os.mapM (oe nm)=some xs->bZ N g xs=some svs->∃ys,fA F os=some ys/\bY ν m H Z svs ys
 |[],xs,svs,B,hv=>by simp at B;subst B;simp[bZ]at hv;subst hv;exact⟨[],rfl,.nil⟩|o::os,xs,svs,B,hv=>by simp[ζg]at B;obtain⟨x,J,ys,O,rfl⟩:=B;simp[bZ]at hv;split at hv;(next v z b u=>simp at hv;subst hv;have⟨a,B,w⟩:=Du D G J b;have⟨az,has,t⟩:=nu D G O u;exact⟨a::az,by simp[fA,B,has],.cons w t⟩);grind
def c9.jG{d:Nat}{y:V}(r:c9 ν m H Z (.own d) y){ob:bK}(h:bl m d=some ob):∃k es xs,ob=.sl k es xs/\y=qP (ν d) k es xs.length:=by cases r with|own _ _ t=>grind
def c9.nZ{d o:Nat}{y:V}(r:c9 ν m H Z (.ptr d o) y){ob:bK}(h:bl m d=some ob):∃cs,ob=.box cs/\y=.hptr (ν d).1 0 o:=by cases r with|ptr _ _ _ t=>grind
def c9.w5{d i o:Nat}{y:V}(r:c9 ν m H Z (.el d i o) y){ob:bK}(h:bl m d=some ob):∃k es xs,ob=.sl k es xs/\cG k=true/\y=.hptr (ν d).1 ((ν d).2+i) o:=by cases r with|el _ _ _ _ t=>grind
def c9.Cs{d:Nat}{y:V}(r:c9 ν m H Z (.mp d) y){ob:bK}(h:bl m d=some ob):∃B,ob=.mp B/\y=.hmap (ν d).1:=by cases r with|mp _ _ t=>grind
def c9.jI{f:Zk}{a b:Zw}{y:V}(r:c9 ν m H Z (.clo f a b) y):∃a' B,y=.clo f a' B/\bY ν m H Z a a'/\bY ν m H Z b B:=by cases r with|clo _ _ _ a' B u w hva t=>exact⟨a',B,rfl,⟨u,hva⟩,⟨w,t⟩⟩
def c9.pR{a:Zw}{y:V}(r:c9 ν m H Z (.tup a) y):∃a',y=.tup a'/\bY ν m H Z a a':=by cases r with|tup _ a' t hva=>exact⟨a',rfl,t,hva⟩
def c9.iu{a:Zw}{y:V}(r:c9 ν m H Z (.agg a) y):∃a',y=.agg a'/\bY ν m H Z a a':=by cases r with|agg _ a' t hva=>exact⟨a',rfl,t,hva⟩
def rz{p:Nat×Nat}{k:Fl}{es len:Nat}(h:cG k=true):qP p k es len=.hsl p.1 es p.2 len:=by cases k<;>simp[cG]at h<;>rfl
def kX{x:SV}{y:V}(h:lS m x=true)(r:c9 ν m H Z x y):y.cells=[y]/\y.one=true:=by cases x with|v x=>simp[lS]at h|own d=>have⟨ob,t⟩:=isSome_iff_exists.1 h;obtain⟨k,es,u,rfl,rfl⟩:=r.jG t;cases k<;>exact⟨rfl,rfl⟩|ptr d o=>have⟨ob,t⟩:=isSome_iff_exists.1 h;obtain⟨z,rfl,rfl⟩:=r.nZ t;exact⟨rfl,rfl⟩|el d i o=>have⟨ob,t⟩:=isSome_iff_exists.1 h;obtain⟨k,es,u,rfl,_,rfl⟩:=r.w5 t;exact⟨rfl,rfl⟩|mp d=>have⟨ob,t⟩:=isSome_iff_exists.1 h;obtain⟨w,rfl,rfl⟩:=r.Cs t;exact⟨rfl,rfl⟩|clo f a b=>obtain⟨B,C,rfl,_⟩:=r.jI;exact⟨rfl,rfl⟩|tup l=>simp[lS]at h|agg l=>simp[lS]at h|yl id=>simp[lS]at h
def Mt{x:SV}{y:V}(h:xI m x=true)(r:c9 ν m H Z x y):y.one=true:=by
 cases x with
 |v x=>
  have t:=r.fr;have u:x.one=true:=h;have c:=t.cells;have e:x.cells=[x]:=by cases x<;>first|rfl|(simp[V.one]at u)
  rw[e]at c;have g:=c.one;have w:=c.1
  cases y with
  |agg l=>cases t with|same _ _=>grind|agg _ _ _ _=>simp[V.one]at u
  |tup l=>cases t with|same _ _=>grind|tup _ _ _ _=>simp[V.one]at u
  |_=>rfl
 |own d=>exact(kX (x:=.own d) h r).2|ptr d o=>exact(kX (x:=.ptr d o) h r).2|el d i o=>exact(kX (x:=.el d i o) h r).2|mp d=>exact(kX (x:=.mp d) h r).2|clo f a b=>exact(kX (x:=.clo f a b) h r).2|tup l=>simp[xI,lS]at h|agg l=>simp[xI,lS]at h|yl id=>simp[xI,lS]at h
def EB{l:Zw}{ys:Zu}(h:l.all (xI m)=true)(r:bY ν m H Z l ys):ys.all V.one=true:=by
 refine all_eq_true.2 λy u=>?_;have⟨j,w,e⟩:=List.mem_iff_getElem.1 u;have t:j<l.length:=by rw[r.1];omega
 exact Mt (all_eq_true.1 h _ (List.getElem_mem t)) (r.2 j _ y (ζd t) Zd)
def Ll{x:SV}{y:V}{c:Zw}(h:Gq m x=some c)(r:c9 ν m H Z x y):bY ν m H Z c y.cells:=by
 unfold Gq at h;split at h;cases h;exact bY.qu r.fr.cells;cases h;obtain⟨w,rfl,t⟩:=r.iu;exact t;split at h;next u=>cases h;rw[(kX u r).1];exact .cons r .nil
 simp_all
def G7:∀{pl:aZ (Nat×Nat)}{vs cells l:Zw}{B cells':Zu},bY ν m H Z cells cells'->bY ν m H Z vs B->x_ m cells pl vs=some l->∃D,jZ cells' pl B=some D/\bY ν m H Z l D
 |[],[],cells,l,B,cells',hc,hv,h=>by rw[hv.cU];simp[x_]at h;subst h;exact⟨_,rfl,hc⟩|[],_::_,_,_,_,_,_,_,h=>by simp[x_]at h|_::_,[],_,_,_,_,_,_,h=>by simp[x_]at h|(off,size)::pl,v::vs,cells,l,B,cells',hc,hv,h=>by obtain⟨w,G,rfl,b,J⟩:=hv.inv;simp only[x_]at h;split at h;rename_i c u;have a:=Ll u b;split at h;have⟨D,e1,e2⟩:=G7 (cells':=cells'.take off++w.cells++cells'.drop (off+w.cells.length)) (by rw[<-a.1];exact((hc.take off).append a).append (hc.drop _)) J h;have t:w.cells.length=size/\off+w.cells.length<=cells'.length:=(by rw[<-a.1,<-hc.1];omega);simp[jZ];grind;simp_all;simp_all
def Gj{size o:Nat}{agg:Zl}{cs:Zw}{B:Zu}{sv:SV}(h:bY ν m H Z cs B)(a:ue size agg ((cs.drop o).take size)=some sv):∃y,(cut B o size).bind (mk agg)=some y/\c9 ν m H Z sv y:=by
 have t:=(h.drop o).take size;unfold ue at a;split at a;have b:cut B o size=some ((B.drop o).take size):=by unfold cut;rw[if_pos (by rw[<-t.1];omega)]
 rw[b];split at a;split at a;rename_i D u;cases a;have w:=by rw[tD u]at t;exact t.R2
 exact⟨_,by unfold mk;grind,.v _ _ (.agg _ _ w.1 w.2)⟩;cases a;exact⟨_,by unfold mk;grind,.agg _ _ t.1 t.2⟩;split at a;next x u=>simp at a;subst a;rw[u]at t;have⟨y,G,e,z,C⟩:=t.inv;rw[e,C.cU];exact⟨y,by unfold mk;grind,z⟩
 grind;grind
def NY{p:ud}{svs:Zw}{ys:Zu}{sv:SV}(n:∀zero pl,p=.build zero pl->V.cE zero=true)(o:∀d ob,bl m d=some ob->dY ν m H Z d ob)(h:bY ν m H Z svs ys)(c:Ao N m p svs=some sv):∃y,bn N p ys=some y/\c9 ν m H Z sv y:=by
 unfold Ao at c;split at c;obtain⟨y,_,rfl,f,w⟩:=h.inv;rw[w.cU];simp at c;subst c;exact⟨y,rfl,f⟩;obtain⟨y,_,rfl,f,w⟩:=h.inv;rw[w.cU];split at c;next J=>simp at c;subst c;have⟨ob,u⟩:=isSome_iff_exists.1 J;obtain⟨cs,rfl,rfl⟩:=f.nZ u;exact⟨_,rfl,f⟩
 grind;obtain⟨y,_,rfl,f,w⟩:=h.inv;rw[w.cU];split at c;next J=>simp at c;subst c;have⟨ob,u⟩:=isSome_iff_exists.1 J;obtain⟨k,es,Q,rfl,g,rfl⟩:=f.w5 u;exact⟨_,rfl,f⟩
 grind;rename_i t a b;obtain⟨I,_,rfl,f,w⟩:=h.inv;obtain⟨S,_,rfl,D,C⟩:=w.inv;obtain⟨q,_,rfl,K,r⟩:=C.inv;rw[f.fr.bool,r.cU];simp at c;refine⟨if t=true then S else q,rfl,?_⟩;grind
 .obtain⟨I,_,rfl,f,w⟩:=h.inv;obtain⟨S,_,rfl,D,C⟩:=w.inv;rw[D.fr.bJ,C.cU];split at c
  .rename_i k es Q u;split at c;simp_all;simp at c;subst c;obtain⟨T,L,O,e,rfl⟩:=f.jG u;cases e;cases k<;>first|grind|exact⟨_,rfl,.v _ _ (.same _ rfl)⟩
  grind
 .obtain⟨I,_,rfl,f,w⟩:=h.inv;obtain⟨S,_,rfl,D,C⟩:=w.inv;rw[D.fr.bJ,C.cU];split at c
  .rename_i k es Q u;split at c;simp_all;simp at c;subst c;obtain⟨T,L,O,e,rfl⟩:=f.jG u;cases e;cases k<;>first|grind|exact⟨_,rfl,.v _ _ (.same _ rfl)⟩
  grind
 obtain⟨y,_,rfl,f,w⟩:=h.inv;rw[w.cU];split at c;next J=>simp at c;subst c;have⟨ob,u⟩:=isSome_iff_exists.1 J;obtain⟨cs,rfl,rfl⟩:=f.nZ u;exact⟨_,rfl,.ptr _ _ _ λG B=>Zd⟩
 grind;obtain⟨y,_,rfl,f,w⟩:=h.inv;rw[w.cU];split at c;next J=>simp at c;subst c;have⟨ob,u⟩:=isSome_iff_exists.1 J;obtain⟨k,es,Q,rfl,g,rfl⟩:=f.w5 u;exact⟨_,rfl,.el _ _ _ _ λG B=>by rw[u]at B;cases B;exact⟨_,_,_,rfl,g,rfl⟩⟩
 simp at c;obtain⟨I,_,rfl,f,w⟩:=h.inv;obtain⟨S,_,rfl,D,C⟩:=w.inv;rw[D.fr.int,C.cU];split at c;rename_i k es Q u;split at c;rename_i i;obtain⟨g,rfl,s,U⟩:=i;simp at c;subst c;obtain⟨T,L,O,e,rfl⟩:=f.jG u;cases e;rw[rz g];refine⟨.hptr (ν _).1 ((ν _).2+_) 0,by simp only[bn,kU,if_neg (Int.not_lt.2 s),true_and,if_pos U];rfl,.el _ _ _ _ λG B=>?_⟩;rw[u]at B;cases B;exact⟨_,_,_,rfl,g,rfl⟩;simp at c;simp at c;obtain⟨I,_,rfl,f,w⟩:=h.inv;obtain⟨S,_,rfl,D,C⟩:=w.inv;rw[D.fr.int,C.cU];split at c;rename_i i;simp at c;subst c;have⟨ob,u⟩:=isSome_iff_exists.1 i.2.2;obtain⟨cs,rfl,rfl⟩:=f.nZ u;refine⟨.hptr (ν _).1 0 (_+_),by simp only[bn,vF,if_pos (And.intro i.1 i.2.1)];rfl,.ptr _ _ _ λG B=>?_⟩;rw[u]at B;cases B;exact⟨_,rfl,rfl⟩;simp at c;obtain⟨I,_,rfl,f,w⟩:=h.inv;obtain⟨S,_,rfl,D,C⟩:=w.inv;rw[D.fr.int,C.cU];split at c;rename_i i;simp at c;subst c;have⟨ob,u⟩:=isSome_iff_exists.1 i.2.2;obtain⟨k,es,Q,rfl,g,rfl⟩:=f.w5 u;refine⟨.hptr (ν _).1 (_+_) (_+_),by simp only[bn,vF,if_pos (And.intro i.1 i.2.1)];rfl,.el _ _ _ _ λG B=>?_⟩;rw[u]at B;cases B;exact⟨_,_,_,rfl,g,rfl⟩;simp at c;obtain⟨I,_,rfl,f,w⟩:=h.inv;rw[w.cU];split at c;rename_i k es Q u;simp at c;subst c;obtain⟨T,L,O,e,rfl⟩:=f.jG u;cases e;have:=o _ _ u;simp[dY]at this;cases g:k<;>simp[g,cG]at this⊢;subst this;exact⟨_,rfl,.v _ _ (.same _ rfl)⟩;subst this;exact⟨_,rfl,.v _ _ (.same _ rfl)⟩;exact⟨_,rfl,.v _ _ (.same _ rfl)⟩;exact⟨_,rfl,.v _ _ (.same _ rfl)⟩;simp at c;rename_i vs j k;simp at c;subst c;exact⟨_,rfl,.clo _ _ _ _ _ (h.take k).1 (h.drop k).1 (h.take k).2 (h.drop k).2⟩;obtain⟨I,_,rfl,f,w⟩:=h.inv;rw[w.cU];obtain⟨v,rfl,W⟩:=f.pR;have⟨z,x,X⟩:=W.get c;exact⟨z,x,X⟩;rename_i vs zero pl;obtain⟨l,A,rfl⟩:=ζf.1 c;have⟨E,f,w⟩:=G7 (bY.qu (di.same (n zero pl rfl))) h A;exact⟨.agg E,by simp[Go.VE.bn,f],.agg _ _ w.1 w.2⟩;obtain⟨I,_,rfl,f,w⟩:=h.inv;rw[w.cU];obtain⟨v,rfl,W⟩:=f.iu;have⟨y,F,Y⟩:=Gj W c;exact⟨y,by simp[Go.VE.bn];exact F,Y⟩;grind
def FE{p:ud}{svs:Zw}{ys:Zu}{sv:SV}(B:∀zero pl,p=.build zero pl->V.cE zero=true)(D:∀d ob,bl m d=some ob->dY ν m H Z d ob)(h:bY ν m H Z svs ys)(a:jP N m p svs=some sv):
 ∃y,bn N p ys=some y/\c9 ν m H Z sv y:=by
 unfold jP at a;split at a
 next G t=>obtain⟨z,u,rfl⟩:=ζf.1 a;rw[tD t]at h;have⟨w,b,C⟩:=di.bn B h.R2 u;exact⟨w,b,.v _ _ C⟩
 exact NY B D h a
def bY.dy{svs:Zw}{xs ys:Zu}(h:bY ν m H Z svs ys)(B:dy svs=some xs):di H Z xs ys:=by rw[tD B]at h;exact h.R2
def Bx{k:V}:∀{a b:aZ (V×V)}{i:Nat},Cl H Z a b->(iy k a i=some none->iy k b i=some none)/\∀j v,iy k a i=some (some (j,v))->∃B,iy k b i=some (some (j,B))/\FR H Z v B
 |[],b,i,h=>by have:b=[]:=length_eq_zero_iff.1 (by have:=h.1;grind);subst this;exact⟨λh=>h,λj v h=>by simp[iy]at h⟩|(t,x)::a,[],i,h=>by have:=h.1;grind|(t,x)::a,(z,y)::b,i,h=>by have⟨⟨e,_⟩,C⟩:=h.2 0 _ _ rfl rfl;subst e;have w:Cl H Z a b:=⟨by have:=h.1;grind,λj u v c d=>h.2 (j+1) u v Zd Zd⟩;have D:=Bx (i:=i+1) (k:=k) w;simp only[iy];grind
def uj{kk:wv}{k:V}(h:oT kk k=true):k.scalar=true:=by unfold oT at h;split at h;rfl;rfl;simp at h;have⟨a,t⟩:=isSome_iff_exists.1 h.2;exact qh t;grind
def vi{r:Iz}{svs:Zw}{ys:Zu}{sv:SV}(ab:∀s a,r≠.loadF s a)(U:∀kk z ok,r=.lookup kk z ok->z.good=true)(h:bY ν m H Z svs ys)(A:∀d,SV.dB d svs=true->∀ob,bl m d=some ob->dY ν m H Z d ob)(b:ow m r svs=some sv):
 ∃y,eP H r ys=some y/\c9 ν m H Z sv y:=by
 unfold ow at b;split at b
 .
  obtain⟨W,_,rfl,f,I⟩:=h.inv;rw[I.cU];split at b
  .rename_i cs t;obtain⟨al,e,rfl⟩:=f.nZ t;obtain⟨es,am,g,o,_⟩:=A _ (by simp[SV.dB,SV.cQ]) _ t
   obtain⟨y,hy,ad⟩:=Gj o b;refine⟨y,?_,ad⟩;simp[eP,eo,g,Ob.rows,getElem?_cons_zero];omega
  grind
 .
  obtain⟨W,_,rfl,f,I⟩:=h.inv;rw[I.cU];split at b
  .rename_i k es xs t;split at b
   .rename_i cs X;obtain⟨z,J,rfl⟩:=ζf.1 b;obtain⟨k1,an,ao,e,n,rfl⟩:=f.w5 t;cases e;have:=A _ (by simp[SV.dB,SV.cQ]) _ t
    simp[dY,n]at this;obtain⟨rs,g,hl,w,_⟩:=this;obtain⟨c,o,ae⟩:=w.get X;have hj:=(ζe.1 X).1;rw[getElem?_take,if_pos hj,getElem?_drop]at o;obtain⟨r1,u,B⟩:=ζg.1 J;obtain⟨r2,O,C⟩:=ae.cut u;obtain⟨q,Q,Y⟩:=C.mk B;refine⟨q,?_,.v _ _ Y⟩;simp[eP,eo,g,Ob.rows,o,O,Q]
   grind
  grind
 .
  rename_i size agg p;obtain⟨W,_,rfl,f,I⟩:=h.inv;rw[I.cU];obtain⟨z,J,rfl⟩:=ζf.1 b;obtain⟨r1,u,B⟩:=ζg.1 J;unfold eo at u;split at u
  .rename_i cs;rcases f.fr.lH with rfl|⟨id,el,off,es,ys,af,rfl,Y,g,he,ap,w⟩
   .refine⟨z,by simp[eP,eo,u,B],.v _ _ (.same _ ?_)⟩
    have ah:=by have:=f.fr.good;simpa[V.good]using this
    obtain⟨r',aq,C⟩:=(di.same (H:=H) (Z:=Z) ah).cut u;obtain⟨q,Q,D⟩:=C.mk B;exact D.good
   obtain⟨r2,O,C⟩:=w.cut u;obtain⟨q,Q,D⟩:=C.mk B;refine⟨q,?_,.v _ _ D⟩;unfold br at g;simp[eP,eo,g,he];have:cut af off size=some r2:=by unfold cut at O⊢;grind
   grind
  .grind
  grind
 .
  rename_i kk z ok d k;obtain⟨W,_,rfl,f,I⟩:=h.inv;obtain⟨M,_,rfl,E,F⟩:=I.inv;rw[F.cU];split at b
  .rename_i S t;split at b
   .rename_i n;obtain⟨_,e,rfl⟩:=f.Cs t;have T:=E.fr.scalar.1 (uj n);subst T;obtain⟨ak,g,ai⟩:=A _ (by simp[SV.dB,SV.cQ]) _ t
    obtain⟨f1,f2⟩:=Bx ai;split at b
    .rename_i j v w;obtain⟨N,aj,P⟩:=f2 j v w;simp at b;subst b;refine⟨if ok=true then .tup [N,.bool true]else N,by simp[eP,l_,g,n,aj],?_⟩
     cases ok
     .exact .v _ _ P
     refine .v _ _ (.tup _ _ rfl (di.cons P (.cons (.same _ rfl) .nil)).2)
    .rename_i w;simp at b;subst b;refine⟨if ok=true then .tup [z,.bool false]else z,by simp[eP,l_,g,n,f1 w],?_⟩
     have J:=U kk z ok rfl;cases ok
     .exact .v _ _ (.same _ J)
     exact .v _ _ (.same _ (by simp[V.good,V.cE,J]))
    grind
   grind
  grind
 .
  rename_i kk z ok p k;obtain⟨W,_,rfl,f,I⟩:=h.inv;obtain⟨M,_,rfl,E,F⟩:=I.inv;rw[F.cU];obtain⟨x,G,rfl⟩:=ζf.1 b;simp[eP]at G;have J:=U kk z ok rfl;split at G
  .rename_i S L;have key:l_ H W=some S/\V.rC S=true:=by
    unfold l_ at L;split at L
    .rw[f.fr.gb];simp at L;subst L;exact⟨rfl,rfl⟩
    .rw[f.fr.fmap];simp at L;subst L;exact⟨rfl,by have:=f.fr.good;simpa[V.good]using this⟩
    .simp at L
    simp at L
   split at G
   .rename_i n;have T:=E.fr.scalar.1 (uj n);subst T;split at G
    .rename_i j v w;simp at G;subst G;have R:=by
      have:∀{l:aZ (V×V)}{i:Nat},V.rC l=true->iy M l i=some (some (j,v))->v.good=true:=by intro l;induction l with|nil=>intro i _ h;simp[iy]at h|cons p l ih=>intro i K h;simp[V.rC]at K;simp[iy]at h;split at h;obtain⟨_,rfl⟩:=h;exact K.1.2;exact ih K.2 h;simp at h
      exact this key.2 w
     refine⟨if ok=true then .tup [v,.bool true]else v,by simp[eP,key.1,n,w],?_⟩
     cases ok
     .exact .v _ _ (.same _ R)
     exact .v _ _ (.same _ (by simp[V.good,V.cE,R]))
    .rename_i w;simp at G;subst G;refine⟨if ok=true then .tup [z,.bool false]else z,by simp[eP,key.1,n,w],?_⟩
     cases ok
     .exact .v _ _ (.same _ J)
     exact .v _ _ (.same _ (by simp[V.good,V.cE,J]))
    simp at G
   simp at G
  simp at G
 .exact absurd rfl (ab _ _)
 grind
end
section
variable{Rv:Nat->Prop}{ν ν':Nu}{Z Z':Nat->Prop}{st st':St}{m m':Tb bK}{F F':Zo}{H H':bp}
def R.lt(r:R ν Z st F H){id:Nat}(h:fc ν st.m id):id<H.length:=by obtain⟨d,ob,b,t,rfl⟩:=h;have:=r.obj d ob b;cases ob with|sl k es B=>simp only[cz]at t;simp only[dY,t,if_true]at this;have⟨C,a,_⟩:=this;exact(ζe.1 a).1|box D=>have⟨es,w,a,_⟩:=this;exact(ζe.1 a).1|mp z=>have⟨u,a,_⟩:=this;exact(ζe.1 a).1
def R.vq(r:R ν Z st F H){id:Nat}(h:Z id):id<H.length:=by have:=r.zrow id h;unfold br at this;have⟨x,t⟩:=isSome_iff_exists.1 this;have⟨ob,a,_⟩:=ζg.1 t;exact(ζe.1 a).1
def Deep.mono(d:Deep H Z)(h:∀id,Z id->br H' id=br H id):Deep H' Z where
 row:=λid es w t hr c hc u hu=>by rw[h id t]at hr;have⟨x,z⟩:=d.row id es w t hr c hc u hu;exact⟨x,z.mono λk a=>⟨a,h k a⟩⟩
def uv.mono{ys:Zt}(h:∀id,Z id->Z' id/\br H' id=br H id)(s:uv H Z ys):uv H' Z' ys:=λc a u b=>by have⟨x,t⟩:=s c a u b;exact⟨x,t.mono h⟩
def Cl.mono{a b:aZ (V×V)}(h:∀id,Z id->Z' id/\br H' id=br H id)(s:Cl H Z a b):Cl H' Z' a b:=⟨s.1,λj u v c d=>⟨(s.2 j u v c d).1,(s.2 j u v c d).2.mono h⟩⟩
def dY.mono{d J:Nat}{ob:bK}(B:∀id,Z id->Z' id/\br H' id=br H id)(D:ν' J=ν d)(G:cz ob=true->H'[(ν d).1]?=H[(ν d).1]?)
 (O:∀e,ob.cQ e=true->∀ob',bl m' e=some ob'->∃ob,bl m e=some ob/\ν' e=ν e/\sameShape ob ob')(o:dY ν m H Z d ob):dY ν' m' H' Z' J ob:=by
 cases ob with
 |sl k es S=>
  simp only[dY,D]at o⊢;split
  next b=>rw[if_pos b]at o;have⟨C,a,t,w,I,L⟩:=o;exact⟨C,by rw[G (by simpa[cz]using b)];exact a,t,w.mono B,I.mono B,L⟩
  rename_i b;rw[if_neg b]at o;exact o
 |box T=>have⟨es,z,a,t,w⟩:=o;exact⟨es,z,by rw[D,G rfl];exact a,t.mono B O,w⟩|mp Q=>have⟨u,a,t⟩:=o;exact⟨u,by rw[D,G rfl];exact a,t.mono B⟩
def iM(ν:Nu)(m:Tb bK)(e:Nat):∀ob',bl m e=some ob'->∃ob,bl m e=some ob/\ν e=ν e/\sameShape ob ob':=λob' h=>⟨ob',h,rfl,.refl _⟩
def R.heap(r:R ν Z st F H)(D:∀id,fc ν st.m id->H'[id]?=H[id]?)(B:∀id,Z id->br H' id=br H id):R ν Z st F H' where
 slot:=λs u w=>(r.slot s u w).mono (λid h=>⟨h,B id h⟩) λd _=>iM ν st.m d
 obj:=λd ob t=>dY.mono (λid h=>⟨h,B id h⟩) rfl (λz=>D _ ⟨d,ob,t,z,rfl⟩) (λe _=>iM ν st.m e) (r.obj d ob t)
 inj:=r.inj
 apart:=r.apart
 zrow:=λid h=>by rw[B id h];exact r.zrow id h
 deep:=r.deep.mono B
def R.put(r:R ν Z st F H){d:Nat}{sv:SV}{y:V}(h:c9 ν st.m H Z sv y):R ν Z {st with g:=bR st.g d sv} (set F d y) H where
 slot:=λs x t=>by by_cases e:d=s;subst e;rw[cF]at t;cases t;rw[rF];exact h;rw[dN st.g sv e]at t;rw[iW _ _ e];exact r.slot s x t
 obj:=r.obj
 inj:=r.inj
 apart:=r.apart
 zrow:=r.zrow
 deep:=r.deep
def Ev.slots(g:Tb SV):Ev Rv ν Z st H ν Z {st with g:=g} H:=⟨le_refl _,λ_ _ _ _ _=>rfl,λ_ h=>⟨h,rfl⟩,λ_ h=>.inl h,λ_ h=>.inl h,λ_ _ t h=>⟨t,h,rfl,.refl _⟩,rfl⟩
def iF(ν:Nu)(d:Nat)(p:Nat×Nat):Nu:=λk=>if k=d then p else ν k
def gD(ν:Nu)(d:Nat)(p:Nat×Nat):iF ν d p d=p:=if_pos rfl
def nY(ν:Nu){d k:Nat}(p:Nat×Nat)(h:k≠d):iF ν d p k=ν k:=if_neg h
def lJ{d:Nat}(h:st.new d=true):d∉st.pin/\bl st.m d=none/\uD d st.g=false/\rR d st.m=false:=by unfold St.new at h;simp only[ζh,not_eq_true',Option.isNone_iff_eq_none,List.contains_eq_mem,decide_eq_false_iff_not]at h;exact⟨h.1.1.1,h.1.1.2,h.1.2,h.2⟩
def sA{d:Nat}{ob:bK}{p:Nat×Nat}{e:Nat}(h:e≠d):∀ob',bl (bR m d ob) e=some ob'->∃ob,bl m e=some ob/\iF ν d p e=ν e/\sameShape ob ob':=λob' t=>by rw[dN m ob (symm h)]at t;exact⟨ob',t,nY ν p h,.refl _⟩
def R.add(r:R ν Z st F H){d:Nat}(O:st.new d=true){ob:bK}{p:Nat×Nat}(D:cz ob=true->¬fc ν st.m p.1/\¬Z p.1)(U:dY (iF ν d p) (bR st.m d ob) H Z d ob):
 R (iF ν d p) Z {st with m:=bR st.m d ob} F H:=by
 have⟨T,W,L,Q⟩:=lJ O;have key:∀u t,bl (bR st.m d ob) u=some t->u≠d->bl st.m u=some t:=λu t h e=>by rw[dN st.m ob (symm e)]at h;exact h
 refine⟨λs S I=>?_,λu t C=>?_,?_,?_,r.zrow,r.deep⟩
 .refine(r.slot s S I).mono (λid h=>⟨h,rfl⟩) λe J=>sA ?_
  rintro rfl;rw[xw L I]at J;cases J
 .by_cases e:u=d
  .subst e;simp only at C;rw[cF]at C;cases C;exact U
  have z:=key u t C e;refine dY.mono (λid h=>⟨h,rfl⟩) (nY ν p e) (λ_=>rfl) (λk c=>sA ?_) (r.obj u t z)
  rintro rfl;rw[w_ Q z]at c;cases c
 .intro b d2 o1 o2 a B w G hp
  by_cases e1:b=d<;>by_cases e2:d2=d
  .rw[e1,e2]
  .subst e1;rw[gD,nY ν p e2]at hp;simp only at a;rw[cF]at a;cases a;exact absurd ⟨d2,o2,key d2 o2 B e2,G,hp.symm⟩ (D w).1
  .subst e2;rw[gD,nY ν p e1]at hp;simp only at B;rw[cF]at B;cases B;exact absurd ⟨b,o1,key b o1 a e1,w,hp⟩ (D G).1
  rw[nY ν p e1,nY ν p e2]at hp;exact r.inj b d2 o1 o2 (key b o1 a e1) (key d2 o2 B e2) w G hp
 intro b o1 a w
 by_cases e1:b=d
 .subst e1;simp only at a;rw[cF]at a;cases a;rw[gD];exact(D w).2
 rw[nY ν p e1];exact r.apart b o1 (key b o1 a e1) w
def Db{d:Nat}{ob:bK}{p:Nat×Nat}{id:Nat}(h:fc (iF ν d p) (bR m d ob) id):fc ν m id\/(cz ob=true/\id=p.1):=by have⟨k,o,a,u,t⟩:=h;by_cases e:k=d;subst e;rw[cF]at a;cases a;rw[gD]at t;exact .inr ⟨u,t.symm⟩;rw[nY ν p e]at t;rw[dN m ob (symm e)]at a;exact .inl ⟨k,o,a,u,t⟩
def Ev.add{d:Nat}(B:st.new d=true){ob:bK}{p:Nat×Nat}(D:H.length<=H'.length)(G:∀id,id<H.length->¬Rv id->H'[id]?=H[id]?)(J:∀id,Z id->br H' id=br H id)
 (a:cz ob=true->Rv p.1\/H.length<=p.1):Ev Rv ν Z st H (iF ν d p) Z {st with m:=bR st.m d ob} H' where
 len:=D
 same:=λid h _ _ hr=>G id h hr
 rows:=λid h=>⟨h,J id h⟩
 own:=λid h=>by rcases Db h with h|⟨b,rfl⟩;exact .inl h;exact .inr (a b)
 frz:=λid h=>.inl h
 pin:=λe u t h=>by have:e≠d:=(by rintro rfl;exact(lJ B).1 u);exact sA this t h
 pins:=rfl
def R.gx(r:R ν Z st F H){d:Nat}{ob ob':bK}(b:bl st.m d=some ob)(D:sameShape ob ob')(W:cz ob'=cz ob)(U:∀id,id≠(ν d).1->H'[id]?=H[id]?)(B:cz ob=true)
 (Y:dY ν (bR st.m d ob') H' Z d ob'):R ν Z {st with m:=bR st.m d ob'} F H':=by
 have w:∀id,Z id->Z id/\br H' id=br H id:=λid h=>⟨h,by
  unfold br;rw[U id (by rintro rfl;exact r.apart d ob b B h)]⟩
 have Q:∀e t,bl (bR st.m d ob') e=some t->∃u,bl st.m e=some u/\ν e=ν e/\sameShape u t:=λe t h=>by by_cases k:e=d;subst k;rw[cF]at h;cases h;exact⟨ob,b,rfl,D⟩;rw[dN st.m ob' (symm k)]at h;exact⟨t,h,rfl,.refl _⟩
 have C:∀e t,bl (bR st.m d ob') e=some t->∃u,bl st.m e=some u/\cz u=cz t:=λe t h=>by by_cases k:e=d;subst k;rw[cF]at h;cases h;exact⟨ob,b,W.symm⟩;rw[dN st.m ob' (symm k)]at h;exact⟨t,h,rfl⟩
 refine⟨λs S D=>(r.slot s S D).mono w λe _=>Q e,λG t z=>?_,?_,?_,λid h=>by rw[(w id h).2];exact r.zrow id h,r.deep.mono λid h=>(w id h).2⟩
 .by_cases e:G=d
  .subst e;simp only at z;rw[cF]at z;cases z;exact Y
  simp only at z;rw[dN st.m ob' (symm e)]at z;refine dY.mono w rfl (λI=>U _ λh=>e (r.inj G d t ob z b I B h)) (λk _=>Q k) (r.obj G t z)
 .intro a d2 o1 o2 c T J X hp;have⟨p1,L,O⟩:=C a o1 c;have⟨p2,f,g⟩:=C d2 o2 T;exact r.inj a d2 p1 p2 L f (by rw[O];exact J) (by rw[g];exact X) hp
 intro a o1 c J;have⟨p1,L,O⟩:=C a o1 c;exact r.apart a p1 L (by rw[O];exact J)
def Ev.gx(r:R ν Z st F H){d:Nat}{ob ob':bK}(a:bl st.m d=some ob)(G:sameShape ob ob')(O:cz ob'=cz ob)(D:∀id,id≠(ν d).1->H'[id]?=H[id]?)(B:cz ob=true)(J:H.length<=H'.length):
 Ev Rv ν Z st H ν Z {st with m:=bR st.m d ob'} H' where
 len:=J
 same:=λid _ w _ _=>D id λe=>w ⟨d,ob,a,B,e.symm⟩
 rows:=λid h=>⟨h,by unfold br;rw[D id (by rintro rfl;exact r.apart d ob a B h)]⟩
 own:=λid⟨k,o,h1,z,u⟩=>by by_cases e:k=d;subst e;simp only at h1;rw[cF]at h1;cases h1;exact .inl ⟨k,ob,a,B,u⟩;simp only at h1;rw[dN st.m ob' (symm e)]at h1;exact .inl ⟨k,o,h1,z,u⟩
 frz:=λid h=>.inl h
 pin:=λe _ t h=>by by_cases k:e=d;subst k;simp only at h;rw[cF]at h;cases h;exact⟨ob,a,rfl,G⟩;simp only at h;rw[dN st.m ob' (symm k)]at h;exact⟨t,h,rfl,.refl _⟩
 pins:=rfl
def R.less(r:R ν Z st F H){g:Tb SV}{m':Tb bK}(a:∀s sv,bl g s=some sv->bl st.g s=some sv)(B:∀d ob,bl m' d=some ob->bl st.m d=some ob):R ν Z {st with g:=g,m:=m'} F H where
 slot:=λs sv w=>(r.slot s sv (a s sv w)).mono (λid h=>⟨h,rfl⟩) λe _ t h=>⟨t,B e t h,rfl,.refl _⟩
 obj:=λd ob z=>dY.mono (λid h=>⟨h,rfl⟩) rfl (λ_=>rfl) (λe _ t h=>⟨t,B e t h,rfl,.refl _⟩) (r.obj d ob (B d ob z))
 inj:=λd u ob t b C=>r.inj d u ob t (B d ob b) (B u t C)
 apart:=λd ob h=>r.apart d ob (B d ob h)
 zrow:=r.zrow
 deep:=r.deep
def Ev.less{g:Tb SV}{m':Tb bK}(B:∀d ob,bl m' d=some ob->bl st.m d=some ob):Ev Rv ν Z st H ν Z {st with g:=g,m:=m'} H:=⟨le_refl _,λ_ _ _ _ _=>rfl,λ_ h=>⟨h,rfl⟩,λ_⟨d,ob,a,u,w⟩=>.inl ⟨d,ob,B d ob a,u,w⟩,λ_ h=>.inl h,λe _ t h=>⟨t,B e t h,rfl,.refl _⟩,rfl⟩
def Ev.heap(B:H.length<=H'.length)(D:∀id,id<H.length->¬fc ν st.m id->¬Z id->¬Rv id->H'[id]?=H[id]?)(G:∀id,Z id->br H' id=br H id):Ev Rv ν Z st H ν Z st H':=⟨B,D,λid h=>⟨h,G id h⟩,λ_ h=>.inl h,λ_ h=>.inl h,λ_ _ t h=>⟨t,h,rfl,.refl _⟩,rfl⟩
def fR.E3{xs ys:Zt}(h:fR H Z xs ys):uv H Z ys:=λc b u d=>by
 have⟨i,w⟩:=mem_iff_getElem?.1 b;have z:i<xs.length:=by rw[h.1];grind
 have a:=h.2 i _ c (ζd z) w;have⟨j,B⟩:=mem_iff_getElem?.1 d;have t:j<(xs[i]).length:=by rw[a.1];grind
 exact⟨_,a.2 j _ u (ζd t) B⟩
def fR.same{xs:Zt}(h:V.nM xs=true):fR H Z xs xs:=⟨rfl,λj u v a b=>by rw[a]at b;cases b;exact di.same (jY.1 h j u a)⟩
def nC{z:Zu}(h:V.cE z=true):∀n,V.nM (replicate n z)=true
 |0=>rfl|n+1=>by simp[List.replicate_succ,V.nM,h,nC h n]
def AA{es:Nat}:∀{ps qs:aZ (Nat×V)}{xs B r:Zt},fR H Z xs B->ps.map (·.1)=qs.map (·.1)->di H Z (ps.map (·.2)) (qs.map (·.2))->eY es xs ps=some r->∃G,eY es B qs=some G/\fR H Z r G
 |[],qs,xs,B,r,D,a,J,h=>by have:qs=[]:=Ze;subst this;simp[eY]at h⊢;grind|(i,v)::ps,qs,xs,B,r,D,a,J,h=>by cases qs with|nil=>simp_all|cons q qs=>obtain⟨j,w⟩:=q;simp at a;obtain⟨e,a⟩:=a;subst e;obtain⟨w',z,e,t,u⟩:=J.inv;obtain⟨rfl,rfl⟩:=e;have b:=t.cells;simp only[eY]at h⊢;split at h;rw[if_pos ⟨by rw[<-b.1];grind,by rw[<-D.1];grind,by rw[b.one];grind⟩];exact AA (D.set i b) a u h;grind
def Dj:∀{idx:Zv}{xs:Zu},idx.length=xs.length->(idx.zip xs).map (·.1)=idx
 |[],xs,_=>Zc|i::idx,[],h=>Ze|i::idx,x::xs,h=>by simp[Dj (idx:=idx) (xs:=xs) Zd]
def Dy:∀{idx:Zv}{xs:Zu},idx.length=xs.length->(idx.zip xs).map (·.2)=xs
 |[],[],_=>Zc|[],x::xs,h=>Ze|i::idx,[],h=>Ze|i::idx,x::xs,h=>by simp[Dy (idx:=idx) (xs:=xs) Zd]
def Lx{a:Mw}{svs:Zw}{ys:Zu}{d:Nat}{ob:bK}{sv:SV}(b:Am (.a a)=true)(r:bY ν m H Z svs ys)(h:oW m a svs d=some (ob,sv)):
 ∃o mk,gT a ys=some (o,mk)/\cz ob=true/\o≠.free/\∀(id:Nat)(ν':Nu)(m':Tb bK)(H':bp),ν' d=(id,0)->bl m' d=some ob->H'[id]?=some o->(∀k,Z k->br H' k=br H k)->
  (∀e,SV.dB e svs=true->∀ob',bl m' e=some ob'->∃ob,bl m e=some ob/\ν' e=ν e/\sameShape ob ob')->dY ν' m' H' Z d ob/\c9 ν' m' H' Z sv (mk.val id):=by
 unfold oW at h;split at h
 .
  rename_i size zero;obtain⟨rfl,rfl⟩:=h;rw[r.cU];simp only[Am,ζh]at b;refine⟨_,_,rfl,rfl,Zc,λid ν' m' H' e1 e2 e3 e4 e5=>⟨⟨_,zero,by rw[e1];omega,bY.qu (di.same b.1),b.2⟩,?_⟩⟩
  exact .ptr _ _ _ λob' t=>by rw[e2]at t;cases t;exact⟨_,rfl,by rw[e1];rfl⟩
 .
  split at h
  .rename_i C;obtain⟨rfl,rfl⟩:=h;obtain⟨y,_,rfl,f,B⟩:=r.inv;rw[B.cU];have g:=f.fr.cells;refine⟨.row y.cells.length [y.cells],.ptr,by simp[gT,g.one,C],rfl,Zc,λid ν' m' H' e1 e2 e3 e4 e5=>⟨⟨_,y.cells,by rw[e1];omega,bY.qu (g.mono λk b=>⟨b,e4 k b⟩),by rw[g.one];simp_all⟩,?_⟩⟩
   exact .ptr _ _ _ λob' t=>by rw[e2]at t;cases t;exact⟨_,rfl,by rw[e1];rfl⟩
  grind
 .
  split at h
  .rename_i z;obtain⟨rfl,rfl⟩:=h;obtain⟨y,_,rfl,f,B⟩:=r.inv;rw[B.cU];obtain⟨Q,rfl,W⟩:=f.iu;have J:=EB z W;refine⟨.row Q.length [Q],.ptr,by simp[gT,V.cells,J],rfl,Zc,λid ν' m' H' e1 e2 e3 e4 e5=>⟨⟨_,Q,by rw[e1];omega,W.mono (λk b=>⟨b,e4 k b⟩) λe S=>e5 e (by simp[SV.dB,SV.cQ,S]),J⟩,?_⟩⟩
   exact .ptr _ _ _ λob' t=>by rw[e2]at t;cases t;exact⟨_,rfl,by rw[e1];rfl⟩
  grind
 .
  split at h
  .rename_i z;obtain⟨rfl,rfl⟩:=h;obtain⟨y,_,rfl,f,B⟩:=r.inv;rw[B.cU];obtain⟨X,J⟩:=kX z f;refine⟨.row [y].length [[y]],.ptr,by simp[gT,X,J],rfl,Zc,λid ν' m' H' e1 e2 e3 e4 e5=>⟨⟨_,[y],by rw[e1];omega,.cons (f.mono (λk b=>⟨b,e4 k b⟩) λe S=>e5 e (by simp[SV.dB,S])) .nil,Ze⟩,?_⟩⟩
   exact .ptr _ _ _ λob' t=>by rw[e2]at t;cases t;exact⟨_,rfl,by rw[e1];rfl⟩
  grind
 .
  rename_i size zero k n q c;obtain⟨_,_,rfl,f,B⟩:=r.inv;obtain⟨_,_,rfl,Y,i⟩:=B.inv;rw[f.fr.int,Y.fr.int,i.cU];split at h
  .rename_i g;obtain⟨rfl,rfl⟩:=h;have T:cG (if n=c then Fl.row else Fl.part)=true:=by split<;>rfl
   refine⟨_,_,by simp only[gT];rw[if_pos g],T,Zc,λid ν' m' H' e1 e2 e3 e4 e5=>⟨?_,?_⟩⟩
   .simp[dY,T,e1];have j:=nC b c.toNat;have U:n.toNat<=c.toNat:=by omega
    refine⟨_,e3,Ze,?_,(fR.same j).E3,λe=>?_⟩
    .simp[Nat.min_eq_left U];exact fR.same (nC b _)
    grind
   refine .own _ _ λob' t=>?_
   rw[e2]at t;cases t;exact⟨_,_,_,rfl,by rw[rz T,e1];simp[Mk.val]⟩
  grind
 .
  rename_i vs size len zero idx;split at h
  .rename_i xs hx;split at h
   .rename_i z;obtain⟨rows,l,e⟩:=ζf.1 h;obtain⟨rfl,rfl⟩:=e;have L:=r.dy hx;obtain⟨u,D,w⟩:=AA (qs:=idx.zip ys) (fR.same (nC b len)) (by rw[Dj z,Dj (by rw[<-L.1];exact z)]) (by rw[Dy z,Dy (by rw[<-L.1];exact z)];exact L) l
    have G:u.length=len:=by have:∀{O:aZ (Nat×V)}{a r:Zt},eY size a O=some r->r.length=a.length:=(by intro O;induction O with|nil=>intro a r h;simp[eY]at h;subst h;rfl|cons p O ih=>intro a r h;simp only[eY]at h;split at h;rw[ih h];simp;simp at h);rw[this D];simp
    refine⟨.row size u,.sl size len,by simp only[gT];rw[if_pos (by rw[<-L.1];exact z),D];rfl,rfl,Zc,λid ν' m' H' e1 e2 e3 e4 e5=>⟨?_,?_⟩⟩
    .have I:=w.mono λk b=>⟨b,e4 k b⟩
     simp only[dY,e1];refine⟨_,e3,by simp[w.1],?_,I.E3,λ_=>⟨trivial,w.1.symm⟩⟩
     simp[w.1];exact I
    refine .own _ _ λob' t=>?_
    rw[e2]at t;cases t;exact⟨_,_,_,rfl,by rw[w.1,G];simp[qP,e1,Mk.val]⟩
   grind
  grind
 .
  obtain⟨rfl,rfl⟩:=h;rw[r.cU];refine⟨_,_,rfl,rfl,Zc,λid ν' m' H' e1 e2 e3 e4 e5=>⟨⟨_,by rw[e1];exact e3,rfl,Zc⟩,?_⟩⟩
  exact .mp _ _ λob' t=>by rw[e2]at t;cases t;exact⟨_,rfl,by rw[e1];rfl⟩
 grind
def bY.R8{cs:Zw}{B:Zu}(h:bY ν m H Z cs B){size o:Nat}{x:SV}{y:V}{r:Zw}(G:c9 ν m H Z x y)(a:putCells m size o x cs=some r)(D:B.all V.one=true):
 y.cells.length=size/\o+size<=B.length/\y.cells.all V.one=true/\bY ν m H Z r (B.take o++y.cells++B.drop (o+y.cells.length))/\(B.take o++y.cells++B.drop (o+y.cells.length)).all V.one=true:=by
 have t:∀k:Nat,(B.take k).all V.one=true/\(B.drop k).all V.one=true:=λk=>⟨all_eq_true.2 λz w=>all_eq_true.1 D z (List.mem_of_mem_take w),all_eq_true.2 λz w=>all_eq_true.1 D z (mem_of_mem_drop w)⟩
 unfold putCells at a;split at a
 .split at a
  .rename_i hc;simp only[ζa]at a;subst a;have u:=G.fr.cells;refine⟨by rw[<-u.1];simp_all,by rw[<-h.1];grind,by rw[u.one];grind,?_,?_⟩
   .have e:y.cells.length=size:=by rw[<-u.1];simp_all
    rw[e];exact((h.take o).append (bY.qu u)).append (h.drop _)
   simp only[List.all_append,(t _).1,(t _).2,u.one,hc.2.2,Bool.and_self]
  grind
 .split at a
  .rename_i hc;simp only[ζa]at a;subst a;obtain⟨C,rfl,I⟩:=G.iu;have J:=EB hc.2.2 I;have e:C.length=size:=by rw[<-I.1];simp_all
   refine⟨e,by rw[<-h.1];grind,J,?_,?_⟩
   .show bY ν m H Z _ (B.take o++C++B.drop (o+C.length));rw[e];exact((h.take o).append I).append (h.drop _)
   simp[(t _).1,(t _).2,V.cells,J]
  grind
 split at a
 .rename_i hc;simp only[ζa]at a;subst a;have⟨L,O⟩:=kX hc.1 G;rw[L];refine⟨by simp[hc.2.1],by rw[<-h.1];grind,Ze,?_,?_⟩
  .exact((h.take o).append (.cons G .nil)).append (h.drop _)
  grind
 grind
def tn{size:Nat}{x:SV}{y:V}{xs:Zt}(r:c9 ν m H Z x y)(D:∀d ob,bl m d=some ob->dY ν m H Z d ob)(h:jQ m size x=some xs):∃ys,dD H size y=some ys/\fR H Z xs ys:=by
 unfold jQ at h;split at h;split at h;rename_i k es w t;obtain⟨_,_,_,e,rfl⟩:=r.jG t;cases e;have o:=D _ _ t;simp[dY]at o;split at h;rename_i a;rw[if_pos a]at o;split at h;next u=>simp at h;subst h;have⟨ys,b,z,B,_⟩:=o;rw[rz a];exact⟨_,by simp[dD,if_pos u,b,Ob.rows,if_pos z],B⟩
 grind;rename_i a;simp at h;subst h;refine⟨[],?_,rfl,Zc⟩;cases k<;>simp[cG]at a<;>rfl;grind;simp at h;subst h;rw[r.fr.bJ];exact⟨[],rfl,rfl,Zc⟩;simp at h;subst h;rw[r.fr.dG];exact⟨[],rfl,rfl,Zc⟩;split at h;rename_i es w u;simp at h;subst h;have c:=r.fr.good;rcases r.fr.lu with rfl|⟨id,off,ys,rfl,C,b,z,B⟩;exact⟨_,by simp[dD,if_pos u],fR.same (by simpa[V.good]using c)⟩;unfold br at b;exact⟨_,by simp[dD,if_pos u,b,if_pos z],B⟩;grind;grind
def Ev.re{m1:Tb bK}(B:∀d ob,bl m1 d=some ob->bl st.m d=some ob){d:Nat}(O:d∉st.pin){ob:bK}{p:Nat×Nat}(D:H.length<=H'.length)(G:∀id,id<H.length->¬fc ν st.m id->¬Rv id->H'[id]?=H[id]?)
 (J:∀id,Z id->br H' id=br H id)(b:cz ob=true->fc ν st.m p.1\/Rv p.1\/H.length<=p.1):Ev Rv ν Z st H (iF ν d p) Z {st with m:=bR m1 d ob} H' where
 len:=D
 same:=λid h z _ hr=>G id h z hr
 rows:=λid h=>⟨h,J id h⟩
 own:=λid h=>by rcases Db h with h|⟨a,rfl⟩;have⟨k,o,a,u,w⟩:=h;exact .inl ⟨k,o,B k o a,u,w⟩;grind
 frz:=λid h=>.inl h
 pin:=λe C t h=>by have:e≠d:=Zd;have⟨o,a,u,w⟩:=sA (ν:=ν) (p:=p) this t h;grind
 pins:=rfl
def Kept(dst:a_ Nat)(ν:Nu)(m:Tb bK)(ν':Nu)(m':Tb bK):Prop:=∀e t,dst≠some e->bl m' e=some t->∃ob,bl m e=some ob/\ν' e=ν e/\sameShape ob t
def Kept.refl{dst:a_ Nat}:Kept dst ν m ν m:=λe t _ h=>⟨t,h,rfl,.refl _⟩
def Kept.gx{dst:a_ Nat}{d:Nat}{ob ob':bK}(a:bl m d=some ob)(B:sameShape ob ob'):Kept dst ν m ν (bR m d ob'):=λe t _ h=>by by_cases k:e=d;subst k;rw[cF]at h;grind;rw[dN m ob' (symm k)]at h;exact⟨t,h,rfl,.refl _⟩
def Kept.add{d:Nat}{ob:bK}{p:Nat×Nat}{m1:Tb bK}(B:∀d ob,bl m1 d=some ob->bl m d=some ob):Kept (some d) ν m (iF ν d p) (bR m1 d ob):=λe t u h=>by have:e≠d:=λh=>u (by rw[h]);have⟨o,a,w,z⟩:=sA (ν:=ν) (p:=p) this t h;grind
def jV{d:Nat}:∀e ob,bl (dZ d m) e=some ob->bl m e=some ob:=λ_ _ h=>(ni h).2
def Cl.put{k x y:V}{a b r:aZ (V×V)}(D:k.scalar=true)(h:Cl H Z a b)(J:FR H Z x y)(c:oG k x a=some r):∃B,oG k y b=some B/\Cl H Z r B:=by unfold oG at c;obtain⟨g,f⟩:=Bx h;split at c;rename_i j v C;simp at c;subst c;obtain⟨I,z,_⟩:=f j v C;refine⟨b.set j (k,y),by unfold oG;rw[z],by simp[h.1],λi u w d t=>?_⟩;rw[getElem?_set]at d t;split at d;grind;rename_i e;rw[if_neg e]at t;exact h.2 i u w d t;simp at c;subst c;refine⟨b++[(k,y)],by unfold oG;simp_all,by simp[h.1],λi u w d t=>?_⟩;by_cases G:i<a.length;rw[getElem?_append_left G]at d;rw[getElem?_append_left (by rw[<-h.1];omega)]at t;exact h.2 i u w d t;rw[getElem?_append_right (by rw[<-h.1];omega),<-h.1]at t;grind;grind
def IG(r:R ν Z st F H){d:Nat}{cs:Zw}(B:bl st.m d=some (.box cs)):∀{l:Zw}{D:Zu},bY ν st.m H Z l D->l.all (I5 st.m d)=true->D.all (qf (ν d).1)=true:=by intro l;induction l with|nil=>intro D z _;rw[z.cU];rfl|cons a l L=>intro D z C;obtain⟨w,D,rfl,g1,g2⟩:=z.inv;simp only[all_cons,ζh]at C⊢;refine⟨?_,L g2 C.2⟩;have t:=C.1;unfold I5 at t;split at t;rename_i O S;simp at t;have⟨G,I⟩:=t;split at I;(next Q u=>obtain⟨_,_,rfl⟩:=g1.nZ u;simp[qf];exactλe=>G (r.inj O d _ _ u B rfl rfl e));grind;rcases FR.lH g1.fr with rfl|⟨id,el,off,_,_,_,rfl,J,_⟩;rfl;simp[qf];rintro rfl;exact r.apart d _ B rfl J;grind
def A0(r:R ν Z st F H){dst:a_ Nat}{l:IP}{svs:Zw}{ys:Zu}{sv:SV}(U:bY ν st.m H Z svs ys)(h:mh st dst l svs=some (sv,st')):
 ∃y H' ν',eV H l ys=some (y,H')/\R ν' Z st' F H'/\c9 ν' st'.m H' Z sv y/\Ev (λ_=>False) ν Z st H ν' Z st' H'/\Kept dst ν st.m ν' st'.m:=by
 unfold mh at h;split at h
 .
  rename_i size d o x;obtain⟨_,_,rfl,a,q⟩:=U.inv;obtain⟨y,_,rfl,n,A⟩:=q.inv;rw[A.cU];split at h
  .rename_i cs B;have⟨av,hp,e⟩:=ζf.1 h;obtain⟨rfl,rfl⟩:=e;obtain⟨_,_,rfl⟩:=a.nZ B;have⟨es,G,f,g,W⟩:=r.obj d _ B;have⟨p1,p2,p3,p4,p5⟩:=bY.R8 g n hp W;have J:∀id,id≠(ν d).1->(H.set (ν d).1 (.row es [G.take o++y.cells++G.drop (o+y.cells.length)]))[id]?=H[id]?:=λid I=>by grind
   have D:∀id,Z id->Z id/\br (H.set (ν d).1 (.row es [G.take o++y.cells++G.drop (o+y.cells.length)])) id=br H id:=λid D=>⟨D,by
    unfold br;rw[J id (by rintro rfl;exact r.apart d _ B rfl D)]⟩
   refine⟨.undef,H.set (ν d).1 (.row es [G.take o++y.cells++G.drop (o+y.cells.length)]),ν,?_,?_,.v _ _ (.same _ rfl),Ev.gx r B trivial rfl J rfl Zc,Kept.gx B trivial⟩
   .simp only[eV,f,getElem?_cons_zero,if_pos (And.intro p1 (And.intro p2 p3)),List.set_cons_zero]
   refine r.gx B trivial rfl J rfl ⟨es,_,?_,p4.mono D (λe _ Q E=>?_),p5⟩
   .grind
   by_cases k:e=d
   .subst k;rw[cF]at E;cases E;exact⟨_,B,rfl,trivial⟩
   rw[dN st.m _ (symm k)]at E;exact⟨Q,E,rfl,.refl _⟩
  grind
 .
  rename_i size d i o x;obtain⟨_,_,rfl,a,q⟩:=U.inv;obtain⟨y,_,rfl,n,A⟩:=q.inv;rw[A.cU];split at h
  .rename_i k es xs B;split at h
   .rename_i cs ai;split at h
    .rename_i g;obtain⟨rfl,rfl⟩:=h;obtain⟨_,_,_,e,b,rfl⟩:=a.w5 B;cases e;have ob:=r.obj d _ B;simp[dY,b]at ob;have⟨rs,f,hl,hf,aj,ak⟩:=ob;have⟨c,al,ae⟩:=hf.get ai;have hi:=(ζe.1 ai).1;rw[getElem?_take,if_pos hi,getElem?_drop]at al;have hy:=n.fr.cells;have K:y.cells.length=size:=by rw[<-hy.1];exact g.1
     have X:o+size<=c.length:=by rw[<-ae.1];exact g.2.1
     have q3:y.cells.all V.one=true:=by rw[hy.one];exact g.2.2
     have C:di H Z (cs.take o++x.cells++cs.drop (o+x.cells.length)) (c.take o++y.cells++c.drop (o+y.cells.length)):=by rw[g.1,K];exact((ae.take o).append hy).append (ae.drop _)
     generalize hN:(c.take o++y.cells++c.drop (o+y.cells.length))=nc at C;have J:∀id,id≠(ν d).1->(H.set (ν d).1 (.row es (rs.set ((ν d).2+i) nc)))[id]?=H[id]?:=λid I=>by rw[getElem?_set];rw[if_neg (symm I)]
     have L:=b;have D:∀id,Z id->Z id/\br (H.set (ν d).1 (.row es (rs.set ((ν d).2+i) nc))) id=br H id:=λid D=>⟨D,by
      unfold br;rw[J id (by rintro rfl;exact r.apart d _ B L D)]⟩
     have af:sameShape (.sl k es xs) (.sl k es (xs.set i (cs.take o++x.cells++cs.drop (o+x.cells.length)))):=⟨rfl,rfl,Zc⟩
     refine⟨.undef,H.set (ν d).1 (.row es (rs.set ((ν d).2+i) nc)),ν,?_,?_,.v _ _ (.same _ rfl),Ev.gx r B af rfl J L Zc,Kept.gx B af⟩
     .simp only[eV,f,al,if_pos (And.intro K (And.intro X q3)),hN]
     refine r.gx B af rfl J L ?_;simp only[dY,b];have aw:=(ζe.1 f).1;refine⟨_,getElem?_set_self aw,by simpa using hl,?_,?_,λe=>?_⟩
     .have e1:take (xs.set i (cs.take o++x.cells++cs.drop (o+x.cells.length))).length (List.drop (ν d).2 (rs.set ((ν d).2+i) nc))=((rs.drop (ν d).2).take xs.length).set i nc:=by
       rw[List.length_set,List.drop_set,if_neg Za,List.take_set]
       congr 1;omega
      rw[e1];exact(hf.set i C).mono D
     .intro cc am u hu;rcases List.mem_or_eq_of_mem_set am with hm|rfl
      .have⟨z,ax⟩:=aj cc hm u hu;exact⟨z,ax.mono D⟩
      have⟨j,hj⟩:=mem_iff_getElem?.1 hu;have an:=(ζe.1 hj).1;rw[<-C.1]at an;exact⟨_,(C.2 j _ u (ζd an) hj).mono D⟩
     have⟨p,S⟩:=ak e;exact⟨p,by simpa using S⟩
    simp at h
   grind
  grind
 .
  rename_i kk d k x;obtain⟨_,_,rfl,a,q⟩:=U.inv;obtain⟨k',_,rfl,n,A⟩:=q.inv;obtain⟨y,_,rfl,h5,h6⟩:=A.inv;rw[h6.cU];split at h
  .rename_i ay B;split at h
   .rename_i b;have⟨aJ,hp,e⟩:=ζf.1 h;simp at e;obtain⟨rfl,rfl⟩:=e;obtain⟨_,_,rfl⟩:=a.Cs B;have aA:=n.fr.scalar.1 (uj b);subst aA;have⟨aK,f,aB⟩:=r.obj d _ B;have⟨r',aC,aD⟩:=aB.put (uj b) h5.fr hp;have J:∀id,id≠(ν d).1->(H.set (ν d).1 (.map r'))[id]?=H[id]?:=λid I=>by rw[getElem?_set];rw[if_neg (symm I)]
    have D:∀id,Z id->Z id/\br (H.set (ν d).1 (.map r')) id=br H id:=λid D=>⟨D,by
     unfold br;rw[J id (by rintro rfl;exact r.apart d _ B rfl D)]⟩
    refine⟨.undef,H.set (ν d).1 (.map r'),ν,?_,?_,.v _ _ (.same _ rfl),Ev.gx r B trivial rfl J rfl Zc,Kept.gx B trivial⟩
    .simp[eV,f,b,aC]
    refine r.gx B trivial rfl J rfl ⟨r',?_,aD.mono D⟩;rw[getElem?_set_self (ζe.1 f).1]
   simp at h
  simp at h
 .
  rename_i size s x;obtain⟨y1,_,rfl,a,q⟩:=U.inv;obtain⟨y2,_,rfl,n,A⟩:=q.inv;rw[A.cU];split at h
  .rename_i xs e1 e2;have⟨p,p1,_⟩:=tn a r.obj e1;have⟨S,p2,X⟩:=tn n r.obj e2;have:=length_eq_zero_iff.1 (by have:=X.1;simpa using this.symm)
   subst this
   cases dst with
   |none=>simp at h|some t=>
    have lit:∀(k:Fl)(M:V),cG k=false->qP (ν t) k size 0=M->st.new t=true->(∀y,FR H Z M y->y=M)->FR H Z M y1->
     ∃y H' ν',eV H (.append size) [y1,y2]=some (y,H')/\R ν' Z {st with m:=bR st.m t (.sl k size [])} F H'/\c9 ν' (bR st.m t (.sl k size [])) H' Z (.own t) y/\Ev (λ_=>False) ν Z st H ν' Z {st with m:=bR st.m t (.sl k size [])} H'/\Kept (some t) ν st.m ν' (bR st.m t (.sl k size [])):=λk M b aE P hx hf=>by
     have ao:cz (.sl k size [])=true->False:=by simp[cz,b]
     refine⟨y1,H,iF ν t (ν t),by simp[eV,p1,p2],r.add P (λh=>(ao h).elim) (by simp[dY,b]),.own _ _ λQ N=>?_,Ev.add P (le_refl _) (λ_ _ _=>rfl) (λ_ _=>rfl) (λh=>(ao h).elim),Kept.add λ_ _ h=>h⟩
     rw[cF]at N;cases N;exact⟨_,_,_,rfl,by rw[gD,hx _ hf];exact aE.symm⟩
    cases s with
    |own d=>
     dsimp only at h;split at h
     .rename_i ob B;split at h
      .rename_i C;simp at h;obtain⟨rfl,rfl⟩:=h;simp[jQ,B]at e1
       cases ob with
       |sl k es Y=>
        obtain⟨_,_,_,e,rfl⟩:=a.jG B;cases e;have r1:R ν Z {st with m:=dZ d st.m} F H:=r.less (λ_ _ h=>h) jV
        have⟨n1,_,_,_⟩:=lJ C;have ap:dY (iF ν t (ν d)) (bR (dZ d st.m) t (.sl k es Y)) H Z t (.sl k es Y):=by have o:=r.obj d _ B;simp[dY,gD]at o⊢;exact o
        refine⟨qP (ν d) k es Y.length,H,iF ν t (ν d),by simp[eV,p1,p2],r1.add C (λhb=>⟨λT=>?_,r.apart d _ B hb⟩) ap,.own _ _ λQ N=>?_,?_,Kept.add jV⟩
        .have⟨k2,o2,g1,g2,g3⟩:=T;have⟨g4,g5⟩:=ni g1;exact g4 (r.inj d k2 _ o2 B g5 hb g2 g3.symm)
        .rw[cF]at N;cases N;exact⟨_,_,_,rfl,by rw[gD]⟩
        by_cases hb:cz (.sl k es Y)=true
        .exact Ev.re (m1:=dZ d st.m) jV n1 (le_refl _) (λ_ _ _ _=>rfl) (λ_ _=>rfl) (λ_=>.inl ⟨d,_,B,hb,rfl⟩)
        exact(Ev.less jV).trans (Ev.add C (le_refl _) (λ_ _ _=>rfl) (λ_ _=>rfl) λh=>absurd h hb)
       |box cs=>cases e1|mp ay=>cases e1
      simp at h
     simp at h
    |v M=>
     cases M with
     |bJ=>
      dsimp only at h;split at h
      next P=>simp at h;obtain⟨rfl,rfl⟩:=h;exact lit .nil _ rfl rfl P (λy h=>h.bJ) a.fr
      simp at h
     |dG=>
      dsimp only at h;split at h
      next P=>simp at h;obtain⟨rfl,rfl⟩:=h;exact lit .emp _ rfl rfl P (λy h=>h.dG) a.fr
      simp at h
     |_=>simp at h
    |_=>simp at h
  .rename_i xs zs I e1 e2;split at h
   .rename_i g;have⟨p,p1,K⟩:=tn a r.obj e1;have⟨S,p2,X⟩:=tn n r.obj e2
    cases dst with
    |none=>simp at h|some t=>
     dsimp only at h;generalize aq:giveUp st.m s=m1 at h;split at h
     .rename_i C;simp at h;obtain⟨rfl,rfl⟩:=h;have⟨n1,_,_,_⟩:=lJ C;have grow:∃H1,gB H y1=some H1/\H1.length=H.length/\(∀id,¬fc ν st.m id->H1[id]?=H[id]?)/\
       (∀id,fc ν m1 id->H1[id]?=H[id]?)/\(∀id,Z id->br H1 id=br H id):=by
       subst aq
       cases s with
       |own d=>
        simp[jQ]at e1;split at e1
        .rename_i k es Y B;obtain⟨_,_,_,e,rfl⟩:=a.jG B;cases e
         by_cases b:cG k=true
         .have o:=r.obj d _ B;simp[dY,b]at o;have⟨ys,f,_⟩:=o;have L:=b;have J:∀id,id≠(ν d).1->(H.set (ν d).1 .dead)[id]?=H[id]?:=λid I=>by rw[getElem?_set];rw[if_neg (symm I)]
          refine⟨H.set (ν d).1 .dead,by rw[rz b];simp[gB,f],Zc,λid T=>J id λe=>T ⟨d,_,B,L,e.symm⟩,λid T=>J id λe=>?_,λid D=>?_⟩
          .have⟨k2,o2,g1,g2,g3⟩:=T;have⟨g4,g5⟩:=ni g1;exact g4 (r.inj d k2 _ o2 B g5 L g2 (by rw[g3,e]))
          unfold br;rw[J id (by rintro rfl;exact r.apart d _ B L D)]
         refine⟨H,?_,rfl,λ_ _=>rfl,λ_ _=>rfl,λ_ _=>rfl⟩
         cases k<;>simp[cG]at b<;>rfl
        simp at e1
       |v M=>
        refine⟨H,?_,rfl,λ_ _=>rfl,λ_ _=>rfl,λ_ _=>rfl⟩
        cases M<;>simp[Hg]at g
        .rw[a.fr.dG];rfl
        rw[a.fr.bJ];rfl
       |_=>simp[Hg]at g
      have⟨H1,g1,g2,g3,g4,g5⟩:=grow;have O:∀e ob,bl m1 e=some ob->bl st.m e=some ob:=by subst aq;cases s<;>first|exactλ_ _ h=>h|exact jV
      have ad:∀id,fc ν m1 id->id<H.length:=λid⟨k,o,w1,w2,w3⟩=>r.lt ⟨k,o,O k o w1,w2,w3⟩
      have aa:∀id,id<H.length->(H1++[Ob.row size (p++S)])[id]?=H1[id]?:=λid hl=>getElem?_append_left (by rw[g2];exact hl)
      have ah:∀id,Z id->br (H1++[Ob.row size (p++S)]) id=br H id:=λid D=>by have:=g5 id D;unfold br at this⊢;rw[aa id (r.vq D)];exact this
      have r1:=r.less (λ_ _ h=>h) O
      have r2:=r1.heap (λid T=>by rw[aa id (ad id T)];exact g4 id T) ah
      have ff:=(K.append X).mono λid D=>⟨D,ah id D⟩
      have ab:(H1++[Ob.row size (p++S)])[H.length]?=some (.row size (p++S)):=by rw[<-g2];simp
      refine⟨.hsl H.length size 0 (xs.length+zs.length),H1++[Ob.row size (p++S)],iF ν t (H.length,0),?_,?_,?_,?_,Kept.add O⟩
      .have ar:S≠[]:=by
        rintro rfl;have aF:=length_eq_zero_iff.1 (by have:=X.1;simpa using this)
        exact I aF
       have aG:p.length+S.length<=2147483648:=by rw[<-K.1,<-X.1];exact g.1
       have aH:=K.1;have aI:=X.1
       cases S with
       |nil=>exact absurd rfl ar|cons w ws=>simp only[eV,p1,p2,if_pos aG,g1,map_some,aH,aI]
      .refine r2.add C (λ_=>⟨λT=>?_,λD=>?_⟩) ?_
       .exact absurd (ad _ T) Zc
       .exact absurd (r.vq D) Zc
       simp only[dY,gD];refine⟨_,ab,by simp[K.1,X.1],?_,ff.E3,λ_=>⟨trivial,by simp[K.1,X.1]⟩⟩
       have:(xs++zs).length=(p++S).length:=by simp[K.1,X.1]
       rw[this,drop_zero,take_length];exact ff
      .refine .own _ _ λQ N=>?_
       simp only at N;rw[cF]at N;cases N;exact⟨_,_,_,rfl,by simp[qP,gD]⟩
      refine Ev.re O n1 (by simp[g2]) (λid hl T _=>?_) ah (λ_=>.inr (.inr (le_refl _)))
      rw[aa id hl];exact g3 id T
     simp at h
   simp at h
  simp at h
 .
  rename_i size d o x l;obtain⟨_,_,rfl,a,q⟩:=U.inv;obtain⟨y,aL,rfl,n,A⟩:=q.inv;split at h
  .rename_i au;split at h
   .rename_i cs B;have⟨av,hp,e⟩:=ζf.1 h;simp at e;obtain⟨rfl,rfl⟩:=e;obtain⟨_,_,rfl⟩:=a.nZ B;have⟨es,G,f,g,W⟩:=r.obj d _ B;have⟨p1,p2,p3,p4,p5⟩:=bY.R8 g n hp W;have J:∀id,id≠(ν d).1->(H.set (ν d).1 (.row es [G.take o++y.cells++G.drop (o+y.cells.length)]))[id]?=H[id]?:=λid I=>by rw[getElem?_set];rw[if_neg (symm I)]
    have D:∀id,Z id->Z id/\br (H.set (ν d).1 (.row es [G.take o++y.cells++G.drop (o+y.cells.length)])) id=br H id:=λid D=>⟨D,by
     unfold br;rw[J id (by rintro rfl;exact r.apart d _ B rfl D)]⟩
    refine⟨.undef,H.set (ν d).1 (.row es [G.take o++y.cells++G.drop (o+y.cells.length)]),ν,?_,?_,.v _ _ (.same _ rfl),Ev.gx r B trivial rfl J rfl Zc,Kept.gx B trivial⟩
    .simp only[eV,IG r B A au,if_true,f,getElem?_cons_zero,if_pos (And.intro p1 (And.intro p2 p3)),List.set_cons_zero]
    refine r.gx B trivial rfl J rfl ⟨es,_,?_,p4.mono D (λe _ Q E=>?_),p5⟩
    .have:=(ζe.1 f).1;rw[getElem?_set_self this]
    by_cases k:e=d
    .subst k;rw[cF]at E;cases E;exact⟨_,B,rfl,trivial⟩
    rw[dN st.m _ (symm k)]at E;exact⟨Q,E,rfl,.refl _⟩
   simp at h
  simp at h
 grind
end
def zx(d:Nat)(st:St):a_ St:=
 match bl st.m d with
 |some (.sl k es t)=>some {st with g:=A5 (SV.sub d (nP k es t)) st.g,m:=mapM (SV.tT d (nP k es t)) (dZ d st.m)}|_=>none
def TB(st:St):Loc->a_ SV
 |.s n=>bl st.g n|.c b i=>match bl st.m b with
  |some (.box cs)=>cs[i]?|_=>none
def ghost(x:Gh)(st:St):a_ St:=
 match x with
 |.closeS l=>match TB st l with
  |some (.own d)=>zx d st|some _=>some st|none=>none
 |.close d=>zx d st|.closeB d=>match bl st.m d with
  |some (.box t)=>match dy t with
   |some u=>some {st with g:=A5 (SV.Bh d u) st.g,m:=mapM (SV.qt d u) (dZ d st.m)}|none=>none
  |_=>none
 |.canon (.s n) d es=>match bl st.g n with
  |some (.v .bJ)=>if st.new d then some {st with g:=bR st.g n (.own d),m:=bR st.m d (.sl .nil es [])}else none|some (.v .dG)=>if st.new d then some {st with g:=bR st.g n (.own d),m:=bR st.m d (.sl .emp es [])}else none|some (.own e)=>if e=d then some st else if st.new d then some {st with g:=yB e d st.g,m:=ua e d st.m}else none|some (.ptr e _)=>if e=d then some st else if st.new d then some {st with g:=yB e d st.g,m:=ua e d st.m}else none|_=>none
 |.canon (.c b i) d es=>match bl st.m b with
  |some (.box t)=>match t[i]?with
   |some (.v .bJ)=>if st.new d then some {st with m:=bR (bR st.m d (.sl .nil es [])) b (.box (t.set i (.own d)))}else none|some (.v .dG)=>if st.new d then some {st with m:=bR (bR st.m d (.sl .emp es [])) b (.box (t.set i (.own d)))}else none|some (.own e)=>if e=d then some st else if st.new d then some {st with g:=yB e d st.g,m:=ua e d st.m}else none|_=>none
  |_=>none
 |.keep gs w=>match kQ st.g gs,kQ st.m w with
  |some g,some m=>some {st with g:=g,m:=m}|_,_=>none
 |.drop ds=>some {st with g:=ov ds st.g}
section
variable{Rv:Nat->Prop}{ν ν':Nu}{Z Z':Nat->Prop}{st st':St}{m m':Tb bK}{F F':Zo}{H H':bp}{N:Nat->Zk}
def LZ(r:R ν Z st F H){dst:a_ Nat}{size d:Nat}{O U:Zl}{W:Zw}{ys:Zu}{sv:SV}(D:bY ν st.m H Z (.own d::W) ys)(h:yq st dst size O U d W=some (sv,st')):
 ∃y ν',bn N (.slice size O U) ys=some y/\R ν' Z st' F H/\c9 ν' st'.m H Z sv y/\Ev Rv ν Z st H ν' Z st' H:=by
 unfold yq at h;obtain⟨i,j,rfl,c,T⟩:=D.inv;split at h
 .rename_i k es G ws t u X;split at h
  .rename_i hk;have⟨⟨l,n⟩,Y,h⟩:=ζg.1 h;have⟨⟨a,b⟩,B,h⟩:=ζg.1 h;dsimp only at h;split at h
   .rename_i w;obtain⟨rfl,rfl⟩:=h;obtain⟨_,_,_,e,rfl⟩:=c.jG u;cases e;have I:b<=G.length/\a<=b:=by
     unfold dO at B
     grind
    have o:=r.obj d _ u;simp[dY,hk.1]at o;have⟨rs,p,q,f,Q,_⟩:=o;have z:=hk.1;have r1:R ν Z {st with m:=dZ d st.m} F H:=r.less (λ_ _ h=>h) jV
    have J:¬fc ν (dZ d st.m) (ν d).1:=by rintro⟨g,o2,g1,g2,g3⟩;have⟨g4,g5⟩:=ni g1;exact g4 (r.inj d g _ o2 u g5 z g2 g3.symm)
    have C:((G.take b).drop a).length=b-a:=Ze
    refine⟨.hsl (ν d).1 es ((ν d).2+a) (b-a),iF ν t ((ν d).1,(ν d).2+a),?_,?_,?_,?_⟩
    .have L:=bY.dy T X;rw[rz hk.1];simp[bn,L.kV Y,gM,if_pos hk.2,B]
    .refine r1.add w (λ_=>⟨J,r.apart d _ u z⟩) ?_
     simp[dY,cG,gD];have:=(f.take b).drop a;have e:List.drop a (take b (take G.length (List.drop (ν d).2 rs)))=take (b-a) (List.drop ((ν d).2+a) rs):=by rw[List.take_take,Nat.min_eq_left I.1,List.drop_take,drop_drop]
     grind
    .refine .own _ _ λs S=>?_
     rw[cF]at S;cases S;exact⟨_,_,_,rfl,by rw[C];simp[qP,gD]⟩
    exact Ev.re (st:=st) jV (lJ w).1 (le_refl _) (λ_ _ _ _=>rfl) (λ_ _=>rfl) (λ_=>.inl ⟨d,_,u,z,rfl⟩)
   grind
  grind
 grind
def DP{f:SV->SV}:∀{g:Tb SV}{s:Nat},bl (A5 f g) s=(bl g s).map f
 |[],s=>rfl|(k,x)::r,s=>by simp[A5,bl];split;rfl;exact DP
def ya(f:Zw->Zw):bK->bK
 |.box cs=>.box (f cs)|o=>o
def EG{f:Zw->Zw}:∀{m:Tb bK}{d:Nat},bl (mapM f m) d=(bl m d).map (ya f)
 |[],d=>rfl|(k,x)::r,d=>by cases x<;>simp[mapM,bl]<;>split<;>first|rfl|exact EG
def sO{d:Nat}{w:V}:∀{l:Zw}{j:Nat},(SV.tT d w l)[j]?=(l[j]?).map (SV.sub d w)
 |[],j=>by simp[SV.tT]|x::r,0=>by simp[SV.tT]|x::r,j+1=>by simp[SV.tT,sO]
def qS{d:Nat}{w:Zu}:∀{l:Zw}{j:Nat},(SV.qt d w l)[j]?=(l[j]?).map (SV.Bh d w)
 |[],j=>by simp[SV.qt]|x::r,0=>by simp[SV.qt]|x::r,j+1=>by simp[SV.qt,qS]
def od{d:Nat}{w:V}:∀{l:Zw},(SV.tT d w l).length=l.length
 |[]=>rfl|x::r=>by simp[SV.tT,od]
def mY{d:Nat}{w:Zu}:∀{l:Zw},(SV.qt d w l).length=l.length
 |[]=>rfl|x::r=>by simp[SV.qt,mY]
def c9.sub{sv:SV}{y:V}{d:Nat}{k:Fl}{es:Nat}{xs:Zt}(l:bl m d=some (.sl k es xs))(D:FR H Z' (nP k es xs) (qP (ν d) k es xs.length))(G:∀id,Z id->Z' id)
 (U:∀e ob',bl m' e=some ob'->e≠d/\∃ob,bl m e=some ob/\sameShape ob ob')(r:c9 ν m H Z sv y):c9 ν m' H Z' (sv.sub d (nP k es xs)) y:=by
 have t:∀id,Z id->Z' id/\br H id=br H id:=λid h=>⟨G id h,rfl⟩
 have B:∀e ob',bl m' e=some ob'->∃ob,bl m e=some ob/\ν e=ν e/\sameShape ob ob':=λe ob' h=>Zd
 induction r with
 |v x y h=>exact .v x y (h.mono t)|own e y h=>
  simp[SV.sub];split
  next I=>subst I;obtain⟨_,_,_,e1,rfl⟩:=h _ l;cases e1;exact .v _ _ D
  exact(c9.own e y h).mono t λe _=>B e
 |ptr e o y h=>exact(c9.ptr e o y h).mono t λe _=>B e|el e i o y h=>exact(c9.el e i o y h).mono t λe _=>B e|mp e y h=>exact(c9.mp e y h).mono t λe _=>B e|clo f a b w J C Q hva L z O=>
  refine .clo f _ _ w J (by rw[od];omega) (by rw[od];omega) (λj u v c g=>?_) (λj u v c g=>?_)
  .rw[sO,ζf]at c;grind
  rw[sO,ζf]at c;grind
 |tup a w C hva z=>
  refine .tup _ w (by rw[od];omega) (λj u v c g=>?_)
  rw[sO,ζf]at c;grind
 |agg a w C hva z=>
  refine .agg _ w (by rw[od];omega) (λj u v c g=>?_)
  rw[sO,ζf]at c;grind
 |yl id=>exact .yl id
theorem Qr {f:FuncId} {a b:aZ SV} {y:V} (r:c9 ν m H Z (.clo f a b) y):c9 ν m H Z (NB f a b) y:=by
 unfold NB;split
 .rename_i x z C D;cases r with|clo _ _ _ u w G I hva t=>
  have h1:=bY.dy (ν:=ν) (m:=m) (H:=H) (Z:=Z) (ys:=u) ⟨G,hva⟩ C;have B:=bY.dy (ν:=ν) (m:=m) (H:=H) (Z:=Z) (ys:=w) ⟨I,t⟩ D;exact .v _ _ (.clo f x z u w h1.1 B.1 h1.2 B.2)
 exact r
def c9.Bh{sv:SV}{y:V}{d:Nat}{cs:Zw}{xs:Zu}(k:bl m d=some (.box cs))(J:∀o,o<=xs.length->FR H Z' (.fptr (xs.drop o)) (.hptr (ν d).1 0 o))(O:∀id,Z id->Z' id)
 (U:∀e ob',bl m' e=some ob'->e≠d/\∃ob,bl m e=some ob/\sameShape ob ob')(r:c9 ν m H Z sv y):c9 ν m' H Z' (sv.Bh d xs) y:=by
 have w:∀id,Z id->Z' id/\br H id=br H id:=λid h=>⟨O id h,rfl⟩
 have C:∀e ob',bl m' e=some ob'->∃ob,bl m e=some ob/\ν e=ν e/\sameShape ob ob':=λe ob' h=>by have⟨_,ob,l,L⟩:=U e ob' h;exact⟨ob,l,rfl,L⟩
 induction r with
 |v x y h=>exact .v x y (h.mono w)|own e y h=>exact(c9.own e y h).mono w λe _=>C e|ptr e o y h=>
  simp only[SV.Bh];split
  .rename_i Q;subst Q;obtain⟨_,e1,rfl⟩:=h _ k;split
   next S=>exact .v _ _ (J o S)
   exact(c9.ptr e o _ h).mono w λe _=>C e
  exact(c9.ptr e o y h).mono w λe _=>C e
 |el e i o y h=>exact(c9.el e i o y h).mono w λe _=>C e|mp e y h=>exact(c9.mp e y h).mono w λe _=>C e|clo f a b D T G W hva X z I=>
  refine Qr (.clo f _ _ D T (by rw[mY];exact G) (by rw[mY];exact W) (λj u v c g=>?_) (λj u v c g=>?_))
  .rw[qS,ζf]at c;obtain⟨B,t,rfl⟩:=c;exact z j B v t g
  rw[qS,ζf]at c;obtain⟨B,t,rfl⟩:=c;exact I j B v t g
 |tup a D G hva z=>
  refine .tup _ D (by rw[mY];exact G) (λj u v c g=>?_)
  rw[qS,ζf]at c;obtain⟨B,t,rfl⟩:=c;exact z j B v t g
 |agg a D G hva z=>
  refine .agg _ D (by rw[mY];exact G) (λj u v c g=>?_)
  rw[qS,ζf]at c;obtain⟨B,t,rfl⟩:=c;exact z j B v t g
 |yl id=>exact .yl id
def dY.ya{d:Nat}{ob:bK}{f:Zw->Zw}(D:∀id,Z id->Z' id)(O:∀l,(f l).length=l.length)
 (G:∀cs B,bY ν m H Z cs B->bY ν m' H Z' (f cs) B)(o:dY ν m H Z d ob):dY ν m' H Z' d (ya f ob):=by
 have t:∀id,Z id->Z' id/\br H id=br H id:=λid h=>⟨D id h,rfl⟩
 cases ob with
 |sl k es Q=>
  simp[Go.VE.ya,dY]at o⊢;split
  next b=>rw[if_pos b]at o;have⟨C,a,u,z,I,J⟩:=o;exact⟨C,a,u,z.mono t,I.mono t,J⟩
  grind
 |box cs=>have⟨es,B,a,u,z⟩:=o;exact⟨es,B,a,G cs B u,z⟩|mp L=>have⟨w,a,u⟩:=o;exact⟨w,a,u.mono t⟩
def wq{f:Zw->Zw}{ob:bK}:cz (ya f ob)=cz ob:=by cases ob<;>rfl
def Ko{f:Zw->Zw}{ob:bK}:sameShape ob (ya f ob):=by cases ob<;>simp[ya,sameShape]
def R.shut(r:R ν Z st F H){d:Nat}{ob:bK}(A:bl st.m d=some ob){fs:SV->SV}{D:Zw->Zw}(E:∀l,(D l).length=l.length)(hg:∀l(j:Nat),(D l)[j]?=(l[j]?).map fs)
 (B:∀id,Z' id↔Z id\/(cz ob=true/\id=(ν d).1))(G:cz ob=true->∃es ys,H[(ν d).1]?=some (.row es ys)/\uv H Z ys)
 (hf:∀m',(∀e ob',bl m' e=some ob'->e≠d/\∃ob,bl st.m e=some ob/\sameShape ob ob')->∀sv y,c9 ν st.m H Z sv y->c9 ν m' H Z' (fs sv) y):
 R ν Z' {st with g:=A5 fs st.g,m:=mapM D (dZ d st.m)} F H/\Ev Rv ν Z st H ν Z' {st with g:=A5 fs st.g,m:=mapM D (dZ d st.m)} H:=by
 have key:∀e ob',bl (mapM D (dZ d st.m)) e=some ob'->e≠d/\∃ob,bl st.m e=some ob/\ob'=ya D ob:=λe ob' h=>by rw[EG,ζf]at h;obtain⟨o,a,rfl⟩:=h;have⟨t,K⟩:=ni a;grind
 have L:∀e ob',bl (mapM D (dZ d st.m)) e=some ob'->e≠d/\∃ob,bl st.m e=some ob/\sameShape ob ob':=λe ob' h=>by obtain⟨a,o,t,rfl⟩:=key e ob' h;exact⟨a,o,t,Ko⟩
 have M:=hf _ L;have T:∀U z,bY ν st.m H Z U z->bY ν (mapM D (dZ d st.m)) H Z' (D U) z:=λU z h=>by refine⟨by rw[E];exact h.1,λj u v i hv=>?_⟩;rw[hg,ζf]at i;obtain⟨N,W,rfl⟩:=i;exact M N v (h.2 j N v W hv)
 have w:=λid h=>(B id).2 (.inl h)
 refine⟨⟨λs sv S=>?_,λe ob' X=>?_,λb P o1 o2 a t I V hp=>?_,λb o1 a I=>?_,λid h=>?_,⟨λid es ys O f c hc u i=>?_⟩⟩,⟨le_refl _,λ_ _ _ _ _=>rfl,λid h=>⟨w id h,rfl⟩,?_,?_,?_,rfl⟩⟩
 .rw[DP,ζf]at S;obtain⟨Q,Y,rfl⟩:=S;exact M Q _ (r.slot s Q Y)
 .obtain⟨a,o,t,rfl⟩:=key e ob' X;exact dY.ya w E T (r.obj e o t)
 .obtain⟨_,p1,J,rfl⟩:=key b o1 a;obtain⟨_,p2,k2,rfl⟩:=key P o2 t;rw[wq]at I V;exact r.inj b P p1 p2 J k2 I V hp
 .obtain⟨aa,p1,J,rfl⟩:=key b o1 a;rw[wq]at I;intro O;rcases(B _).1 O with O|⟨C,X⟩
  .exact r.apart b p1 J I O
  exact aa (r.inj b d p1 ob J A I C X)
 .rcases (B id).1 h with h|⟨C,rfl⟩
  .exact r.zrow id h
  have⟨es,ys,f,_⟩:=G C;unfold br;rw[f];rfl
 .rcases (B id).1 O with h|⟨C,rfl⟩
  .have⟨x,q⟩:=r.deep.row id es ys h f c hc u i;exact⟨x,q.mono λk n=>⟨w k n,rfl⟩⟩
  have⟨ad,ae,ab,S⟩:=G C;unfold br at f;rw[ab]at f;obtain⟨_,rfl⟩:=f;have⟨x,q⟩:=S c hc u i;exact⟨x,q.mono λk n=>⟨w k n,rfl⟩⟩
 .rintro id ⟨e,o,a,t,K⟩;obtain⟨_,p,J,rfl⟩:=key e o a;rw[wq]at t;exact .inl ⟨e,p,J,t,K⟩
 .intro id h;rcases(B id).1 h with h|⟨C,rfl⟩
  .grind
  exact .inr (.inl ⟨d,ob,A,C,rfl⟩)
 grind
def GY(r:R ν Z st F H){d:Nat}(h:zx d st=some st'):∃Z',R ν Z' st' F H/\Ev Rv ν Z st H ν Z' st' H:=by
 simp[zx]at h;split at h;rename_i k es u t;simp at h;subst h;have o:=r.obj d _ t;refine⟨λid=>Z id\/(cz (.sl k es u)=true/\id=(ν d).1),R.shut r t (λ_=>od) (λ_ _=>sO) (λ_=>Iff.rfl) (λz=>?_) (λm' w D y b=>?_)⟩;have a:cG k=true:=z;simp[dY,a]at o;grind;refine c9.sub t ?_ (λid h=>.inl h) w b;by_cases a:cG k=true;simp[dY,a]at o;have⟨G,b,B,C,I,_⟩:=o;rw[rz a];have e:nP k es u=.fsl es u:=by cases k<;>simp[cG]at a<;>rfl
 rw[e];refine FR.Kg (.inr ⟨a,rfl⟩) (by unfold br;rw[b];rfl) B (C.mono λid h=>⟨.inl h,rfl⟩);cases k<;>simp[cG]at a;exact .same _ rfl;exact .same _ rfl;grind
def Lv(r:R ν Z st F H){d:Nat}(h:ghost (.closeB d) st=some st'):∃Z',R ν Z' st' F H/\Ev Rv ν Z st H ν Z' st' H:=by
 simp[ghost]at h;split at h;rename_i G t;split at h;rename_i I J;simp at h;subst h;have⟨es,w,a,b,_⟩:=r.obj d _ t;have B:=b.dy J;have L:uv H Z [w]:=by intro c z u e;simp[List.mem_singleton]at z;subst z;have⟨j,O⟩:=mem_iff_getElem?.1 e;have Q:j<I.length:=(by rw[B.1];grind);exact⟨_,B.2 j _ u (ζd Q) O⟩
 refine⟨λid=>Z id\/(cz (.box G)=true/\id=(ν d).1),R.shut r t (λ_=>mY) (λ_ _=>qS) (λ_=>Iff.rfl) (λS=>⟨es,_,a,L⟩) (λm' C T y D=>?_)⟩;refine c9.Bh t (λo U=>?_) (λid h=>.inl h) C D;exact FR.BT (.inr ⟨rfl,rfl⟩) (show br H (ν d).1=some (es,[w])by unfold br;rw[a];rfl) rfl (by rw[<-B.1];omega) ((B.drop o).mono λid h=>⟨.inl h,rfl⟩);grind;grind
def sB{d e:Nat}:∀{l:Zw}{j:Nat},(SV.tP d e l)[j]?=(l[j]?).map (SV.tA d e)
 |[],j=>by simp[SV.tP]|x::r,0=>by simp[SV.tP]|x::r,j+1=>by simp[SV.tP,sB]
def oc{d e:Nat}:∀{l:Zw},(SV.tP d e l).length=l.length
 |[]=>rfl|x::r=>by simp[SV.tP,oc]
def Ew{d e:Nat}:∀{g:Tb SV}{s:Nat},bl (yB d e g) s=(bl g s).map (SV.tA d e)
 |[],s=>rfl|(k,x)::r,s=>by simp[yB,bl];split;rfl;exact Ew
def yZ{d e:Nat}(B:d≠e):∀{m:Tb bK}{k:Nat},bl m e=none->bl (ua d e m) k=(if k=d then none else(bl m (if k=e then d else k)).map (bK.tA d e))
 |[],k,_=>by simp[ua,bl]|(n,x)::r,k,h=>by simp[bl]at h;split at h;simp_all;have D:=yZ B (k:=k) h;simp[ua,bl];grind
def uu(ν:Nu)(d e:Nat):Nu:=λk=>if k=e then ν d else ν k
def c9.tA{sv:SV}{y:V}{d e:Nat}(U:bl m e=none)(D:sv.cQ e=false)(J:d≠e)(r:c9 ν m H Z sv y):c9 (uu ν d e) (ua d e m) H Z (sv.tA d e) y:=by
 have key:∀k,k≠e->∀t,bl (ua d e m) (if k=d then e else k)=some t->∃ob,bl m k=some ob/\uu ν d e (if k=d then e else k)=ν k/\t=ob.tA d e:=λk l t h=>by rw[yZ J U]at h;by_cases c:k=d;subst c;rw[if_pos rfl,if_neg (symm J),if_pos rfl,ζf]at h;obtain⟨ob,z,rfl⟩:=h;exact⟨ob,z,by unfold uu;grind,rfl⟩;rw[if_neg c,if_neg c,if_neg l,ζf]at h;obtain⟨ob,z,rfl⟩:=h;exact⟨ob,z,by unfold uu;grind,rfl⟩
 induction r with|v x y h=>exact .v x y h|own k y h=>have l:k≠e:=(by rintro rfl;simp[SV.cQ]at D);refine .own _ y λt C=>?_;obtain⟨ob,c,z,rfl⟩:=key k l t C;obtain⟨_,_,_,rfl,rfl⟩:=h ob c;exact⟨_,_,_,rfl,by rw[z]⟩|ptr k o y h=>have l:k≠e:=(by rintro rfl;simp[SV.cQ]at D);refine .ptr _ o y λt C=>?_;obtain⟨ob,c,z,rfl⟩:=key k l t C;obtain⟨_,rfl,rfl⟩:=h ob c;exact⟨_,rfl,by rw[z]⟩|el k i o y h=>have l:k≠e:=(by rintro rfl;simp[SV.cQ]at D);refine .el _ i o y λt C=>?_;obtain⟨ob,c,z,rfl⟩:=key k l t C;obtain⟨_,_,_,rfl,Q,rfl⟩:=h ob c;exact⟨_,_,_,rfl,Q,by rw[z]⟩|mp k y h=>have l:k≠e:=(by rintro rfl;simp[SV.cQ]at D);refine .mp _ y λt C=>?_;obtain⟨ob,c,z,rfl⟩:=key k l t C;obtain⟨_,rfl,rfl⟩:=h ob c;exact⟨_,rfl,by rw[z]⟩|clo f a b I S O W hva T B L=>simp[SV.cQ]at D;refine .clo f _ _ I S (by rw[oc];omega) (by rw[oc];omega) (λj u v g n=>?_) (λj u v g n=>?_);rw[sB,ζf]at g;obtain⟨G,w,rfl⟩:=g;exact B j G v w n (sR D.1 w);rw[sB,ζf]at g;obtain⟨G,w,rfl⟩:=g;exact L j G v w n (sR D.2 w)|tup a I O hva B=>refine .tup _ I (by rw[oc];omega) (λj u v g n=>?_);rw[sB,ζf]at g;obtain⟨G,w,rfl⟩:=g;exact B j G v w n (sR D w)|agg a I O hva B=>refine .agg _ I (by rw[oc];omega) (λj u v g n=>?_);rw[sB,ζf]at g;obtain⟨G,w,rfl⟩:=g;exact B j G v w n (sR D w)|yl id=>exact .yl id
def GQ(r:R ν Z st F H){d e:Nat}(B:d≠e)(Y:st.new e=true):R (uu ν d e) Z {st with g:=yB d e st.g,m:=ua d e st.m} F H/\Ev Rv ν Z st H (uu ν d e) Z {st with g:=yB d e st.g,m:=ua d e st.m} H:=by
 have⟨y,J,X,i⟩:=lJ Y;have key:∀k t,bl (ua d e st.m) k=some t->∃k0 ob,bl st.m k0=some ob/\t=ob.tA d e/\uu ν d e k=ν k0/\k≠d/\(k=e/\k0=d\/k≠e/\k0=k):=λk t h=>by rw[yZ B J]at h;split at h;simp_all;rename_i a;rw[ζf]at h;obtain⟨ob,w,rfl⟩:=h;by_cases C:k=e;rw[if_pos C]at w;exact⟨d,ob,w,rfl,by unfold uu;grind,a,.inl ⟨C,rfl⟩⟩;rw[if_neg C]at w;exact⟨k,ob,w,rfl,by unfold uu;grind,a,.inr ⟨C,rfl⟩⟩
 have L:∀ob:bK,cz (ob.tA d e)=cz ob:=λob=>by cases ob<;>rfl
 refine⟨⟨λs sv U=>?_,λk t c=>?_,λb l o1 o2 a w D W A=>?_,λb o1 a D=>?_,r.zrow,r.deep⟩,⟨le_refl _,λ_ _ _ _ _=>rfl,λid h=>⟨h,rfl⟩,?_,λ_ h=>.inl h,?_,rfl⟩⟩;rw[Ew,ζf]at U;obtain⟨O,G,rfl⟩:=U;exact c9.tA J (xw X G) B (r.slot s O G);obtain⟨k0,ob,a,rfl,w,_,_⟩:=key k t c;have o:=r.obj k0 ob a;cases ob with|sl fl es xs=>simp[bK.tA,dY,w]at o⊢;omega|box cs=>have⟨es,Q,g1,g2,g3⟩:=o;have S:=(by have:=w_ i a;simpa[bK.cQ]using this);refine⟨es,Q,Zd,⟨by rw[oc];exact g2.1,λj u v f n=>?_⟩,g3⟩;rw[sB,ζf]at f;obtain⟨p,I,rfl⟩:=f;exact c9.tA J (sR S I) B (g2.2 j p v I n)|mp aa=>simp[bK.tA,dY,w]at o⊢;omega
 obtain⟨z,p1,g1,rfl,e1,q,T⟩:=key b o1 a;obtain⟨x,p2,g2,rfl,e2,E,K⟩:=key l o2 w;rw[L]at D W;have:=r.inj z x p1 p2 g1 g2 D W Zd;omega;obtain⟨z,p1,g1,rfl,e1,_⟩:=key b o1 a;rw[L]at D;rw[e1];exact r.apart z p1 g1 D;rintro id ⟨k,o,a,w,C⟩;obtain⟨z,p1,g1,rfl,e1,_⟩:=key k o a;rw[L]at w;exact .inl ⟨z,p1,g1,w,Zd⟩;intro k c t h;obtain⟨z,p1,g1,rfl,e1,q,T⟩:=key k t h;rcases T with⟨rfl,_⟩|⟨T,rfl⟩;grind;exact⟨p1,g1,e1,by cases p1<;>simp[bK.tA,sameShape]⟩
def R.Vf(r:R ν Z st F H){n:Nat}{sv:SV}(h:c9 ν st.m H Z sv (get F n)):R ν Z {st with g:=bR st.g n sv} F H where
 slot:=λs x t=>by by_cases e:n=s;subst e;rw[cF]at t;grind;rw[dN st.g sv e]at t;exact r.slot s x t
 obj:=r.obj
 inj:=r.inj
 apart:=r.apart
 zrow:=r.zrow
 deep:=r.deep
def Lu(r:R ν Z st F H){n d es:Nat}{k:Fl}{x:V}(a:nP k es []=x/\cG k=false)(D:bl st.g n=some (.v x))(B:st.new d=true)(G:∀y,FR H Z x y->y=x)(J:qP (ν d) k es 0=x):
 R (iF ν d (ν d)) Z {st with g:=bR st.g n (.own d),m:=bR st.m d (.sl k es [])} F H/\Ev Rv ν Z st H (iF ν d (ν d)) Z {st with g:=bR st.g n (.own d),m:=bR st.m d (.sl k es [])} H:=by
 have t:cz (.sl k es [])=true->False:=by simp[cz,a.2]
 have r1:=r.add B (p:=ν d) (λh=>(t h).elim) (by simp[dY,a.2])
 refine⟨r1.Vf (.own _ _ λw u=>?_),?_⟩
 .rw[cF]at u;cases u;rw[gD,G _ (r.slot n _ D).fr]
  grind
 exact(Ev.add B (le_refl _) (λ_ _ _=>rfl) (λ_ _=>rfl) (λh=>(t h).elim)).trans (Ev.slots _)
def LO(r:R ν Z st F H){b i d es:Nat}{k:Fl}{x:V}{cs:Zw}(c:cG k=false)(J:bl st.m b=some (.box cs))(U:cs[i]?=some (.v x))(D:st.new d=true)(W:∀y,FR H Z x y->y=x)(Y:qP (ν d) k es 0=x):
 ∃ν',R ν' Z {st with m:=bR (bR st.m d (.sl k es [])) b (.box (cs.set i (.own d)))} F H/\Ev Rv ν Z st H ν' Z {st with m:=bR (bR st.m d (.sl k es [])) b (.box (cs.set i (.own d)))} H:=by
 have z:cz (.sl k es [])=true->False:=by simp[cz,c]
 have r1:=r.add D (p:=ν d) (λh=>(z h).elim) (by simp[dY,c])
 have B:b≠d:=by rintro rfl;rw[(lJ D).2.1]at J;cases J
 have w:bl (bR st.m d (.sl k es [])) b=some (.box cs):=by rw[dN _ _ (symm B)];omega
 have⟨C,G,g,I,Q⟩:=r1.obj b _ w;have S:∀e t,bl (bR (bR st.m d (.sl k es [])) b (.box (cs.set i (.own d)))) e=some t->∃ob,bl (bR st.m d (.sl k es [])) e=some ob/\iF ν d (ν d) e=iF ν d (ν d) e/\sameShape ob t:=λe t h=>by by_cases L:e=b;subst L;rw[cF]at h;cases h;exact⟨_,w,rfl,trivial⟩;rw[dN _ _ (symm L)]at h;exact⟨t,h,rfl,.refl _⟩
 refine⟨iF ν d (ν d),r1.gx w trivial rfl (λ_ _=>rfl) rfl ⟨C,G,g,⟨by simp[I.1],λj u v a f=>?_⟩,Q⟩,?_⟩
 .rw[getElem?_set]at a;split at a
  .rename_i e;subst e;split at a
   .cases a;refine .own _ _ λt O=>?_
    rw[dN _ _ B,cF]at O;cases O;rw[gD,W v (I.2 i _ v U f).fr]
    grind
   grind
  exact(I.2 j u v a f).mono (λid h=>⟨h,rfl⟩) λe _=>S e
 exact(Ev.add D (le_refl _) (λ_ _ _=>rfl) (λ_ _=>rfl) (λh=>(z h).elim)).trans (Ev.gx r1 w trivial rfl (λ_ _=>rfl) rfl (le_refl _))
def OC(r:R ν Z st F H){x:Gh}(h:ghost x st=some st'):∃ν' Z',R ν' Z' st' F H/\Ev Rv ν Z st H ν' Z' st' H:=by cases x with|close d=>have⟨Z',a,b⟩:=GY (Rv:=Rv) r h;grind|closeS l=>simp[ghost]at h;split at h;have⟨Z',a,b⟩:=GY (Rv:=Rv) r h;grind;simp at h;subst h;exact⟨ν,Z,r,.refl⟩;grind|closeB d=>have⟨Z',a,b⟩:=Lv (Rv:=Rv) r h;grind|keep gs G=>simp[ghost]at h;split at h;(next g m e B=>simp at h;subst h;exact⟨ν,Z,r.less (λs D u=>pL e u) (λd ob z=>pL B z),Ev.less (λd ob z=>pL B z)⟩);grind|drop ds=>simp[ghost]at h;subst h;exact⟨ν,Z,r.less (λs D u=>nE u) (λd ob z=>z),Ev.less (λd ob z=>z)⟩|canon l d es=>cases l with|s n=>simp[ghost]at h;split at h;rename_i u;split at h;rename_i t;simp at h;have⟨a,b⟩:=Lu (Rv:=Rv) (es:=es) (k:=.nil) r ⟨rfl,rfl⟩ u t (λy h=>h.bJ) rfl;grind;grind;rename_i u;split at h;rename_i t;simp at h;have⟨a,b⟩:=Lu (Rv:=Rv) (es:=es) (k:=.emp) r ⟨rfl,rfl⟩ u t (λy h=>h.dG) rfl;grind;grind;split at h;simp at h;subst h;exact⟨ν,Z,r,.refl⟩;rename_i w;split at h;rename_i t;simp at h;have⟨a,b⟩:=GQ (Rv:=Rv) r w t;grind;grind;split at h;simp at h;subst h;exact⟨ν,Z,r,.refl⟩;rename_i w;split at h;rename_i t;simp at h;have⟨a,b⟩:=GQ (Rv:=Rv) r w t;grind;grind;grind|c b i=>simp[ghost]at h;split at h;rename_i I C;split at h;rename_i u;split at h;rename_i t;simp at h;have⟨ν',a,b⟩:=LO (Rv:=Rv) (es:=es) (k:=.nil) r rfl C u t (λy h=>h.bJ) rfl;grind;grind;rename_i u;split at h;rename_i t;simp at h;have⟨ν',a,b⟩:=LO (Rv:=Rv) (es:=es) (k:=.emp) r rfl C u t (λy h=>h.dG) rfl;grind;grind;split at h;simp at h;subst h;exact⟨ν,Z,r,.refl⟩;rename_i w;split at h;rename_i t;simp at h;have⟨a,b⟩:=GQ (Rv:=Rv) r w t;grind;grind;grind;grind
end
structure mw(E:Env)(f:FuncId)(q:BM):Prop where
 keep:E.keep f=true
 own:E.own f=false
 le:∀es xs vs ys,q.go es xs vs=some ys->ys.length<=xs.length/\(q.part=false->ys.length=xs.length)
 none:∀es vs ys,q.go es [] vs=some ys->∀(H:bp)(Z:Nat->Prop)(ws:List V)(w:V),di H Z vs ws->(w=.bJ\/w=.dG)->∃n X,∀k,n<=k->run E k (.fn f) (w::ws) H=some (if q.part then w else .undef,H++X)
 row:∀es xs vs ys,q.go es xs vs=some ys->∀(H:bp)(Z:Nat->Prop)(ws:List V)(id off:Nat)(rs:List (List V)),di H Z vs ws->H[id]?=some (.row es rs)->off+xs.length<=rs.length->
  fR H Z xs ((rs.drop off).take xs.length)->uv H Z rs->¬Z id->∃n rs' X,(∀k,n<=k->run E k (.fn f) (.hsl id es off xs.length::ws) H=some (if q.part then .hsl id es off ys.length else .undef,(H++X).set id (.row es rs')))/\
   rs'.length=rs.length/\fR H Z ys ((rs'.drop off).take ys.length)/\uv H Z rs'
section
variable{Rv:Nat->Prop}{ν ν':Nu}{Z Z':Nat->Prop}{st st':St}{m m':Tb bK}{F F':Zo}{H H':bp}
def QO{E:Env}{f:Zk}{q:BM}(i:mw E f q)(r:R ν Z st F H){args:Zw}{ys:Zu}(K:bY ν st.m H Z args ys){dst:a_ Nat}{sv:SV}(h:zI q dst args st=some (sv,st')):
 ∃n y H' ν',(∀k,n<=k->run E k (.fn f) ys H=some (y,H'))/\R ν' Z st' F H'/\c9 ν' st'.m H' Z sv y/\Ev Rv ν Z st H ν' Z st' H'/\Kept dst ν st.m ν' st'.m:=by
 unfold zI at h;split at h
 .rename_i d vs;obtain⟨w,p,rfl,M,N⟩:=K.inv;split at h
  .rename_i k es xs zs u G;have s:=bY.dy N G;split at h
   .rename_i ns S;have⟨al,P⟩:=i.le _ _ _ _ S;obtain⟨_,_,_,ee,rfl⟩:=M.jG u;cases ee;have grow:∀X:bp,R ν Z st F (H++X)/\Ev Rv ν Z st H ν Z st (H++X)/\∀id,Z id->br (H++X) id=br H id:=λX=>by
     have j:∀id,id<H.length->(H++X)[id]?=H[id]?:=λid h=>getElem?_append_left h
     have G:∀id,Z id->br (H++X) id=br H id:=λid h=>by unfold br;rw[j id (r.vq h)]
     exact⟨r.heap (λid h=>j id (r.lt h)) G,Ev.heap Zc (λid h _ _ _=>j id h) G,G⟩
    have o:=r.obj d _ u
    cases a:cG k with
    |false=>
     simp only[dY,a,false_eq_true,if_false]at o;subst o;have hw:qP (ν d) k es 0=.bJ\/qP (ν d) k es 0=.dG:=by cases k<;>simp[qP,cG]at a⊢
     have⟨n,X,L⟩:=i.none _ _ _ S H Z p _ s hw;have⟨Y,I,T⟩:=grow X;simp only[a,false_eq_true,if_false]at h;split at h
     .rename_i b;split at h
      .rename_i t;split at h
       .rename_i z;simp only[ζa,ζc]at h;obtain⟨rfl,rfl⟩:=h;have r1:R ν Z {st with m:=dZ d st.m} F (H++X):=Y.less (g:=st.g) (λ_ _ h=>h) jV
        rw[if_pos b]at L;refine⟨n,_,H++X,iF ν t (ν d),L,r1.add z (λl=>by simp[cz,a]at l) (by simp[dY,a]),?_,?_,Kept.add jV⟩
        .refine .own _ _ λah U=>?_
         simp only at U;rw[cF]at U;cases U;exact⟨_,_,_,rfl,by rw[gD];rfl⟩
        exact I.trans (Ev.re (st:=st) jV (lJ z).1 (le_refl _) (λ_ _ _ _=>rfl) (λ_ _=>rfl) (λl=>by simp[cz,a]at l))
       cases h
      cases h
     rename_i b;simp only[ζa,ζc]at h;obtain⟨rfl,rfl⟩:=h;rw[if_neg b]at L;have hu:bR st.m d (.sl k es [])=st.m:=qQ u;rw[hu];exact⟨n,_,H++X,ν,L,Y,.v _ _ (.same _ rfl),I,.refl⟩
    |true=>
     simp only[dY,a,if_true]at o;have⟨rs,v,hl,hf,ab,O⟩:=o;have B:cz (.sl k es xs)=true:=a;have⟨n,C,X,L,e1,e2,e3⟩:=i.row _ _ _ _ S H Z p _ _ rs s v hl hf ab (r.apart d _ u B);have⟨Y,I,T⟩:=grow X;have ai:(ν d).1<(H++X).length:=by have:=(ζe.1 v).1;simp;omega
     have G:∀id,Z id->Z id/\br ((H++X).set (ν d).1 (.row es C)) id=br H id:=λid D=>⟨D,by
      rw[<-T id D];unfold br;rw[List.getElem?_set_ne];rintro rfl;exact r.apart d _ u B D⟩
     have x:∀id,Z id->br ((H++X).set (ν d).1 (.row es C)) id=br (H++X) id:=λid D=>by rw[(G id D).2,T id D]
     have c:∀id,id≠(ν d).1->((H++X).set (ν d).1 (Ob.row es C))[id]?=(H++X)[id]?:=λid aj=>List.getElem?_set_ne (symm aj)
     have J:((H++X).set (ν d).1 (Ob.row es C))[(ν d).1]?=some (.row es C):=getElem?_set_self ai;rw[rz a];simp only[a,if_true]at h;split at h
     .rename_i b;split at h
      .rename_i t;split at h
       .rename_i z;simp only[ζa,ζc]at h;obtain⟨rfl,rfl⟩:=h;have r1:R ν Z {st with m:=dZ d st.m} F (H++X):=Y.less (g:=st.g) (λ_ _ h=>h) jV
        have A:¬fc ν (dZ d st.m) (ν d).1:=by rintro⟨k2,o2,g1,g2,g3⟩;have⟨g4,g5⟩:=ni g1;exact g4 (r.inj d k2 _ o2 u g5 B g2 g3.symm)
        have r2:R ν Z {st with m:=dZ d st.m} F ((H++X).set (ν d).1 (.row es C)):=r1.heap (λid ho=>c id (by rintro rfl;exact A ho)) x
        rw[if_pos b]at L;refine⟨n,_,_,iF ν t (ν d),L,r2.add z (λ_=>⟨A,r.apart d _ u B⟩) ?_,?_,?_,Kept.add jV⟩
        .simp only[dY,cG,if_true,gD];exact⟨C,J,Za,e2.mono G,e3.mono G,λe=>by cases e⟩
        .refine .own _ _ λah U=>?_
         simp only at U;rw[cF]at U;cases U;exact⟨_,_,_,rfl,by rw[gD];rfl⟩
        exact I.trans (Ev.re (st:=st) jV (lJ z).1 Zc (λid _ ho _=>c id (by rintro rfl;exact ho ⟨d,_,u,B,rfl⟩)) x (λ_=>.inl ⟨d,_,u,B,rfl⟩))
       cases h
      cases h
     rename_i b;simp only[ζa,ζc]at h;obtain⟨rfl,rfl⟩:=h;rw[if_neg b]at L;have ak:q.part=false:=by simpa using b
     have Q:=P ak;have W:sameShape (.sl k es xs) (.sl k es ns):=⟨rfl,rfl,Q⟩;refine⟨n,_,_,ν,L,Y.gx u W rfl c B ?_,.v _ _ (.same _ rfl),I.trans (Ev.gx Y u W rfl c B Zc),Kept.gx u W⟩
     simp only[dY,a,if_true];exact⟨C,J,Za,e2.mono G,e3.mono G,λe=>⟨(O e).1,by rw[e1,(O e).2,Q]⟩⟩
   cases h
  cases h
 cases h
end
def vW:Nat->Zw->Tb SV
 |_,[]=>[]|i,v::vs=>(i,v)::vW (i+1) vs
def start(svs:Zw)(B:dV):St:=⟨vW 0 svs,B,B.map (·.1),[],true,0⟩
def je(S:Sys)(c:b9):Prop:=∀f t u rs w,c f t u=some (rs,w)->∀(ν:Nu)(Z:Nat->Prop)(args:Zu)(H:bp),(S.E.keep f=true\/H=[])->R ν Z (start t u) args H->bY ν u H Z t args->∃n y H' ν' Z' st' F' z,run S.E n (.fn f) args H=some (y,H')/\y=result z/\st'.m=w/\bY ν' w H' Z' rs z/\R ν' Z' st' F' H'/\Ev (λ_=>False) ν Z (start t u) H ν' Z' st' H'
section
variable{Rv:Nat->Prop}{ν ν':Nu}{Z Z':Nat->Prop}{st st':St}{m m':Tb bK}{F F':Zo}{H H' H1:bp}{N:Nat->Zk}
def OD{k:Fl}{es:Nat}{xs:Zt}{d:Nat}(o:dY ν m H Z d (.sl k es xs)):(nP k es xs).good=true:=by
 by_cases a:cG k=true;simp only[dY,a,if_true]at o;have⟨u,_,_,t,_⟩:=o;have e:nP k es xs=.fsl es xs:=by cases k<;>simp[cG]at a<;>rfl
 rw[e];simp only[V.good];exact t.good;cases k<;>simp[cG]at a<;>rfl
mutual
def KU(D:∀d ob,bl m d=some ob->dY ν m H Z d ob):∀(n:Nat)(sv:SV)(x y:V),shut m n sv=some x->c9 ν m H Z sv y->x.good=true
 |n,.v x,z,y,h,r=>by simp only[shut,ζa]at h;subst h;exact r.fr.good|n,.own d,z,y,h,r=>by simp only[shut]at h;split at h;(next k es xs B=>simp only[ζa]at h;subst h;exact OD (D d _ B));simp at h|0,.ptr d o,z,y,h,r=>by simp[shut]at h|n+1,.ptr d o,z,y,h,r=>by simp only[shut]at h;split at h;rename_i cs B;split at h;rename_i xs J;split at h;simp only[ζa]at h;subst h;have⟨es,G,_,p,_⟩:=D d _ B;simp only[V.good];exact xV _ (mc D n cs xs G J p);simp at h;simp at h;simp at h|n,.el d i o,z,y,h,r=>by cases n<;>simp[shut]at h|n,.yl id,z,y,h,r=>by cases n<;>simp[shut]at h|n,.mp d,z,y,h,r=>by simp only[shut]at h;split at h;rename_i L B;simp only[ζa]at h;subst h;have⟨t,_,e⟩:=D d _ B;simp only[V.good];refine DY.2 λj u g=>?_;have O:j<t.length:=(by rw[<-e.1];exact(ζe.1 g).1);have⟨⟨_,c⟩,w⟩:=e.2 j u _ g (ζd O);exact⟨jq c,w.good⟩;simp at h|0,.clo f a b,z,y,h,r=>by simp[shut]at h|n+1,.clo f a b,z,y,h,r=>by simp only[shut]at h;split at h;(next Q x2 c w=>simp only[ζa]at h;subst h;obtain⟨S,T,rfl,U,W⟩:=r.jI;simp only[V.good,ζh];exact⟨mc D n a Q S c U,mc D n b x2 T w W⟩);simp at h|0,.tup l,z,y,h,r=>by simp[shut]at h|n+1,.tup l,z,y,h,r=>by simp only[shut]at h;obtain⟨xs,c,rfl⟩:=ζf.1 h;obtain⟨C,rfl,I⟩:=r.pR;simp only[V.good];exact mc D n l xs C c I|0,.agg l,z,y,h,r=>by simp[shut]at h|n+1,.agg l,z,y,h,r=>by simp only[shut]at h;obtain⟨xs,c,rfl⟩:=ζf.1 h;obtain⟨C,rfl,I⟩:=r.iu;simp only[V.good];exact mc D n l xs C c I
def mc(D:∀d ob,bl m d=some ob->dY ν m H Z d ob):∀(n:Nat)(svs:Zw)(xs ys:Zu),c6 m n svs=some xs->bY ν m H Z svs ys->V.cE xs=true
 |n,[],xs,ys,h,r=>by simp only[c6,ζa]at h;subst h;rfl|n,sv::svs,xs,ys,h,r=>by simp only[c6]at h;split at h;(next y s a G=>simp only[ζa]at h;subst h;obtain⟨J,B,rfl,r1,r2⟩:=r.inv;simp only[V.cE,ζh];exact⟨KU D n sv y J a r1,mc D n svs s B G r2⟩);simp at h
end
def GO{f:V->a_ V}:∀{xs ys:aZ (V×V)},xs.length=ys.length->(∀(j:Nat)u v,xs[j]?=some u->ys[j]?=some v->f v.1=some u.1/\f v.2=some u.2)->kL f ys=some xs
 |[],[],_,_=>rfl|[],y::ys,h,_=>by simp at h|x::xs,[],h,_=>by simp at h|(a,b)::xs,(c,d)::ys,h,B=>by have⟨e,D⟩:=B 0 _ _ rfl rfl;simp only at e D;simp only[kL,e,D,GO (xs:=xs) (ys:=ys) (by simpa using h) λj u v g i=>B (j+1) u v (by simpa using g) (by simpa using i)]
def GA:∀{l:aZ (V×V)}{n:Nat},V.rT n l=true↔∀(j:Nat)u,l[j]?=some u->u.1.lvl n=true/\u.2.lvl n=true
 |[],n=>by simp[V.rT]|(k,x)::l,n=>by simp only[V.rT,ζh,GA (l:=l)];constructor;rintro⟨b,B⟩ j u a;(cases j with|zero=>simp at a;subst a;exact b|succ j=>exact B j u (by simpa using a));intro h;exact⟨h 0 (k,x) rfl,λj u a=>h (j+1) u (by simpa using a)⟩
def tH{n:Nat}{xs ys:Zu}(D:gX (borrow n H1) ys=some xs)(B:V.kr ys=true):ys=xs:=by
 have t:=jU (f:=borrow n H1) (xs:=ys) (ys:=ys) rfl λj u v a b=>by rw[a]at b;cases b;exact d_ n H1 (nX.1 B j u a)
 rw[D]at t;cases t;rfl
mutual
def HO{fr:Zv}(G:∀d∈fr,∀e ob,bl m e=some ob->ob.cQ d=false)(J:∀d ob,bl m d=some ob->d∉fr->dY ν m H1 Z d ob):
 ∀(n:Nat)(sv:SV)(x y:V),shut m n sv=some x->(∀d∈fr,sv.cQ d=false)->c9 ν m H1 Z sv y->∀k,x.lvl k=true->borrow k H1 y=some x
 |n,.v x,z,y,h,B,r,k,hk=>by simp only[shut,ζa]at h;subst h;exact r.fr.borrow k hk|n,.own d,z,y,h,B,r,k,hk=>by simp only[shut]at h;split at h;rename_i p es xs D;simp only[ζa]at h;subst h;obtain⟨_,_,_,e,rfl⟩:=r.jG D;cases e;have w:d∉fr:=λw=>(by have:=B d w;simp[SV.cQ]at this);have o:=J d _ D w;by_cases I:cG p=true;simp only[dY,I,if_true]at o;have⟨ys,g,H,K,_⟩:=o;rw[rz I];have e:nP p es xs=.fsl es xs:=(by cases p<;>simp[cG]at I<;>rfl);rw[e]at hk⊢;exact(FR.Kg (Z:=λ_=>True) trivial (show br H1 (ν d).1=some (es,ys)by unfold br;rw[g];rfl) H (K.mono λid h=>⟨trivial,rfl⟩)).borrow k hk;cases p<;>simp[cG]at I;exact d_ k H1 rfl;exact d_ k H1 rfl;simp at h|0,.ptr d o,z,y,h,B,r,k,hk=>by simp[shut]at h|n+1,.ptr d o,z,y,h,B,r,k,hk=>by
  simp only[shut]at h;split at h;rename_i L D;split at h;rename_i xs s;split at h;rename_i M;simp only[ζa]at h;subst h;obtain⟨_,e,rfl⟩:=r.nZ D;cases e;have w:d∉fr:=λw=>by have:=B d w;simp[SV.cQ]at this
  have⟨es,O,g,A,_⟩:=J d _ D w
  cases k with
  |zero=>simp[V.lvl]at hk|succ k=>
   simp only[V.lvl]at hk;have N:∀e∈fr,SV.dB e (L.drop o)=false:=λe P=>by
    have:=G e P d _ D;simp only[bK.cQ]at this
    cases R:SV.dB e (L.drop o)with
    |false=>rfl|true=>
     exfalso;have:∀{l:Zw}{j:Nat},SV.dB e (l.drop j)=true->SV.dB e l=true:=by
      intro l
      induction l with
      |nil=>intro j h;simpa using h|cons a l Q=>intro j h;cases j with
       |zero=>simpa using h|succ j=>simp only[SV.dB,or_eq_true];exact .inr (Q (by simpa using h))
     rw[this R]at *;simp_all
   have S:xs.length=L.length:=by have:∀{l:Zw}{r:Zu},c6 m n l=some r->r.length=l.length:=(by intro l;induction l with|nil=>intro r h;simp only[c6,ζa]at h;subst h;rfl|cons a l Q=>intro r h;simp only[c6]at h;split at h;(next c T=>simp only[ζa]at h;subst h;simp[Q T]);simp at h);exact this s
   have ad:c6 m n (L.drop o)=some (xs.drop o):=by have:∀{l:Zw}{r:Zu}{j:Nat},c6 m n l=some r->c6 m n (l.drop j)=some (r.drop j):=(by intro l;induction l with|nil=>intro r j h;simp only[c6,ζa]at h;subst h;simp[c6]|cons a l Q=>intro r j h;have h0:=h;simp only[c6]at h;split at h;rename_i c T;simp only[ζa]at h;subst h;(cases j with|zero=>exact h0|succ j=>exact Q T);simp at h);exact this s
   have hb:=jA G J n (L.drop o) (xs.drop o) (O.drop o) ad N (A.drop o) k hk;unfold borrow;simp only[V.closed,false_eq_true,if_false,g,ζb,Ob.rows,getElem?_cons_zero,if_pos (show o<=O.length by rw[<-A.1,<-S];exact M),hb,map_some]
  simp at h;simp at h;simp at h
 |n,.el d i o,z,y,h,B,r,k,hk=>by cases n<;>simp[shut]at h|n,.yl id,z,y,h,B,r,k,hk=>by cases n<;>simp[shut]at h|n,.mp d,z,y,h,B,r,k,hk=>by simp only[shut]at h;split at h;rename_i ae D;simp only[ζa]at h;subst h;obtain⟨_,e,rfl⟩:=r.Cs D;cases e;have w:d∉fr:=λw=>(by have:=B d w;simp[SV.cQ]at this);have⟨U,g,W⟩:=J d _ D w;(cases k with|zero=>simp[V.lvl]at hk|succ k=>simp only[V.lvl]at hk;unfold borrow;simp only[V.closed,false_eq_true,if_false,g];rw[GO (xs:=ae) (ys:=U) W.1 λj u v E hv=>?_];rfl;have⟨⟨e1,e2⟩,e3⟩:=W.2 j u v E hv;exact⟨by rw[<-e1];exact d_ k H1 (V.j8 (jq e2)),e3.borrow k (GA.1 hk j u E).2⟩);simp at h
 |0,.clo f a b,z,y,h,B,r,k,hk=>by simp[shut]at h|n+1,.clo f a b,z,y,h,B,r,k,hk=>by simp only[shut]at h;split at h;rename_i x1 x2 c T;simp only[ζa]at h;subst h;obtain⟨a',F,rfl,ra,rb⟩:=r.jI;(cases k with|zero=>simp[V.lvl]at hk|succ k=>simp only[V.lvl,ζh]at hk;have C:=jA G J n a x1 a' c (λd w=>by have:=B d w;simp only[SV.cQ,or_eq_false_iff]at this;exact this.1) ra k hk.1;have X:=jA G J n b x2 F T (λd w=>by have:=B d w;simp only[SV.cQ,or_eq_false_iff]at this;exact this.2) rb k hk.2;by_cases t:(V.clo f a' F).closed=true;rw[d_ _ _ t];simp only[V.closed,ζh]at t;rw[tH C t.1,tH X t.2];unfold borrow;rw[if_neg t];simp only[C,X]);simp at h|0,.tup l,z,y,h,B,r,k,hk=>by simp[shut]at h|n+1,.tup l,z,y,h,B,r,k,hk=>by simp only[shut]at h;obtain⟨xs,c,rfl⟩:=ζf.1 h;obtain⟨Y,rfl,q⟩:=r.pR;cases k with|zero=>simp[V.lvl]at hk|succ k=>simp only[V.lvl]at hk;have C:=jA G J n l xs Y c (λd w=>by have:=B d w;simpa[SV.cQ]using this) q k hk;by_cases t:(V.tup Y).closed=true;rw[d_ _ _ t];simp only[V.closed]at t;rw[tH C t];unfold borrow;rw[if_neg t];simp only[C,map_some]
 |0,.agg l,z,y,h,B,r,k,hk=>by simp[shut]at h|n+1,.agg l,z,y,h,B,r,k,hk=>by simp only[shut]at h;obtain⟨xs,c,rfl⟩:=ζf.1 h;obtain⟨Y,rfl,q⟩:=r.iu;cases k with|zero=>simp[V.lvl]at hk|succ k=>simp only[V.lvl]at hk;have C:=jA G J n l xs Y c (λd w=>by have:=B d w;simpa[SV.cQ]using this) q k hk;by_cases t:(V.agg Y).closed=true;rw[d_ _ _ t];simp only[V.closed]at t;rw[tH C t];unfold borrow;rw[if_neg t];simp only[C,map_some]
def jA{fr:Zv}(B:∀d∈fr,∀e ob,bl m e=some ob->ob.cQ d=false)(J:∀d ob,bl m d=some ob->d∉fr->dY ν m H1 Z d ob):
 ∀(n:Nat)(svs:Zw)(xs ys:Zu),c6 m n svs=some xs->(∀d∈fr,SV.dB d svs=false)->bY ν m H1 Z svs ys->∀k,V.kC k xs=true->gX (borrow k H1) ys=some xs
 |n,[],xs,ys,h,D,r,k,hk=>by simp only[c6,ζa]at h;subst h;rw[r.cU];rfl|n,sv::svs,xs,ys,h,D,r,k,hk=>by simp only[c6]at h;split at h;rename_i y s a O;simp only[ζa]at h;subst h;obtain⟨U,G,rfl,r1,r2⟩:=r.inv;simp only[V.kC,ζh]at hk;have u:=HO B J n sv y U a (λd t=>by have:=D d t;simp only[SV.dB,or_eq_false_iff]at this;exact this.1) r1 k hk.1;have w:=jA B J n svs s G O (λd t=>by have:=D d t;simp only[SV.dB,or_eq_false_iff]at this;exact this.2) r2 k hk.2;simp only[gX,u,w];simp at h
end
end
def Og(n:Nat):V.kC n []=true:=by cases n<;>rfl
def L4(n:Nat)(x:V)(r:Zu):V.kC n (x::r)=(V.lvl n x&&V.kC n r):=by cases n<;>rfl
mutual
def Cm:∀{n:Nat}{x:V},V.lvl n x=true->V.lvl (n+1) x=true
 |0,.fsl ..,h=>by simp[V.lvl]at h|0,.fptr ..,h=>by simp[V.lvl]at h|0,.fmap ..,h=>by simp[V.lvl]at h|0,.agg ..,h=>by simp[V.lvl]at h|0,.tup ..,h=>by simp[V.lvl]at h|0,.clo ..,h=>by simp[V.lvl]at h|n+1,.fsl es xs,h=>by simp only[V.lvl]at h⊢;exact Bk h|n+1,.fptr cs,h=>by simp only[V.lvl]at h⊢;exact rq h|n+1,.fmap B,h=>by simp only[V.lvl]at h⊢;exact CZ h|n+1,.agg cs,h=>by simp only[V.lvl]at h⊢;exact rq h|n+1,.tup cs,h=>by simp only[V.lvl]at h⊢;exact rq h|n+1,.clo f a b,h=>by simp only[V.lvl,ζh]at h⊢;exact⟨rq h.1,rq h.2⟩|0,.bool _,_|0,.int ..,_|0,.str _,_|0,.gP,_|0,.gb,_|0,.ri,_|0,.dG,_|0,.bJ,_|0,.hsl ..,_|0,.hptr ..,_|0,.yld _,_|0,.hmap _,_=>rfl|_+1,.bool _,_|_+1,.int ..,_|_+1,.str _,_|_+1,.gP,_|_+1,.gb,_|_+1,.ri,_|_+1,.dG,_|_+1,.bJ,_|_+1,.hsl ..,_|_+1,.hptr ..,_|_+1,.yld _,_|_+1,.hmap _,_=>rfl
def rq:∀{n:Nat}{x:Zu},V.kC n x=true->V.kC (n+1) x=true
 |n,[],_=>Og _|n,a::l,h=>by rw[L4,ζh]at h⊢;exact⟨Cm h.1,rq h.2⟩
def Bk:∀{n:Nat}{x:Zt},V.om n x=true->V.om (n+1) x=true
 |n,[],_=>by simp only[V.om]|n,a::l,h=>by simp only[V.om,ζh]at h⊢;exact⟨rq h.1,Bk h.2⟩
def CZ:∀{n:Nat}{x:aZ (V×V)},V.rT n x=true->V.rT (n+1) x=true
 |n,[],_=>by simp only[V.rT]|n,(k,v)::l,h=>by simp only[V.rT,ζh]at h⊢;exact⟨⟨Cm h.1.1,Cm h.1.2⟩,CZ h.2⟩
end
def wS{n m:Nat}(h:n<=m){x:V}(B:V.lvl n x=true):V.lvl m x=true:=by induction h with|refl=>exact B|step _ t=>exact Cm t
def nW{n m:Nat}(h:n<=m){x:Zu}(B:V.kC n x=true):V.kC m x=true:=by induction h with|refl=>exact B|step _ t=>exact rq t
def MS{n m:Nat}(h:n<=m){x:Zt}(B:V.om n x=true):V.om m x=true:=by induction h with|refl=>exact B|step _ t=>exact Bk t
def QN{n m:Nat}(h:n<=m){x:aZ (V×V)}(B:V.rT n x=true):V.rT m x=true:=by induction h with|refl=>exact B|step _ t=>exact CZ t
mutual
def zk:∀x:V,∃n,V.lvl n x=true
 |.fsl es xs=>let⟨n,h⟩:=FP xs;⟨n+1,by simp only[V.lvl];exact h⟩|.fptr t=>let⟨n,h⟩:=k_ t;⟨n+1,by simp only[V.lvl];exact h⟩|.fmap u=>let⟨n,h⟩:=Ic u;⟨n+1,by simp only[V.lvl];exact h⟩|.agg t=>let⟨n,h⟩:=k_ t;⟨n+1,by simp only[V.lvl];exact h⟩|.tup t=>let⟨n,h⟩:=k_ t;⟨n+1,by simp only[V.lvl];exact h⟩|.clo f a b=>let⟨n,h⟩:=k_ a;let⟨m,k⟩:=k_ b;⟨max n m+1,by simp only[V.lvl,ζh];exact⟨nW (le_max_left _ _) h,nW (le_max_right _ _) k⟩⟩|.bool _|.int ..|.str _|.gP|.gb|.ri|.dG|.bJ|.hsl ..|.hptr ..|.yld _|.hmap _=>⟨0,rfl⟩
def k_:∀x:Zu,∃n,V.kC n x=true
 |[]=>⟨0,by simp only[V.kC]⟩|a::l=>let⟨n,h⟩:=zk a;let⟨m,k⟩:=k_ l;⟨max n m,by simp only[V.kC,ζh];exact⟨wS (le_max_left _ _) h,nW (le_max_right _ _) k⟩⟩
def FP:∀x:Zt,∃n,V.om n x=true
 |[]=>⟨0,by simp only[V.om]⟩|a::l=>let⟨n,h⟩:=k_ a;let⟨m,k⟩:=FP l;⟨max n m,by simp only[V.om,ζh];exact⟨nW (le_max_left _ _) h,MS (le_max_right _ _) k⟩⟩
def Ic:∀x:aZ (V×V),∃n,V.rT n x=true
 |[]=>⟨0,by simp only[V.rT]⟩|(a,b)::l=>let⟨n,h⟩:=zk a;let⟨m,k⟩:=zk b;let⟨q,p⟩:=Ic l;⟨max n (max m q),by simp only[V.rT,ζh];exact⟨⟨wS Za h,wS Za k⟩,QN Za p⟩⟩
end
def jb(E:Env)(call:dw)(ops:Zz)(place:a_ (Nat×Nat))(f:Zk)(args:Zu)(H:bp):a_ (V×bp):=
 if kH E ops place f then
  match place with
  |none=>eO E call f args H|some (_,i)=>if dA ops i then eO E call f args H else none
 else match place with
  |none=>match b8 call f args H with
   |some y=>some (y,if y.scalar then H else cH H (cM (cg call.lv H) args))|none=>none
  |some (b,i)=>match b8 call f args (H.take b)with
   |some y=>if y.scalar then some (y,H)else if iI (H.take b) (cM (cg call.lv (H.take b)) args)then some (y,cH H (cM (cg call.lv (H.take b)) args))else none|none=>if dA ops i then match b8 call f args H with
    |some y=>some (y,if y.scalar then H else cH H (cM (cg call.lv H) args))|none=>none
    else none
section
variable{Rv:Nat->Prop}{ν ν':Nu}{Z Z':Nat->Prop}{st st':St}{m m':Tb bK}{F F':Zo}{H H' H1:bp}{N:Nat->Zk}{S:Sys}{c:b9}
def FV:∀(l:Zw)(i s:Nat)(sv:SV),bl (vW i l) s=some sv->∃j,s=i+j/\l[j]?=some sv
 |[],i,s,sv,h=>by simp[vW,bl]at h|x::l,i,s,sv,h=>by simp only[vW,bl]at h;split at h;(next e=>simp only[ζa]at h;subst h;exact⟨0,Za,rfl⟩);have⟨j,a,B⟩:=FV l (i+1) s sv h;exact⟨j+1,Za,by simpa using B⟩
def v8{svs:Zw}{args:Zu}(h:bY ν m H Z svs args):∀s sv,bl (vW 0 svs) s=some sv->c9 ν m H Z sv (get args s):=λs sv t=>by obtain⟨j,rfl,u⟩:=FV svs 0 s sv t;have⟨y,w,r⟩:=h.get u;rw[Nat.zero_add,FW args j y w];exact r
def vM{az:Zu}(a:V.cE az=true):R (λ_=>(0,0)) (λ_=>False) (start (az.map .v) []) az []/\bY (λ_=>(0,0)) [] [] (λ_=>False) (az.map .v) az:=by have h:bY (λ_=>(0,0)) [] [] (λ_=>False) (az.map .v) az:=bY.qu (di.same a);refine⟨⟨v8 h,λd ob t=>by simp[start,bl]at t,λd w ob u t=>by simp[start,bl]at t,λd ob t=>by simp[start,bl]at t,λid h=>h.elim,⟨λid es z h=>h.elim⟩⟩,h⟩
def EM{xs ys:Zu}(h:di H Z xs ys):((result xs).scalar=true->result ys=result xs)/\(result ys).scalar=(result xs).scalar:=by cases xs with|nil=>rw[h.cU];exact⟨λ_=>rfl,rfl⟩|cons x xs=>obtain⟨y,ys,rfl,a,t⟩:=h.inv;cases xs with|nil=>rw[t.cU];exact a.scalar|cons x2 xs=>obtain⟨u,ys,rfl,w,z⟩:=t.inv;exact FR.scalar (.tup _ _ h.1 h.2)
def Bw(W:je S c){f:Zk}{az ys:Zu}{rs:Zw}{m':dV}(g:V.cE az=true)(h:c f (az.map .v) []=some (rs,m'))(J:c6 m' 8 rs=some ys):
 ∃n r H2,(∀k,n<=k->run S.E k (.fn f) az []=some (r,H2))/\(∀k,n<=k->borrow k H2 r=some (result ys))/\(result ys).good=true:=by
 have⟨X,r1⟩:=vM g;obtain⟨n,y,H2,ν',Z',st',F',w,i,rfl,Y,O,Q,_⟩:=W f _ _ _ _ h _ _ az [] (.inr rfl) X r1;subst Y;have B:=mc Q.obj 8 rs ys w J O;have⟨L,T⟩:=k_ ys;refine⟨max n (L+1),result w,H2,λk e=>(l8 S.E (le_trans (le_max_left ..) e)).go _ _ _ _ i,λk e=>?_,?_⟩
 .have u:=jA (fr:=[]) (λd C=>by simp at C) (λd ob C _=>Q.obj d ob C) 8 rs _ _ J (λd C=>by simp at C) O
  obtain⟨k,rfl⟩:∃j,k=j+1:=⟨k-1,Za⟩
  have U:=u k (nW Za T)
  have Z:=u (k+1) (nW Za T)
  have⟨e1,e2⟩:=iK Z
  cases w with
  |nil=>obtain rfl:=List.eq_nil_of_length_eq_zero e1;exact d_ _ H2 rfl|cons z w=>
   cases w with
   |nil=>
    obtain⟨y,rfl⟩:∃y,ys=[y]:=by cases ys with|nil=>simp at e1|cons y l=>cases l with|nil=>exact⟨y,rfl⟩|cons _ _=>simp at e1
    have⟨x,m,G⟩:=e2 0 y rfl;cases m;exact G
   |cons z2 w=>
    obtain⟨y,D,l,rfl⟩:∃y D l,ys=y::D::l:=by cases ys with|nil=>simp at e1|cons y l=>cases l with|nil=>simp at e1|cons D l=>exact⟨y,D,l,rfl⟩
    by_cases t:(V.tup (z::z2::w)).closed=true
    .simp only[result];rw[d_ _ _ t];simp only[V.closed]at t;rw[tH U t]
    simp only[result];unfold borrow;rw[if_neg t];simp only[U,map_some]
 have:∀{l:Zu},V.cE l=true->(result l).good=true:=by
  intro l I
  cases l with
  |nil=>rfl|cons a l=>cases l with
   |nil=>simp only[V.cE,ζh]at I;exact I.1|cons b l=>simp only[result,V.good];exact I
 exact this B
def Dp{f:Zk}{args az:Zu}{y r:V}{H2:bp}{n:Nat}(a:∀k,n<=k->run S.E k (.fn f) az []=some (r,H2))(D:∀k,n<=k->borrow k H2 r=some y)(b:y.good=true){B:Nat}(G:∀k,B<=k->borrows k H args=some az):
 ∀k,max n B<=k->b8 (run S.E k) f args H=some y:=λk c=>by
 unfold b8;simp only[mV,G k Za,a k Za,D k Za,V.j8 b,if_true]
def qw(B:∀id,Z id->(br H id).isSome=true){T:Zv}{id:Nat}(h:Z id):br (cH H T) id=br H id:=by
 have:=B id h;unfold br at this⊢;rw[iz];cases t:H[id]?with|none=>rw[t]at this;simp at this|some ob=>
  rw[t]at this;simp only[map_some,ζb];by_cases e:id∈T
  .rw[if_pos e];cases ob<;>first|rfl|simp[Ob.rows]at this
  rw[if_neg e]
def th{T:Zv}{id:Nat}(h:id∉T):(cH H T)[id]?=H[id]?:=by rw[iz];cases H[id]?<;>simp[h]
def zN{az:Zu}{args:Zw}{ys:Zu}(B:∀d ob,bl m d=some ob->dY ν m H Z d ob)(h:c6 m 8 args=some az)(r:bY ν m H Z args ys):V.cE az=true:=mc B 8 args az ys h r
def we{az:Zu}{args:Zw}{ys:Zu}(r:R ν Z st F H)(B:bY ν st.m H Z args ys)(h:c6 st.m 8 args=some az):∃n,∀k,n<=k->borrows k H ys=some az:=
 let⟨n,u⟩:=k_ az
 ⟨n,λk a=>jA (fr:=[]) (λd t=>Ze) (λd ob t _=>r.obj d ob t) 8 args az ys h (λd t=>Ze) B k (nW a u)⟩
def mq{b id:Nat}(h:id<b):br (H.take b) id=br H id:=by unfold br;grind
def I7{b:Nat}{fr:Zv}{az:Zu}{args:Zw}{ys:Zu}(r:R ν Z st F H)(B:bY ν st.m H Z args ys)(h:c6 st.m 8 args=some az)
 (G:∀d ob,bl st.m d=some ob->cz ob=true->d∉fr->(ν d).1<b)(D:∀id,Z id->id<b)(a:fS st.m fr args=true):∃n,∀k,n<=k->borrows k (H.take b) ys=some az:=by
 have⟨n,w⟩:=k_ az;refine⟨n,λk f=>?_⟩
 unfold fS at a;have c:∀d∈fr,SV.dB d args=false/\rR d st.m=false:=λd t=>by grind
 have u:∀id,Z id->Z id/\br (H.take b) id=br H id:=λid h=>⟨h,mq (D id h)⟩
 refine jA (λd t e ob z=>w_ (c d t).2 z) (λd ob t C=>?_) 8 args az ys h (λd t=>(c d t).1) (B.mono u λe _=>iM ν st.m e) k (nW f w)
 exact dY.mono u rfl (λI=>Zd) (λe _=>iM ν st.m e) (r.obj d ob t)
def ID(hS:je S c){ops:Zz}{place:a_ (Nat×Nat)}{dr nw:Zl}{fr:Zv}(ad:dr=place.isSome)(aa:∀b i,place=some (b,i)->nw=true->dA ops i=true)
 (m:∀b i,place=some (b,i)->(∀d ob,bl st.m d=some ob->cz ob=true->d∉fr->(ν d).1<b)/\∀id,Z id->id<b)
 (r:R ν Z st F H){args:Zw}{ys:Zu}(o:bY ν st.m H Z args ys){f:Zk}(e:kH S.E ops place f=false){az:Zu}(M:c6 st.m 8 args=some az)(a:(!dr||nw)=true\/fS st.m fr args=true)
 {rs:Zw}{m':dV}{G:Zu}(N:c f (az.map .v) []=some (rs,m'))(l:c6 m' 8 rs=some G)(O:(result G).scalar=true\/(dy args).isSome=true):
 ∃n H',(∀k,n<=k->jb S.E (run S.E k) ops place f ys H=some (result G,H'))/\R ν Z st F H'/\c9 ν st.m H' Z (.v (result G)) (result G)/\Ev Rv ν Z st H ν Z st H':=by
 have hg:=zN r.obj M o;have⟨P,rr,H2,p,h2,h3⟩:=Bw hS hg N l;have⟨n2,hb⟩:=we r o M;have I:=Dp p h2 h3 hb;generalize hn:max P n2=n at I;have B:=I;have Q:∀k,n<=k->cM (cg k H) ys=cM (cg n H) ys:=λk e=>xL e (hb n Za)
 have D:∀{H'},c9 ν st.m H' Z (.v (result G)) (result G):=.v _ _ (.same _ h3);have C:∀T:Zv,(∀id∈T,Z id)->R ν Z st F (cH H T)/\Ev Rv ν Z st H ν Z st (cH H T):=λT W=>
  ⟨r.heap (λid ho=>th λw=>by obtain⟨d,ob,g1,g2,rfl⟩:=ho;exact r.apart d ob g1 g2 (W _ w)) (λid w=>qw r.zrow w),
   Ev.heap (by rw[jF];grind) (λid _ _ l _=>th λw=>l (W id w)) (λid w=>qw r.zrow w)⟩
 have J:(dy args).isSome=true->(∀id∈cM (cg n H) ys,Z id)/\True:=λX=>by
  have⟨xs,X⟩:=isSome_iff_exists.1 X;have q:=o.dy X;exact⟨λid w=>by
   have⟨j,u,s,Y⟩:=oL w;have hj:j<xs.length:=by rw[q.1];grind
   exact FR.cg r.deep n (q.2 j _ u (ζd hj) s) id Y,trivial⟩
 cases place with
 |none=>
  by_cases t:(result G).scalar=true
  .exact⟨n,H,λk z=>by simp[jb,e,B k z,t],r,D,.refl⟩
  obtain⟨W,-⟩:=J (O.resolve_left t);have⟨v,A⟩:=C _ W;exact⟨n,cH H (cM (cg n H) ys),λk z=>by simp[jb,e,B k z,t,mV,Q k z],v,D,A⟩
 |some bi=>
  have⟨b,i⟩:=bi;have⟨o1,o2⟩:=m b i rfl;have af:=ad;have g:∀k,b8 (run S.E k) f ys (H.take b)=some (result G)->(result G).scalar=false->iI (H.take b) (cM (cg k (H.take b)) ys)=true/\cM (cg k H) ys=cM (cg k (H.take b)) ys:=λk _ ah=>by have⟨xs,X⟩:=isSome_iff_exists.1 (O.resolve_left Zd);have q:=o.dy X;have U:∀id,Z id->Z id/\br (H.take b) id=br H id:=λid h=>⟨h,mq (o2 id h)⟩;have hd:Deep (H.take b) Z:=⟨λid es ys l hr c N u s=>by rw[(U id l).2]at hr;have⟨x,X⟩:=r.deep.row id es ys l hr c N u s;exact⟨x,X.mono U⟩⟩;have hZ:∀id∈cM (cg k (H.take b)) ys,Z id:=λid w=>(by have⟨j,u,s,Y⟩:=oL w;have hj:j<xs.length:=(by rw[q.1];grind);exact FR.cg hd k ((q.2 j _ u (ζd hj) s).mono U) id Y);refine⟨?_,sV _ λid w=>o2 id (hZ id w)⟩;unfold iI;rw[all_eq_true];intro id w;have p:=r.zrow id (hZ id w);rw[<-(U id (hZ id w)).2]at p;exact p
  rcases a with a|a
  .have ab:=aa b i rfl Zd
   by_cases t:(result G).scalar=true
   .refine⟨n,H,λk z=>?_,r,D,.refl⟩
    simp[jb,e];split
    next y K=>have:=o6 K;rw[B k z]at this;cases this;simp[t]
    simp[ab,B k z,t]
   obtain⟨W,-⟩:=J (O.resolve_left t);have⟨v,A⟩:=C _ W;refine⟨n,cH H (cM (cg n H) ys),λk z=>?_,v,D,A⟩
   simp only[jb,e,mV,false_eq_true,if_false];split
   .rename_i y K;have E:=o6 K;rw[B k z]at E;cases E;have⟨f1,f2⟩:=g k K (by simpa using t)
    rw[if_neg t,if_pos f1,<-f2,Q k z]
   simp only[ab,if_true,B k z];rw[if_neg t,Q k z]
  have⟨n3,ae⟩:=I7 r o M o1 o2 a;have L:=Dp p h2 h3 ae
  by_cases t:(result G).scalar=true
  .refine⟨max P n3,H,λk z=>?_,r,D,.refl⟩
   simp[jb,e];have:=L k z;simp[this,t]
  obtain⟨W,-⟩:=J (O.resolve_left t);have⟨v,A⟩:=C _ W;refine⟨max n (max P n3),cH H (cM (cg n H) ys),λk z=>?_,v,D,A⟩
  simp only[jb,e,mV,false_eq_true,if_false];have E:=L k Za
  have⟨f1,f2⟩:=g k E (by simpa using t)
  simp only[E];rw[if_neg t,if_pos f1,<-f2,Q k Za]
def DQ{α:Type}{k:Nat}{v:α}:∀{ds:Zv}{g:Tb α},bl (ov ds g) k=some v->k∉ds
 |[],_,_=>Zc|d::ds,g,h=>by have a:=DQ (ds:=ds) h;have t:=(ni (nE h)).1;grind
def xK:∀{args:Zw}{ds:Zv},rowsOf args=some ds->∀(j:Nat)u,args[j]?=some u->(∃x,u=.v x)\/∃d,u=.own d/\d∈ds
 |[],_,_,j,u,hu=>Ze|.v x::r,ds,h,j,u,hu=>by cases j with|zero=>grind|succ j=>exact xK (by simpa[rowsOf]using h) j u Zd
 |.own d::r,ds,h,j,u,hu=>by obtain⟨es,a,rfl⟩:=ζf.1 h;cases j with|zero=>grind|succ j=>rcases xK a j u Zd with k|⟨t,w,z⟩;grind;grind
 |.ptr ..::_,_,h,_,_,_|.el ..::_,_,h,_,_,_|.mp _::_,_,h,_,_,_|.clo ..::_,_,h,_,_,_|.tup _::_,_,h,_,_,_|.agg _::_,_,h,_,_,_|.yl _::_,_,h,_,_,_=>by simp[rowsOf]at h
def vc:∀{args:Zw}{ds:Zv}{n:Nat}{az:Zu},rowsOf args=some ds->c6 m n args=some az->∀d∈ds,∃ob,bl m d=some ob
 |[],ds,_,_,h,_,d,a=>by simp[rowsOf]at h;grind|x::r,ds,n,az,h,B,d,a=>by
  simp[c6]at B;split at B;rotate_left;cases B;rename_i y s b D
  cases x with
  |v x=>exact vc (by simpa[rowsOf]using h) D d a|own e=>obtain⟨es,g1,rfl⟩:=ζf.1 h;rcases mem_cons.1 a with rfl|a;cases n<;>(simp[shut]at b;grind);exact vc g1 D d a
  |_=>simp[rowsOf]at h
def AS{H0:bp}(U:Deep H0 Z)(Y:∀d ob,bl m d=some ob->cz ob=true->(H0[(ν d).1]?).isSome=true->dY ν m H0 Z d ob){args:Zw}{ys:Zu}(W:bY ν m H0 Z args ys){ds:Zv}(f:rowsOf args=some ds)
 (G:∀d∈ds,∃ob,bl m d=some ob){q id:Nat}(h:id∈cM (cg q H0) ys):Z id\/∃d ob,d∈ds/\bl m d=some ob/\cz ob=true/\(ν d).1=id/\∃j es off len:Nat,ys[j]?=some (V.hsl id es off len):=by
 have⟨j,y,S,a⟩:=oL h;have T:j<args.length:=by rw[W.1];grind
 have b:=ζd T;have C:=W.2 j _ y b S;rcases xK f j _ b with⟨x,e⟩|⟨d,e,I⟩
 .rw[e]at C;cases C with|v _ _ X=>exact .inl (FR.cg U q X id a)
 rw[e]at C;have⟨ob,B⟩:=G d I;obtain⟨k,es,D,rfl,rfl⟩:=C.jG B
 by_cases t:cG k=true
 .cases q with
  |zero=>simp[cg]at a|succ q=>
  have J:qP (ν d) k es D.length=.hsl (ν d).1 es (ν d).2 D.length:=by cases k<;>first|rfl|cases t
  rw[J]at a;have g:cz (.sl k es D)=true:=t
  by_cases w:(H0[(ν d).1]?).isSome=true
  .have o:=Y d _ B g w;simp[dY,t]at o;have⟨s,l,_,_,n,_⟩:=o;simp only[cg,V.closed,false_eq_true,if_false,l,mem_cons]at a;rcases a with rfl|a
   .grind
   have⟨i,u,b,L⟩:=oL a;have⟨c,p,O⟩:=List.mem_flatten.1 (mem_of_getElem? b);have⟨x,r⟩:=n c (mem_of_mem_drop (List.mem_of_mem_take p)) u O;exact .inl (FR.cg U q r id L)
  have z:H0[(ν d).1]?=none:=Zd
  simp[cg,V.closed,z]at a
  grind
 have Q:(qP (ν d) k es D.length).closed=true:=by cases k<;>first|rfl|(exact absurd rfl t)
 rw[GJ q H0 Q]at a;cases a
theorem Qv (hS:je S c) {ops:aZ Oper} {place:a_ (Nat×Nat)} {nw:Bool} (U:∀b i,place=some (b,i)->nw=true->dA ops i=true)
 (hold:∀b i,place=some (b,i)->∀id,Z id->id<b)
 (r:R ν Z st F H) {args:aZ SV} {ys:aZ V} (ha:bY ν st.m H Z args ys) {f:FuncId} (hk:S.E.keep f=false) {az:aZ V} (hs:c6 st.m 8 args=some az) (ab:(!place.isSome||nw)=true)
 {rs:aZ SV} {m':dV} {J:aZ V} (hc:c f (az.map .v) []=some (rs,m')) (W:c6 m' 8 rs=some J) (O:(result J).scalar=false) {ds:aZ Nat} (hr:rowsOf args=some ds) (Y:∀d∈ds,∃ob,bl st.m d=some ob) :
 ∃n H',(∀k,n<=k->jb S.E (run S.E k) ops place f ys H=some (result J,H'))/\R ν Z { st with m:=ov ds st.m } F H'/\c9 ν (ov ds st.m) H' Z (.v (result J)) (result J)/\Ev Rv ν Z st H ν Z { st with m:=ov ds st.m } H':=by
 have hg:=zN r.obj hs ha;obtain⟨n1,rr,H2,h1,h2,h3⟩:=Bw hS hg hc W;obtain⟨n2,hb⟩:=we r ha hs;have B:=Dp h1 h2 h3 hb;generalize hn:max n1 n2=n at B;have C:=B;have I:∀k,n<=k->cM (cg k H) ys=cM (cg n H) ys:=λk hk=>xL hk (hb n Za)
 have T:∀{H'},c9 ν (ov ds st.m) H' Z (.v (result J)) (result J):=.v _ _ (.same _ h3);have z:∀d ob,bl (ov ds st.m) d=some ob->bl st.m d=some ob:=λd ob h=>nE h
 have hT:∀id∈cM (cg n H) ys,Z id\/∃d ob,d∈ds/\bl st.m d=some ob/\cz ob=true/\(ν d).1=id/\∃j es off len:Nat,ys[j]? = some (V.hsl id es off len):=λid t=>AS r.deep (λd ob h _ _=>r.obj d ob h) ha hr Y t
 have r2  := r.less (λ_ _ h=>h) z
 have q1  := r2.heap (λid X=>th λt=>by
  obtain⟨d,ob,g1,g2,rfl⟩:=X;rcases hT _ t with h|⟨d',L,k1,k2,k3,k4,_⟩
  .exact r.apart d ob (z d ob g1) g2 h
  have:=r.inj d' d L ob k2 (z d ob g1) k3 g2 k4;subst this;exact DQ g1 k1) (λid t=>qw r.zrow t)
 have q2:Ev Rv ν Z st H ν Z { st with m:=ov ds st.m } (cH H (cM (cg n H) ys)):=(Ev.heap (by rw[jF];grind) (λid _ X W _=>th λt=>by
  rcases hT _ t with h|⟨d',L,k1,k2,k3,k4,_⟩
  .simp_all
  exact X ⟨d',L,k2,k3,k4⟩) (λid t=>qw r.zrow t)).trans (Ev.less  z)
 cases place with
 | none=>exact⟨n,cH H (cM (cg n H) ys),λk w=>by simp[jb,kH,hk,C k w,O,mV,I k w],q1,T,q2⟩
 | some bi=>
  obtain⟨b,i⟩:=bi;have o2:=hold b i rfl;have fits:∀k,b8 (run S.E k) f ys (H.take b)=some (result J)->iI (H.take b) (cM (cg k (H.take b)) ys)=true/\cM (cg k H) ys=cM (cg k (H.take b)) ys:=λk hi=>by
   have D:∀id,Z id->Z id/\br (H.take b) id=br H id:=λid h=>⟨h,mq (o2 id h)⟩
   have hd:Deep (H.take b) Z:=⟨λid es ys W hr c hc u hu=>by
    rw[(D id W).2]at hr;obtain⟨x,hx⟩:=r.deep.row id es ys W hr c hc u hu;exact⟨x,hx.mono D⟩⟩
   have ad  := ha.mono D λe _=>iM ν st.m e
   have ae:∀d ob,bl st.m d=some ob->cz ob=true->((H.take b)[(ν d).1]?).isSome=true->dY ν st.m (H.take b) Z d ob:=λd ob h hb af=>
    dY.mono D rfl (λ_=>by
     grind) (λe _=>iM ν st.m e) (r.obj d ob h)
   have aa:∀(j:Nat) (y:V),ys[j]? = some y->(borrow k (H.take b) y).isSome=true:=λj y Q=>by
    unfold b8 at hi;rw[mV]at hi;split at hi
    .rename_i ah ai;obtain⟨_,hm⟩:=iK ai;have hj:=(ζe.1 Q).1;obtain⟨x,ak,al⟩:=hm j _ (ζd (show j<ah.length by omega))
     grind
    cases hi
   have hZ:∀id∈cM (cg k (H.take b)) ys,id<b/\(br (H.take b) id).isSome=true:=λid t=>by
    rcases AS hd ae ad hr Y t with h|⟨d,ob,k1,k2,k3,k4,j,es,off,len,Q⟩
    .have:=r.zrow id h
     grind
    have G:=aa j _ Q
    cases k with
    | zero=>simp[borrow,V.closed]at G
    | succ k=>
    simp only[borrow,V.closed,Bool.false_eq_true,if_false]at G;split at G
    next am xs hx=>obtain⟨o,X,_⟩:=ζg.1 hx;have:=(ζe.1 X).1;rw[List.length_take]at this;exact⟨by omega,by unfold br;rw[hx];rfl⟩
    cases G
   refine⟨?_,sV _ λid t=>(hZ id t).1⟩
   unfold iI;rw[List.all_eq_true];exact λid t=>(hZ id t).2
  refine⟨n,cH H (cM (cg n H) ys),λk w=>?_,q1,T,q2⟩
  simp only[jb,kH,hk,mV,Bool.false_and,Bool.false_eq_true,if_false];split
  next y Q=>have h9:=o6 Q;rw[C k w]at h9;cases h9;obtain⟨f1,f2⟩:=fits k Q;rw[if_neg (by rw[O];simp),if_pos f1,<-f2,I k w]
  have aj:=U b i rfl (by simpa using ab)
  simp only[aj,if_true,C k w];rw[if_neg (by rw[O];simp),I k w]
def HF{xs ys:Zt}(h:fR H Z xs ys)(B:kS xs=true):ys=xs:=by
 refine(List.ext_getElem h.1 λj a w=>?_).symm;have:=h.2 j _ _ (ζd a) (ζd w);have t:=by unfold kS at B;rw[all_eq_true]at B;have:=B _ (List.getElem_mem a);rw[all_eq_true]at this;exact p9.2 λk u b=>this u (mem_of_getElem? b)
 exact(this.scalar.1 t).symm
def Co:∀{B:Zv}{os:Tb bK}{g:Tb bK},kQ g B=some os->∀k ob,bl os k=some ob->bl g k=some ob
 |[],os,g,h,k,ob,hk=>by simp[kQ]at h;subst h;simp[bl]at hk|n::r,os,g,h,k,ob,hk=>by simp only[kQ]at h;split at h;rename_i v t a D;cases h;simp only[bl]at hk;split at hk;(next e=>subst e;cases hk;exact a);exact Co D k ob hk;cases h
def HX{args:Zw}{os:dV}(h:wZ m args=some os):∀k ob,bl os k=some ob->bl m k=some ob:=Co h
mutual
def OA{d:Nat}:∀{x:SV},x.cQ d=true->d∈x.Eg
 |.v _,h=>by simp[SV.cQ]at h|.own e,h|.ptr e _,h|.el e _ _,h|.mp e,h=>by simp[SV.cQ]at h;simp[SV.Eg,h]|.clo _ a b,h=>by simp only[SV.cQ,or_eq_true]at h;simp only[SV.Eg,mem_append];rcases h with h|h;exact .inl (tN h);exact .inr (tN h)
 |.tup l,h|.agg l,h=>by simp only[SV.cQ]at h;simp only[SV.Eg];exact tN h|.yl _,h=>by simp[SV.cQ]at h
def tN{d:Nat}:∀{l:Zw},SV.dB d l=true->d∈SV.xS l
 |[],h=>by simp[SV.dB]at h|x::r,h=>by simp only[SV.dB,or_eq_true]at h;simp only[SV.xS,mem_append];rcases h with h|h;exact .inl (OA h);exact .inr (tN h)
end
def Az{D:Zv}{ob:bK}(h:within D ob=true){e:Nat}(B:ob.cQ e=true):e∈D:=by cases ob with|box u=>unfold within at h;rw[all_eq_true]at h;simpa using h e (tN B)|sl k es w=>simp[bK.cQ]at B|mp t=>simp[bK.cQ]at B
def CF{D:Zv}:∀{l:Zv}{a b:Tb bK},xq D m' l a=some b->(∀k∈l,bl b k=bl m' k/\∃ob,bl m' k=some ob/\within D ob=true)/\∀k,k∉l->bl b k=bl a k
 |[],a,b,h=>by simp[xq]at h;grind|d::r,a,b,h=>by simp[xq]at h;split at h;rename_i ob B;split at h;rename_i f;have⟨i,G⟩:=CF h;refine⟨λk c=>?_,λk c=>?_⟩;by_cases g:k∈r;grind;have e:k=d:=Zd;subst e;exact⟨by rw[G k g,cF,B],ob,B,f⟩;simp at c;rw[G k c.2,dN _ _ (symm c.1)];grind;grind
def ER{l:Zv}{a b:Tb bK}(h:mz m' l a=some b):(∀k∈l,bl b k=bl m' k/\∃ob,bl m' k=some ob/\within l ob=true)/\∀k,k∉l->bl b k=bl a k:=CF h
def mem_keys:∀{os:dV}{k:Nat},k∈os.map (·.1)↔∃ob,bl os k=some ob
 |[],k=>by simp[bl]|(d,o)::os,k=>by simp[bl];by_cases e:d=k;simp_all;rw[if_neg e,<-mem_keys];grind
def sK:∀{l:Zw}{j:Nat}{u:SV},SV.vG l=true->l[j]?=some u->u.bare=true
 |[],j,u,h,B=>by simp at B|x::r,j,u,h,B=>by simp only[SV.vG,ζh]at h;cases j with|zero=>simp at B;subst B;exact h.1|succ j=>exact sK h.2 (by simpa using B)
def c9.bare{Z2:Nat->Prop}{sv:SV}{y:V}(r:c9 ν m H Z sv y):sv.bare=true->c9 ν m H Z2 sv y:=by induction r with|v x y h=>intro w;have w:x.scalar=true:=w;rw[(h.scalar.1 w)];exact .v _ _ (.same _ (jq w))|own d y h=>intro _;exact .own d y h|ptr d o y h=>intro _;exact .ptr d o y h|el d i o y h=>intro _;exact .el d i o y h|mp d y h=>intro _;exact .mp d y h|clo f a b z D B w hva G t C=>intro h;simp only[SV.bare,ζh]at h;exact .clo f a b z D B w (λj u v c e=>t j u v c e (sK h.1 c)) λj u v c e=>C j u v c e (sK h.2 c)|tup a z B hva t=>intro h;exact .tup a z B λj u v c e=>t j u v c e (sK h c)|agg a z B hva t=>intro h;exact .agg a z B λj u v c e=>t j u v c e (sK h c)|yl id=>intro _;exact .yl id
def dY.bare{Z2:Nat->Prop}{d:Nat}{ob:bK}(h:ob.bare=true)(o:dY ν m H Z d ob):dY ν m H Z2 d ob:=by cases ob with|box C=>have⟨es,t,b,w,z⟩:=o;exact⟨es,t,b,⟨w.1,λj u v a c=>(w.2 j u v a c).bare (sK h a)⟩,z⟩|sl k es D=>cases h|mp B=>cases h
def ze(hS:je S c){f:Zk}(ae:S.E.keep f=true)(r:R ν Z st F H){args:Zw}{ys:Zu}(ha:bY ν st.m H Z args ys){os:dV}(hh:wZ st.m args=some os)
 {rs:Zw}{m':dV}{G:Tb bK}(hc:c f args os=some (rs,m'))(x:mz m' (os.map (·.1)) st.m=some G):
 ∃n H' U Z' D F1 M,(∀k,n<=k->run S.E k (.fn f) ys H=some (result M,H'))/\D.m=m'/\bY U m' H' Z' rs M/\R U Z' D F1 H'/\(∀e ob,bl m' e=some ob->e∉os.map (·.1)->cz ob=true->H.length<=(U e).1)/\
  R ν Z' {st with m:=G} F H'/\Ev Rv ν Z st H ν Z' {st with m:=G} H'/\(∀e ob',bl G e=some ob'->∃ob,bl st.m e=some ob/\ν e=ν e/\sameShape ob ob')/\
  ((∀k∈os.map (·.1),yY G k=true)->R ν Z {st with m:=G} F H'/\Ev Rv ν Z st H ν Z {st with m:=G} H'):=by
 have t:=HX hh;have ab:=ha.mono (λid h=>⟨h,rfl⟩) λe _ ob' h=>⟨ob',t e ob' h,rfl,.refl _⟩
 have r0:R ν Z (start args os) ys H:=by refine⟨v8 ab,λd ob hd=>?_,λd d' ob ob' a z=>r.inj d d' ob ob' (t d ob a) (t d' ob' z),λd ob h=>r.apart d ob (t d ob h),r.zrow,r.deep⟩;exact dY.mono (λid h=>⟨h,rfl⟩) rfl (λ_=>rfl) (λe _ ob' h=>⟨ob',t e ob' h,rfl,.refl _⟩) (r.obj d ob (t d ob hd))
 obtain⟨n,y,H',U,Z',D,F1,M,e1,rfl,rfl,e2,e3,ev⟩:=hS f args os rs m' hc ν Z ys H (.inl ae) r0 ab;have⟨N,b2⟩:=ER x;have I:∀k ob',k∈os.map (·.1)->bl D.m k=some ob'->∃ob,bl os k=some ob/\U k=ν k/\sameShape ob ob':=λk ob' g h=>ev.pin k g ob' h
 have J:∀id,fc ν os id->fc ν st.m id:=λid⟨k,o,a,z,B⟩=>⟨k,o,t k o a,z,B⟩
 have A:∀ob ob':bK,sameShape ob ob'->cz ob'=cz ob:=λob ob' h=>by cases ob<;>cases ob'<;>simp[sameShape]at h;simp[cz,h.1];rfl;rfl
 have C:∀k ob',bl G k=some ob'->∃ob,bl st.m k=some ob/\sameShape ob ob'/\(k∈os.map (·.1)/\bl D.m k=some ob'/\U k=ν k/\bl os k=some ob/\within (os.map (·.1)) ob'=true\/k∉os.map (·.1)/\ob'=ob):=λk ob' h=>by by_cases g:k∈os.map (·.1);grind;rw[b2 k g]at h;exact⟨ob',h,.refl _,.inr ⟨g,rfl⟩⟩
 have w:∀k ob,k∉os.map (·.1)->bl st.m k=some ob->cz ob=true->H'[(ν k).1]?=H[(ν k).1]?/\¬Z' (ν k).1:=λk ob g h u=>by have ad:¬fc ν os (ν k).1:=(by rintro⟨P,o2,g1,g2,g3⟩;have:=r.inj P k o2 ob (t P o2 g1) h g2 u g3;subst this;exact g (mem_keys.2 ⟨o2,g1⟩));have af:=r.lt ⟨k,ob,h,u,rfl⟩;have ah:=r.apart k ob h u;refine⟨ev.same _ af ad ah (λh=>h),λai=>?_⟩;rcases ev.frz _ ai with h|h|h|h;simp_all;exact ad h;omega;omega
 have X:∀e ob',bl G e=some ob'->∃ob,bl st.m e=some ob/\ν e=ν e/\sameShape ob ob':=λe ob' h=>by have⟨ob,a,z,_⟩:=C e ob' h;exact⟨ob,a,rfl,z⟩
 have i:∀e ob,bl D.m e=some ob->e∉os.map (·.1)->cz ob=true->H.length<=(U e).1:=λe ob p aj u=>by rcases ev.own _ ⟨e,ob,p,u,rfl⟩with⟨k,o,a,z,B⟩|h|h;have g:k∈os.map (·.1):=mem_keys.2 ⟨o,a⟩;have⟨_,ob',h4,_⟩:=N k g;have⟨o2,Q,Y,j⟩:=I k ob' g h4;have Q:bl os k=some o2:=Q;have a:bl os k=some o:=a;rw[a]at Q;cases Q;have:=e3.inj e k ob ob' p h4 u (by rw[A _ _ j];exact z) (by rw[Y];exact B.symm);exact absurd (this▸g) aj;exact h.elim;exact h
 have T:∀b q o1 o2,bl G b=some o1->bl G q=some o2->cz o1=true->cz o2=true->(ν b).1=(ν q).1->b=q:=λb q o1 o2 a z E P hp=>by have⟨p1,g1,v,_⟩:=C b o1 a;have⟨p2,g2,s2,_⟩:=C q o2 z;exact r.inj b q p1 p2 g1 g2 (by rw[<-A _ _ v];omega) (by rw[<-A _ _ s2];omega) hp
 have L:∀id,id<H.length->¬fc ν st.m id->¬Z id->¬Rv id->H'[id]?=H[id]?:=λid hl ho hz _=>ev.same id hl (λh=>ho (J id h)) hz (λh=>h)
 have W:∀id,fc ν G id->fc ν st.m id\/Rv id\/H.length<=id:=by rintro id ⟨k,o,a,z,B⟩;have⟨ob,g1,v,_⟩:=C k o a;exact .inl ⟨k,ob,g1,by rw[<-A _ _ v];omega,B⟩
 have aa:∀id,Z id->Z id/\br H' id=br H id:=λid h=>⟨h,(ev.rows id h).2⟩
 refine⟨n,H',U,Z',D,F1,M,λk g=>(l8 S.E g).go _ _ _ _ e1,rfl,e2,e3,i,⟨λs sv hs=>(r.slot s sv hs).mono ev.rows λe _=>X e,λk ob' h=>?_,T,λb o1 a E=>?_,e3.zrow,e3.deep⟩,⟨ev.len,L,ev.rows,W,?_,λe _=>X e,rfl⟩,X,
  λak=>⟨⟨λs sv hs=>(r.slot s sv hs).mono aa λe _=>X e,λk ob' h=>?_,T,λb o1 a E=>?_,λid h=>by rw[(ev.rows id h).2];exact r.zrow id h,r.deep.mono λid h=>(ev.rows id h).2⟩,⟨ev.len,L,aa,W,λid h=>.inl h,λe _=>X e,rfl⟩⟩⟩
 .obtain⟨ob,a,z,B|⟨B,rfl⟩⟩:=C k ob' h
  .have⟨Q,Y,j,q4,q5⟩:=B;refine dY.mono (λid h=>⟨h,rfl⟩) j.symm (λ_=>rfl) (λe p O z=>?_) (e3.obj k ob' Y)
   have K:=Az q5 p;have⟨u1,al,l,_⟩:=N e K;rw[u1,l]at z;cases z;have⟨_,_,u4,_⟩:=I e O K l;exact⟨O,l,u4.symm,.refl _⟩
  exact dY.mono ev.rows rfl (λu=>(w k ob' B a u).1) (λe _=>X e) (r.obj k ob' a)
 .obtain⟨ob,g1,v,B|⟨B,rfl⟩⟩:=C b o1 a
  .have⟨Q,Y,j,q4,q5⟩:=B;rw[<-j];exact e3.apart b o1 Y E
  exact(w b o1 B g1 E).2
 .intro id h;rcases ev.frz id h with h|h|h|h
  .exact .inl h
  .exact .inr (.inl (J id h))
  .exact h.elim
  omega
 .obtain⟨ob,a,z,B|⟨B,rfl⟩⟩:=C k ob' h
  .have⟨Q,Y,j,q4,q5⟩:=B;have x:=ak k Q;unfold yY at x;rw[h]at x;refine dY.bare (Z:=Z') x (dY.mono (λid h=>⟨h,rfl⟩) j.symm (λ_=>rfl) (λe p O z=>?_) (e3.obj k ob' Y))
   have K:=Az q5 p;have⟨u1,al,l,_⟩:=N e K;rw[u1,l]at z;cases z;have⟨_,_,u4,_⟩:=I e O K l;exact⟨O,l,u4.symm,.refl _⟩
  exact dY.mono aa rfl (λu=>(w k ob' B a u).1) (λe _=>X e) (r.obj k ob' a)
 have⟨ob,g1,v,_⟩:=C b o1 a;exact r.apart b ob g1 (by rw[<-A _ _ v];exact E)
def PI(J:je S c){f:Zk}(G:S.E.keep f=true)(r:R ν Z st F H){args:Zw}{ys:Zu}(O:bY ν st.m H Z args ys){os:dV}(U:wZ st.m args=some os)
 {rs:Zw}{m':dV}{D:Zu}{B:Tb bK}(a:c f args os=some (rs,m'))(W:dy rs=some D)(Y:mz m' (os.map (·.1)) st.m=some B):
 ∃n y H' Z',(∀k,n<=k->run S.E k (.fn f) ys H=some (y,H'))/\R ν Z' {st with m:=B} F H'/\c9 ν B H' Z' (.v (result D)) y/\Ev Rv ν Z st H ν Z' {st with m:=B} H'/\∀e ob',bl B e=some ob'->∃ob,bl st.m e=some ob/\ν e=ν e/\sameShape ob ob':=by
 have⟨n,H',L,Z',z,F1,u,e1,_,e2,_,_,g1,g2,g3,_⟩:=ze (Rv:=Rv) J G r O U a Y;refine⟨n,result u,H',Z',e1,g1,?_,g2,g3⟩;have t:=e2.dy W;have:FR H' Z' (result D) (result u):=by cases D with|nil=>rw[t.cU];exact .same _ rfl|cons x w=>obtain⟨y,C,rfl,g1,g2⟩:=t.inv;cases w with|nil=>rw[g2.cU];exact g1|cons x2 w=>obtain⟨Q,I,rfl,g3,g4⟩:=g2.inv;exact .tup _ _ t.1 t.2
 exact .v _ _ this
def wR{ys:Zu}(h:V.cO ys=true):(result ys).scalar=true:=by cases ys with|nil=>rfl|cons a l=>cases l with|nil=>simp only[V.cO,ζh]at h;exact h.1|cons b l=>simp[result,V.scalar];omega
def QB(U:je S c){f:Zk}(G:S.E.keep f=true)(r:R ν Z st F H){args:Zw}{ys:Zu}(W:bY ν st.m H Z args ys){os:dV}(Y:wZ st.m args=some os)
 {rs:Zw}{m':dV}{D:Zu}{B:Tb bK}(a:c f args os=some (rs,m'))(b:dy rs=some D)(d:mz m' (os.map (·.1)) st.m=some B)(O:V.cO D=true)(J:∀k∈os.map (·.1),yY B k=true):
 ∃n H',(∀k,n<=k->run S.E k (.fn f) ys H=some (result D,H'))/\R ν Z {st with m:=B} F H'/\c9 ν B H' Z (.v (result D)) (result D)/\Ev Rv ν Z st H ν Z {st with m:=B} H'/\∀e ob',bl B e=some ob'->∃ob,bl st.m e=some ob/\ν e=ν e/\sameShape ob ob':=by
 have⟨n,H',w,Z',t,F1,z,e1,_,e2,_,_,_,_,g3,g4⟩:=ze (Rv:=Rv) U G r W Y a d;have⟨g1,g2⟩:=g4 J;have u:=(e2.dy b).scalar.1 O;subst u;exact⟨n,H',e1,g1,.v _ _ (.same _ (jq (wR O))),g2,g3⟩
def QH(s:je S c){f:Zk}(U:S.E.keep f=true)(r:R ν Z st F H){args:Zw}{ys:Zu}(v:bY ν st.m H Z args ys){os:dV}(A:wZ st.m args=some os)
 {rest:Zw}{m':dV}{O:Zu}{B:Tb bK}{e t es:Nat}{k:Fl}{xs:Zt}(E:c f args os=some (.own e::rest,m'))(K:dy rest=some O)(M:mz m' (os.map (·.1)) st.m=some B)
 (G:bl m' e=some (.sl k es xs))(J:e∉os.map (·.1))(D:St.new {st with m:=B} t=true):
 ∃n y H' ν' Z',(∀k,n<=k->run S.E k (.fn f) ys H=some (y,H'))/\R ν' Z' {st with m:=bR B t (.sl k es xs)} F H'/\c9 ν' (bR B t (.sl k es xs)) H' Z' (vw (.own t::O.map .v)) y/\Ev Rv ν Z st H ν' Z' {st with m:=bR B t (.sl k es xs)} H'/\Kept (some t) ν st.m ν' (bR B t (.sl k es xs)):=by
 obtain⟨n,H',I,Z',aa,F1,ws,e1,rfl,e2,e3,a,g1,g2,g3,_⟩:=ze (Rv:=Rv) s U r v A E M;obtain⟨w,T,rfl,N,P⟩:=e2.inv;have o:=e3.obj e _ G;have W:cz (.sl k es xs)=true->¬fc ν B (I e).1:=λC=>by rintro⟨X,o2,g,h2,h3⟩;have⟨o3,h4,_,l⟩:=g3 X o2 g;have Y:cz o3=true:=(by cases o3<;>cases o2<;>simp[sameShape]at l;rw[<-h2];simp[cz,l.1];rfl;rfl);have ab:=r.lt ⟨X,o3,h4,Y,rfl⟩;have:=a e _ G J C;omega
 have hR:=g1.add D (ob:=.sl k es xs) (p:=I e) (λC=>⟨W C,e3.apart e _ G C⟩) (by
  simp only[dY,gD];exact o)
 have b:c9 (iF ν t (I e)) (bR B t (.sl k es xs)) H' Z' (.own t) w:=by refine .own _ _ λu q=>?_;rw[cF]at q;cases q;obtain⟨_,_,_,ee,rfl⟩:=N.jG G;cases ee;exact⟨_,_,_,rfl,by rw[gD]⟩
 have⟨n1,n2,n3,n4⟩:=lJ D;refine⟨n,result (w::T),H',iF ν t (I e),Z',e1,hR,?_,⟨g2.len,g2.same,g2.rows,?_,g2.frz,?_,g2.pins⟩,?_⟩
 .have L:=P.dy K
  cases O with
  |nil=>rw[L.cU];exact b|cons x O=>obtain⟨y,ad,rfl,_,_⟩:=L.inv;exact .tup _ _ (by have:=L.1;simp at this⊢;omega) (bY.cons b (bY.qu L)).2
 .intro id h;rcases Db h with h|⟨g,rfl⟩
  .exact g2.own id h
  exact .inr (.inr (a e _ G J g))
 .intro d Q u h;have z:d≠t:=λe=>n1 (e▸Q)
  have h:bl (bR B t (.sl k es xs)) d=some u:=h;rw[dN _ _ (symm z)]at h;have⟨ob,i,X,j⟩:=g2.pin d Q u h;exact⟨ob,i,by rw[nY _ _ z],j⟩
 intro d u Q h;have z:d≠t:=λe=>Q (by rw[e])
 rw[dN _ _ (symm z)]at h;have⟨ob,i,_,j⟩:=g3 d u h;exact⟨ob,i,nY _ _ z,j⟩
def OH(B:je S c){f:Zk}{az:Zu}{rs:Zw}{m':dV}(a:V.cE az=true)(h:c f (az.map .v) []=some (rs,m')):
 ∃n H2 ν' Z' st' F' ys,(∀k,n<=k->run S.E k (.fn f) az []=some (result ys,H2))/\st'.m=m'/\bY ν' m' H2 Z' rs ys/\R ν' Z' st' F' H2:=by
 have⟨t,r1⟩:=vM a;obtain⟨n,y,H2,ν',Z',st',F',u,b,rfl,w,z,C,_⟩:=B f _ _ _ _ h _ _ az [] (.inr rfl) t r1;exact⟨n,H2,ν',Z',st',F',u,λk d=>(l8 S.E d).go _ _ _ _ b,w,z,C⟩
def B9{ys:Zu}(h:V.cO ys=true):V.cO (.bJ::ys)=true/\V.cO (.dG::ys)=true:=by simp[V.cO,V.scalar];grind
def bY.RJ{ys:Zu}(h:V.cE ys=true):bY ν m H Z (ys.map .v) ys:=bY.qu (di.same h)
def OK(M:je S c)(hP:∀f q,S.prm f=some q->mw S.E f q){ops:Zz}{place:a_ (Nat×Nat)}{dr nw:Zl}{fr:Zv}(Y:dr=place.isSome)(U:∀b i,place=some (b,i)->nw=true->dA ops i=true)(aj:∀b i,place=some (b,i)->nw=false->dA ops i=false)
 (l:∀b i,place=some (b,i)->(∀d ob,bl st.m d=some ob->cz ob=true->d∉fr->(ν d).1<b)/\∀id,Z id->id<b)
 (r:R ν Z st F H){args:Zw}{ys:Zu}(K:bY ν st.m H Z args ys){f:Zk}{dst:a_ Nat}{sv:SV}(h:fF S c dst dr (!dr||nw) (fS st.m fr) f args st=some (sv,st')):
 ∃n y H' ν' Z',(∀k,n<=k->jb S.E (run S.E k) ops place f ys H=some (y,H'))/\R ν' Z' st' F H'/\c9 ν' st'.m H' Z' sv y/\Ev Rv ν Z st H ν' Z' st' H'/\(dr=true->Z'=Z)/\Kept dst ν st.m ν' st'.m:=by
 unfold fF at h;split at h
 .rename_i g;split at h
  .have C:∀{q:dw}{y:V}{H':bp},eO S.E q f ys H=some (y,H')->jb S.E q ops place f ys H=some (y,H'):=λ{q y H'}hd=>by
    unfold jb
    cases place with
    |none=>rw[if_pos (by simp[kH,g])];omega|some bi=>
     obtain⟨b,i⟩:=bi;have aK:=Y;have aB:=U b i rfl Zd
     rw[if_pos (by simp[kH,g,aB])]
     grind
   split at h
   .
    rename_i L;split at h
    .rename_i az hs;have hg:=zN r.obj hs K;obtain⟨nb,A⟩:=we r K hs;split at h
     .rename_i rs m' hc;obtain⟨na,H2,ν2,Z2,st2,F2,E,aC,rfl,e3,e4⟩:=OH M hg hc;obtain⟨n,aD,aE⟩:∃n,na<=n/\nb<=n:=⟨max na nb,le_max_left ..,le_max_right ..⟩;have e1:=λk(g:n<=k)=>aC k (le_trans aD g)
      have O:∀k,n<=k->∀{o:a_ (V×bp)},(if(result E).scalar then some (result E,H)else
       match result E with
       |.hsl id es off len=>(qd H.length H2 id es off len).map λ(v,ob)=>(v,H++[ob])|.tup (.hsl id es off len::rest)=>if V.cO rest then(qd H.length H2 id es off len).map λ(v,ob)=>(.tup (v::rest),H++[ob])else none|_=>none)=o->eO S.E (run S.E k) f ys H=o:=λk D o P=>by
       unfold eO jW;rw[if_pos L];simp[mV,A k (le_trans aE D),e1 k D];exact P
      have ak:∀G:Zu,(result G).scalar=true->result E=result G->sv=.v (result G)->st'=st->∃n y H' ν' Z',(∀k,n<=k->jb S.E (run S.E k) ops place f ys H=some (y,H'))/\R ν' Z' st' F H'/\c9 ν' st'.m H' Z' sv y/\Ev Rv ν Z st H ν' Z' st' H'/\(dr=true->Z'=Z)/\Kept dst ν st.m ν' st'.m:=by rintro G h1 h2 rfl rfl;exact⟨n,result G,H,ν,Z,λk D=>C (O k D (by rw[h2,if_pos h1])),r,.v _ _ (.same _ (jq h1)),.refl,λ_=>rfl,.refl⟩
      have emp:∀(k:Fl)(es:Nat)(G:Zu)(rest:Zw),V.cO G=true->∀t,st.new t=true->∀w:V,(k=.nil/\w=.bJ\/k=.emp/\w=.dG)->result (w::G)=result E->dst=some t->sv=vw (.own t::G.map .v)->st'={st with m:=bR st.m t (.sl k es [])}->
       ∃n y H' ν' Z',(∀k,n<=k->jb S.E (run S.E k) ops place f ys H=some (y,H'))/\R ν' Z' st' F H'/\c9 ν' st'.m H' Z' sv y/\Ev Rv ν Z st H ν' Z' st' H'/\(dr=true->Z'=Z)/\Kept dst ν st.m ν' st'.m:=by
       rintro k es G rest W t Q w hw al rfl rfl rfl;have ad:cG k=false:=by rcases hw with⟨rfl,_⟩|⟨rfl,_⟩<;>rfl
       have s:c9 (iF ν t (0,0)) (bR st.m t (.sl k es [])) H Z (.own t) w:=by refine .own _ _ λT h'=>?_;rw[cF]at h';cases h';exact⟨_,_,_,rfl,by rcases hw with⟨rfl,rfl⟩|⟨rfl,rfl⟩<;>rfl⟩
       have am:(result (w::G)).scalar=true:=wR (by rcases hw with⟨_,rfl⟩|⟨_,rfl⟩;exact(B9 W).1;exact(B9 W).2)
       refine⟨n,result (w::G),H,iF ν t (0,0),Z,λk D=>C (O k D (by rw[<-al,if_pos am])),r.add Q (λA=>by simp[cz,ad]at A) (by simp[dY,ad]),?_,
        Ev.add Q (le_refl _) (λ_ _ _=>rfl) (λ_ _=>rfl) (λA=>by simp[cz,ad]at A),λ_=>rfl,Kept.add λ_ _ h=>h⟩
       cases G with
       |nil=>exact s|cons z G=>exact .tup _ _ Zc (bY.cons s (bY.RJ (oU W))).2
      split at h
      .rename_i G J;split at h
       next W=>simp at h;exact ak G W ((EM (e3.dy J)).1 W) h.1.symm h.2.symm
       simp at h
      split at h
      .rename_i e rest t _;obtain⟨w,E,rfl,g1,g2⟩:=e3.inv;split at h
       .
        rename_i es xs G X J;split at h
        .rename_i B;simp at B;obtain⟨⟨c1,N⟩,Q⟩:=B;simp at h;obtain⟨rfl,rfl⟩:=h;have o:=e4.obj e _ X;simp only[dY,if_true]at o;obtain⟨rows,hr,aL,hf,aJ,an⟩:=o;obtain⟨q1,q2⟩:=an trivial;have ae:=by
          have:=HF hf N;rw[q1,drop_zero,<-q2,take_length]at this;exact this
         subst ae;obtain⟨_,_,_,ee,rfl⟩:=g1.jG X;cases ee;have I:=(g2.dy J).scalar.1 c1;subst I;have ao:qd H.length H2 (ν2 e).1 es 0 rows.length=some (.hsl H.length es 0 rows.length,.row es rows):=by unfold qd;rw[hr];simp only[true_and];rw[if_pos];rw[all_eq_true];intro x hx;unfold kS at N;rw[all_eq_true]at N;exact N x hx
         have hH:∀id,id<H.length->(H++[Ob.row es rows])[id]?=H[id]?:=λid hl=>getElem?_append_left hl
         have ap:∀id,Z id->br (H++[Ob.row es rows]) id=br H id:=λid J=>by unfold br;rw[hH id (r.vq J)]
         have r2:=r.heap (λid P=>hH id (r.lt P)) ap
         have aq:V.nM rows=true:=by refine jY.2 λj u hu=>?_;unfold kS at N;rw[all_eq_true]at N;have:=N u (mem_of_getElem? hu);rw[all_eq_true]at this;exact gF.2 λi v hv=>jq (this v (mem_of_getElem? hv))
         have hR:=r2.add (ob:=.sl .row es rows) (p:=(H.length,0)) Q (λ_=>⟨λP=>absurd (r.lt P) Zc,λJ=>absurd (r.vq J) Zc⟩) (by
          simp only[dY,gD];refine⟨rows,Zc,Zc,?_,(fR.same aq).E3,λ_=>⟨trivial,rfl⟩⟩
          rw[drop_zero,take_length];exact fR.same aq)
         have s:c9 (iF ν t (H.length,0)) (bR st.m t (.sl .row es rows)) (H++[Ob.row es rows]) Z (.own t) (.hsl H.length es 0 rows.length):=by refine .own _ _ λT h'=>?_;rw[cF]at h';cases h';exact⟨_,_,_,rfl,by simp[qP,gD]⟩
         have ar:Ev Rv ν Z st H (iF ν t (H.length,0)) Z {st with m:=bR st.m t (.sl .row es rows)} (H++[Ob.row es rows]):=Ev.add Q Zc (λid hl _=>hH id hl) ap (λ_=>.inr (le_refl _))
         have au:qP (ν2 e) Fl.row es rows.length=.hsl (ν2 e).1 es 0 rows.length:=by simp[qP,q1]
         rw[au]at O
         cases rest with
         |nil=>
          have:=by simp only[dy,ζa]at J;exact J.symm
          subst this;refine⟨n,_,_,_,Z,λk D=>C (O k D ?_),hR,s,ar,λ_=>rfl,Kept.add λ_ _ h=>h⟩
          simp[result,V.scalar,ao]
         |cons x2 rest=>
          have aF:∃w2 af,E=w2::af:=by have:=g2.1;cases E with|nil=>simp at this|cons a b=>exact⟨a,b,rfl⟩
          obtain⟨w2,af,rfl⟩:=aF;refine⟨n,_,_,_,Z,λk D=>C (O k D (o:=some (.tup (.hsl H.length es 0 rows.length::w2::af),H++[Ob.row es rows])) ?_),hR,?_,ar,λ_=>rfl,Kept.add λ_ _ h=>h⟩
          .simp only[result,V.scalar,V.cO,Bool.false_and,false_eq_true,if_false];have aG:=by simpa[V.cO]using c1
           simp[aG,ao]
          exact .tup _ _ Zc (bY.cons s (bY.RJ (oU c1))).2
        simp at h
       .rename_i es xs G X J;split at h
        next B=>simp at B;simp at h;obtain⟨rfl,rfl⟩:=h;obtain⟨_,_,_,ee,rfl⟩:=g1.jG X;cases ee;have I:=(g2.dy J).scalar.1 B.1;subst I;exact emp .nil es E rest B.1 _ B.2 .bJ Zc rfl rfl rfl rfl
        simp at h
       .rename_i es xs G X J;split at h
        next B=>simp at B;simp at h;obtain⟨rfl,rfl⟩:=h;obtain⟨_,_,_,ee,rfl⟩:=g1.jG X;cases ee;have I:=(g2.dy J).scalar.1 B.1;subst I;exact emp .emp es E rest B.1 _ B.2 .dG Zc rfl rfl rfl rfl
        simp at h
       simp at h
      simp at h
     grind
    grind
   rename_i L;split at h
   .rename_i q hq;split at h
    .simp at h
    rename_i hd;obtain⟨n,y,H',ν',e1,e2,e3,e4,e5⟩:=QO (hP f q hq) r K h;exact⟨n,y,H',ν',Z,λk D=>C (by unfold eO;rw[if_neg L];exact e1 k D),e2,e3,e4,λh=>absurd h hd,e5⟩
   split at h
   .rename_i os hh;split at h
    .rename_i rs m' hc;split at h
     .rename_i G m2 J A;split at h
      .simp at h
      rename_i aa;simp at h;obtain⟨rfl,rfl⟩:=h
      cases av:dr with
      |false=>obtain⟨n,y,H',Z',e1,e2,e3,e4,e5⟩:=PI M g r K hh hc J A;exact⟨n,y,H',ν,Z',λk D=>C (by unfold eO;rw[if_neg L];exact e1 k D),e2,e3,e4,(λh=>nomatch h),λe T _=>e5 e T⟩|true=>
       rw[av]at aa;have iZ:V.cO G=true/\∀k∈os.map (·.1),yY m2 k=true:=by simp only[Bool.true_and,not_eq_true',Bool.not_eq_false,ζh,all_eq_true]at aa;refine⟨aa.1,λk g=>?_⟩;obtain⟨x,hx,rfl⟩:=List.mem_map.1 g;exact aa.2 x hx
       obtain⟨n,H',e1,e2,e3,e4,e5⟩:=QB (Rv:=Rv) M g r K hh hc J A iZ.1 iZ.2;exact⟨n,_,H',ν,Z,λk D=>C (by unfold eO;rw[if_neg L];exact e1 k D),e2,e3,e4,λ_=>rfl,λe T _=>e5 e T⟩
     .rename_i m2 J A;split at h
      .simp at h
      rename_i hd;split at h
      .rename_i e rest t;split at h
       .rename_i k es xs G he aH;split at h
        next B=>simp only[ζh,not_eq_true',List.contains_eq_mem,decide_eq_false_iff_not]at B;simp only[ζa,ζc]at h;obtain⟨rfl,rfl⟩:=h;obtain⟨n,y,H',ν',Z',e1,e2,e3,e4,e5⟩:=QH M g r K hh hc aH A he B.1 B.2;exact⟨n,y,H',ν',Z',λk D=>C (by unfold eO;rw[if_neg L];exact e1 k D),e2,e3,e4,λh=>absurd h hd,e5⟩
        simp at h
       simp at h
      simp at h
     simp at h
    simp at h
   simp at h
  rename_i ab;split at h
  .rename_i ah;simp only[ζh]at ah;have ai:kH S.E ops place f=false:=by
    simp only[Bool.not_eq_true,or_eq_false_iff,Bool.not_eq_false']at ab
    cases place with
    |none=>rw[Y]at ab;simp at ab|some bi=>simp[kH,g,ah.1,aj _ _ rfl ab.2]
   split at h
   .rename_i az hs;split at h
    .rename_i rs m' hc;split at h
     .rename_i G J;split at h
      next B=>simp only[or_eq_true]at B;simp at h;obtain⟨rfl,rfl⟩:=h;obtain⟨n,H',e1,e2,e3,e4⟩:=ID M Y U l r K ai hs (.inr ah.2) hc J B;exact⟨n,_,H',ν,Z,e1,e2,e3,e4,λ_=>rfl,.refl⟩
      simp at h
     simp at h
    simp at h
   simp at h
  simp at h
 rename_i g;have aw:S.E.keep f=false:=by simpa using g
 have ai:kH S.E ops place f=false:=by unfold kH;rw[aw];rfl
 split at h
 .rename_i az hs;split at h
  .rename_i hl;split at h
   .rename_i rs m' hc;split at h
    .rename_i G J;split at h
     .rename_i B;simp only[or_eq_true]at B;simp at h;obtain⟨rfl,rfl⟩:=h;obtain⟨n,H',e1,e2,e3,e4⟩:=ID M Y U l r K ai hs (by simpa using hl) hc J B
      exact⟨n,_,H',ν,Z,e1,e2,e3,e4,λ_=>rfl,.refl⟩
     rename_i ax;split at h
     .rename_i aI;obtain⟨ds,ay,e⟩:=ζf.1 h;simp at e;obtain⟨rfl,rfl⟩:=e;have aA:(result G).scalar=false:=by
       cases hq:(result G).scalar with
       |false=>rfl|true=>exact absurd (by simp[hq]) ax
      obtain⟨n,H',e1,e2,e3,e4⟩:=Qv M U (λb i hp=>(l b i hp).2) r K aw hs (by rw[<-Y];exact aI) hc J aA ay (vc ay hs)
      exact⟨n,_,H',ν,Z,e1,e2,e3,e4,λ_=>rfl,λe T _ h=>⟨T,nE h,rfl,.refl _⟩⟩
     simp at h
    simp at h
   simp at h
  simp at h
 simp at h
end
structure CX where
 E:Env
 nm:FuncId->Option Nat
 nt:Nat
def Bt(ops:Zz)(o:Oper):a_ (a_ (Nat×Zl)):=
 match o.guard with
 |none=>some none|some (j,b)=>((ops[j]?).bind (·.dst)).map λd=>some (d,b)
def xD(a:Nat):a_ Nat->Zl
 |none=>true|some d=>decide (d<a)
def wB(B:Zl)(ops:Zz)(i:Nat)(k:K)(os:aZ Zr):K×aZ Zr×Zl:=
 if B&& !dA ops i then match k,os,yA ops i with
  |.l (.store n),.tmp t::u,some (a,l)=>if t=a then(.l (.storeF n),(.tmp t::u)++l.map .tmp,true)else(k,os,false)|.l (.append n),os,_=>if vR ops i then(.e n,os,true)else(k,os,false)|.r (.load n ag),[.tmp t],_=>if(ot ops i t).isEmpty then(k,os,false)else(.r (.loadF n ag),.tmp t::(ot ops i t).map .tmp,false)|_,_,_=>(k,os,false)
 else(k,os,B&&dA ops i)
def B0(B:Zl)(ops:Zz)(i:Nat)(k:K)(os:aZ Zr):(wB B ops i k os=(k,os,B&&dA ops i)/\∀n ag a',B=true->dA ops i=false->k=.r (.load n ag)->os=[.tmp a']->ot ops i a'=[])\/
 (B=true/\dA ops i=false/\∃n a l D,k=.l (.store n)/\os=.tmp a::D/\yA ops i=some (a,l)/\wB B ops i k os=(.l (.storeF n),os++l.map .tmp,true))\/
 (B=true/\dA ops i=false/\∃n ag a,k=.r (.load n ag)/\os=[.tmp a]/\wB B ops i k os=(.r (.loadF n ag),.tmp a::(ot ops i a).map .tmp,false))\/
 (B=true/\dA ops i=false/\vR ops i=true/\∃n,k=.l (.append n)/\wB B ops i k os=(.e n,os,true)):=by
 unfold wB;split
 .rename_i h;simp only[ζh,not_eq_true']at h;split
  .rename_i n a' D a l hk;split
   next e=>subst e;refine .inr (.inl ⟨h.1,h.2,n,a',l,D,rfl,rfl,hk,?_⟩);simp only[wB,h.1,h.2,hk,Bool.not_false,Bool.and_self,if_true]
   exact .inl ⟨by rw[h.2,Bool.and_false],λn ag a' _ _ e=>by cases e⟩
  .rename_i n;split
   next C=>refine .inr (.inr (.inr ⟨h.1,h.2,C,n,rfl,rfl⟩))
   exact .inl ⟨by rw[h.2,Bool.and_false],λn ag a' _ _ e=>by cases e⟩
  .rename_i n ag a';split
   .rename_i G;refine .inl ⟨by rw[h.2,Bool.and_false],λn ag z _ _ _ e=>?_⟩
    simp only[List.cons.injEq,Operand.tmp.injEq,and_true]at e;subst e;simpa using G
   exact .inr (.inr (.inl ⟨h.1,h.2,n,ag,a',rfl,rfl,rfl⟩))
  rename_i t u w;refine .inl ⟨by rw[h.2,Bool.and_false],λn ag z _ _ e1 e2=>?_⟩
  first|exact(w _ _ _ e1 e2).elim|exact(w _ _ _ _ e1 e2 rfl).elim|exact(t _ _ _ e1 e2).elim|exact(u _ _ _ e1 e2).elim|exact(t _ _ _ _ e1 e2 rfl).elim|exact(u _ _ _ _ e1 e2 rfl).elim
 rename_i h;refine .inl ⟨rfl,λn ag z I J _ _=>?_⟩
 rw[I,J]at h;exact absurd rfl h
def mG(X:CX)(B:Zl)(ops:Zz)(i:Nat)(o:Oper):a_ RO:=
 if xD X.nt o.dst then
  match Bt ops o,resolve X.E X.nm o.op with
  |some gd,some (k,os)=>if Am k then if B&&BD X.E ops i then match k,o.op with
   |.a (.makeSl size zero),.makeSlice ..=>(os.mapM (oe X.nm)).map λaz=>⟨o.dst,gd,false,.p (.makeC size zero),az,[],[]⟩|.a (.buildSl size len zero idx),.buildSlice ..=>if size≠0/\len=0/\idx=[]then(os.mapM (oe X.nm)).map λaz=>⟨o.dst,gd,false,.p .emptyC,az,[],[]⟩else(os.mapM (oe X.nm)).map λaz=>⟨o.dst,gd,false,.p (.buildC size len zero idx),az,[],[]⟩|_,_=>none
   else((wB B ops i k os).2.1.mapM (oe X.nm)).map λaz=>⟨o.dst,gd,(wB B ops i k os).2.2,(wB B ops i k os).1,az,[],[]⟩else none
  |_,_=>none
 else none
def BN{E:Env}{N:Nat->Zk}{F:Zo}{op:Op}{ys:Zu}{size:Nat}{zero:Zu}{y:V}(D:∃t l c,op=.buildSlice t l c)(h:z6 E N F op ys (.a (.buildSl size 0 zero [])))(G:size≠0)(B:bn N .emptyC ys=some y):oD E F op=some y:=by
 obtain⟨t,l,c,rfl⟩:=D;have⟨g1,g2⟩:=h;unfold bn at B;split at B<;>first|(rename_i e;cases e;done)|skip
 simp only[ζa]at B;subst B;have u:=g2 _ (show gT (.buildSl size 0 zero []) []=some (.row size [],.sl size 0)by simp[gT,eY]);unfold oD;rw[u];simp[G];cases B
def yP{es:Nat}:∀{vs:aZ (Nat×V)}{xs ys:Zt},eY es xs vs=some ys->ys.length=xs.length
 |[],xs,ys,h=>by simp only[eY,ζa]at h;rw[h]|(i,v)::r,xs,ys,h=>by simp only[eY]at h;split at h;have:=yP h;simpa using this;cases h
def B_{E:Env}{N:Nat->Zk}{F:Zo}{op:Op}{ys:Zu}{size len:Nat}{zero:Zu}{idx:Zv}{y:V}(D:∃t l c,op=.buildSlice t l c)(h:z6 E N F op ys (.a (.buildSl size len zero idx)))(B:bn N (.buildC size len zero idx) ys=some y):oD E F op=some y:=by
 obtain⟨t,l,c,rfl⟩:=D;have⟨g1,g2⟩:=h;simp only[bn]at B;split at B;rename_i a;split at B;rename_i z u;split at B;rename_i C;have G:len=z.length:=by have:=yP u;rw[this];simp
 have w:=g2 _ (show gT (.buildSl size len zero idx) ys=some (.row size z,.sl size len)by simp only[gT,if_pos a.2,u,map_some]);unfold oD;rw[w];simp only;rw[if_pos ⟨trivial,G,C.2⟩,C.1];exact B;cases B;cases B;cases B
def Cp{E:Env}{N:Nat->Zk}{F:Zo}{op:Op}{ys:Zu}{size:Nat}{zero:Zu}{y:V}(D:∃t l c,op=.makeSlice t l c)(h:z6 E N F op ys (.a (.makeSl size zero)))(B:bn N (.makeC size zero) ys=some y):oD E F op=some y:=by
 obtain⟨t,l,c,rfl⟩:=D;have⟨g1,g2⟩:=h;unfold bn at B;split at B<;>first|(rename_i e;cases e;done)|skip
 rename_i k n I m e;cases e;split at B;rename_i c;obtain⟨rfl,rfl,w,rfl,z,C⟩:=c;have u:=g2 _ (show gT (.makeSl size zero) [.int .i64 n,.int .i64 n]=some (.row size (replicate n.toNat zero),.sl size n.toNat)by simp only[gT,w,z,Int.le_refl,and_self,if_true]);unfold oD;rw[u];simp only;rw[if_pos (by refine⟨by trivial,Zc,all_eq_true.2 λx G=>by rw[List.eq_of_mem_replicate G];exact C⟩),<-B];cases B;cases B
def BE{X:CX}{dr:Zl}{ops:Zz}{i:Nat}{o:Oper}{ro:RO}(a:mG X dr ops i o=some ro):xD X.nt o.dst=true/\∃g now k az,Bt ops o=some g/\ro=⟨o.dst,g,now,k,az,[],[]⟩:=by
 unfold mG at a;split at a
 .rename_i t;split at a
  .rename_i g k os hg hr;split at a;(·(repeat' split at a)<;>first|(cases a;done)|(obtain⟨az,u,rfl⟩:=ζf.1 a;exact⟨t,_,_,_,_,hg,rfl⟩));cases a
  cases a
 cases a
structure Good(X:CX)(S:Sys):Prop where
 E:X.E=S.E
 N:∀f s,X.nm f=some s->S.N s=f
 prm:∀f q,S.prm f=some q->mw S.E f q
section
variable{Rv:Nat->Prop}{ν ν':Nu}{Z Z':Nat->Prop}{st st':St}{m m':Tb bK}{F F':Zo}{H H' H1:bp}{S:Sys}{c:b9}{X:CX}
def Old(b:Nat)(fr:Zv)(ν:Nu)(Z:Nat->Prop)(m:Tb bK):Prop:=(∀d ob,bl m d=some ob->cz ob=true->d∉fr->(ν d).1<b)/\∀id,Z id->id<b
def mI{fr:Zv}:∀{svs:Zw},eZ fr svs=true->∀d∈fr,SV.dB d svs=false
 |[],_,d,_=>rfl|.v _::r,h,d,B=>(mI (svs:=r) (by simpa[eZ]using h) d B)|.ptr e _::r,h,d,B=>by simp[eZ,not_eq_true']at h;simp[SV.dB,SV.cQ];exact⟨λe=>h.1 (e▸B),mI h.2 d B⟩|.el e _ _::r,h,d,B=>by simp[eZ,not_eq_true']at h;simp[SV.dB,SV.cQ];exact⟨λe=>h.1 (e▸B),mI h.2 d B⟩|.mp e::r,h,d,B=>by simp[eZ,not_eq_true']at h;simp[SV.dB,SV.cQ];exact⟨λe=>h.1 (e▸B),mI h.2 d B⟩|.own _::r,h,_,_=>by simp[eZ]at h|.clo ..::r,h,_,_=>by simp[eZ]at h|.tup _::r,h,_,_=>by simp[eZ]at h|.agg _::r,h,_,_=>by simp[eZ]at h|.yl _::r,h,_,_=>by simp[eZ]at h
def BV(S:Sys)(ops:Zz)(place:a_ (Nat×Nat))(dr:Zl)(F:Zo)(op:Op)(dst:a_ Nat)(ν:Nu)(Z:Nat->Prop)(st:St)(H:bp)(sv:SV)(st':St):Prop:=∃n y H' ν' Z',(∀k,n<=k->dm S.E (run S.E k) ops place F H op=some (y,H'))/\R ν' Z' st' F H'/\c9 ν' st'.m H' Z' sv y/\Ev (λid=>∃b j,place=some (b,j)/\id=b+j) ν Z st H ν' Z' st' H'/\(dr=true->Z'=Z/\Kept dst ν st.m ν' st'.m)
def xJ{E:Env}{F:Zo}{H:bp}{place:a_ (Nat×Nat)}{op:Op}{v:V}(h:bP E F op=some v):rP E F H place op=some v:=by unfold rP;rw[h]
def zG:∀{xs ys:Zt}{l:Zy},fR H Z xs ys->o9 xs=some l->o9 ys=some l
 |[],ys,l,h,B=>by have:=h.1;have:ys=[]:=List.eq_nil_of_length_eq_zero (by simpa using this.symm);subst this;exact B|x::xs,[],l,h,B=>by have:=h.1;simp at this|x::xs,y::ys,l,h,B=>by unfold o9 at B;split at B;(next e=>cases e);rename_i n r e;cases e;obtain⟨k,c,rfl⟩:=ζf.1 B;have d:=h.2 0 _ y rfl rfl;obtain⟨u,w,rfl,p1,p2⟩:=d.inv;rw[p2.cU,p1.int];have:=zG (xs:=xs) (ys:=ys) ⟨by have:=h.1;simpa using this,λj a b t B=>h.2 (j+1) a b t B⟩ c;simp only[o9,this,map_some];cases B
def Mm(gd:Good X S){ops:Zz}{place:a_ (Nat×Nat)}{dr:Zl}{op:Op}{dst:a_ Nat}{p:ud}{svs:Zw}{ys:Zu}(a:Am (.p p)=true)(r:R ν Z st F H)(rs:bY ν st.m H Z svs ys)
 (B:z6 X.E S.N F op ys (.p p)){sv:SV}(h:(jP S.N st.m p svs).map (λx=>(x,st))=some (sv,st')):BV S ops place dr F op dst ν Z st H sv st':=by
 have⟨x,u,e⟩:=ζf.1 h;obtain⟨rfl,rfl⟩:=e;have⟨y,w,t⟩:=FE (λzero pl e=>by subst e;simpa[Am]using a) r.obj rs u
 have⟨b,z⟩:=B;exact⟨0,y,H,ν,Z,λq _=>by unfold dm;rw[b];simp only[<-gd.E,xJ (z y w),map_some],r,t,.refl,λ_=>⟨rfl,.refl⟩⟩
def yN(gd:Good X S){ops:Zz}{place:a_ (Nat×Nat)}{dr:Zl}{op:Op}{p:ud}{svs:Zw}{ys:Zu}(a:∀zero pl,p≠.build zero pl)(B:c_ op=.alloc)(D:qv X.E ops place=true)(G:∀y,bn S.N p ys=some y->oD X.E F op=some y)
 (r:R ν Z st F H)(rs:bY ν st.m H Z svs ys){sv:SV}(h:(jP S.N st.m p svs).map (λx=>(x,st))=some (sv,st')):BV S ops place dr F op none ν Z st H sv st':=by
 have⟨x,u,e⟩:=ζf.1 h;simp only[ζc]at e;obtain⟨rfl,rfl⟩:=e;have⟨y,w,t⟩:=FE (N:=S.N) (λzero pl e=>absurd e (a zero pl)) r.obj rs u
 refine⟨0,y,H,ν,Z,λq _=>?_,r,t,.refl,λ_=>⟨rfl,.refl⟩⟩
 unfold dm;rw[B];simp only[D,if_true,<-gd.E,G y w,map_some]
def Im:∀{J B:aZ Zr}{vs:Zu},fA F (J++B)=some vs->∃D G,fA F J=some D/\fA F B=some G/\vs=D++G
 |[],B,vs,h=>⟨[],vs,rfl,h,rfl⟩|x::J,B,vs,h=>by obtain⟨a,az,b,O,rfl⟩:=iH h;obtain⟨D,G,g1,g2,rfl⟩:=Im O;exact⟨a::D,G,by simp[fA,b,g1],g2,rfl⟩
def Bm:∀{l:Zv}{vs:Zu},fA F (l.map Operand.tmp)=some vs->vs=l.map (get F)
 |[],vs,h=>pq h|x::l,vs,h=>by obtain⟨a,az,b,B,rfl⟩:=iH h;simp[ev]at b;subst b;rw[Bm B];rfl
def SL(gd:Good X S){call:dw}{ops:Zz}{b j n a:Nat}{l:Zv}{o:Oper}{B:aZ Zr}{ys:Zu}{y:V}(c:resolve X.E X.nm o.op=some (.l (.store n),.tmp a::B))(D:fA F ((.tmp a::B)++l.map Operand.tmp)=some ys)
 (G:yA ops j=some (a,l))(J:dA ops j=false)(e1:eV H (.storeF n) ys=some (y,H')):dm S.E call ops (some (b,j)) F H o.op=some (y,H'):=by
 obtain⟨U,W,d,I,rfl⟩:=Im D;have⟨g1,g2⟩:=iV gd.N c d;obtain⟨w,L,u,O,rfl⟩:=iH d;simp[ev]at u;have t:∃v,L=[v]:=by have z:∃x,B=[x]:=(by unfold resolve at c;((repeat' split at c)<;>first|grind|skip);(all_goals (try (have⟨_,_,e⟩:=ζf.1 c;simp[K.l.injEq,IP.store.injEq,reduceCtorEq]at e)));grind);obtain⟨x,rfl⟩:=z;obtain⟨v,Y,_,Q,rfl⟩:=iH O;rw[pq Q];grind
 obtain⟨v,rfl⟩:=t;rw[Bm I,<-u]at e1;simp at e1
 cases C:get F a with
 |hptr id el off=>
  rw[C]at e1;simp only[eV]at e1;split at e1
  .have T:qy ops j F=true:=by
    unfold qy
    grind
   unfold dm;rw[g1];simp[T,<-gd.E];refine g2 _ _ ?_;rw[<-u,C];exact e1
  grind
 |_=>rw[C]at e1;simp[eV]at e1
def EH{E:Env}{nm:Zk->a_ Nat}{op:Op}{s:Nat}{a:Zl}{os:aZ Zr}(h:resolve E nm op=some (.r (.loadF s a),os)):False:=by
 unfold resolve at h;(repeat' split at h)<;>first|grind|skip
 all_goals simp_all
def Gb{E:Env}{nm:Zk->a_ Nat}{op:Op}{s a':Nat}{a:Zl}{t:Zm}{os:aZ Zr}(h:resolve E nm op=some (.r (.load s a),os)):∃t x,op=.load t x/\os=[x]:=by
 unfold resolve at h;(repeat' split at h)<;>first|grind|skip
 all_goals simp_all
 grind
def LJ{E:Env}{nm:Zk->a_ Nat}{ops:Zz}{j:Nat}{op:Op}{q:Iz}{os:aZ Zr}(a:resolve E nm op=some (.r q,os))(h:∀n ag a',K.r q=.r (.load n ag)->os=[.tmp a']->∀t,op=.load t (.tmp a')->ot ops j a'=[]):mL ops j F op=true:=by
 unfold mL;split;rename_i t a';have:∃n ag,q=.load n ag/\os=[.tmp a']:=by have⟨d,_,e⟩:=ζf.1 a;grind
 grind;rfl
def Qu(gd:Good X S){ops:Zz}{b j n a:Nat}{ag:Zl}{fr:Zv}{o:Oper}{svs:Zw}{ys:Zu}{dst:a_ Nat}{x:SV}(c:resolve X.E X.nm o.op=some (.r (.load n ag),[.tmp a]))(U:fA F (.tmp a::(ot ops j a).map Operand.tmp)=some ys)(rs:bY ν st.m H Z svs ys)
 (W:eZ fr svs=true)(K:b<=H.length)(M:∀d ob,bl st.m d=some ob->cz ob=true->d∉fr->(ν d).1<b)(D:∀id,Z id->id<b)(r:R ν Z st F H)(O:ow st.m (.loadF n ag) svs=some x):BV S ops (some (b,j)) true F o.op dst ν Z st H x st:=by
 obtain⟨w,k,f,m,rfl⟩:=iH U;simp[ev]at f;have N:=Bm m;unfold ow at O;split at O<;>first|(rename_i u;cases u;done)|skip
 .rename_i size agg d off l u;cases u;split at O
  .rename_i C;split at O
   .rename_i cs B;obtain⟨w',P,e,g1,g2⟩:=rs.inv;cases e;have G:=IG r B g2 C;obtain⟨_,_,rfl⟩:=g1.nZ B;have I:∀id,Z id->Z id/\br (H.take b) id=br H id:=λid h=>⟨h,mq (D id h)⟩
    have J:∀id,Z id->Z id/\br H id=br (H.take b) id:=λid h=>⟨h,(mq (D id h)).symm⟩
    have af:d∉fr:=λg=>by have:=mI W d g;simp[SV.dB,SV.cQ]at this
    obtain⟨y,p,Q⟩:=vi (r:=.load n ag) (λs a e=>by cases e) (λkk z ok e=>by cases e) (bY.cons (g1.mono I λe _=>iM ν st.m e) .nil) (λi T ob L=>by
     have ah:i∉fr:=λg=>by have:=(by simpa[SV.dB,SV.cQ]using T);grind
     exact dY.mono I rfl (λhb=>Zd) (λe _=>iM ν st.m e) (r.obj i ob L)) (by simp[ow,B];omega)
    obtain⟨v,A⟩:=iV gd.N c (show fA F [.tmp a]=some [.hptr (ν d).1 0 off]from by simp[fA,ev,f])
    have Y:mL ops j F o.op=true:=by obtain⟨t,x',e1,e2⟩:=Gb (a':=0) (t:=0) c;rw[e1];simp at e2;subst e2;simp[mL];intro s hs;have E:get F s∈k:=Zd;have:=all_eq_true.1 G _ E;split;rename_i ai _ _ hg;simp[qf]at this⊢;grind;rfl
    refine⟨0,y,H,ν,Z,λq _=>?_,r,Q.mono J (λe _=>iM ν st.m e),.refl,λ_=>⟨rfl,.refl⟩⟩
    unfold dm;rw[v];simp[<-gd.E,A (H.take b) y p,Y]
   grind
  grind
 grind
def CY{E:Env}{nm:Zk->a_ Nat}{op:Op}{n:Nat}{os:aZ Zr}(h:resolve E nm op=some (.l (.append n),os)){y:V}{ys:Zu}(b:fA F os=some (y::ys))(B:y=.bJ\/y=.dG):isApp op=true/\oK F op=true:=by
 have key:∃args t p s x,op=.call {callee:=.builtin .append,args:=args,argTypes:=t}/\args.toList=[s,x]/\os=[s,x]/\p=():=by unfold resolve at h;((repeat' split at h)<;>first|(simp at h;done)|skip);(all_goals (try (have⟨_,_,e⟩:=ζf.1 h;simp only[ζc,K.l.injEq,reduceCtorEq,false_and]at e)));all_goals (simp only[ζa,ζc]at h;obtain⟨_,rfl⟩:=h;exact⟨_,_,(),_,_,rfl,by assumption,rfl,rfl⟩)
 obtain⟨args,t,_,s,x,rfl,c,rfl,_⟩:=key;have⟨a,az,u,w,e⟩:=iH b;cases e;refine⟨rfl,?_⟩;simp only[oK,c,u];rcases B with rfl|rfl<;>rfl
def SI(gd:Good X S)(hS:je S c){ops:Zz}{place:a_ (Nat×Nat)}{dr:Zl}{fr:Zv}{i:Nat}(J:dr=place.isSome)(hi:∀b j,place=some (b,j)->j=i)
 (K:∀b j,place=some (b,j)->b<=H.length/\Old b fr ν Z st.m)
 {o:Oper}{ro:RO}(E:mG X dr ops i o=some ro)(aE:∀b j,place=some (b,j)->ops[j]?=some o)(al:∀b j,place=some (b,j)->c_ o.op=.alloc->H[b+j]?=some .free)
 (r:R ν Z st F H){sv:SV}(h:lN S c dr fr ro st=some (sv,st')):
 BV S ops place dr F o.op (xY ro) ν Z st H sv st':=by
 unfold mG at E;split at E
 .split at E
  .rename_i g k os hg hr;split at E
   .rename_i A;split at E
    .rename_i ah;simp only[ζh]at ah;have am:qv X.E ops place=true:=by
      cases place with
      |none=>rw[J]at ah;exact absurd ah.1 Zc|some Q=>have⟨b,j⟩:=Q;rw[hi b j rfl];exact ah.2
     split at E
     .rename_i size zero t l c U;obtain⟨az,M,rfl⟩:=ζf.1 E;unfold lN at h;split at h
      next L B=>have⟨ys,C,rs⟩:=nu gd.N r.slot M B;have I:=iV gd.N hr C;exact yN gd (λ_ _ e=>by cases e) I.1 am (λy hy=>Cp ⟨_,_,_,U⟩ I hy) r rs h
      simp at h
     .rename_i size len zero idx t l c U;split at E
      .rename_i aF;obtain⟨aG,rfl,rfl⟩:=aF;obtain⟨az,M,rfl⟩:=ζf.1 E;unfold lN at h;split at h
       next L B=>have⟨ys,C,rs⟩:=nu gd.N r.slot M B;have I:=iV gd.N hr C;exact yN gd (λ_ _ e=>by cases e) I.1 am (λy hy=>BN ⟨_,_,_,U⟩ I aG hy) r rs h
       simp at h
      obtain⟨az,M,rfl⟩:=ζf.1 E;unfold lN at h;split at h
      next L B=>have⟨ys,C,rs⟩:=nu gd.N r.slot M B;have I:=iV gd.N hr C;exact yN gd (λ_ _ e=>by cases e) I.1 am (λy hy=>B_ ⟨_,_,_,U⟩ I hy) r rs h
      simp at h
     cases E
    rename_i ai;have ak:qv X.E ops place=false:=by cases place with|none=>rfl|some Q=>have⟨b,j⟩:=Q;have G:=hi b j rfl;cases aw:BD X.E ops j with|false=>exact aw|true=>exact absurd (by rw[J,<-G,aw];rfl) ai
    rcases B0 dr ops i k os with⟨hq,aH⟩|⟨u,an,n,a,l,aR,rfl,rfl,aI,hq⟩|⟨u,an,n,ag,a,rfl,rfl,hq⟩|⟨u,an,aJ,n,rfl,hq⟩
    rotate_left
    .rw[hq]at E;obtain⟨az,M,rfl⟩:=ζf.1 E;unfold lN at h;split at h
     .rename_i L B;have⟨ys,C,rs⟩:=nu gd.N r.slot M B;simp only[u,Bool.not_true,Bool.false_or,if_true]at h;have⟨y,H',ν',e1,e2,e3,e4,e5⟩:=A0 r rs h;refine⟨0,y,H',ν',Z,λq _=>?_,e2,e3,e4.weak (λ_ h=>h.elim),λ_=>⟨rfl,e5⟩⟩
      cases place with
      |none=>rw[J]at u;cases u|some Q=>have⟨b,j⟩:=Q;have G:=hi b j rfl;subst G;exact SL gd hr C aI an e1
     simp at h
    .rw[hq]at E;obtain⟨az,M,rfl⟩:=ζf.1 E;unfold lN at h;split at h
     .rename_i L B;have⟨ys,C,rs⟩:=nu gd.N r.slot M B;simp only[u,Bool.not_true,Bool.or_self,Bool.false_or]at h;split at h
      .rename_i ao;have⟨x,hx,e⟩:=ζf.1 h;simp only[ζc]at e;obtain⟨rfl,rfl⟩:=e
       cases place with
       |none=>rw[J]at u;cases u|some Q=>have⟨b,j⟩:=Q;have G:=hi b j rfl;subst G;have⟨ax,ap,aj⟩:=K b j rfl;rw[u];exact Qu gd hr C rs ao ax ap aj r hx
      simp at h
     simp at h
    .rw[hq]at E;obtain⟨az,M,rfl⟩:=ζf.1 E;unfold lN at h;split at h
     rotate_left
     .simp at h
     rename_i L B;have⟨ys,C,rs⟩:=nu gd.N r.slot M B;simp only at h;have key:∃e x,(e=V.bJ\/e=V.dG)/\L=[.v e,x]/\mh st o.dst (.append n) L=some (sv,st'):=by split at h;exact⟨_,_,.inl rfl,rfl,h⟩;exact⟨_,_,.inr rfl,rfl,h⟩;cases h
     obtain⟨e,x,he,rfl,hl⟩:=key;have⟨y,H',ν',e1,e2,e3,e4,e5⟩:=A0 r rs hl;have⟨g1,g2⟩:=iV gd.N hr C;refine⟨0,y,H',ν',Z,λq _=>?_,e2,e3,e4.weak (λ_ h=>h.elim),λ_=>⟨rfl,e5⟩⟩
     obtain⟨y1,zs,rfl,f1,f2⟩:=rs.inv;have aK:y1=.bJ\/y1=.dG:=by cases f1 with|v _ _ hf=>rcases he with rfl|rfl<;>first|exact .inl hf.bJ|exact .inr hf.dG
     cases place with
     |none=>rw[J]at u;cases u|some Q=>have⟨b,j⟩:=Q;have G:=hi b j rfl;subst G;have⟨r1,r2⟩:=CY hr C aK;exact My r1 (by rw[<-gd.E];exact g2 _ _ e1) (.inr ⟨aJ,r2,(K b j rfl).1⟩)
    rw[hq]at E;obtain⟨az,M,rfl⟩:=ζf.1 E;unfold lN at h;split at h
    .rename_i L B;have⟨ys,C,rs⟩:=nu gd.N r.slot M B;have D:=iV gd.N hr C;simp only at h
     cases k with
     |p p=>
      cases p with
      |slice size lo hi=>
       simp only at h;split at h
       .rename_i d bs;split at h
        .simp at h
        rename_i aq;have⟨y,ν',h1,h2,h3,h4⟩:=LZ (N:=S.N) (Rv:=λid=>∃b j,place=some (b,j)/\id=b+j) r rs h
        have⟨g1,g2⟩:=D;exact⟨0,y,H,ν',Z,λq _=>by unfold dm;rw[g1];simp only[<-gd.E,xJ (g2 y h1),map_some],h2,h3,h4,λP=>absurd P aq⟩
       exact Mm gd A r rs D h
      |_=>exact Mm gd A r rs D h
     |r q=>
      simp only at h;split at h
      .rename_i W;have⟨x,hx,e⟩:=ζf.1 h;simp only[ζc]at e;obtain⟨rfl,rfl⟩:=e;have⟨g1,g2⟩:=D;have ar:∀kk z ok,q=.lookup kk z ok->z.good=true:=λkk z ok e=>by subst e;simpa[Am]using A
       have ab:∀s a,q≠.loadF s a:=λs a e=>by subst e;exact EH hr
       cases place with
       |none=>
        have⟨y,hy,ad⟩:=vi ab ar rs (λd _ ob P=>r.obj d ob P) hx
        exact⟨0,y,H,ν,Z,λq _=>by unfold dm;rw[g1];simp only[<-gd.E,g2 H y hy,map_some],r,ad,.refl,λ_=>⟨rfl,.refl⟩⟩
       |some Q=>
        have⟨b,j⟩:=Q;have⟨ax,ap,aj⟩:=K b j rfl;have u:dr=true:=J;subst u;have G:=hi b j rfl;subst G;simp only[Bool.not_true,Bool.false_or,Bool.true_and]at W;have ay:mL ops j F o.op=true:=LJ hr λn ag a' e1 e2 t e3=>by by_cases T:dA ops j=true;exact CI (aE b j rfl) e3 T;exact aH n ag a' rfl (by simpa using T) e1 e2
        by_cases T:dA ops j=true
        .have⟨y,hy,ad⟩:=vi ab ar rs (λd _ ob P=>r.obj d ob P) hx
         have hH:=g2 H y hy;refine⟨0,y,H,ν,Z,λq _=>?_,r,ad,.refl,λ_=>⟨rfl,.refl⟩⟩
         unfold dm;rw[g1];simp only[<-gd.E,ay,if_true];split
         next v hv=>have:=ym hv;rw[hH]at this;cases this;rfl
         rw[if_pos T,hH];rfl
        have ao:eZ fr L=true:=by simpa[T]using W
        have aa:∀id,Z id->Z id/\br (H.take b) id=br H id:=λid h=>⟨h,mq (aj id h)⟩
        have aA:∀id,Z id->Z id/\br H id=br (H.take b) id:=λid h=>⟨h,(mq (aj id h)).symm⟩
        have⟨y,hy,ad⟩:=vi (H:=H.take b) ab ar (rs.mono aa λe _=>iM ν st.m e) (λd P ob aB=>by
         have ab:d∉fr:=λhf=>by rw[mI ao d hf]at P;cases P
         exact dY.mono aa rfl (λhb=>by rw[getElem?_take,if_pos (ap d ob aB hb ab)]) (λe _=>iM ν st.m e) (r.obj d ob aB)) hx
        refine⟨0,y,H,ν,Z,λq _=>?_,r,ad.mono aA (λe _=>iM ν st.m e),.refl,λ_=>⟨rfl,.refl⟩⟩
        unfold dm;rw[g1];simp only[<-gd.E,g2 (H.take b) y hy,ay,if_true]
      simp at h
     |a q=>
      simp only at h;split at h
      .rename_i d P;split at h
       .rename_i Y;have⟨⟨ob,x⟩,hx,e⟩:=ζf.1 h;simp only[ζc]at e;obtain⟨rfl,rfl⟩:=e;have⟨ae,mk,e1,e2,e3,e4⟩:=Lx A rs hx;have⟨g1,g2⟩:=D;have⟨n1,n2,n3,n4⟩:=lJ Y;have au:∀p:Nat×Nat,∀e,SV.dB e L=true->∀af,bl (bR st.m d ob) e=some af->∃ob,bl st.m e=some ob/\iF ν d p e=ν e/\sameShape ob af:=λp e he=>by
         refine sA ?_;rintro rfl;have:∀{xs:Z4}{vs:Zw},bZ S.N st.g xs=some vs->SV.dB e vs=false:=by intro xs;induction xs with|nil=>intro vs h;simp only[bZ,ζa]at h;subst h;rfl|cons a xs ih=>intro vs h;simp only[bZ]at h;split at h;rename_i v aS h1 h2;simp only[ζa]at h;subst h;simp only[SV.dB,or_eq_false_iff];refine⟨?_,ih h2⟩;(cases a with|s n=>exact xw n3 h1|k c=>simp only[pW,ζa]at h1;subst h1;rfl|f s=>simp only[pW,ζa]at h1;subst h1;rfl);simp at h
         rw[this B]at he;cases he
        have fin:∀(id:Nat)(Hn:bp),H.length<=Hn.length->Hn[id]?=some ae->(∀k,k<H.length->k≠id->Hn[k]?=H[k]?)->(∀k,fc ν st.m k->k≠id)->(∀k,Z k->k≠id)->
         R (iF ν d (id,0)) Z {st with m:=bR st.m d ob} F Hn/\c9 (iF ν d (id,0)) (bR st.m d ob) Hn Z x (mk.val id)/\(∀k,Z k->br Hn k=br H k):=λid Hn hl aL I ho hz=>by
         have aa:∀k,Z k->br Hn k=br H k:=λk A=>by unfold br;rw[I k (r.vq A) (hz k A)]
         have⟨a1,a2⟩:=e4 id (iF ν d (id,0)) (bR st.m d ob) Hn (gD _ _ _) (cF _ _ _) aL aa (au _);have r2:R ν Z st F Hn:=r.heap (λk A=>I k (r.lt A) (ho k A)) aa
         exact⟨r2.add Y (λ_=>⟨λh=>ho _ h rfl,λh=>hz _ h rfl⟩) a1,a2,aa⟩
        have aC:o.dst=some d:=P
        cases place with
        |none=>
         have⟨f1,f2,f3⟩:=fin H.length (H++[ae]) Zc Zc (λk A _=>getElem?_append_left A) (λk A=>Nat.ne_of_lt (r.lt A)) (λk A=>Nat.ne_of_lt (r.vq A))
         refine⟨0,mk.val H.length,H++[ae],iF ν d (H.length,0),Z,λq _=>?_,f1,f2,Ev.add Y Zc (λk A _=>getElem?_append_left A) f3 (λ_=>.inr (le_refl _)),λhh=>?_⟩
         .unfold dm;rw[g1];simp only[ak,false_eq_true,if_false,<-gd.E,g2 _ e1]
         rw[J]at hh;cases hh
        |some Q=>
         have⟨b,j⟩:=Q;have hf:=al b j rfl g1;have aM:=(ζe.1 hf).1;have nf:∀k,fc ν st.m k->k≠b+j:=λk A e=>by subst e;have⟨d',af,w1,w2,w3⟩:=A;have:=r.obj d' af w1;cases af with|sl fl es xs=>simp only[cz]at w2;simp only[dY,w2,if_true]at this;have⟨_,O,_⟩:=this;rw[w3,hf]at O;cases O|box cs=>have⟨_,_,O,_⟩:=this;rw[w3,hf]at O;cases O|mp aT=>have⟨_,O,_⟩:=this;rw[w3,hf]at O;cases O
         have nz:∀k,Z k->k≠b+j:=λk A e=>by subst e;have:=r.zrow _ A;unfold br at this;rw[hf]at this;simp[Ob.rows]at this
         have⟨f1,f2,f3⟩:=fin (b+j) (H.set (b+j) ae) Zc (by rw[getElem?_set_self aM]) (λk _ A=>by rw[getElem?_set,if_neg (symm A)]) nf nz
         refine⟨0,mk.val (b+j),H.set (b+j) ae,iF ν d (b+j,0),Z,λq _=>?_,f1,f2,Ev.add Y Zc (λk _ A=>?_) f3 (λ_=>.inl ⟨b,j,rfl,rfl⟩),λ_=>⟨rfl,?_⟩⟩
         .unfold dm;rw[g1];simp only[ak,false_eq_true,if_false,<-gd.E,g2 _ e1,hf]
         .rw[getElem?_set,if_neg λe=>A ⟨b,j,rfl,e.symm⟩]
         have:xY ⟨o.dst,g,dr&&dA ops j,.a q,az,[],[]⟩=some d:=aC;have G:=hi b j rfl;subst G;rw[this];exact Kept.add λ_ _ h=>h
       simp at h
      simp at h
     |l q=>
      simp only at h;split at h
      .rename_i W;have⟨y,H',ν',e1,e2,e3,e4,e5⟩:=A0 r rs h;have⟨g1,g2⟩:=D;refine⟨0,y,H',ν',Z,λq _=>?_,e2,e3,e4.weak (λ_ h=>h.elim),λ_=>⟨rfl,e5⟩⟩
       unfold dm;rw[g1];simp only[<-gd.E]
       cases place with
       |none=>exact g2 _ _ e1|some Q=>
        have⟨b,j⟩:=Q;have u:dr=true:=J;subst u;have G:=hi b j rfl;subst G;have T:dA ops j=true:=by simpa using W
        simp only[T,if_true];exact g2 _ _ e1
      simp at h
     |e n=>exact D.elim|b=>
      simp only at h;split at h
      .cases h
      rename_i aq;have aN:dr=false:=by simpa using aq
      have aO:place=none:=by cases place with|none=>rfl|some Q=>rw[aN]at J;simp at J
      subst aO;split at h
      next x=>have⟨xs,h1,h2⟩:=ζg.1 h;have⟨l,h3,e⟩:=ζf.1 h2;simp only[ζc]at e;obtain⟨rfl,rfl⟩:=e;have⟨g1,y,e1,g2⟩:=D;have⟨y',_,e2,r1,r2⟩:=rs.inv;rw[e1]at e2;cases e2;have⟨zs,k1,k2⟩:=tn r1 r.obj h1;have hz:o9 zs=some l:=zG k2 h3;have⟨q1,q2⟩:=g2 H zs l k1 hz;exact⟨0,_,H,ν,Z,λq _=>by unfold dm;rw[g1];simp only[rP,<-gd.E,q1,q2,map_some],r,.v _ _ (.same _ rfl),.refl,λ_=>⟨rfl,.refl⟩⟩
      cases h
     |c=>
      simp only at h;have⟨g1,f',aU,e1,e2⟩:=D;have go:∀(f:Zk)(args:Zw)(av:Zu),bY ν st.m H Z args av->jx F o.op=some (.fn f,av)->fF S c o.dst dr (!dr||(dr&&dA ops i)) (fS st.m fr) f args st=some (sv,st')->
       BV S ops place dr F o.op (xY ⟨o.dst,g,dr&&dA ops i,.c,az,[],[]⟩) ν Z st H sv st':=λf args av aP aD aQ=>by
       have⟨n,y,H',ν',Z',p1,p2,p3,p4,p5,p6⟩:=OK (ops:=ops) (Rv:=λid=>∃b j,place=some (b,j)/\id=b+j) hS gd.prm J (λb j hp hn=>by
        have:=hi b j hp;subst this;simp only[ζh]at hn;exact hn.2) (λb j hp hn=>by have:=hi b j hp;subst this;rw[J,hp]at hn;simpa using hn) (λb j hp=>(K b j hp).2) r aP aQ
       refine⟨n,y,H',ν',Z',λq hq=>?_,p2,p3,p4,λP=>⟨p5 P,p6⟩⟩
       unfold dm;rw[g1];simp only[aD];exact p1 q hq
      split at h
      next f a b vs=>have⟨w,ws,ew,r1,r2⟩:=rs.inv;rw[ew]at e1;simp only[List.cons.injEq]at e1;obtain⟨rfl,rfl⟩:=e1;obtain⟨a',b',rfl,ra,rb⟩:=r1.jI;exact go f _ _ ((ra.append r2).append rb) e2 h
      next f a b vs=>have⟨w,ws,ew,r1,r2⟩:=rs.inv;rw[ew]at e1;simp only[List.cons.injEq]at e1;obtain⟨rfl,rfl⟩:=e1;obtain⟨a',b',rfl,ra,rb⟩:=r1.fr.jI;exact go f _ _ (((bY.qu ra).append r2).append (bY.qu rb)) e2 h
      simp at h
    simp at h
   simp at E
  simp at E
 simp at E
end
def gj(N:Nat->Zk)(g:Tb SV)(o:RO):a_ (Nat×Zw):=
 match o.k,bZ N g o.az with
 |.c,some (.yl id::t)=>some (id,t)|_,_=>none
open Classical in
def fq(S:Sys)(c:b9)(dr:Zl)(fr:Zv)(o:RO)(st:St):a_ St:=
 match wanted st.g o.gd with
 |some true=>match gj S.N st.g o with
  |some (id,u)=>if dr then none else match dy u,st.want with
   |some z,w::t=>if z=w/\id=st.yid then some (dh {st with want:=t} o.dst (.v (.bool (st.more|| !t.isEmpty))))else none|_,_=>none
  |none=>(lN S c dr fr o st).map λ(x,st')=>dh st' o.dst x
 |some false=>some (dh st o.dst (.v .undef))|none=>none
def RO.strip(o:RO):RO:={o with dead:=[],pre:=[]}
def nQ:Z5->St->a_ St
 |[],st=>some st|x::r,st=>(ghost x st).bind (nQ r)
def yp:Gh->Zl
 |.keep ..=>true|.drop _=>true|_=>false
def Bu(dr:Zl)(l:Z5)(st:St):a_ St:=if dr then(if l.all yp then nQ l st else none)else nQ l st
def oE(ds:Zv)(st:St):St:={st with g:=ov ds st.g}
def mA(S:Sys)(c:b9)(dr:Zl):Zv->Zx->St->a_ St
 |_,[],st=>some st|fr,o::r,st=>match(Bu dr o.pre st).bind (fq S c dr fr o.strip)with
  |some st'=>mA S c dr (if dr then p_ fr o.strip else fr) r (oE o.dead st')|none=>none
abbrev JT:=aZ (aZ V)->(Nat->Prop)->(Nat->Prop)->bp->Prop
structure Yc(S:Sys)(J:JT)(more:Bool)(yid:Nat):Prop where
 wz:∀w O Z H O' Z' H',J w O Z H->H.length<=H'.length->(∀i,i<H.length->¬O i->¬Z i->H'[i]?=H[i]?)->(∀i,Z i->Z' i/\br H' i=br H i)->
  (∀i,O' i->O i\/H.length<=i)->(∀i,Z' i->Z i\/O i\/H.length<=i)->J w O' Z' H'
 yield:∀x ws O Z H args,J (x::ws) O Z H->di H Z x args->(∀i,Z i->(br H i).isSome=true)->Deep H Z->(∀i,O i->¬Z i/\i<H.length)->
  ∃n H',run S.E n (.yld yid) args H=some (.bool (more|| !ws.isEmpty),H')/\J ws O Z H'/\H.length<=H'.length/\(∀i,O i->H'[i]?=H[i]?)/\(∀i,Z i->br H' i=br H i)
structure Fix(ν:Nu)(st:St)(ν':Nu)(st':St):Prop where
 pin:∀d∈st.pin,∀ob',bl st'.m d=some ob'->∃ob,bl st.m d=some ob/\ν' d=ν d/\sameShape ob ob'
 pins:st'.pin=st.pin
 more:st'.more=st.more
 yid:st'.yid=st.yid
section
variable{Rv:Nat->Prop}{ν ν' ν2:Nu}{Z Z':Nat->Prop}{st st' st2:St}{m m':Tb bK}{F F':Zo}{H H' H1:bp}{S:Sys}{c:b9}{X:CX}{J:JT}
def Fix.refl:Fix ν st ν st:=⟨λ_ _ t h=>⟨t,h,rfl,.refl _⟩,rfl,rfl,rfl⟩
def Fix.trans(a:Fix ν st ν' st')(b:Fix ν' st' ν2 st2):Fix ν st ν2 st2:=
 ⟨λd w t h=>by
  have⟨u,c,D,z⟩:=b.pin d (by rw[a.pins];omega) t h
  have⟨ob,B,G,C⟩:=a.pin d w u c;exact⟨ob,B,Ze,C.trans z⟩,by rw[b.pins,a.pins],by rw[b.more,a.more],by rw[b.yid,a.yid]⟩
def Ev.beside(y:Yc S J st.more st.yid)(a:Ev (λ_=>False) ν Z st H ν' Z' st' H')(B:st'.want=st.want)(j:J st.want (fc ν st.m) Z H):J st'.want (fc ν' st'.m) Z' H':=by
 rw[B];exact y.wz _ _ _ _ _ _ _ j a.len (λi b t u=>a.same i b t u (λh=>h)) a.rows (λi h=>(a.own i h).imp (λh=>h) (λh=>h.elim (λh=>h.elim) (λh=>h)))
  (λi h=>(a.frz i h).imp (λh=>h) (λh=>h.imp (λh=>h) (λh=>h.elim (λh=>h.elim) (λh=>h))))
def uw(D:∀s sv,bl st.g s=some sv->c9 ν m H Z sv (get F s)){ops:Zz}{o:Oper}{gd:a_ (Nat×Zl)}(a:Bt ops o=some gd){t:Zl}(B:wanted st.g gd=some t):fE ops F o=t:=by unfold Bt at a;unfold fE;cases u:o.guard with|none=>rw[u]at a;simp at a;simp[wanted]at B;grind|some G=>rw[u]at a;obtain⟨d,C,rfl⟩:=ζf.1 a;simp[C];simp[wanted]at B;split at B;(next c b=>simp at B;subst B;rw[(D d _ b).fr.bool]);rename_i x I b;simp at B;subst B;have w:=(D d _ b).fr;split;rename_i c z;rw[z]at w;cases w;grind;rfl;grind
def Mx{q:BM}{dst:a_ Nat}{args:Zw}{sv:SV}(h:zI q dst args st=some (sv,st')):st'.want=st.want/\st'.pin=st.pin/\st'.more=st.more/\st'.yid=st.yid:=by unfold zI at h;grind
def Oq{dr:Zl}{fr:Zv}{ro:RO}{sv:SV}(h:lN S c dr fr ro st=some (sv,st')):st'.want=st.want/\st'.pin=st.pin/\st'.more=st.more/\st'.yid=st.yid:=by
 unfold lN at h;split at h
 .split at h;split at h;split at h;simp at h;unfold yq at h;split at h;split at h;have⟨_,_,h⟩:=ζg.1 h;have⟨_,_,h⟩:=ζg.1 h;dsimp only at h;split at h;simp only[ζa,ζc]at h;obtain⟨_,rfl⟩:=h;exact⟨rfl,rfl,rfl,rfl⟩;simp at h;simp at h;simp at h;have⟨_,_,e⟩:=ζf.1 h;simp only[ζc]at e;obtain⟨_,rfl⟩:=e;exact⟨rfl,rfl,rfl,rfl⟩;have⟨_,_,e⟩:=ζf.1 h;simp only[ζc]at e;obtain⟨_,rfl⟩:=e;exact⟨rfl,rfl,rfl,rfl⟩;split at h;have⟨_,_,e⟩:=ζf.1 h;simp only[ζc]at e;obtain⟨_,rfl⟩:=e;exact⟨rfl,rfl,rfl,rfl⟩;simp at h;split at h;split at h;have⟨_,_,e⟩:=ζf.1 h;simp only[ζc]at e;obtain⟨_,rfl⟩:=e;exact⟨rfl,rfl,rfl,rfl⟩;simp at h;simp at h
  .split at h
   .unfold mh at h;((repeat' split at h)<;>first|(simp at h;done)|(simp only[ζa,ζc]at h;obtain⟨_,rfl⟩:=h;exact⟨rfl,rfl,rfl,rfl⟩)|(have⟨_,_,e⟩:=ζf.1 h;simp only[ζc]at e;obtain⟨_,rfl⟩:=e;exact⟨rfl,rfl,rfl,rfl⟩)|skip);dsimp only at h;(repeat' split at h)<;>first|(simp at h;done)|(simp only[ζa,ζc]at h;obtain⟨_,rfl⟩:=h;exact⟨rfl,rfl,rfl,rfl⟩)
   simp at h
  .have hc:∀{dst dr now t f args},fF S c dst dr now t f args st=some (sv,st')->st'.want=st.want/\st'.pin=st.pin/\st'.more=st.more/\st'.yid=st.yid:=(by intro dst dr now t f args h;unfold fF at h;(repeat' split at h)<;>first|exact Mx h|(have⟨_,_,e⟩:=ζf.1 h;simp only[ζc]at e;obtain⟨_,rfl⟩:=e;exact⟨rfl,rfl,rfl,rfl⟩)|(simp at h;done)|(simp only[ζa,ζc]at h;obtain⟨_,rfl⟩:=h;exact⟨rfl,rfl,rfl,rfl⟩));split at h;exact hc h;exact hc h;simp at h
  split at h;simp at h;split at h;have⟨_,_,h⟩:=ζg.1 h;have⟨_,_,e⟩:=ζf.1 h;simp only[ζc]at e;obtain⟨_,rfl⟩:=e;exact⟨rfl,rfl,rfl,rfl⟩;simp at h;have w:∀{dst l u},mh st dst l u=some (sv,st')->st'.want=st.want/\st'.pin=st.pin/\st'.more=st.more/\st'.yid=st.yid:=by intro dst l u h;unfold mh at h;((repeat' split at h)<;>first|(simp at h;done)|(simp only[ζa,ζc]at h;obtain⟨_,rfl⟩:=h;exact⟨rfl,rfl,rfl,rfl⟩)|(have⟨_,_,e⟩:=ζf.1 h;simp only[ζc]at e;obtain⟨_,rfl⟩:=e;exact⟨rfl,rfl,rfl,rfl⟩)|skip);all_goals (dsimp only at h;(repeat' split at h)<;>first|(simp at h;done)|(simp only[ζa,ζc]at h;obtain⟨_,rfl⟩:=h;exact⟨rfl,rfl,rfl,rfl⟩))
  split at h;exact w h;exact w h;simp at h
 simp at h
def zY(r:R ν Z st F H){a:Nat}{dst:a_ Nat}(B:xD a dst=true){sv:SV}{y:V}(h:c9 ν st.m H Z sv y):∃F',jD a F dst y=some F'/\R ν Z (dh st dst sv) F' H:=by cases dst with|none=>exact⟨F,rfl,r⟩|some d=>have:=(by simpa[xD]using B);exact⟨set F d y,by simp[jD,if_pos this],r.put h⟩
def CA(st:St)(dst:a_ Nat)(sv:SV):(dh st dst sv).m=st.m/\(dh st dst sv).want=st.want/\(dh st dst sv).pin=st.pin/\(dh st dst sv).more=st.more/\(dh st dst sv).yid=st.yid:=by cases dst<;>exact⟨rfl,rfl,rfl,rfl,rfl⟩
def IL(gd:Good X S)(U:je S c){ops:Zz}{place:a_ (Nat×Nat)}{dr:Zl}{fr:Zv}{i:Nat}(G:dr=place.isSome)(W:∀b j,place=some (b,j)->j=i)
 (a:∀b j,place=some (b,j)->b<=H.length/\Old b fr ν Z st.m)
 {o:Oper}{ro:RO}(l:mG X dr ops i o=some ro)(J:∀b j,place=some (b,j)->ops[j]?=some o)(D:∀b j,place=some (b,j)->c_ o.op=.alloc->H[b+j]?=some .free)
 (r:R ν Z st F H)(B:gj S.N st.g ro=none\/dr=true)(h:fq S c dr fr ro st=some st'):
 ∃n F' H' ν' Z',(∀k,n<=k->fW S.E (run S.E k) X.nt ops place o F H=some (F',H'))/\R ν' Z' st' F' H'/\Ev (λid=>∃b j,place=some (b,j)/\id=b+j) ν Z st H ν' Z' st' H'/\
  (dr=true->Z'=Z/\Kept (xY ro) ν st.m ν' st'.m)/\st'.want=st.want/\Fix ν st ν' st':=by
 have I:=l;obtain⟨u,g,now,k,az,m,rfl⟩:=BE l;unfold fq at h;split at h
 .rename_i L;have w:=uw r.slot m L;have T:(lN S c dr fr ⟨o.dst,g,now,k,az,[],[]⟩ st).map (λ(x,st')=>dh st' o.dst x)=some st':=by
   split at h
   .rename_i id vs C;rcases B with B|B
    .rw[B]at C;cases C
    subst B;simp at h
   exact h
  obtain⟨⟨x,O⟩,t,rfl⟩:=ζf.1 T;have⟨n,y,H',ν',Z',e1,e2,e3,e4,e5⟩:=SI gd U G W a I J D r t;have⟨Y,Q,p,q⟩:=Oq t;have⟨F',e,f⟩:=zY e2 u e3;have⟨p1,p2,p3,p4,p5⟩:=CA O o.dst x;refine⟨n,F',H',ν',Z',λk s=>?_,f,?_,λt=>⟨(e5 t).1,by rw[p1];exact(e5 t).2⟩,by rw[p2,Y],⟨λd t=>by rw[p1];exact e4.pin d t,by rw[p3,Q],by rw[p4,p],by rw[p5,q]⟩⟩
  .unfold fW;simp only[w,if_true,e1 k s,e,map_some]
  exact⟨e4.len,e4.same,e4.rows,λid h=>e4.own id (by rw[p1]at h;exact h),e4.frz,λd t=>by rw[p1];exact e4.pin d t,by rw[p3,Q]⟩
 .rename_i L;have w:=uw r.slot m L;simp only[ζa]at h;subst h;have⟨F',e,f⟩:=zY r u (.v V.undef V.undef (.same _ rfl));have⟨p1,p2,p3,p4,p5⟩:=CA st o.dst (.v .undef);refine⟨0,F',H,ν,Z,λk _=>?_,f,?_,λ_=>⟨rfl,by rw[p1];exact .refl⟩,p2,⟨λd t=>by rw[p1];exactλz h=>⟨z,h,rfl,.refl _⟩,p3,p4,p5⟩⟩
  .unfold fW;simp only[w,false_eq_true,if_false,e,map_some]
  exact⟨le_refl _,λ_ _ _ _ _=>rfl,λ_ h=>⟨h,rfl⟩,λ_ h=>.inl (by rw[p1]at h;exact h),λ_ h=>.inl h,λd t=>by rw[p1];exactλz h=>⟨z,h,rfl,.refl _⟩,p3⟩
 simp at h
def MX(gd:Good X S)(y:Yc S J st.more st.yid){ops:Zz}{fr:Zv}{i:Nat}{o:Oper}{ro:RO}(a:mG X false ops i o=some ro)
 (r:R ν Z st F H)(j:J st.want (fc ν st.m) Z H){id:Nat}{vs:Zw}(B:gj S.N st.g ro=some (id,vs))(D:wanted st.g ro.gd=some true)(h:fq S c false fr ro st=some st'):
 ∃n F' H',(∀k,n<=k->fW S.E (run S.E k) X.nt ops none o F H=some (F',H'))/\R ν Z st' F' H'/\J st'.want (fc ν st'.m) Z H'/\Fix ν st ν st':=by
 unfold mG at a;simp only[Bool.false_and,false_eq_true,if_false]at a;split at a
 .rename_i z;split at a
  .rename_i g k os hg hr;split at a
   .obtain⟨az,U,rfl⟩:=ζf.1 a;unfold fq at h;simp only at D;have I:=uw r.slot hg D;rw[D]at h;simp only[B,false_eq_true,if_false]at h;unfold gj at B;split at B
    .rename_i W Y b C;simp only[ζa,ζc]at B;obtain⟨rfl,rfl⟩:=B;simp only at b C;subst b;have⟨ys,L,rs⟩:=nu gd.N r.slot U C;have⟨g1,E,K,e1,e2⟩:=iV gd.N hr L;have⟨w,M,e,r1,r2⟩:=rs.inv;rw[e]at e1;simp only[List.cons.injEq]at e1;obtain⟨rfl,rfl⟩:=e1;cases r1;simp only at e2;split at h
     .rename_i xs x G hx t;split at h
      .rename_i u;obtain⟨rfl,rfl⟩:=u;simp only[ζa]at h;subst h;rw[t]at j;have⟨n,H',p1,p2,p3,p4,p5⟩:=y.yield _ _ _ _ _ _ j (r2.dy hx) r.zrow r.deep (λi Q=>⟨by obtain⟨d,ob,f,l,rfl⟩:=Q;exact r.apart d ob f l,r.lt Q⟩)
       have r3:R ν Z st F H':=r.heap p4 p5;have r4:R ν Z {st with want:=G} F H':=⟨r3.slot,r3.obj,r3.inj,r3.apart,r3.zrow,r3.deep⟩;have⟨F',m,p⟩:=zY (st:={st with want:=G}) r4 z (sv:=.v (.bool (st.more|| !G.isEmpty))) (.v _ _ (.same _ rfl));have⟨T,q,s,v,A⟩:=CA {st with want:=G} o.dst (.v (.bool (st.more|| !G.isEmpty)));refine⟨n,F',H',λk b=>?_,p,by rw[T,q];exact p2,⟨λd N=>by rw[T];exactλO h=>⟨O,h,rfl,.refl _⟩,s,v,A⟩⟩
       unfold fW dm;rw[g1,e2];simp only[I,if_true,(l8 S.E b).go _ _ _ _ p1,m,map_some]
      simp at h
     simp at h
    simp at B
   simp at a
  simp at a
 simp at a
def kz(X:CX)(B:Zl)(ops:Zz):Nat->Zz->a_ Zx
 |_,[]=>some []|i,o::r=>match mG X B ops i o,kz X B ops (i+1) r with
  |some ro,some rs=>some (ro::rs)|_,_=>none
def R.xu(r:R ν Z st F H)(ds:Zv):R ν Z (oE ds st) F H:=r.less (λs w t=>nE t) (λd ob u=>u)
def Fix.xu{ds:Zv}(f:Fix ν (oE ds st) ν' st'):Fix ν st ν' st':=⟨f.pin,f.pins,f.more,f.yid⟩
def Fix.ghost(r:R ν Z st F H)(y:Yc S J st.more st.yid)(j:J st.want (fc ν st.m) Z H){x:Gh}(h:ghost x st=some st'):∃ν' Z',R ν' Z' st' F H/\J st'.want (fc ν' st'.m) Z' H/\Fix ν st ν' st':=by
 have⟨ν',Z',a,t⟩:=OC (Rv:=λ_=>False) r h;have u:st'.want=st.want/\st'.more=st.more/\st'.yid=st.yid:=by unfold Go.VE.ghost zx at h;(repeat' split at h)<;>first|grind|grind
 exact⟨ν',Z',a,t.beside y u.1 j,⟨t.pin,t.pins,u.2.1,u.2.2⟩⟩
def Fix.quiet(r:R ν Z st F H):∀{l:Z5}{st':St},l.all yp=true->Go.VE.nQ l st=some st'->R ν Z st' F H/\Ev Rv ν Z st H ν Z st' H/\st'.want=st.want/\Fix ν st ν st'/\∀d ob,bl st'.m d=some ob->bl st.m d=some ob:=by intro l;induction l generalizing st with|nil=>intro st' _ h;simp[Go.VE.nQ]at h;subst h;exact⟨r,.refl,rfl,.refl,λ_ _ h=>h⟩|cons x l z=>intro st' b h;simp only[all_cons,ζh]at b;have⟨B,a,C⟩:=ζg.1 h;have key:∃g m,B={st with g:=g,m:=m}/\(∀s t,bl g s=some t->bl st.g s=some t)/\∀d ob,bl m d=some ob->bl st.m d=some ob:=(by cases x with|keep gs T=>simp[Go.VE.ghost]at a;split at a;(next g m c D=>simp at a;subst a;exact⟨g,m,rfl,λs t w=>pL c w,λd ob G=>pL D G⟩);grind|drop ds=>simp[Go.VE.ghost]at a;subst a;exact⟨_,st.m,rfl,λs t w=>nE w,λ_ _ h=>h⟩|_=>simp[yp]at b);obtain⟨g,m,rfl,I,u⟩:=key;have⟨J,L,O,Q,S⟩:=z (r.less I u) b.2 C;exact⟨J,(Ev.less u).trans L,O,Fix.trans (st':={st with g:=g,m:=m}) ⟨λd _ ob h=>⟨ob,u d ob h,rfl,.refl _⟩,rfl,rfl,rfl⟩ Q,λd ob h=>u d ob (S d ob h)⟩
def Fix.nQ:∀{l:Z5}{ν:Nu}{Z:Nat->Prop}{st st':St},R ν Z st F H->Yc S J st.more st.yid->J st.want (fc ν st.m) Z H->nQ l st=some st'->∃ν' Z',R ν' Z' st' F H/\J st'.want (fc ν' st'.m) Z' H/\Fix ν st ν' st'
 |[],ν,Z,st,st',r,y,j,h=>by simp[Go.VE.nQ]at h;subst h;exact⟨ν,Z,r,j,.refl⟩|x::l,ν,Z,st,st',r,y,j,h=>by have⟨B,b,D⟩:=ζg.1 h;have⟨w,z,r1,t,a⟩:=Fix.ghost r y j b;have⟨ν2,Z2,r2,u,c⟩:=Fix.nQ r1 (by rw[a.more,a.yid];omega) t D;exact⟨ν2,Z2,r2,u,a.trans c⟩
def MU(gd:Good X S)(O:je S c){ops:Zz}{fr:Zv}{i:Nat}{o:Oper}{ro:RO}{B:St}(a:mG X false ops i o=some ro)(y:Yc S J st.more st.yid)(r:R ν Z st F H)(j:J st.want (fc ν st.m) Z H)(D:fq S c false fr ro st=some B):
 ∃n F' H' ν' Z',(∀k,n<=k->fW S.E (run S.E k) X.nt ops none o F H=some (F',H'))/\R ν' Z' B F' H'/\J B.want (fc ν' B.m) Z' H'/\Fix ν st ν' B:=by
 by_cases I:wanted st.g ro.gd=some true
 .cases z:gj S.N st.g ro with
  |none=>
   have⟨n,F',H',ν',Z',e1,e2,e3,e4,e5,e6⟩:=IL gd O (place:=none) rfl (λb j h=>by cases h) (λb j h=>by cases h) a (λb j h=>by cases h) (λb j h=>by cases h) r (.inl z) D
   exact⟨n,F',H',ν',Z',e1,e2,(e3.weak (λid⟨b,j,h,_⟩=>by cases h)).beside y e5 j,e6⟩
  |some p=>have⟨id,T⟩:=p;have⟨n,F',H',e1,e2,e3,e4⟩:=MX gd y a r j z I D;exact⟨n,F',H',ν,Z,e1,e2,e3,e4⟩
 have t:fq S c false fr ro st=some B:=D;have L:gj S.N st.g {ro with az:=[]}=none:=by unfold gj;simp[bZ]
 obtain⟨n,F',H',ν',Z',e1,e2,e3,e4,e5,e6⟩:∃n F' H' ν' Z',(∀k,n<=k->fW S.E (run S.E k) X.nt ops none o F H=some (F',H'))/\R ν' Z' B F' H'/\Ev (λ_=>False) ν Z st H ν' Z' B H'/\True/\B.want=st.want/\Fix ν st ν' B:=by unfold fq at t;split at t;(next u=>exact absurd u I);rename_i u;simp only[ζa]at t;subst t;unfold mG at a;simp only[Bool.false_and,false_eq_true,if_false]at a;split at a;rename_i C;split at a;rename_i g k os e m;split at a;obtain⟨az,U,rfl⟩:=ζf.1 a;have G:=uw r.slot e u;have⟨F',f,l⟩:=zY r C (.v V.undef V.undef (.same _ rfl));have⟨p1,p2,p3,p4,p5⟩:=CA st o.dst (.v .undef);refine⟨0,F',H,ν,Z,λk _=>?_,l,?_,trivial,p2,⟨λd Q=>by rw[p1];exactλw h=>⟨w,h,rfl,.refl _⟩,p3,p4,p5⟩⟩;unfold fW;simp only[G,false_eq_true,if_false,f,map_some];exact⟨le_refl _,λ_ _ _ _ _=>rfl,λ_ h=>⟨h,rfl⟩,λ_ h=>.inl (by rw[p1]at h;exact h),λ_ h=>.inl h,λd Q=>by rw[p1];exactλw h=>⟨w,h,rfl,.refl _⟩,p3⟩;simp at a;simp at a;simp at a;simp at t
 exact⟨n,F',H',ν',Z',e1,e2,e3.beside y e5 j,e6⟩
def K3(gd:Good X S)(U:je S c){ops:Zz}{fr:Zv}:∀(rest:Zz){i:Nat}{B:Zx}{ν:Nu}{Z:Nat->Prop}{st st':St}{F:Zo}{H:bp},kz X false ops i rest=some (B.map RO.strip)->mA S c false fr B st=some st'->
 Yc S J st.more st.yid->R ν Z st F H->J st.want (fc ν st.m) Z H->
 ∃n F' H' ν' Z',(∀k,n<=k->lC S.E (run S.E k) X.nt ops rest F H=some (F',H'))/\R ν' Z' st' F' H'/\J st'.want (fc ν' st'.m) Z' H'/\Fix ν st ν' st'
 |[],i,B,ν,Z,st,st',F,H,hc,h,y,r,j=>by simp only[kz,ζa]at hc;have:=List.map_eq_nil_iff.1 hc.symm;subst this;simp[mA]at h;subst h;exact⟨0,F,H,ν,Z,λ_ _=>rfl,r,j,.refl⟩|o::rest,i,B,ν,Z,st,st',F,H,hc,h,y,r,j=>by simp[kz]at hc;split at hc;rename_i Q rs e T;obtain⟨t,u,rfl,z,C⟩:∃t u,B=t::u/\Q=t.strip/\rs=u.map RO.strip:=(by cases B with|nil=>simp_all|cons a b=>grind);subst C;simp[mA,<-z]at h;split at h;rename_i w D;have⟨W,G,D⟩:=ζg.1 D;have⟨E,K,f,Y,I⟩:=Fix.nQ r y j G;have⟨g,F1,H1,M,N,l,m,a3,L⟩:=MU gd U e (by rw[I.more,I.yid];omega) f Y D;have O:=I.trans L;have⟨p,q,H2,ν2,Z2,s,v,x,A⟩:=K3 gd U rest T h (by show Yc S J w.more w.yid;rw[O.more,O.yid];omega) (R.xu m t.dead) a3;refine⟨max g p,q,H2,ν2,Z2,λk d=>?_,v,x,O.trans (Fix.xu A)⟩;simp[lC,l k (le_trans (le_max_left _ _) d),s k (le_trans (le_max_right _ _) d)];grind;grind
def Old.next{b:Nat}{fr:Zv}{o:RO}(h:Old b fr ν Z m)(a:Kept (xY o) ν m ν' m'):Old b (p_ fr o) ν' Z m':=by
 refine⟨λd ob C D u=>?_,h.2⟩;have w:d∉fr:=λJ=>u (by unfold p_;grind);have z:xY o≠some d:=λe=>u (by unfold p_;grind);have⟨t,c,G,I⟩:=a d ob z C;have B:cz t=true:=by cases t<;>cases ob<;>simp[sameShape]at I<;>first|rfl|(simp[cz]at D⊢;grind)
 rw[G];exact h.1 d t c B w
def CW(r:R ν Z st F H){id:Nat}(h:fc ν st.m id):H[id]?≠some .free:=by obtain⟨d,ob,a,t,rfl⟩:=h;have:=r.obj d ob a;cases ob with|sl k es B=>simp[cz]at t;simp[dY,t]at this;grind|box C=>have⟨es,w,b,_⟩:=this;grind|mp z=>have⟨u,b,_⟩:=this;grind
def I6(r:R ν Z st F H){id:Nat}(h:Z id):H[id]?≠some .free:=λe=>by have:=r.zrow id h;unfold br at this;rw[e]at this;simp[Ob.rows]at this
def Ev.xu{ds:Zv}(e:Ev Rv ν Z (oE ds st) H ν' Z' st' H'):Ev Rv ν Z st H ν' Z' st' H':=⟨e.len,e.same,e.rows,e.own,e.frz,e.pin,e.pins⟩
def Ls(gd:Good X S)(Y:je S c){ops:Zz}{b k:Nat}(D:qA ops=true->k=ops.length):∀(len:Nat){i:Nat}{B:Zx}{fr:Zv}{ν:Nu}{Z:Nat->Prop}{st st':St}{F:Zo}{H:bp},
 i+len=ops.length->kz X true ops i (ops.drop i)=some (B.map RO.strip)->mA S c true fr B st=some st'->R ν Z st F H->b<=H.length->Old b fr ν Z st.m->(∀j,i<=j->j<k->H[b+j]?=some .free)->
 ∃n F' H' ν',(∀q,n<=q->jy S.E (run S.E q) X.nt ops b (List.range' i len) F H=some (F',H'))/\R ν' Z st' F' H'/\Ev (λid=>b<=id) ν Z st H ν' Z st' H'/\st'.want=st.want/\Fix ν st ν' st'
 |0,i,B,fr,ν,Z,st,st',F,H,hl,hc,h,r,hb,G,hf=>by rw[List.drop_of_length_le Za]at hc;simp only[kz,ζa]at hc;have:B=[]:=List.map_eq_nil_iff.1 hc.symm;subst this;simp[mA]at h;subst h;exact⟨0,F,H,ν,λ_ _=>rfl,r,.refl,rfl,.refl⟩|len+1,i,B,fr,ν,Z,st,st',F,H,hl,hc,h,r,hb,G,hf=>by
  have l:i<ops.length:=Za;have m:=ζd l;rw[List.drop_eq_getElem_cons l]at hc;simp[kz]at hc;split at hc
  .rename_i ro rs h1 h2;obtain⟨t,u,rfl,L,O⟩:∃t u,B=t::u/\ro=t.strip/\rs=u.map RO.strip:=by cases B with|nil=>simp_all|cons a b=>grind
   subst O;simp only[mA,<-L]at h;split at h
   .rename_i aa Q;obtain⟨T,w,Q⟩:=ζg.1 Q;simp only[Bu,if_true]at w;split at w;rotate_left;simp_all;rename_i f;obtain⟨g,o,p,s,v⟩:=Fix.quiet r f w;have G:Old b fr ν Z T.m:=⟨λd ob x=>G.1 d ob (v d ob x),G.2⟩;obtain⟨y,F1,H1,ν1,Z1,A,E,a3,a4,a5,K⟩:=IL gd Y (place:=some (b,i)) rfl (λJ j e=>Zd) (λJ j e=>Zd) h1 (λJ j e=>Zd) (λJ j e ab=>by
     have:qA ops=true:=by
      unfold qA
      grind
     grind) g (.inr rfl) Q
    obtain⟨rfl,z⟩:=a4 rfl;have I:=a3.weak λid⟨J,j,e,h⟩=>by cases e;omega
    obtain⟨M,N,H2,ν2,P,V,b3,b4,b5⟩:=Ls gd Y D len Za h2 h (R.xu E t.dead) (le_trans hb a3.len) (G.next z) (λj ad U=>by have C:=hf j Za U;have W:=(ζe.1 C).1;rw[I.same (b+j) W (λh=>CW g h C) (λh=>I6 g h C) Za];omega);refine⟨max y M,N,H2,ν2,λq f=>?_,V,o.trans ((I.weak λid e=>Za).trans (Ev.xu b3)),by rw[b4,<-p];exact a5,s.trans (K.trans (Fix.xu b5))⟩;simp[List.range'_succ,jy,m,A q (le_trans (le_max_left _ _) f),P q (le_trans (le_max_right _ _) f)]
   grind
  grind
end
def bQ(X:CX):Zl->Code->a_ RC
 |_,.skip=>some .skip|_,.label _=>some .skip|_,.region _ ops B=>
  if B then(if uR ops.toList&&zo ops.toList then(kz X true ops.toList 0 ops.toList).map .ox else none)
  else(kz X false ops.toList 0 ops.toList).map .ops
 |ro,.seq a b=>match bQ X ro a,bQ X ro b with
  |some a,some b=>some (.seq a b)|_,_=>none
 |ro,.cond c a b=>match oe X.nm c,bQ X ro a,bQ X ro b with
  |some x,some a,some b=>some (.cond x a b)|_,_,_=>none
 |ro,.block id c=>(bQ X ro c).map (.block id)|ro,.loop c=>(bQ X ro c).map .loop|ro,.rangeFunc g ps D G=>
  if ro|| !(ps.toList.all (·<X.nt))then none else
  match oe X.nm g,bQ X true D,bQ X true G with
  |some x,some a,some b=>some (.each x ps.toList a b)|_,_,_=>none
 |_,.exit id=>some (.exit id)|_,.ret=>some .ret|_,_=>none
def erase:RC->RC
 |.seq a b=>.seq (erase a) (erase b)|.cond x a b=>.cond x (erase a) (erase b)|.block id c=>.block id (erase c)|.loop c=>.loop (erase c)|.each g ps a b=>.each g ps (erase a) (erase b)|.gh _ c=>erase c|.hg c _=>erase c|.ops l=>.ops (l.map RO.strip)|.ox l=>.ox (l.map RO.strip)|c=>c
def iY(step:St->a_ (Out×St)):Nat->St->a_ (Out×St)
 |0,_=>none|k+1,st=>match step st with
  |some (.norm,st')=>iY step k st'|r=>r
open Classical in
def nK(step:St->a_ (Out×St))(st:St):a_ (Out×St):=if h:∃k r,iY step k st=some r then some (Classical.choose (choose_spec h))else none
def xG{step:St->a_ (Out×St)}:∀{k B:Nat}{st:St}{r:Out×St},k<=B->iY step k st=some r->iY step B st=some r
 |0,_,_,_,_,h=>by simp[iY]at h|k+1,0,_,_,hk,_=>Za|k+1,B+1,st,r,hk,h=>by simp only[iY]at h⊢;split at h;(next st' D=>rw[xG (Nat.le_of_succ_le_succ hk) h]);exact h
def lW{step:St->a_ (Out×St)}{st:St}{r:Out×St}:nK step st=some r↔∃k,iY step k st=some r:=by
 unfold nK;constructor;intro h;split at h;next t=>simp only[ζa]at h;exact⟨_,by rw[<-h];exact choose_spec (choose_spec t)⟩
 simp at h;rintro⟨k,a⟩;have t:∃k r,iY step k st=some r:=⟨k,r,a⟩;rw[dif_pos t];have w:=choose_spec (choose_spec t);have z:=xG (le_max_left (Classical.choose t) k) w;have u:=xG (le_max_right (Classical.choose t) k) a;rw[z]at u;exact u
def iJ(ps:Zv)(A B:St->a_ (Out×St))(st:St)(x:Zu)(m:Tb bK):a_ (Out×Tb bK):=
 if x.length=ps.length then
  match A {g:=vT st.g ps (x.map .v),m:=m,pin:=st.pin++o4 st.g,want:=[],more:=true,yid:=0}with
  |some (.norm,t)=>(B t).map λ(o,st2)=>(o,st2.m)|_=>none
 else none
def pJ(step:Zu->Tb bK->a_ (Out×Tb bK)):Zt->Tb bK->a_ (Out×Tb bK)
 |[],m=>some (.norm,m)|x::xs,m=>match step x m with
  |some (.norm,m')=>pJ step xs m'|r=>r
def cI(S:Sys)(c:b9):RC->St->a_ (Out×St)
 |.skip,st=>some (.norm,st)|.ops l,st=>(mA S c false [] l st).map λst=>(.norm,st)|.ox l,st=>(mA S c true [] l st).map λst=>(.norm,st)|.seq a b,st=>match cI S c a st with
  |some (.norm,st')=>cI S c b st'|r=>r
 |.cond x a b,st=>match pW S.N st.g x with
  |some (.v (.bool t))=>if t then cI S c a st else cI S c b st|_=>none
 |.block id a,st=>match cI S c a st with
  |some (.exit B,st')=>if B=id then some (.norm,st')else some (.exit B,st')|r=>r
 |.loop a,st=>nK (cI S c a) st|.each g ps a b,st=>match pW S.N st.g g with
  |some (.v (.clo f x y))=>match S.items f x y with
   |some xs=>(pJ (iJ ps (cI S c a) (cI S c b) st) xs st.m).map λ(o,m)=>(o,{st with m:=m})|none=>none
  |_=>none
 |.exit id,st=>some (.exit id,st)|.ret,st=>some (.ret,st)|.gh x a,st=>(ghost x st).bind (cI S c a)|.hg a x,st=>match cI S c a st with
  |some (.norm,st')=>(ghost x st').map λst=>(.norm,st)|r=>r
def fu(S:Sys)(f:Zk)(a b:Zu)(xs:Zt):Prop:=∀t more,(more=true/\t=xs\/more=false/\t≠[]/\∃r,xs=t++r)->∀yid J,Yc S J more yid->∀Z u w H,di H Z a u->di H Z b w->(∀i,Z i->(br H i).isSome=true)->Deep H Z->J t (λ_=>False) Z H->∃n y H' z Z',(∀k,n<=k->run S.E k (.fn f) (u++.yld yid::w) H=some (y,H'))/\J [] z Z' H'
section
variable{ν ν' ν2:Nu}{Z Z':Nat->Prop}{st st' st2:St}{m m':Tb bK}{F F':Zo}{H H' H1:bp}{S:Sys}{c:b9}{X:CX}{J:JT}
end
inductive vK(step:List V->Tb bK->Option (Out×Tb bK))(o:Out)(mf:Tb bK):List (List V)->Bool->Tb bK->Prop
 |nil(h:o=.norm):vK step o mf [] true mf|next(x:List V)(ws:List (List V))(more:Bool)(m m1:Tb bK)(h:step x m=some (.norm,m1))(r:vK step o mf ws more m1):vK step o mf (x::ws) more m|last(x:List V)(m:Tb bK)(h:step x m=some (o,mf))(ho:o≠.norm):vK step o mf [x] false m
def Cn{step:Zu->Tb bK->a_ (Out×Tb bK)}{o:Out}{D:Tb bK}:∀{xs:Zt}{m:Tb bK},pJ step xs m=some (o,D)->
 ∃B more,(more=true/\B=xs\/more=false/\B≠[]/\∃r,xs=B++r)/\vK step o D B more m
 |[],m,h=>by obtain⟨rfl,rfl⟩:=h;exact⟨[],true,.inl ⟨rfl,rfl⟩,.nil rfl⟩|x::xs,m,h=>by simp[pJ]at h;split at h;rename_i m' t;have⟨B,more,b,a⟩:=Cn h;refine⟨x::B,more,?_,.next x B more m m' t a⟩;grind;refine⟨[x],false,.inr ⟨rfl,Zc,xs,rfl⟩,.last x m h λe=>?_⟩;simp_all
def tu(O0 Z0:Nat->Prop)(H0:bp):JT:=λw O Z H=>w=[]/\H0.length<=H.length/\(∀i,i<H0.length->¬O0 i->¬Z0 i->H[i]?=H0[i]?)/\(∀i,Z0 i->Z i/\br H i=br H0 i)/\(∀i,O i->O0 i\/H0.length<=i)/\(∀i,Z i->Z0 i\/O0 i\/H0.length<=i)
section
variable{ν ν' ν2:Nu}{Z Z':Nat->Prop}{st st' st2:St}{m m':Tb bK}{F F':Zo}{H H' H1:bp}{S:Sys}{c:b9}{X:CX}{J:JT}{O0 Z0:Nat->Prop}{H0:bp}
def tu.wz{w:Zt}{O Z B Z':Nat->Prop}{H H':bp}(j:tu O0 Z0 H0 w O Z H)(D:H.length<=H'.length)(G:∀i,i<H.length->¬O i->¬Z i->H'[i]?=H[i]?)(a:∀i,Z i->Z' i/\br H' i=br H i)
 (J:∀i,B i->O i\/H.length<=i)(U:∀i,Z' i->Z i\/O i\/H.length<=i):tu O0 Z0 H0 w B Z' H':=by
 have⟨t,u,C,z,I,L⟩:=j;refine⟨t,le_trans u D,λi b Q S=>?_,λi h=>⟨(a i (z i h).1).1,Zd⟩,λi h=>?_,λi h=>?_⟩
 .grind
 .grind
 grind
def tu.yc{more:Zl}{yid:Nat}:Yc S (tu O0 Z0 H0) more yid where
 wz:=λ_ _ _ _ _ _ _ j a t u w z=>j.wz a t u w z
 yield:=λx B O Z H args j=>by have⟨h,_⟩:=j;cases h
def tu.refl(r:R ν Z st F H):tu (fc ν st.m) Z H [] (fc ν st.m) Z H:=⟨rfl,le_refl _,λ_ _ _ _=>rfl,λi h=>⟨h,rfl⟩,λi h=>.inl h,λi h=>.inl h⟩
mutual
def Cx{d:Nat}:∀{sv:SV},sv.cQ d=true->d∈sv.names
 |.v _,h=>by simp[SV.cQ]at h|.own e,h=>by simp[SV.cQ]at h;simp[SV.names,h]|.ptr e _,h=>by simp[SV.cQ]at h;simp[SV.names,h]|.el e _ _,h=>by simp[SV.cQ]at h;simp[SV.names,h]|.mp e,h=>by simp[SV.cQ]at h;simp[SV.names,h]|.clo f a b,h=>by simp only[SV.cQ,or_eq_true]at h;simp only[SV.names,mem_append];exact h.imp pZ pZ|.tup l,h=>by simp only[SV.cQ]at h;simp only[SV.names];exact pZ h|.agg l,h=>by simp only[SV.cQ]at h;simp only[SV.names];exact pZ h|.yl _,h=>by simp[SV.cQ]at h
def pZ{d:Nat}:∀{l:Zw},SV.dB d l=true->d∈SV.uU l
 |[],h=>by simp[SV.dB]at h|x::r,h=>by simp only[SV.dB,or_eq_true]at h;simp only[SV.uU,mem_append];exact h.imp Cx pZ
end
def Ax{d:Nat}:∀{g:Tb SV}{s:Nat}{sv:SV},bl g s=some sv->sv.cQ d=true->d∈o4 g
 |[],s,sv,h,_=>by simp[bl]at h|(k,x)::r,s,sv,h,B=>by simp[bl]at h;simp[o4];split at h;simp at h;subst h;exact .inl (Cx B);exact .inr (Ax h B)
def R.T3(r:R ν Z st F H){Z2:Nat->Prop}(f:∀i,Z2 i->¬fc ν st.m i)(G:∀i,Z2 i->(br H i).isSome=true)(J:Deep H Z2):R ν (λi=>Z i\/Z2 i) st F H:=by have w:∀i,Z i->(Z i\/Z2 i)/\br H i=br H i:=λi h=>⟨.inl h,rfl⟩;have z:∀i,Z2 i->(Z i\/Z2 i)/\br H i=br H i:=λi h=>⟨.inr h,rfl⟩;refine⟨λs I L=>(r.slot s I L).mono w λe _=>iM ν st.m e,λd ob t=>dY.mono w rfl (λ_=>rfl) (λe _=>iM ν st.m e) (r.obj d ob t),r.inj,λd ob t C b=>?_,λi a=>?_,⟨λid es D a hr c hc u hu=>?_⟩⟩;rcases b with b|b;exact r.apart d ob t C b;exact f _ b ⟨d,ob,t,C,rfl⟩;exact a.elim (r.zrow i) (G i);rcases a with a|a;have⟨x,B⟩:=r.deep.row id es D a hr c hc u hu;exact⟨x,B.mono w⟩;have⟨x,B⟩:=J.row id es D a hr c hc u hu;exact⟨x,B.mono z⟩
def R.SC:∀{ps:Zv}{xs:Zu}{vs:Zu}{g:Tb SV}{F:Zo},R ν Z {st with g:=g} F H->di H Z xs vs->xs.length=ps.length->R ν Z {st with g:=vT g ps (xs.map .v)} (wO ps vs F) H
 |[],xs,vs,g,F,r,h,B=>by have:=length_eq_zero_iff.1 B;subst this;exact r|p::ps,[],vs,g,F,r,h,B=>Ze|p::ps,x::xs,vs,g,F,r,h,B=>by obtain⟨w,u,rfl,a,t⟩:=h.inv;exact R.SC (ps:=ps) (r.put (.v _ _ a)) t Zd
def rE(X:CX)(S:Sys)(ro:Zl)(code:Code)(B:St->a_ (Out×St)):Prop:=∀st o st',B st=some (o,st')->∀(J:JT)ν Z F H,Yc S J st.more st.yid->R ν Z st F H->J st.want (fc ν st.m) Z H->∃n F' H' ν' Z',(∀k,n<=k->exec S.E (run S.E k) k ro X.nt code F H=some (o,F',H'))/\R ν' Z' st' F' H'/\J st'.want (fc ν' st'.m) Z' H'/\Fix ν st ν' st'
def OX(st:St)(m:Tb bK):St:={g:=st.g,m:=m,pin:=st.pin++o4 st.g,want:=[],more:=true,yid:=0}
def JI(X:CX)(st:St)(F:Zo)(ν:Nu)(O0 Z0:Nat->Prop)(H0:bp)(B:Nat)(ps:Zv)(G J:Code)(step:Zu->Tb bK->a_ (Out×Tb bK))(o:Out)(D:Tb bK)(more:Zl):JT:=λw O Z H=>∃m u C t,R u C (OX st m) F H/\tu O0 Z0 H0 [] (fc u m) C H/\(∀i,O i->¬fc u m i/\¬C i/\i≠B/\H0.length<=i)/\(∀i,Z i->¬fc u m i/\i≠B/\(Z0 i\/H0.length<=i))/\¬fc u m B/\¬C B/\H0.length<=B/\H[B]?=some (.loop t)/\(t.frame=F/\t.nt=X.nt/\t.params=ps/\t.assign=G/\t.body=J)/\(∀d∈st.pin++o4 st.g,∀z,bl m d=some z->∃ob,bl st.m d=some ob/\u d=ν d/\sameShape ob z)/\((vK step o D w more m/\t.st=.ready/\t.pend=none)\/(w=[]/\m=D/\t.st=.done/\t.pend=some o))
def JI.wz{w:Zt}{O Z G Z':Nat->Prop}{H H':bp}{B:Nat}{ps:Zv}{J U:Code}{step:Zu->Tb bK->a_ (Out×Tb bK)}{o:Out}{W:Tb bK}{more:Zl}
 (j:JI X st F ν O0 Z0 H0 B ps J U step o W more w O Z H)(Y:H.length<=H'.length)(D:∀i,i<H.length->¬O i->¬Z i->H'[i]?=H[i]?)(x:∀i,Z i->Z' i/\br H' i=br H i)
 (d:∀i,G i->O i\/H.length<=i)(e:∀i,Z' i->Z i\/O i\/H.length<=i):JI X st F ν O0 Z0 H0 B ps J U step o W more w G Z' H':=by
 have⟨m,S,I,T,r,f,a,b,g,k,l,n,p,q,s⟩:=j;have u:=λi t=>D i (r.lt t) (λh=>(a i h).1 t) (λh=>(b i h).1 t)
 have z:∀i,I i->br H' i=br H i:=λi t=>by by_cases C:Z i;grind;unfold br;rw[D i (r.vq t) (λh=>(a i h).2.1 t) C]
 have y:=(ζe.1 n).1;refine⟨m,S,I,T,r.heap u z,?_,λi h=>?_,λi h=>?_,g,k,l,?_,p,q,s⟩
 .have⟨j1,L,j3,j4,j5,j6⟩:=f;refine⟨j1,le_trans L Y,λi c v Q=>?_,λi h=>⟨(j4 i h).1,Zd⟩,j5,j6⟩
  rw[D i (Nat.lt_of_lt_of_le c L) (λh=>by have:=(a i h).2.2.2;omega) (λh=>by rcases(b i h).2.2 with h|h;exact Q h;omega),j3 i c v Q]
 .rcases d i h with h|h
  .exact a i h
  exact⟨λt=>absurd (r.lt t) Za,λt=>absurd (r.vq t) Za,Za,Za⟩
 .rcases e i h with h|h|h
  .exact b i h
  .exact⟨(a i h).1,(a i h).2.2.1,.inr (a i h).2.2.2⟩
  exact⟨λt=>absurd (r.lt t) Za,Za,.inr Za⟩
 grind
def JI.yield(S:Sys){A B:St->a_ (Out×St)}{P bw:Code}(hA:rE X S true P A)(hB:rE X S true bw B){D:Nat}{ps:Zv}(ax:ps.all (·<X.nt)=true){o:Out}{p:Tb bK}{more:Zl}
 {x:Zu}{f:Zt}{O Z:Nat->Prop}{H:bp}{args:Zu}(j:JI X st F ν O0 Z0 H0 D ps P bw (iJ ps A B st) o p more (x::f) O Z H)
 (hx:di H Z x args)(an:∀i,Z i->(br H i).isSome=true)(ay:Deep H Z)(aA:∀i,O i->¬Z i/\i<H.length):
 ∃n H',run S.E n (.yld D) args H=some (.bool (more|| !f.isEmpty),H')/\JI X st F ν O0 Z0 H0 D ps P bw (iJ ps A B st) o p more f O Z H'/\H.length<=H'.length/\(∀i,O i->H'[i]?=H[i]?)/\(∀i,Z i->br H' i=br H i):=by
 have⟨m,q,g,c,r,ej,d1,v,l1,l2,l3,l4,⟨q1,q2,q3,q4,q5⟩,l6,l7⟩:=j;have aB:vK (iJ ps A B st) o p (x::f) more m/\c.st=.ready/\c.pend=none:=by grind
 have⟨hE,T,aC⟩:=aB;have U:∃y m1,iJ ps A B st x m=some (y,m1)/\(y=.norm/\vK (iJ ps A B st) o p f more m1/\(more|| !f.isEmpty)=true\/y≠.norm/\y=o/\m1=p/\f=[]/\more=false):=by cases hE with|next _ _ _ _ m1 h hr=>refine⟨.norm,m1,h,.inl ⟨rfl,hr,?_⟩⟩;cases hr<;>simp|last _ _ h ho=>grind
 have⟨y,m1,w,ab⟩:=U;unfold iJ at w;split at w
 .rename_i ad;split at w
  .rename_i ah aD;have⟨⟨z,st2⟩,aE,e⟩:=ζf.1 w;simp at e;obtain⟨rfl,rfl⟩:=e;have aF:=(ζe.1 l4).1;have r1:=r.T3 (λi t=>(v i t).1) an ay
   have aG:di H (λi=>g i\/Z i) x args:=hx.mono λi t=>⟨.inr t,rfl⟩
   have r2:=R.SC (st:=OX st m) r1 aG ad;have⟨nA,F2,H2,ν2,Z2,a1,a2,a3,a4⟩:=hA _ _ _ aD (tu (fc q m) (λi=>g i\/Z i) H) q _ _ H tu.yc r2 (tu.refl r1)
   have⟨b1,b2,b3,b4,E,b6⟩:=a3;have ai:¬(g D\/Z D):=λh=>h.elim l2 λh=>(v D h).2.1 rfl
   have ao:H2[D]?=some (.loop c):=by rw[b3 D aF l1 ai];omega
   have ae:D<H2.length:=Za
   have W:¬fc ν2 ah.m D:=λh=>(E D h).elim l1 λh=>Za
   have aj:¬Z2 D:=λh=>by rcases b6 D h with h|h|h;exact ai h;exact l1 h;omega
   have u:∀(ob:Ob)(Hh:bp)(i:Nat),i≠D->(Hh.set D ob)[i]?=Hh[i]?:=λob Hh i Y=>by rw[getElem?_set,if_neg (symm Y)]
   have r3:R ν2 Z2 ah F2 (H2.set D (.loop {c with st:=.busy})):=a2.heap (λi t=>u _ _ i λe=>W (e▸t)) (λi t=>by unfold br;rw[u _ _ i λe=>aj (e▸t)])
   have⟨nB,F4,b,K,k,c1,c2,c3,c4⟩:=hB _ _ _ aE (tu (fc ν2 ah.m) Z2 (H2.set D (.loop {c with st:=.busy}))) ν2 Z2 F2 _ tu.yc r3 (by
    rw[b1];exact tu.refl r3)
   have⟨_,g2,g3,g4,g5,g6⟩:=c3;simp at g2 g3 g5 g6;have ap:b[D]?=some (.loop {c with st:=.busy}):=by rw[g3 D ae W aj,getElem?_set_self ae]
   have aq:D<b.length:=Za
   have ar:=λh=>(g5 D h).elim W λh=>Za
   have au:¬k D:=λh=>by rcases g6 D h with h|h|h;exact aj h;exact W h;omega
   generalize M:({c with st:=(if z==.norm then AI.ready else AI.done),pend:=(if z==.norm then none else some z)}:uH)=G;have r5:R K k st2 F4 (b.set D (.loop G)):=c2.heap (λi t=>u _ _ i λe=>ar (e▸t)) (λi t=>by unfold br;rw[u _ _ i λe=>au (e▸t)])
   have L:H.length<=(b.set D (.loop G)).length:=by simp;omega
   have ak:∀i,i<H.length->i≠D->¬fc q m i->¬(g i\/Z i)->(b.set D (.loop G))[i]?=H[i]?:=λi a J I l=>by rw[u _ _ i J,g3 i Za (λh=>(E i h).elim I λh=>Za) (λh=>by rcases b6 i h with h|h|h;exact l h;exact I h;omega),u _ _ i J,b3 i a I l]
   have C:∀i,(g i\/Z i)->k i/\br (b.set D (.loop G)) i=br H i:=λi t=>by have Y:i≠D:=λe=>ai (e▸t);have⟨t1,t2⟩:=b4 i t;have⟨t3,t4⟩:=g4 i t1;refine⟨t3,?_⟩;rw[<-t2];have:br (H2.set D (.loop {c with st:=.busy})) i=br H2 i:=(by unfold br;rw[u _ _ i Y]);rw[<-this,<-t4];unfold br;rw[u _ _ i Y]
   have Q:∀i,fc K st2.m i->fc q m i\/H.length<=i:=λi t=>by rcases g5 i t with h|h;exact E i h;exact .inr Za
   have af:∀i,k i->(g i\/Z i)\/fc q m i\/H.length<=i:=λi t=>by rcases g6 i t with h|h|h;exact b6 i h;rcases E i h with h|h;exact .inr (.inl h);exact .inr (.inr h);exact .inr (.inr Za)
   have fx:=a4.trans c4;have r6:R K k (OX st st2.m) F (b.set D (.loop G)):=⟨λs sv hs=>(r.slot s sv hs).mono (λi t=>C i (.inl t)) λd N al am=>fx.pin d (List.mem_append_right _ (Ax hs N)) al am,r5.obj,r5.inj,r5.apart,r5.zrow,r5.deep⟩
   have av:run S.E (max nA nB+1) (.yld D) args H=some (.bool (z==.norm),b.set D (.loop G)):=by simp only[run,jm,l4];rw[if_pos (by rw[q3];exact⟨by rw[<-hx.1];exact ad,by rw[q2];exact ax⟩)];rw[q1,q2,q3,q4,q5];rw[a1 _ (le_max_left _ _)];simp only[ao,T];rw[c1 _ (le_max_right _ _)];simp only[ap];rw[<-M]
   refine⟨max nA nB+1,b.set D (.loop G),?_,⟨st2.m,K,k,G,r6,?_,λi t=>?_,λi t=>?_,ar,au,l3,?_,?_,λd N al am=>?_,?_⟩,L,λi t=>?_,λi t=>(C i (.inr t)).2⟩
   .rw[av];rcases ab with⟨a,_,I⟩|⟨a,_,_,l,h5⟩
    .rw[a,I];rfl
    rw[l,h5]
    cases aH:z with
    |norm=>exact absurd aH a|_=>rfl
   .have⟨j1,j2,j3,j4,j5,j6⟩:=ej;refine⟨rfl,le_trans j2 L,λi a J I=>?_,λi h=>⟨(C i (.inl (j4 i h).1)).1,by rw[(C i (.inl (j4 i h).1)).2,(j4 i h).2]⟩,λi h=>?_,λi h=>?_⟩
    .rw[ak i Za Za (λh=>by rcases j5 i h with h|h;exact J h;omega) (λh=>by
      rcases h with h|h
      .rcases j6 i h with h|h|h;exact I h;exact J h;omega
      rcases(v i h).2.2 with h|h;exact I h;omega),j3 i a J I]
    .rcases Q i h with h|h
     .exact j5 i h
     exact .inr Za
    rcases af i h with(h|h)|h|h
    .exact j6 i h
    .rcases (v i h).2.2 with h|h;exact .inl h;exact .inr (.inr h)
    .rcases j5 i h with h|h;exact .inr (.inl h);exact .inr (.inr h)
    exact .inr (.inr Za)
   .have⟨t1,t2⟩:=aA i t;have⟨t3,t4,t5,t6⟩:=d1 i t;refine⟨λh=>(Q i h).elim t3 λh=>Za,λh=>?_,t5,t6⟩
    rcases af i h with(h|h)|h|h
    .exact t4 h
    .exact t1 h
    .exact t3 h
    omega
   .have⟨t1,t2,t3⟩:=v i t;have aJ:i<H.length:=by
     have:=an i t;unfold br at this
     cases hh:H[i]?with
     |none=>rw[hh]at this;simp at this|some _=>exact(ζe.1 hh).1
    exact⟨λh=>(Q i h).elim t1 λh=>Za,t2,t3⟩
   .rw[getElem?_set_self aq]
   .subst M;exact⟨q1,q2,q3,q4,q5⟩
   .have⟨aI,a,J,I⟩:=fx.pin d N al am;have⟨ob,k1,k2,k3⟩:=l6 d N aI a;exact⟨ob,k1,by rw[J,k2],k3.trans I⟩
   .rcases ab with⟨a,J,I⟩|⟨a,J,I,l,h5⟩
    .left;subst a;subst M;exact⟨J,rfl,rfl⟩
    right;subst M;have hb:¬(z==Out.norm)=true:=by simpa using a
    refine⟨l,I,?_,?_⟩
    .show (if(z==Out.norm)=true then AI.ready else AI.done)=AI.done;rw[if_neg hb]
    show(if(z==Out.norm)=true then none else some z)=some o;rw[if_neg hb,J]
   grind
  grind
 grind
end
end Go.VE
